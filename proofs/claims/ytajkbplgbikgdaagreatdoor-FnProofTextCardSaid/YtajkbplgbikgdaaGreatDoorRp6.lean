/- Texts of this claim in one file: DR2, DV1, LX2, PT1, PT2, PT3, PT4, PT5, PT6, PT7, PT8, PT9, PTA. -/
import Derived.Test.YtajkbplgbikgdaaGreatDoorRp5
import Derived.Test.YtajkbplgbikgdaaGreatDoorChecked
set_option maxRecDepth 20000
set_option maxHeartbeats 2000000
namespace Go.Proofs.YtajkbplgbikgdaaGreatDoor
namespace DR2
open Go.RowKit Go.GL Go.Proofs
open B1 C1 D1 E1 MK1 DR1
variable {G : Pin} {base : Nat} {vs : List Value} {cv : Value} {code : List UInt8} {a m : Int}
theorem xY {w : World} {Q : List Nat} {us ws : List Value} {u v : Value} (hP : Pins G w) (hF : Fr 65 base G w Q vs) (hq : KQ Q) (hl : Q.length ≤ 60) (hb : base ≤ w.heap.size)
  (hu : RSl eVal G u us) (hv : RSl eVal G v ws) (hmu : ∀ x ∈ us, x ∈ vs) (hmv : ∀ x ∈ ws, x ∈ vs) (hlu : us.length ≤ 100) (hlv : ws.length ≤ 100) :
  Calls Tryz.prog 131 [u, v].toArray w fun e w' => ∃ (x : Value) (g : Nat) (G' : Pin), e = .returned (.agg [x].toArray) ∧ KQ (g :: Q) ∧ Fr 65 base G' w' (g :: Q) (x :: vs) ∧ Ext noS G w G' w' := by
 obtain ⟨gs, g1, g2, g3⟩ := (hF.mem hmu).games
 obtain ⟨hs, h1, h2, h3⟩ := (hF.mem hmv).games
 have ru := sA hu (by rw [List.length_map]; exact g1) g3
 have rv := sA hv (by rw [List.length_map]; exact h1) h3
 have wu := hq.allW (by omega) g2 (by omega)
 have wv := hq.allW (by omega) h2 (by omega)
 refine (l3Make_own hP ru rv wu wv).mono fun e w' ⟨x, G', e1, hr, hx, Gi, ho, hle⟩ => ?_
 have hk := hq.add (by omega) g2 h2 (by omega) (by omega)
 have hm := hk.is _ List.mem_cons_self
 exact ⟨x, _, G', e1, hk, (hF.ext hx).cons ⟨⟨Gi, ho.weaken hb, hle⟩, hr, hm.1.lo⟩, hx⟩
theorem l3Small_spec {w : World} (hP : Pins G w) :
  Calls Tryz.prog 138 [].toArray w fun e w' => ∃ (u : Value) (vs : List Value) (Q : List Nat) (G' : Pin), e = .returned u ∧ Own eVal 26 G' w' w.heap.size u vs ∧ Fr 65 w.heap.size G' w' Q vs ∧ KQ Q ∧ vs.length = 9 ∧ Q.length = 9 ∧ Ext noS G w G' w' := by
 refine yM (n := 59) Tryz.func138 Tryz.ntmps138 rfl rfl ?_
 have hX0 := exr noS hP
 have hfr0 : Fr 65 w.heap.size G w [] [] := Fr.nil
 refine zD (zE ?_)
 refine qD rfl (zC (v := (.slice none 0 0)) rfl) (qe (zA (zD (zE ?_))))
 refine qI rfl (zK (vs := [(.slice none 0 0), (.slice none 0 0)]) Tryz.func131 gL rfl rfl rfl ?_)
 refine dJ (xY hX0.pins hfr0 KQ.nil (by first | omega | (simp; done) | (simp; omega)) hX0.size (yX _ _) (yX _ _) (by simp) (by simp) (by first | omega | simp) (by first | omega | simp)) ?_
 rintro _ w4 ⟨x1, g2, G3, rfl, hkq5, hfr6, hx7⟩
 refine ⟨_, rfl, ?_⟩
 have hX8 := hX0.tr hx7
 have hone10 := hfr6.one List.mem_cons_self
 refine qI rfl (yL [(.slice none 0 0)] zr26 rfl hX8.pins (fun b11 w12 hk13 hb14 hp15 hl16 => ?_))
 have hX17 := hX8.step hp15 hl16
 have hfr18 := hfr6.below hl16
 have hlo19 : w.heap.size ≤ b11 := by have := hX8.size; omega
 refine q0 rfl rfl rfl (yD (cs' := [x1]) (us := [x1]) (v := (.agg [x1].toArray)) sz26 rfl rfl rfl (yE hone10) hX17.pins hb14 (dK rfl) rfl (fun w20 hb21 hp22 hg23 hz24 => ?_))
 have hfr26 := hfr18.kept hg23 (fun k hk o u => by cases hk; exact hb14.free o u)
 obtain ⟨G27, hle28, hX29, hbp30, hf31⟩ := hb21.shut (hX17.write hp22 hg23 ((zS hlo19))) hlo19
 have hfr32 := hfr26.le hle28
 refine qe (zA (zD (zE ?_)))
 refine qD rfl (zU (cs := [x1]) ag26 sz26 rfl (fun j u hj => hX29.pins _ _ _ (hbp30 _ _ (by simpa using hj)))) (qI rfl (xM (E := eVal) (e := 26) [x1] x1 dB sz26 zr26 ⟨rfl, hone10⟩ rfl (by decide) hX29.pins (fun u33 w34 ho35 hp36 hl37 hk38 => ?_)))
 have hfr40 := hfr32.below hl37
 have ho41 := ho35.weaken hX29.size
 obtain ⟨G42, hle45, hX44, hr43, hf46⟩ := ho41.sealed (hX29.step hp36 hl37)
 have hfr47 := hfr40.le hle45
 refine qI rfl (zK (vs := [u33, (.slice none 0 0)]) Tryz.func131 gL rfl rfl rfl ?_)
 refine dJ (xY hX44.pins hfr47 hkq5 (by first | omega | (simp; done) | (simp; omega)) hX44.size hr43 (yX _ _) (by simp) (by simp) (by first | omega | simp) (by first | omega | simp)) ?_
 rintro _ w51 ⟨x48, g49, G50, rfl, hkq52, hfr53, hx54⟩
 refine ⟨_, rfl, ?_⟩
 have hX55 := hX44.tr hx54
 have hone57 := hfr53.one List.mem_cons_self
 refine qI rfl (yL [(.slice none 0 0)] zr26 rfl hX55.pins (fun b58 w59 hk60 hb61 hp62 hl63 => ?_))
 have hX64 := hX55.step hp62 hl63
 have hfr65 := hfr53.below hl63
 have hlo66 : w.heap.size ≤ b58 := by have := hX55.size; omega
 refine q0 rfl rfl rfl (yD (cs' := [x48]) (us := [x48]) (v := (.agg [x48].toArray)) sz26 rfl rfl rfl (yE hone57) hX64.pins hb61 (dK rfl) rfl (fun w67 hb68 hp69 hg70 hz71 => ?_))
 have hfr73 := hfr65.kept hg70 (fun k hk o u => by cases hk; exact hb61.free o u)
 obtain ⟨G74, hle75, hX76, hbp77, hf78⟩ := hb68.shut (hX64.write hp69 hg70 ((zS hlo66))) hlo66
 have hfr79 := hfr73.le hle75
 refine qe (zA (zD (zE ?_)))
 refine qD rfl (zU (cs := [x1]) ag26 sz26 rfl (fun j u hj => (dI hX76.pins (dH (dH hle45 hx54.le) hle75)) _ _ _ (hbp30 _ _ (by simpa using hj)))) (qI rfl (xM (E := eVal) (e := 26) [x1] x1 dB sz26 zr26 ⟨rfl, hone10⟩ rfl (by decide) hX76.pins (fun u80 w81 ho82 hp83 hl84 hk85 => ?_)))
 have hfr87 := hfr79.below hl84
 have ho88 := ho82.weaken hX76.size
 obtain ⟨G89, hle92, hX91, hr90, hf93⟩ := ho88.sealed (hX76.step hp83 hl84)
 have hfr94 := hfr87.le hle92
 refine qI rfl (zK (vs := [(.slice none 0 0), u80]) Tryz.func131 gL rfl rfl rfl ?_)
 refine dJ (xY hX91.pins hfr94 hkq52 (by first | omega | (simp; done) | (simp; omega)) hX91.size (yX _ _) hr90 (by simp) (by simp) (by first | omega | simp) (by first | omega | simp)) ?_
 rintro _ w98 ⟨x95, g96, G97, rfl, hkq99, hfr100, hx101⟩
 refine ⟨_, rfl, ?_⟩
 have hX102 := hX91.tr hx101
 have hone104 := hfr100.one List.mem_cons_self
 refine qI rfl (yL [(.slice none 0 0)] zr26 rfl hX102.pins (fun b105 w106 hk107 hb108 hp109 hl110 => ?_))
 have hX111 := hX102.step hp109 hl110
 have hfr112 := hfr100.below hl110
 have hlo113 : w.heap.size ≤ b105 := by have := hX102.size; omega
 refine q0 rfl rfl rfl (yD (cs' := [x95]) (us := [x95]) (v := (.agg [x95].toArray)) sz26 rfl rfl rfl (yE hone104) hX111.pins hb108 (dK rfl) rfl (fun w114 hb115 hp116 hg117 hz118 => ?_))
 have hfr120 := hfr112.kept hg117 (fun k hk o u => by cases hk; exact hb108.free o u)
 obtain ⟨G121, hle122, hX123, hbp124, hf125⟩ := hb115.shut (hX111.write hp116 hg117 ((zS hlo113))) hlo113
 have hfr126 := hfr120.le hle122
 refine qe (zA (zD (zE ?_)))
 refine qD rfl (zU (cs := [x1]) ag26 sz26 rfl (fun j u hj => (dI hX123.pins (dH (dH (dH (dH (dH hle45 hx54.le) hle75) hle92) hx101.le) hle122)) _ _ _ (hbp30 _ _ (by simpa using hj)))) (qI rfl (xM (E := eVal) (e := 26) [x1] x1 dB sz26 zr26 ⟨rfl, hone10⟩ rfl (by decide) hX123.pins (fun u127 w128 ho129 hp130 hl131 hk132 => ?_)))
 have hX133 := hX123.step hp130 hl131
 have hfr134 := hfr126.below hl131
 have ho135 := ho129.weaken hX123.size
 refine qD rfl (zU (cs := [x1]) ag26 sz26 rfl (fun j u hj => (dI hX133.pins (dH (dH (dH (dH (dH hle45 hx54.le) hle75) hle92) hx101.le) hle122)) _ _ _ (hbp30 _ _ (by simpa using hj)))) (qI rfl (xM (E := eVal) (e := 26) [x1] x1 dB sz26 zr26 ⟨rfl, hone10⟩ rfl (by decide) hX133.pins (fun u136 w137 ho138 hp139 hl140 hk141 => ?_)))
 have hfr144 := hfr134.below hl140
 have ho146 := ho138.weaken hX133.size
 obtain ⟨G147, hle150, hX149, hr148, hf151⟩ := (ho135.below hl140).sealed (hX133.step hp139 hl140)
 have hfr153 := hfr144.le hle150
 obtain ⟨G154, hle157, hX156, hr155, hf158⟩ := (ho146.moreO hle150 hf151 (zI hk141 ho135.lt)).sealed hX149
 have hfr159 := hfr153.le hle157
 refine qI rfl (zK (vs := [u127, u136]) Tryz.func131 gL rfl rfl rfl ?_)
 refine dJ (xY hX156.pins hfr159 hkq99 (by first | omega | (simp; done) | (simp; omega)) hX156.size (hr148.mono hle157) hr155 (by simp) (by simp) (by first | omega | simp) (by first | omega | simp)) ?_
 rintro _ w163 ⟨x160, g161, G162, rfl, hkq164, hfr165, hx166⟩
 refine ⟨_, rfl, ?_⟩
 have hX167 := hX156.tr hx166
 have hone169 := hfr165.one List.mem_cons_self
 refine qI rfl (yL [(.slice none 0 0)] zr26 rfl hX167.pins (fun b170 w171 hk172 hb173 hp174 hl175 => ?_))
 have hX176 := hX167.step hp174 hl175
 have hfr177 := hfr165.below hl175
 have hlo178 : w.heap.size ≤ b170 := by have := hX167.size; omega
 refine q0 rfl rfl rfl (yD (cs' := [x160]) (us := [x160]) (v := (.agg [x160].toArray)) sz26 rfl rfl rfl (yE hone169) hX176.pins hb173 (dK rfl) rfl (fun w179 hb180 hp181 hg182 hz183 => ?_))
 have hfr185 := hfr177.kept hg182 (fun k hk o u => by cases hk; exact hb173.free o u)
 obtain ⟨G186, hle187, hX188, hbp189, hf190⟩ := hb180.shut (hX176.write hp181 hg182 ((zS hlo178))) hlo178
 have hfr191 := hfr185.le hle187
 refine qe (zA (zD (zE ?_)))
 refine qD rfl (zU (cs := [x1]) ag26 sz26 rfl (fun j u hj => (dI hX188.pins (dH (dH (dH (dH (dH (dH (dH (dH (dH hle45 hx54.le) hle75) hle92) hx101.le) hle122) hle150) hle157) hx166.le) hle187)) _ _ _ (hbp30 _ _ (by simpa using hj)))) (qI rfl (xM (E := eVal) (e := 26) [x1] x1 dB sz26 zr26 ⟨rfl, hone10⟩ rfl (by decide) hX188.pins (fun u192 w193 ho194 hp195 hl196 hk197 => ?_)))
 have hX198 := hX188.step hp195 hl196
 have hfr199 := hfr191.below hl196
 have ho200 := ho194.weaken hX188.size
 refine qD rfl (zU (cs := [x160]) ag26 sz26 rfl (fun j u hj => hX198.pins _ _ _ (hbp189 _ _ (by simpa using hj)))) (qI rfl (xM (E := eVal) (e := 26) [x160] x160 dB sz26 zr26 ⟨rfl, hone169⟩ rfl (by decide) hX198.pins (fun u201 w202 ho203 hp204 hl205 hk206 => ?_)))
 have hfr209 := hfr199.below hl205
 have ho211 := ho203.weaken hX198.size
 obtain ⟨G212, hle215, hX214, hr213, hf216⟩ := (ho200.below hl205).sealed (hX198.step hp204 hl205)
 have hfr218 := hfr209.le hle215
 obtain ⟨G219, hle222, hX221, hr220, hf223⟩ := (ho211.moreO hle215 hf216 (zI hk206 ho200.lt)).sealed hX214
 have hfr224 := hfr218.le hle222
 refine qI rfl (zK (vs := [u192, u201]) Tryz.func131 gL rfl rfl rfl ?_)
 refine dJ (xY hX221.pins hfr224 hkq164 (by first | omega | (simp; done) | (simp; omega)) hX221.size (hr213.mono hle222) hr220 (by simp) (by simp) (by first | omega | simp) (by first | omega | simp)) ?_
 rintro _ w228 ⟨x225, g226, G227, rfl, hkq229, hfr230, hx231⟩
 refine ⟨_, rfl, ?_⟩
 have hX232 := hX221.tr hx231
 have hone234 := hfr230.one List.mem_cons_self
 refine qI rfl (yL [(.slice none 0 0)] zr26 rfl hX232.pins (fun b235 w236 hk237 hb238 hp239 hl240 => ?_))
 have hX241 := hX232.step hp239 hl240
 have hfr242 := hfr230.below hl240
 have hlo243 : w.heap.size ≤ b235 := by have := hX232.size; omega
 refine q0 rfl rfl rfl (yD (cs' := [x225]) (us := [x225]) (v := (.agg [x225].toArray)) sz26 rfl rfl rfl (yE hone234) hX241.pins hb238 (dK rfl) rfl (fun w244 hb245 hp246 hg247 hz248 => ?_))
 have hfr250 := hfr242.kept hg247 (fun k hk o u => by cases hk; exact hb238.free o u)
 obtain ⟨G251, hle252, hX253, hbp254, hf255⟩ := hb245.shut (hX241.write hp246 hg247 ((zS hlo243))) hlo243
 have hfr256 := hfr250.le hle252
 refine qe (zA (zD (zE ?_)))
 refine qD rfl (zU (cs := [x1]) ag26 sz26 rfl (fun j u hj => (dI hX253.pins (dH (dH (dH (dH (dH (dH (dH (dH (dH (dH (dH (dH (dH hle45 hx54.le) hle75) hle92) hx101.le) hle122) hle150) hle157) hx166.le) hle187) hle215) hle222) hx231.le) hle252)) _ _ _ (hbp30 _ _ (by simpa using hj)))) (qI rfl (xM (E := eVal) (e := 26) [x1] x1 dB sz26 zr26 ⟨rfl, hone10⟩ rfl (by decide) hX253.pins (fun u257 w258 ho259 hp260 hl261 hk262 => ?_)))
 have hX263 := hX253.step hp260 hl261
 have hfr264 := hfr256.below hl261
 have ho265 := ho259.weaken hX253.size
 refine qD rfl (zU (cs := [x48]) ag26 sz26 rfl (fun j u hj => (dI hX263.pins (dH (dH (dH (dH (dH (dH (dH (dH (dH (dH hle92 hx101.le) hle122) hle150) hle157) hx166.le) hle187) hle215) hle222) hx231.le) hle252)) _ _ _ (hbp77 _ _ (by simpa using hj)))) (qI rfl (xM (E := eVal) (e := 26) [x48] x48 dB sz26 zr26 ⟨rfl, hone57⟩ rfl (by decide) hX263.pins (fun u266 w267 ho268 hp269 hl270 hk271 => ?_)))
 have hfr274 := hfr264.below hl270
 have ho276 := ho268.weaken hX263.size
 obtain ⟨G277, hle280, hX279, hr278, hf281⟩ := (ho265.below hl270).sealed (hX263.step hp269 hl270)
 have hfr283 := hfr274.le hle280
 obtain ⟨G284, hle287, hX286, hr285, hf288⟩ := (ho276.moreO hle280 hf281 (zI hk271 ho265.lt)).sealed hX279
 have hfr289 := hfr283.le hle287
 refine qI rfl (zK (vs := [u257, u266]) Tryz.func131 gL rfl rfl rfl ?_)
 refine dJ (xY hX286.pins hfr289 hkq229 (by first | omega | (simp; done) | (simp; omega)) hX286.size (hr278.mono hle287) hr285 (by simp) (by simp) (by first | omega | simp) (by first | omega | simp)) ?_
 rintro _ w293 ⟨x290, g291, G292, rfl, hkq294, hfr295, hx296⟩
 refine ⟨_, rfl, ?_⟩
 have hX297 := hX286.tr hx296
 have hone299 := hfr295.one List.mem_cons_self
 refine qI rfl (yL [(.slice none 0 0)] zr26 rfl hX297.pins (fun b300 w301 hk302 hb303 hp304 hl305 => ?_))
 have hX306 := hX297.step hp304 hl305
 have hfr307 := hfr295.below hl305
 have hlo308 : w.heap.size ≤ b300 := by have := hX297.size; omega
 refine q0 rfl rfl rfl (yD (cs' := [x290]) (us := [x290]) (v := (.agg [x290].toArray)) sz26 rfl rfl rfl (yE hone299) hX306.pins hb303 (dK rfl) rfl (fun w309 hb310 hp311 hg312 hz313 => ?_))
 have hfr315 := hfr307.kept hg312 (fun k hk o u => by cases hk; exact hb303.free o u)
 obtain ⟨G316, hle317, hX318, hbp319, hf320⟩ := hb310.shut (hX306.write hp311 hg312 ((zS hlo308))) hlo308
 have hfr321 := hfr315.le hle317
 refine qe (zA (zD (zE ?_)))
 refine qD rfl (zU (cs := [x48]) ag26 sz26 rfl (fun j u hj => (dI hX318.pins (dH (dH (dH (dH (dH (dH (dH (dH (dH (dH (dH (dH (dH (dH hle92 hx101.le) hle122) hle150) hle157) hx166.le) hle187) hle215) hle222) hx231.le) hle252) hle280) hle287) hx296.le) hle317)) _ _ _ (hbp77 _ _ (by simpa using hj)))) (qI rfl (xM (E := eVal) (e := 26) [x48] x48 dB sz26 zr26 ⟨rfl, hone57⟩ rfl (by decide) hX318.pins (fun u322 w323 ho324 hp325 hl326 hk327 => ?_)))
 have hX328 := hX318.step hp325 hl326
 have hfr329 := hfr321.below hl326
 have ho330 := ho324.weaken hX318.size
 refine qD rfl (zU (cs := [x95]) ag26 sz26 rfl (fun j u hj => (dI hX328.pins (dH (dH (dH (dH (dH (dH (dH (dH (dH (dH (dH hle150 hle157) hx166.le) hle187) hle215) hle222) hx231.le) hle252) hle280) hle287) hx296.le) hle317)) _ _ _ (hbp124 _ _ (by simpa using hj)))) (qI rfl (xM (E := eVal) (e := 26) [x95] x95 dB sz26 zr26 ⟨rfl, hone104⟩ rfl (by decide) hX328.pins (fun u331 w332 ho333 hp334 hl335 hk336 => ?_)))
 have hfr339 := hfr329.below hl335
 have ho341 := ho333.weaken hX328.size
 obtain ⟨G342, hle345, hX344, hr343, hf346⟩ := (ho330.below hl335).sealed (hX328.step hp334 hl335)
 have hfr348 := hfr339.le hle345
 obtain ⟨G349, hle352, hX351, hr350, hf353⟩ := (ho341.moreO hle345 hf346 (zI hk336 ho330.lt)).sealed hX344
 have hfr354 := hfr348.le hle352
 refine qI rfl (zK (vs := [u322, u331]) Tryz.func131 gL rfl rfl rfl ?_)
 refine dJ (xY hX351.pins hfr354 hkq294 (by first | omega | (simp; done) | (simp; omega)) hX351.size (hr343.mono hle352) hr350 (by simp) (by simp) (by first | omega | simp) (by first | omega | simp)) ?_
 rintro _ w358 ⟨x355, g356, G357, rfl, hkq359, hfr360, hx361⟩
 refine ⟨_, rfl, ?_⟩
 have hX362 := hX351.tr hx361
 have hone364 := hfr360.one List.mem_cons_self
 refine qI rfl (yL [(.slice none 0 0)] zr26 rfl hX362.pins (fun b365 w366 hk367 hb368 hp369 hl370 => ?_))
 have hX371 := hX362.step hp369 hl370
 have hfr372 := hfr360.below hl370
 have hlo373 : w.heap.size ≤ b365 := by have := hX362.size; omega
 refine q0 rfl rfl rfl (yD (cs' := [x355]) (us := [x355]) (v := (.agg [x355].toArray)) sz26 rfl rfl rfl (yE hone364) hX371.pins hb368 (dK rfl) rfl (fun w374 hb375 hp376 hg377 hz378 => ?_))
 have hfr380 := hfr372.kept hg377 (fun k hk o u => by cases hk; exact hb368.free o u)
 obtain ⟨G381, hle382, hX383, hbp384, hf385⟩ := hb375.shut (hX371.write hp376 hg377 ((zS hlo373))) hlo373
 have hfr386 := hfr380.le hle382
 refine qe (zA (zD (zE ?_)))
 refine qD rfl (zU (cs := [x1]) ag26 sz26 rfl (fun j u hj => (dI hX383.pins (dH (dH (dH (dH (dH (dH (dH (dH (dH (dH (dH (dH (dH (dH (dH (dH (dH (dH (dH (dH (dH hle45 hx54.le) hle75) hle92) hx101.le) hle122) hle150) hle157) hx166.le) hle187) hle215) hle222) hx231.le) hle252) hle280) hle287) hx296.le) hle317) hle345) hle352) hx361.le) hle382)) _ _ _ (hbp30 _ _ (by simpa using hj)))) (qD rfl (zU (cs := [x160]) ag26 sz26 rfl (fun j u hj => (dI hX383.pins (dH (dH (dH (dH (dH (dH (dH (dH (dH (dH (dH hle215 hle222) hx231.le) hle252) hle280) hle287) hx296.le) hle317) hle345) hle352) hx361.le) hle382)) _ _ _ (hbp189 _ _ (by simpa using hj)))) (qI rfl (nQ (E := eVal) (e := 26) [x1, x160] [x1, x160] dB sz26 zr26 (by exact reps2 (⟨rfl, hone10⟩) (⟨rfl, hone169⟩)) (rV hone10 hone169) rfl rfl rfl rfl (by decide) hX383.pins (fun u387 w388 ho389 hp390 hl391 hk392 => ?_))))
 have hX393 := hX383.step hp390 hl391
 have hfr394 := hfr386.below hl391
 have ho395 := ho389.weaken hX383.size
 refine qD rfl (zU (cs := [x1]) ag26 sz26 rfl (fun j u hj => (dI hX393.pins (dH (dH (dH (dH (dH (dH (dH (dH (dH (dH (dH (dH (dH (dH (dH (dH (dH (dH (dH (dH (dH hle45 hx54.le) hle75) hle92) hx101.le) hle122) hle150) hle157) hx166.le) hle187) hle215) hle222) hx231.le) hle252) hle280) hle287) hx296.le) hle317) hle345) hle352) hx361.le) hle382)) _ _ _ (hbp30 _ _ (by simpa using hj)))) (qD rfl (zU (cs := [x160]) ag26 sz26 rfl (fun j u hj => (dI hX393.pins (dH (dH (dH (dH (dH (dH (dH (dH (dH (dH (dH hle215 hle222) hx231.le) hle252) hle280) hle287) hx296.le) hle317) hle345) hle352) hx361.le) hle382)) _ _ _ (hbp189 _ _ (by simpa using hj)))) (qI rfl (nQ (E := eVal) (e := 26) [x1, x160] [x1, x160] dB sz26 zr26 (by exact reps2 (⟨rfl, hone10⟩) (⟨rfl, hone169⟩)) (rV hone10 hone169) rfl rfl rfl rfl (by decide) hX393.pins (fun u396 w397 ho398 hp399 hl400 hk401 => ?_))))
 have hfr404 := hfr394.below hl400
 have ho406 := ho398.weaken hX393.size
 obtain ⟨G407, hle410, hX409, hr408, hf411⟩ := (ho395.below hl400).sealed (hX393.step hp399 hl400)
 have hfr413 := hfr404.le hle410
 obtain ⟨G414, hle417, hX416, hr415, hf418⟩ := (ho406.moreO hle410 hf411 (zI hk401 ho395.lt)).sealed hX409
 have hfr419 := hfr413.le hle417
 refine qI rfl (zK (vs := [u387, u396]) Tryz.func131 gL rfl rfl rfl ?_)
 refine dJ (xY hX416.pins hfr419 hkq359 (by first | omega | (simp; done) | (simp; omega)) hX416.size (hr408.mono hle417) hr415 (by simp) (by simp) (by first | omega | simp) (by first | omega | simp)) ?_
 rintro _ w423 ⟨x420, g421, G422, rfl, hkq424, hfr425, hx426⟩
 refine ⟨_, rfl, ?_⟩
 have hX427 := hX416.tr hx426
 have hone429 := hfr425.one List.mem_cons_self
 refine qI rfl (yL [(.slice none 0 0)] zr26 rfl hX427.pins (fun b430 w431 hk432 hb433 hp434 hl435 => ?_))
 have hX436 := hX427.step hp434 hl435
 have hfr437 := hfr425.below hl435
 have hlo438 : w.heap.size ≤ b430 := by have := hX427.size; omega
 refine q0 rfl rfl rfl (yD (cs' := [x420]) (us := [x420]) (v := (.agg [x420].toArray)) sz26 rfl rfl rfl (yE hone429) hX436.pins hb433 (dK rfl) rfl (fun w439 hb440 hp441 hg442 hz443 => ?_))
 have hfr445 := hfr437.kept hg442 (fun k hk o u => by cases hk; exact hb433.free o u)
 obtain ⟨G446, hle447, hX448, hbp449, hf450⟩ := hb440.shut (hX436.write hp441 hg442 ((zS hlo438))) hlo438
 have hfr451 := hfr445.le hle447
 refine qe (zA (zD (zE ?_)))
 refine qD rfl (zU (cs := [x160]) ag26 sz26 rfl (fun j u hj => (dI hX448.pins (dH (dH (dH (dH (dH (dH (dH (dH (dH (dH (dH (dH (dH (dH (dH hle215 hle222) hx231.le) hle252) hle280) hle287) hx296.le) hle317) hle345) hle352) hx361.le) hle382) hle410) hle417) hx426.le) hle447)) _ _ _ (hbp189 _ _ (by simpa using hj)))) (qI rfl (xM (E := eVal) (e := 26) [x160] x160 dB sz26 zr26 ⟨rfl, hone169⟩ rfl (by decide) hX448.pins (fun u452 w453 ho454 hp455 hl456 hk457 => ?_)))
 have hX458 := hX448.step hp455 hl456
 have hfr459 := hfr451.below hl456
 have ho460 := ho454.weaken hX448.size
 refine qD rfl (zU (cs := [x1]) ag26 sz26 rfl (fun j u hj => (dI hX458.pins (dH (dH (dH (dH (dH (dH (dH (dH (dH (dH (dH (dH (dH (dH (dH (dH (dH (dH (dH (dH (dH (dH (dH (dH (dH hle45 hx54.le) hle75) hle92) hx101.le) hle122) hle150) hle157) hx166.le) hle187) hle215) hle222) hx231.le) hle252) hle280) hle287) hx296.le) hle317) hle345) hle352) hx361.le) hle382) hle410) hle417) hx426.le) hle447)) _ _ _ (hbp30 _ _ (by simpa using hj)))) (qI rfl (xM (E := eVal) (e := 26) [x1] x1 dB sz26 zr26 ⟨rfl, hone10⟩ rfl (by decide) hX458.pins (fun u461 w462 ho463 hp464 hl465 hk466 => ?_)))
 have hfr469 := hfr459.below hl465
 have ho471 := ho463.weaken hX458.size
 obtain ⟨G472, hle475, hX474, hr473, hf476⟩ := (ho460.below hl465).sealed (hX458.step hp464 hl465)
 have hfr478 := hfr469.le hle475
 obtain ⟨G479, hle482, hX481, hr480, hf483⟩ := (ho471.moreO hle475 hf476 (zI hk466 ho460.lt)).sealed hX474
 have hfr484 := hfr478.le hle482
 refine qI rfl (zK (vs := [u452, u461]) Tryz.func131 gL rfl rfl rfl ?_)
 refine dJ (xY hX481.pins hfr484 hkq424 (by first | omega | (simp; done) | (simp; omega)) hX481.size (hr473.mono hle482) hr480 (by simp) (by simp) (by first | omega | simp) (by first | omega | simp)) ?_
 rintro _ w488 ⟨x485, g486, G487, rfl, hkq489, hfr490, hx491⟩
 refine ⟨_, rfl, ?_⟩
 have hX492 := hX481.tr hx491
 have hone494 := hfr490.one List.mem_cons_self
 refine qI rfl (yL [(.slice none 0 0)] zr26 rfl hX492.pins (fun b495 w496 hk497 hb498 hp499 hl500 => ?_))
 have hX501 := hX492.step hp499 hl500
 have hfr502 := hfr490.below hl500
 have hlo503 : w.heap.size ≤ b495 := by have := hX492.size; omega
 refine q0 rfl rfl rfl (yD (cs' := [x485]) (us := [x485]) (v := (.agg [x485].toArray)) sz26 rfl rfl rfl (yE hone494) hX501.pins hb498 (dK rfl) rfl (fun w504 hb505 hp506 hg507 hz508 => ?_))
 have hfr510 := hfr502.kept hg507 (fun k hk o u => by cases hk; exact hb498.free o u)
 obtain ⟨G511, hle512, hX513, hbp514, hf515⟩ := hb505.shut (hX501.write hp506 hg507 ((zS hlo503))) hlo503
 have hfr516 := hfr510.le hle512
 refine qe (zA (zD (zE ?_)))
 refine qD rfl (zU (cs := [x1]) ag26 sz26 rfl (fun j u hj => (dI hX513.pins (dH (dH (dH (dH (dH (dH (dH (dH (dH (dH (dH (dH (dH (dH (dH (dH (dH (dH (dH (dH (dH (dH (dH (dH (dH (dH (dH (dH (dH hle45 hx54.le) hle75) hle92) hx101.le) hle122) hle150) hle157) hx166.le) hle187) hle215) hle222) hx231.le) hle252) hle280) hle287) hx296.le) hle317) hle345) hle352) hx361.le) hle382) hle410) hle417) hx426.le) hle447) hle475) hle482) hx491.le) hle512)) _ _ _ (hbp30 _ _ (by simpa using hj)))) (qD rfl (zU (cs := [x48]) ag26 sz26 rfl (fun j u hj => (dI hX513.pins (dH (dH (dH (dH (dH (dH (dH (dH (dH (dH (dH (dH (dH (dH (dH (dH (dH (dH (dH (dH (dH (dH (dH (dH (dH (dH hle92 hx101.le) hle122) hle150) hle157) hx166.le) hle187) hle215) hle222) hx231.le) hle252) hle280) hle287) hx296.le) hle317) hle345) hle352) hx361.le) hle382) hle410) hle417) hx426.le) hle447) hle475) hle482) hx491.le) hle512)) _ _ _ (hbp77 _ _ (by simpa using hj)))) (qD rfl (zU (cs := [x95]) ag26 sz26 rfl (fun j u hj => (dI hX513.pins (dH (dH (dH (dH (dH (dH (dH (dH (dH (dH (dH (dH (dH (dH (dH (dH (dH (dH (dH (dH (dH (dH (dH hle150 hle157) hx166.le) hle187) hle215) hle222) hx231.le) hle252) hle280) hle287) hx296.le) hle317) hle345) hle352) hx361.le) hle382) hle410) hle417) hx426.le) hle447) hle475) hle482) hx491.le) hle512)) _ _ _ (hbp124 _ _ (by simpa using hj)))) (qD rfl (zU (cs := [x160]) ag26 sz26 rfl (fun j u hj => (dI hX513.pins (dH (dH (dH (dH (dH (dH (dH (dH (dH (dH (dH (dH (dH (dH (dH (dH (dH (dH (dH hle215 hle222) hx231.le) hle252) hle280) hle287) hx296.le) hle317) hle345) hle352) hx361.le) hle382) hle410) hle417) hx426.le) hle447) hle475) hle482) hx491.le) hle512)) _ _ _ (hbp189 _ _ (by simpa using hj)))) (qD rfl (zU (cs := [x225]) ag26 sz26 rfl (fun j u hj => (dI hX513.pins (dH (dH (dH (dH (dH (dH (dH (dH (dH (dH (dH (dH (dH (dH (dH hle280 hle287) hx296.le) hle317) hle345) hle352) hx361.le) hle382) hle410) hle417) hx426.le) hle447) hle475) hle482) hx491.le) hle512)) _ _ _ (hbp254 _ _ (by simpa using hj)))) (qD rfl (zU (cs := [x290]) ag26 sz26 rfl (fun j u hj => (dI hX513.pins (dH (dH (dH (dH (dH (dH (dH (dH (dH (dH (dH hle345 hle352) hx361.le) hle382) hle410) hle417) hx426.le) hle447) hle475) hle482) hx491.le) hle512)) _ _ _ (hbp319 _ _ (by simpa using hj)))) (qD rfl (zU (cs := [x355]) ag26 sz26 rfl (fun j u hj => (dI hX513.pins (dH (dH (dH (dH (dH (dH (dH hle410 hle417) hx426.le) hle447) hle475) hle482) hx491.le) hle512)) _ _ _ (hbp384 _ _ (by simpa using hj)))) (qD rfl (zU (cs := [x420]) ag26 sz26 rfl (fun j u hj => (dI hX513.pins (dH (dH (dH hle475 hle482) hx491.le) hle512)) _ _ _ (hbp449 _ _ (by simpa using hj)))) (qD rfl (zU (cs := [x485]) ag26 sz26 rfl (fun j u hj => hX513.pins _ _ _ (hbp514 _ _ (by simpa using hj)))) ?_))))))))
 refine qI rfl (nQ (E := eVal) (e := 26) [x1, x48, x95, x160, x225, x290, x355, x420, x485] [x1, x48, x95, x160, x225, x290, x355, x420, x485] dB sz26 zr26 (kJ (⟨rfl, hone10⟩) (kJ (⟨rfl, hone57⟩) (kJ (⟨rfl, hone104⟩) (kJ (⟨rfl, hone169⟩) (kJ (⟨rfl, hone234⟩) (kJ (⟨rfl, hone299⟩) (kJ (⟨rfl, hone364⟩) (kJ (⟨rfl, hone429⟩) (kJ (⟨rfl, hone494⟩) repsN))))))))) (kN hone10 (kN hone57 (kN hone104 (kN hone169 (kN hone234 (kN hone299 (kN hone364 (kN hone429 (kN hone494 onesN))))))))) rfl rfl rfl rfl (by decide) hX513.pins (fun u517 w518 ho519 hp520 hl521 hk522 => ?_))
 have hX523 := hX513.step hp520 hl521
 have hfr524 := hfr516.below hl521
 have ho525 := ho519.weaken hX513.size
 refine qD rfl (zC (v := u517) rfl) (qe (zA ?_))
 exact wp_ret (zQ (yA (v := u517) rfl rfl rfl (⟨_, _, _, _, rfl, ho525, hfr524.mem (by simp), hkq489, rfl, rfl, hX523⟩)))
theorem some_spec {w : World} {c : Nat} {s : Int} {l : Value} (hP : Pins G w) (hB : Bx G w c [cv, .int .i64 a, .int .u64 s]) (hc : RSl eByte G cv code) (ha : 0 ≤ a ∧ a + 6 ≤ 1000000) (hs : 0 ≤ s ∧ s < 18446744073709551616) (hl : RSl eVal G l vs) (hn : 1 ≤ vs.length ∧ vs.length ≤ 1000) (hm2 : 0 ≤ m ∧ m ≤ 2) :
  Calls Tryz.prog 139 [(.pointer (some ⟨c, 0, none⟩)), l, (.int .i64 m)].toArray w fun e w' => ∃ (u : Value) (ys : List Value) (a' s' : Int) (G' : Pin), e = .returned u ∧ Own eVal 26 G' w' w.heap.size u ys ∧ (∀ y ∈ ys, y ∈ vs) ∧ ys.length ≤ 2 ∧ Bx G' w' c [cv, .int .i64 a', .int .u64 s'] ∧ (a ≤ a' ∧ a' ≤ a + 6) ∧ (0 ≤ s' ∧ s' < 18446744073709551616) ∧ Ext (inO (some c)) G w G' w' := by
 refine yM (n := 31) Tryz.func139 Tryz.ntmps139 rfl rfl ?_
 have hX0 := exr (inO (some c)) hP
 have hm := hc.max
 refine zD (zE ?_)
 refine qD rfl (zC (v := (.slice none 0 0)) rfl) (qe (zA (zD (zE ?_))))
 refine qI rfl (xF (E := eVal) (e := 26) dB sz26 hX0.pins (fun u1 w2 ho3 hp4 hl5 hk6 => ?_))
 have hX7 := hX0.step hp4 hl5
 have ha9 : Apart u1.ownBlock (some c) := zG hk6 hB.lt
 have ho10 := ho3.weaken hX0.size
 refine qD rfl (zC (v := u1) rfl) (qe (zA (zD (zE ?_))))
 refine qD rfl (zB (v := (.pointer (some ⟨c, 0, none⟩))) rfl) (qD rfl (zB (v := (.int .i64 m)) rfl) (qD rfl (yT rfl rfl (by omega)) (qI rfl (zK (vs := [(.pointer (some ⟨c, 0, none⟩)), (.int .i64 (m + 1))]) Tryz.func101 kC rfl rfl rfl ?_))))
 refine dJ (qL hX7.pins (hB.below hl5) hc (by omega) (by omega) (n := (m + 1)) (by omega)) ?_
 rintro _ w15 ⟨z11, a13, s14, rfl, hz12, hb16, hda17, hds18, hx19⟩
 refine ⟨_, rfl, ?_⟩
 have hX20 := hX7.trans hx19 (fun i hi => xO i hi)
 have ho21 := ho10.extS hx19 (notO ha9)
 refine qD rfl (zC (v := (.int .i64 z11)) rfl) (qe (zA (zD (zD (zE ?_)))))
 refine qD rfl (zC (v := (.int .i64 0)) rfl) (qe (zA ?_))
 refine yI (yZ (fun (k : Nat) (en : Nat → Value) (W : World) => ∃ (env1 : Nat → Value) (i : Nat) (ov : Value) (ys : List Value) (a1 : Int) (s1 : Int) (GL : Pin), en = (upd (upd (upd (upd (upd (upd env1 0 (.pointer (some ⟨c, 0, none⟩))) 1 l) 6 (.slice none 0 0)) 7 ov) 8 (.int .i64 z11)) 9 (.int .i64 (i : Int))) ∧ k = (z11).toNat - i ∧ Ext (inO (some c)) G w GL W ∧ Pin.le G GL ∧ (i : Int) ≤ z11 ∧ (∀ y ∈ ys, y ∈ vs) ∧ (ys.length = i) ∧ (a ≤ a1 ∧ a1 ≤ a + 2 + 2 * (i : Int)) ∧ (0 ≤ s1 ∧ s1 < 18446744073709551616) ∧ (Own eVal 26 GL W w.heap.size ov (ys)) ∧ (Bx GL W c [cv, (.int .i64 a1), (.int .u64 s1)]) ∧ (Apart ov.ownBlock (some c))) _ ⟨_, 0, u1, [], a13, s14, G, (zF (x := 9) (zF (x := 8) (zF (x := 7) (zF (x := 6) (zF (x := 1) (yF (x := 0) rfl) rfl) rfl) rfl) rfl) rfl), rfl, hX20, Pin.le_refl _, (by omega), (fun y hy => (List.not_mem_nil hy).elim), rfl, (by omega), (by omega), ho21, hb16, ha9⟩ ?_)
 rintro k22 _ w23 ⟨env1, i, ov, ys, a1, s1, GL, rfl, hk24, hX25, hlek22, hi, hys, hyl, hda, hds, hw26, hw27, ha28⟩
 refine zD (zD (zE ?_))
 refine qD rfl (zB (v := (.int .i64 (i : Int))) rfl) (qD rfl (zB (v := (.int .i64 z11)) rfl) (qD rfl (xB rfl rfl) (qe (zA ?_))))
 refine yJ (p := ((i : Int) : Int) < z11) rfl rfl (fun h29 => ?_) (fun h29 => ?_)
 refine wp_skip (zA (zD ?_))
 refine yI (zE (qD rfl (zB (v := ov) rfl) (qD rfl (zB (v := l) rfl) (qD rfl (zB (v := (.pointer (some ⟨c, 0, none⟩))) rfl) (qD rfl (zB (v := l) rfl) (qD rfl (run_len dB (v := l) rfl hl) (qI rfl (zK (vs := [(.pointer (some ⟨c, 0, none⟩)), (.int .i64 (vs.length : Int))]) Tryz.func101 kC rfl rfl rfl ?_))))))))
 refine dJ (qL hX25.pins hw27 (hc.mono hlek22) (by omega) (by omega) (n := (vs.length : Int)) (by omega)) ?_
 rintro _ w34 ⟨z30, a32, s33, rfl, hz31, hb35, hda36, hds37, hx38⟩
 refine ⟨_, rfl, ?_⟩
 have hX39 := hX25.trans hx38 (fun i hi => xO i hi)
 refine qD rfl (zL dB sz26 (v := l) rfl rfl hl (by omega) (by omega)) ?_
 obtain ⟨cs41, hrep42, hagg43, hcell44⟩ := qO (j := (z30).toNat) default (hl.at (z := z30) (by omega) (by omega)) rfl
 obtain ⟨rfl, hone45⟩ := hrep42
 refine qD rfl (hagg43 ag26 sz26 rfl (dI hX39.pins hlek22)) (qI rfl (xM (E := eVal) (e := 26) [(vs.getD (z30).toNat default)] (vs.getD (z30).toNat default) dB sz26 zr26 ⟨rfl, hone45⟩ rfl (by decide) hX39.pins (fun u46 w47 ho48 hp49 hl50 hk51 => ?_)))
 have hX52 := hX39.step hp49 hl50
 have ho53 := (hw26.extS hx38 (notO ha28)).below hl50
 have hb54 := hb35.below hl50
 have ho57 := ho48.weaken hX39.size
 refine qI rfl (yH (E := eVal) (v := ov) (u := u46) 24 dB ap26 (by decide) rfl rfl hX52.pins ho53 ho57.src (by first | omega | (rw [List.nil_append]; omega) | (rw [List.length_nil]; omega) | (rw [List.length_append]; omega) | (simp; done) | (simp; omega) | (simp only [List.length_append, List.length_cons, List.length_nil]; omega)) (by first | omega | (rw [List.nil_append]; omega) | (rw [List.length_nil]; omega) | (rw [List.length_append]; omega) | (simp; done) | (simp; omega) | (simp only [List.length_append, List.length_cons, List.length_nil]; omega)) (hX52.size) (fun u58 w59 ho60 hp61 hg62 hw63 => ?_))
 have hb66 := hb54.keptA hg62 ha28.symm
 have ha68 : Apart (some c) u58.ownBlock := zN ha28.symm hw63 hb54.lt
 have hm69 := la1 ys (vs.getD (z30).toNat default)
 refine qD rfl (zC (v := u58) rfl) (qe (yO (zA (zE ?_))))
 refine qD rfl (zB (v := (.int .i64 (i : Int))) rfl) (qD rfl (yT rfl rfl (by omega)) (qD rfl (zC (v := (.int .i64 ((i : Int) + 1))) rfl) (qe (yR (⟨_, ?_, _, rfl, _, i + 1, u58, ys ++ ([(vs.getD (z30).toNat default)]), a32, s33, GL, (zF (x := 9) (zF (x := 8) (zF (x := 7) (zF (x := 6) (zF (x := 1) (yF (x := 0) rfl) rfl) rfl) rfl) rfl) rfl), rfl, (hX52.write hp61 hg62 ((yQ ho53))), hlek22, (by omega), (fun y hy => (List.mem_append.1 hy).elim (hys y) (fun h => by rw [List.mem_singleton.1 h]; exact xE (by omega))), (by simp; omega), (by omega), (by omega), ho60, hb66, ha68.symm⟩)))))
 omega
 refine wp_exit (yK (yU (yV (zA (zD (zE ?_))))))
 refine qD rfl (zB (v := ov) rfl) (qD rfl (zC (v := ov) rfl) (qe (zA ?_)))
 exact wp_ret (zQ (yA (v := ov) rfl rfl rfl (⟨_, _, _, _, _, rfl, hw26, hys, (by omega), hw27, (by omega), (by omega), hX25⟩)))
theorem nC {w : World} {c : Nat} {s : Int} {l : Value} {e : Nat} (hP : Pins G w) (hB : Bx G w c [cv, .int .i64 a, .int .u64 s]) (hc : RSl eByte G cv code) (ha : 0 ≤ a ∧ a + 6 ≤ 1000000) (hs : 0 ≤ s ∧ s < 18446744073709551616) (hl : Own eVal e G w base l vs) (hap : Apart (some c) l.ownBlock) (hn : 1 ≤ vs.length ∧ vs.length ≤ 1000) (hm2 : 0 ≤ m ∧ m ≤ 2) :
  Calls Tryz.prog 139 [(.pointer (some ⟨c, 0, none⟩)), l, (.int .i64 m)].toArray w fun e w' => ∃ (u : Value) (ys : List Value) (a' s' : Int), e = .returned u ∧ Own eVal 26 G w' w.heap.size u ys ∧ (∀ y ∈ ys, y ∈ vs) ∧ ys.length ≤ 2 ∧ Bx G w' c [cv, .int .i64 a', .int .u64 s'] ∧ (a ≤ a' ∧ a' ≤ a + 6) ∧ (0 ≤ s' ∧ s' < 18446744073709551616) ∧ Ext (inO (some c)) G w G w' := by
 have hb2 : Bx (Gadd G w l) w c [cv, .int .i64 a, .int .u64 s] := ⟨hB.heap, fun o u hu => hu.elim (hB.free o u) (fun h => hap c rfl h.1)⟩
 refine (some_spec (Gadd.pins hP l) hb2 (hc.mono (Gadd.le _ _ _)) ha hs hl.read hn hm2).mono fun e w' ⟨u, ys, a', s', G', e1, ho, hm, hy, hb, h1, h2, hx⟩ => ?_
 have hle : Pin.le G G' := dH (Gadd.le _ _ _) hx.le
 exact ⟨u, ys, a', s', e1, ownV_anti ho hle, hm, hy, hb.anti hle, h1, h2, ext_back (Gadd.le _ _ _) hx⟩
theorem gY {w : World} {c : Nat} {s : Int} {n : Int} (hP : Pins G w) (hB : Bx G w c [cv, .int .i64 a, .int .u64 s]) (hc : RSl eByte G cv code) (ha : 0 ≤ a ∧ a + (12 * n + 4) ≤ 1000000) (hs : 0 ≤ s ∧ s < 18446744073709551616) (hn : 0 ≤ n ∧ n ≤ 6) :
  Calls Tryz.prog 98 [(.pointer (some ⟨c, 0, none⟩)), (.int .i64 n)].toArray w fun e w' => ∃ (u : Value) (g : Nat) (a' s' : Int) (G' : Pin), e = .returned (.agg [u].toArray) ∧ Own eNode 65 G' w' w.heap.size u (formG g) ∧ IsForm g (formG g) ∧ ((formG g).length : Int) ≤ 9 + n ∧ Bx G' w' c [cv, .int .i64 a', .int .u64 s'] ∧ (a ≤ a' ∧ a' ≤ a + (12 * n + 4)) ∧ (0 ≤ s' ∧ s' < 18446744073709551616) ∧ Ext (inO (some c)) G w G' w' := by
 refine yM (n := 40) Tryz.func98 Tryz.ntmps98 rfl rfl ?_
 have hX0 := exr (inO (some c)) hP
 have hm := hc.max
 refine zD (zE ?_)
 refine qI rfl (yL [(.slice none 0 0)] zr26 rfl hX0.pins (fun b1 w2 hk3 hb4 hp5 hl6 => ?_))
 have hX7 := hX0.step hp5 hl6
 have hb8 := hB.below hl6
 have ha9 : Apart (some b1) (some c) := zG (congrArg some hk3) hB.lt
 have hlo10 : w.heap.size ≤ b1 := by have := hX0.size; omega
 refine qe (zA (zD (zE ?_)))
 refine qI rfl (zK (vs := []) Tryz.func138 nm138 rfl rfl rfl ?_)
 refine dJ (l3Small_spec hX7.pins) ?_
 rintro _ w15 ⟨u11, vs12, Q13, G14, rfl, ho16, hfr17, hkq18, hvl19, hql20, hx21⟩
 refine ⟨_, rfl, ?_⟩
 have ho27 := ho16.weaken hX7.size
 have hfr28 := hfr17.wide hX7.size
 refine qD rfl (zC (v := u11) rfl) (qe (zA (zD (zD (zE ?_)))))
 refine qD rfl (zC (v := (.int .i64 0)) rfl) (qe (zA ?_))
 refine yI (yZ (fun (k : Nat) (en : Nat → Value) (W : World) => ∃ (env1 : Nat → Value) (i : Nat) (lv : Value) (ls : List Value) (Q : List Nat) (a1 : Int) (s1 : Int) (GL : Pin), en = (upd (upd (upd (upd (upd env1 0 (.pointer (some ⟨c, 0, none⟩))) 1 (.int .i64 n)) 4 (.pointer (some ⟨b1, 0, none⟩))) 5 lv) 6 (.int .i64 (i : Int))) ∧ k = n.toNat - i ∧ Ext (inO (some c)) G w GL W ∧ Pin.le G14 GL ∧ (i : Int) ≤ n ∧ (Fr 65 w.heap.size GL W Q ls) ∧ (KQ Q) ∧ (ls.length = 9 + i) ∧ (Q.length = 9 + i) ∧ (a ≤ a1 ∧ a1 ≤ a + 12 * (i : Int)) ∧ (0 ≤ s1 ∧ s1 < 18446744073709551616) ∧ (Own eVal 26 GL W w.heap.size lv (ls)) ∧ (Bx GL W c [cv, (.int .i64 a1), (.int .u64 s1)]) ∧ (Bx GL W b1 [(.slice none 0 0)]) ∧ (Apart lv.ownBlock (some c)) ∧ (Apart lv.ownBlock (some b1))) _ ⟨_, 0, u11, vs12, Q13, a, s, G14, (zF (x := 6) (zF (x := 5) (zF (x := 4) (zF (x := 1) (yF (x := 0) rfl) rfl) rfl) rfl) rfl), rfl, (hX7.tr hx21), Pin.le_refl _, (by omega), hfr28, hkq18, (by omega), (by omega), (by omega), (by omega), ho27, (hb8.ext hx21), (hb4.ext hx21), (zX ho16.lt hb8.lt), (zX ho16.lt hb4.lt)⟩ ?_)
 rintro k29 _ w30 ⟨env1, i, lv, ls, Q, a1, s1, GL, rfl, hk31, hX32, hlek29, hi, hfl, hkl, hll, hQl, hda, hds, hw33, hw34, hw35, ha36, ha37⟩
 refine zD (zD (zE ?_))
 refine qD rfl (zB (v := (.int .i64 (i : Int))) rfl) (qD rfl (zB (v := (.int .i64 n)) rfl) (qD rfl (xB rfl rfl) (qe (zA ?_))))
 refine yJ (p := ((i : Int) : Int) < n) rfl rfl (fun h38 => ?_) (fun h38 => ?_)
 refine wp_skip (zA (zD ?_))
 refine yI (zD (zE ?_))
 refine qD rfl (zB (v := (.pointer (some ⟨c, 0, none⟩))) rfl) (qD rfl (zB (v := lv) rfl) (qI rfl (zK (vs := [(.pointer (some ⟨c, 0, none⟩)), lv, (.int .i64 2)]) Tryz.func139 nm139 rfl rfl rfl ?_)))
 refine dJ (nC hX32.pins hw34 (hc.mono (dH hx21.le hlek29)) (by omega) (by omega) hw33 ha36.symm (by omega) (by omega)) ?_
 rintro _ w43 ⟨u39, ys40, a41, s42, rfl, ho44, hmy45, hyl46, hb47, hda48, hds49, hx50⟩
 refine ⟨_, rfl, ?_⟩
 have hX51 := hX32.trans hx50 (fun i hi => xO i hi)
 have ho52 := hw33.extS hx50 (notO ha36)
 have hb53 := hw35.extS hx50 (xJ ha9)
 have hfr54 := hfl.turned hx50 (fun k hk o u => by cases hk; exact hw34.free o u)
 have ha56 : Apart u39.ownBlock (some c) := zX ho44.lt hw34.lt
 have ho58 := ho44.weaken hX32.size
 refine qD rfl (zC (v := u39) rfl) (qe (zA (zE ?_)))
 refine qD rfl (zB (v := lv) rfl) (qD rfl (zB (v := u39) rfl) (qD rfl (zB (v := (.pointer (some ⟨c, 0, none⟩))) rfl) (qD rfl (zB (v := lv) rfl) (qI rfl (zK (vs := [(.pointer (some ⟨c, 0, none⟩)), lv, (.int .i64 2)]) Tryz.func139 nm139 rfl rfl rfl ?_)))))
 refine dJ (nC hX51.pins hb47 (hc.mono (dH hx21.le hlek29)) (by omega) (by omega) ho52 ha36.symm (by omega) (by omega)) ?_
 rintro _ w63 ⟨u59, ys60, a61, s62, rfl, ho64, hmy65, hyl66, hb67, hda68, hds69, hx70⟩
 refine ⟨_, rfl, ?_⟩
 have hX71 := hX51.trans hx70 (fun i hi => xO i hi)
 have hfr75 := hfr54.turned hx70 (fun k hk o u => by cases hk; exact hb47.free o u)
 have ho80 := ho64.weaken hX51.size
 obtain ⟨G81, hle84, hX83, hr82, hf85⟩ := (ho58.extS hx70 (notO ha56)).sealed hX71
 have hfr90 := hfr75.le hle84
 obtain ⟨G91, hle94, hX93, hr92, hf95⟩ := (ho80.moreO hle84 hf85 (zV ho64.lt ho58.lt)).sealed hX83
 have hfr99 := hfr90.le hle94
 refine qI rfl (zK (vs := [u39, u59]) Tryz.func131 gL rfl rfl rfl ?_)
 refine dJ (xY hX93.pins hfr99 hkl (by first | omega | (simp; done) | (simp; omega)) hX93.size (hr82.mono hle94) hr92 hmy45 hmy65 (by first | omega | simp) (by first | omega | simp)) ?_
 rintro _ w103 ⟨x100, g101, G102, rfl, hkq104, hfr105, hx106⟩
 refine ⟨_, rfl, ?_⟩
 have hX107 := hX93.tr hx106
 refine qI rfl (xM (E := eVal) (e := 26) [x100] x100 dB sz26 zr26 ⟨rfl, (hfr105.one List.mem_cons_self)⟩ rfl (by decide) hX107.pins (fun u113 w114 ho115 hp116 hl117 hk118 => ?_))
 have hX119 := hX107.step hp116 hl117
 have ho120 := ((((ho52.extS hx70 (notO ha36)).moreO hle84 hf85 (zV ho44.lt hw33.lt).symm).moreO hle94 hf95 (zV ho64.lt ho52.lt).symm).ext hx106).below hl117
 have hb121 := (((hb67.moreO hf85 ha56.symm).moreO hf95 (zX ho64.lt hb47.lt).symm).ext hx106).below hl117
 have hb122 := ((((hb53.extS hx70 (xJ ha9)).moreO hf85 (zX ho44.lt hw35.lt).symm).moreO hf95 (zX ho64.lt hb53.lt).symm).ext hx106).below hl117
 have hfr123 := hfr105.below hl117
 have ho127 := ho115.weaken hX107.size
 refine qI rfl (yH (E := eVal) (v := lv) (u := u113) 24 dB ap26 (by decide) rfl rfl hX119.pins ho120 ho127.src (by first | omega | (rw [List.nil_append]; omega) | (rw [List.length_nil]; omega) | (rw [List.length_append]; omega) | (simp; done) | (simp; omega) | (simp only [List.length_append, List.length_cons, List.length_nil]; omega)) (by first | omega | (rw [List.nil_append]; omega) | (rw [List.length_nil]; omega) | (rw [List.length_append]; omega) | (simp; done) | (simp; omega) | (simp only [List.length_append, List.length_cons, List.length_nil]; omega)) (hX119.size) (fun u128 w129 ho130 hp131 hg132 hw133 => ?_))
 have hb136 := hb121.keptA hg132 ha36.symm
 have hb137 := hb122.keptA hg132 ha37.symm
 have hfr138 := hfr123.kept hg132 ho120.free
 have ha140 : Apart (some c) u128.ownBlock := zN ha36.symm hw133 hb121.lt
 have ha141 : Apart (some b1) u128.ownBlock := zN ha37.symm hw133 hb122.lt
 have hm142 := la1 ls x100
 refine qD rfl (zC (v := u128) rfl) (qe (yO (zA (zE ?_))))
 refine qD rfl (zB (v := (.int .i64 (i : Int))) rfl) (qD rfl (yT rfl rfl (by omega)) (qD rfl (zC (v := (.int .i64 ((i : Int) + 1))) rfl) (qe (yR (⟨_, ?_, _, rfl, _, i + 1, u128, ls ++ ([x100]), (g101 :: Q), a61, s62, G102, (zF (x := 6) (zF (x := 5) (zF (x := 4) (zF (x := 1) (yF (x := 0) rfl) rfl) rfl) rfl) rfl), rfl, (hX119.write hp131 hg132 ((yQ ho120))), (dH (dH (dH hlek29 hle84) hle94) hx106.le), (by omega), (hfr138.mem snoc_mem), hkq104, (by simp; omega), (by simp; omega), (by omega), (by omega), ho130, hb136, hb137, ha140.symm, ha141.symm⟩)))))
 omega
 refine wp_exit (yK (yU (yV (zA (zD (zD (zE ?_)))))))
 refine qD rfl (zB (v := (.pointer (some ⟨c, 0, none⟩))) rfl) (qI rfl (zK (vs := [(.pointer (some ⟨c, 0, none⟩)), (.int .i64 3)]) Tryz.func52 nm52 rfl rfl rfl ?_))
 refine dJ (tJ hX32.pins hw34 (hc.mono (dH hx21.le hlek29)) (by omega) (by omega) (n := 3) (by omega)) ?_
 rintro _ w146 ⟨z143, a144, s145, rfl, hb147, hda148, hds149, hx150⟩
 refine ⟨_, rfl, ?_⟩
 have hX151 := hX32.trans hx150 (fun i hi => xO i hi)
 have ho152 := hw33.extS hx150 (notO ha36)
 have hb153 := hw35.extS hx150 (xJ ha9)
 have hfr154 := hfl.turned hx150 (fun k hk o u => by cases hk; exact hw34.free o u)
 refine qe (zA ?_)
 refine c_if rfl rfl (fun h155 => ?_) (fun h155 => ?_)
 refine zD (zE ?_)
 refine qD rfl (zB (v := lv) rfl) (qD rfl (zB (v := (.pointer (some ⟨c, 0, none⟩))) rfl) (qD rfl (zB (v := lv) rfl) (qD rfl (run_len dB (v := lv) rfl ho152.read) (qI rfl (zK (vs := [(.pointer (some ⟨c, 0, none⟩)), (.int .i64 (ls.length : Int))]) Tryz.func101 kC rfl rfl rfl ?_)))))
 refine dJ (qL hX151.pins hb147 (hc.mono (dH hx21.le hlek29)) (by omega) (by omega) (n := (ls.length : Int)) (by omega)) ?_
 rintro _ w160 ⟨z156, a158, s159, rfl, hz157, hb161, hda162, hds163, hx164⟩
 refine ⟨_, rfl, ?_⟩
 have hX165 := hX151.trans hx164 (fun i hi => xO i hi)
 have ho166 := ho152.extS hx164 (notO ha36)
 have hb167 := hb153.extS hx164 (xJ ha9)
 have hfr168 := hfr154.turned hx164 (fun k hk o u => by cases hk; exact hb147.free o u)
 refine qD rfl (zL dB sz26 (v := lv) rfl rfl ho166.read (by omega) (by omega)) ?_
 obtain ⟨cs169, hrep170, hagg171, hcell172⟩ := qO (j := (z156).toNat) default (ho166.at (z := z156) (by omega) (by omega)) rfl
 obtain ⟨rfl, hone173⟩ := hrep170
 refine qD rfl (hagg171 ag26 sz26 rfl (Gadd.pins hX165.pins lv)) (q0 rfl rfl rfl (yD (cs' := [(ls.getD (z156).toNat default)]) (us := [(ls.getD (z156).toNat default)]) (v := (.agg [(ls.getD (z156).toNat default)].toArray)) sz26 rfl rfl rfl (yE hone173) hX165.pins hb167 (dK rfl) rfl (fun w174 hb175 hp176 hg177 hz178 => ?_)))
 have hfr182 := hfr168.kept hg177 (fun k hk o u => by cases hk; exact hb167.free o u)
 refine qe (zA ?_)
 refine wp_ret (zQ (qJ (cs := [(ls.getD (z156).toNat default)]) rfl rfl rfl ag26 sz26 (fun j u hj => by rw [Nat.zero_add]; exact hb175.cell hj) ?_))
 obtain ⟨g, hgq, htk⟩ := hfr182 (ls.getD (z156).toNat default) (xE (by omega))
 obtain ⟨G2, ho2, hx2, hle2⟩ := htk.give hP (hX165.write hp176 hg177 ((zS hlo10)))
 have hw := hkl.w (by omega) hgq
 exact ⟨_, g, _, _, G2, rfl, ho2, hkl.is g hgq, (by omega), (hb161.keptA hg177 ha9.symm).anti hle2, (by omega), (by omega), hx2⟩
 refine wp_skip (zA (zD (zE ?_)))
 refine qD rfl (zB (v := lv) rfl) (qD rfl (zB (v := lv) rfl) (qD rfl (run_len dB (v := lv) rfl ho152.read) (qD rfl (vN rfl rfl (by omega)) (qD rfl (zL dB sz26 (v := lv) rfl rfl ho152.read (by omega) (by omega)) ?_))))
 obtain ⟨cs183, hrep184, hagg185, hcell186⟩ := qO (j := ((ls.length : Int) - 1).toNat) default (ho152.at (z := ((ls.length : Int) - 1)) (by omega) (by omega)) rfl
 obtain ⟨rfl, hone187⟩ := hrep184
 refine qD rfl (hagg185 ag26 sz26 rfl (Gadd.pins hX151.pins lv)) (q0 rfl rfl rfl (yD (cs' := [(ls.getD ((ls.length : Int) - 1).toNat default)]) (us := [(ls.getD ((ls.length : Int) - 1).toNat default)]) (v := (.agg [(ls.getD ((ls.length : Int) - 1).toNat default)].toArray)) sz26 rfl rfl rfl (yE hone187) hX151.pins hb153 (dK rfl) rfl (fun w188 hb189 hp190 hg191 hz192 => ?_)))
 have hfr196 := hfr154.kept hg191 (fun k hk o u => by cases hk; exact hb153.free o u)
 refine qe (zA ?_)
 refine wp_ret (zQ (qJ (cs := [(ls.getD ((ls.length : Int) - 1).toNat default)]) rfl rfl rfl ag26 sz26 (fun j u hj => by rw [Nat.zero_add]; exact hb189.cell hj) ?_))
 obtain ⟨g, hgq, htk⟩ := hfr196 (ls.getD ((ls.length : Int) - 1).toNat default) (xE (by omega))
 obtain ⟨G2, ho2, hx2, hle2⟩ := htk.give hP (hX151.write hp190 hg191 ((zS hlo10)))
 have hw := hkl.w (by omega) hgq
 exact ⟨_, g, _, _, G2, rfl, ho2, hkl.is g hgq, (by omega), (hb147.keptA hg191 ha9.symm).anti hle2, (by omega), (by omega), hx2⟩
end DR2
end Go.Proofs.YtajkbplgbikgdaaGreatDoor
namespace Go.Proofs.YtajkbplgbikgdaaGreatDoor
namespace DV1
open Go.RowKit Go.GL Go.Proofs
open B1 C1 D1 E1 MK1 DR1 DR2
theorem pl65 : (Tryz.prog.underlying 65).bind (placesD Tryz.prog) = some [(0, 1), (1, 1)] := by kernel_rfl
variable {G : Pin}
theorem gT {w : World} {v : Value} {xs : List Int} (hP : Pins G w) (hv : RSl eInt G v xs) (hs : xs.length ≤ 1048576) :
  Calls Tryz.prog 114 [v].toArray w fun e w' => ∃ (u : Value) (G' : Pin), e = .returned u ∧ Own eInt 3 G' w' w.heap.size u xs ∧ Ext noS G w G' w' := by
 refine yM (n := 6) Tryz.func114 Tryz.ntmps114 rfl rfl ?_
 have hX0 := exr noS hP
 refine zD (zE ?_)
 refine qD rfl (zC (v := (.slice none 0 0)) rfl) (qe (zA (zD (zE ?_))))
 refine qI rfl (xF (E := eInt) (e := 3) eR sz3 hX0.pins (fun u1 w2 ho3 hp4 hl5 hk6 => ?_))
 have hX7 := hX0.step hp4 hl5
 have ho8 := ho3.weaken hX0.size
 refine qD rfl (zB (v := v) rfl) (qI rfl (yH (E := eInt) (v := u1) (u := v) 8 eR ap3 (by decide) rfl rfl hX7.pins ho8 ((hv.mono (Pin.le_refl _)).src hX7.pins (by decide)) (by first | omega | (rw [List.nil_append]; omega) | (rw [List.length_nil]; omega) | (rw [List.length_append]; omega) | (simp; done) | (simp; omega) | (simp only [List.length_cons, List.length_nil]; omega) | (simp only [List.length_append, List.length_cons, List.length_nil]; omega)) (by first | omega | (rw [List.nil_append]; omega) | (rw [List.length_nil]; omega) | (rw [List.length_append]; omega) | (simp; done) | (simp; omega) | (simp only [List.length_cons, List.length_nil]; omega) | (simp only [List.length_append, List.length_cons, List.length_nil]; omega)) (hX7.size) (fun u9 w10 ho11 hp12 hg13 hw14 => ?_)))
 have hX15 := hX7.write hp12 hg13 ((yQ ho8))
 have hm16 := la2 ([]) xs
 refine qD rfl (zC (v := u9) rfl) (qe (zA ?_))
 exact wp_ret (zQ (yA (v := u9) rfl rfl rfl (⟨_, _, rfl, (by simpa using ho11), hX15⟩)))
theorem anyForm_spec {w : World} {c : Nat} {cv : Value} {code : List UInt8} {a s : Int} {n : Int} (hP : Pins G w) (hB : Bx G w c [cv, .int .i64 a, .int .u64 s]) (hc : RSl eByte G cv code) (ha : 0 ≤ a ∧ a + (12 * n + 10) ≤ 1000000) (hs : 0 ≤ s ∧ s < 18446744073709551616) (hn : 0 ≤ n ∧ n ≤ 6) :
  Calls Tryz.prog 69 [(.pointer (some ⟨c, 0, none⟩)), (.int .i64 n)].toArray w fun e w' => ∃ (u : Value) (ns : List Nd) (a' s' : Int) (G' : Pin), e = .returned (.agg [u].toArray) ∧ RSl eNode G' u ns ∧ Bx G' w' c [cv, .int .i64 a', .int .u64 s'] ∧ (a ≤ a' ∧ a' ≤ a + (12 * n + 10)) ∧ (0 ≤ s' ∧ s' < 18446744073709551616) ∧ Ext (inO (some c)) G w G' w' := by
 refine yM (n := 77) Tryz.func69 Tryz.ntmps69 rfl rfl ?_
 have hX0 := exr (inO (some c)) hP
 have hm := hc.max
 refine zD (zE ?_)
 refine qI rfl (yL [(.slice none 0 0)] zr26 rfl hX0.pins (fun b1 w2 hk3 hb4 hp5 hl6 => ?_))
 have hX7 := hX0.step hp5 hl6
 have hb8 := hB.below hl6
 have ha9 : Apart (some b1) (some c) := zG (congrArg some hk3) hB.lt
 have hlo10 : w.heap.size ≤ b1 := by have := hX0.size; omega
 refine qe (zA (zD (zE ?_)))
 refine qD rfl (zB (v := (.pointer (some ⟨c, 0, none⟩))) rfl) (qD rfl (zB (v := (.int .i64 n)) rfl) (qI rfl (zK (vs := [(.pointer (some ⟨c, 0, none⟩)), (.int .i64 n)]) Tryz.func98 nm98 rfl rfl rfl ?_)))
 refine dJ (gY (n := n) hX7.pins hb8 hc (by omega) (by omega) (by omega)) ?_
 rintro _ w16 ⟨u11, g12, a13, s14, G15, rfl, ho17, hif18, hfl19, hb20, hda21, hds22, hx23⟩
 refine ⟨_, rfl, ?_⟩
 have hX24 := hX7.trans hx23 (fun i hi => xO i hi)
 have hb25 := hb4.extS hx23 (xJ ha9)
 have ha26 : Apart u11.ownBlock (some c) := zX ho17.lt hb8.lt
 have ha27 : Apart u11.ownBlock (some b1) := zX ho17.lt hb4.lt
 have ho28 := ho17.weaken hX7.size
 have hfo29 := hif18.1.lo
 refine qI rfl (yL [(.slice none 0 0)] zr26 rfl hX24.pins (fun b30 w31 hk32 hb33 hp34 hl35 => ?_))
 have hX36 := hX24.step hp34 hl35
 have ho37 := ho28.below hl35
 have ha40 : Apart (some b30) u11.ownBlock := zI (congrArg some hk32) ho28.lt
 have ha41 : Apart (some b30) (some c) := zG (congrArg some hk32) hb20.lt
 have ha42 : Apart (some b30) (some b1) := zG (congrArg some hk32) hb25.lt
 have hlo43 : w.heap.size ≤ b30 := by have := hX24.size; omega
 refine q0 rfl rfl rfl (yD (cs' := [u11]) (us := [u11]) (v := (.agg [u11].toArray)) sz26 rfl rfl rfl (yE ho37.one) hX36.pins hb33 (dK rfl) rfl (fun w44 hb45 hp46 hg47 hz48 => ?_))
 have hX49 := hX36.write hp46 hg47 ((zS hlo43))
 have ho50 := ho37.keptA hg47 ha40.symm
 refine qe (zA (zD (zE ?_)))
 refine qD rfl (zB (v := (.pointer (some ⟨c, 0, none⟩))) rfl) (qD rfl (zM (k := 0) rfl eY rfl nz24 rfl) (qD rfl (zP (u := u11) ag24 rfl (hb45.cell (o := 0) rfl)) (qD rfl (run_len eT (v := u11) rfl ho50.read) (qI rfl (zK (vs := [(.pointer (some ⟨c, 0, none⟩)), (.int .i64 ((formG g12).length : Int))]) Tryz.func101 kC rfl rfl rfl ?_)))))
 refine dJ (qL hX49.pins ((hb20.below hl35).keptA hg47 ha41.symm) (hc.mono hx23.le) (by omega) (by omega) (n := ((formG g12).length : Int)) (by omega)) ?_
 rintro _ w57 ⟨z53, a55, s56, rfl, hz54, hb58, hda59, hds60, hx61⟩
 refine ⟨_, rfl, ?_⟩
 have hX62 := hX49.trans hx61 (fun i hi => xO i hi)
 refine qD rfl (zC (v := (.int .i64 z53)) rfl) (qe (zA (zD (zD (zE ?_)))))
 refine qD rfl (zB (v := (.pointer (some ⟨c, 0, none⟩))) rfl) (qI rfl (zK (vs := [(.pointer (some ⟨c, 0, none⟩)), (.int .i64 24)]) Tryz.func101 kC rfl rfl rfl ?_))
 refine dJ (qL hX62.pins hb58 (hc.mono hx23.le) (by omega) (by omega) (n := 24) (by omega)) ?_
 rintro _ w70 ⟨z66, a68, s69, rfl, hz67, hb71, hda72, hds73, hx74⟩
 refine ⟨_, rfl, ?_⟩
 have hX75 := hX62.trans hx74 (fun i hi => xO i hi)
 have ho76 := (ho50.extS hx61 (notO ha26)).extS hx74 (notO ha26)
 have hb77 := (((hb25.below hl35).keptA hg47 ha42.symm).extS hx61 (xJ ha9)).extS hx74 (xJ ha9)
 have hb78 := (hb45.extS hx61 (xJ ha41)).extS hx74 (xJ ha41)
 refine qe (zA ?_)
 refine yI (zD (zE ?_))
 refine qD rfl (qN rfl rfl) (qD rfl (zC (v := (.bool (decide ((z66 : Int) = 0)))) rfl) (qe (zA ?_)))
 refine yJ (p := (z66 : Int) = 0) rfl rfl (fun h79 => ?_) (fun h79 => ?_)
 have hlk := (sX hif18 (by omega)).lens (z53).toNat (by omega)
 have hr81 := ho76.read
 refine xD (S := fun wz => BxR wz b30 [u11] ∧ Pins (Gadd G15 w70 u11) wz) (last := 18) (by kernel_rfl) rfl ?_
 have hl82 := bdr w70
 have hX84 := hX75.step (hX75.pins.below hl82) hl82
 have ho85 := ho76.below hl82
 have hb86 := hb71.below hl82
 have hb87 := hb77.below hl82
 have hb88 := hb78.below hl82
 have hq89 := (Gadd.pins hX75.pins u11).below hl82
 refine dT (i := 0) rfl rfl (by kernel_rfl) (fun _ _ => zM (k := 0) rfl eY rfl nz24 rfl) ⟨hb88.reads, hq89⟩ ?_
 refine dT (i := 1) rfl rfl (by kernel_rfl) (fun _ hS => zP (u := u11) ag24 rfl (hS.1 0 _ rfl)) ⟨hb88.reads, hq89⟩ ?_
 refine dT (i := 2) rfl rfl (by kernel_rfl) (fun _ _ => zB (v := (.int .i64 z53)) rfl) ⟨hb88.reads, hq89⟩ ?_
 refine dT (i := 3) rfl rfl (by kernel_rfl) (fun _ _ => zM (k := 0) rfl eY rfl nz24 rfl) ⟨hb88.reads, hq89⟩ ?_
 refine dT (i := 4) rfl rfl (by kernel_rfl) (fun _ hS => zP (u := u11) ag24 rfl (hS.1 0 _ rfl)) ⟨hb88.reads, hq89⟩ ?_
 refine dT (i := 5) rfl rfl (by kernel_rfl) (fun _ _ => zB (v := (.int .i64 z53)) rfl) ⟨hb88.reads, hq89⟩ ?_
 refine dT (i := 6) rfl rfl (by kernel_rfl) (fun _ _ => zL eT sz65 (v := u11) rfl rfl hr81 (by omega) (by omega)) ⟨hb88.reads, hq89⟩ ?_
 refine dT (i := 7) rfl rfl (by kernel_rfl) (fun _ _ => yS (off := 0) eX rfl rfl nz59 (z := z53) (k := 0) rfl hr81 (by omega) (by omega)) ⟨hb88.reads, hq89⟩ ?_
 obtain ⟨u90, hr91, hl92⟩ := vO (ho76.at (z := z53) (by omega) (by omega)) (j := (z53).toNat) rfl
 have hm93 := hr91.max
 refine dT (i := 8) rfl rfl (by kernel_rfl) (fun _ hS => hl92 ag59 rfl hS.2) ⟨hb88.reads, hq89⟩ ?_
 refine dT (i := 10) rfl rfl (by kernel_rfl) (fun _ _ => zB (v := (.pointer (some ⟨c, 0, none⟩))) rfl) ⟨hb88.reads, hq89⟩ ?_
 refine dT (i := 11) rfl rfl (by kernel_rfl) (fun _ _ => zB (v := (.int .i64 z53)) rfl) ⟨hb88.reads, hq89⟩ ?_
 refine jI (i := 9) (j := 12) (by kernel_rfl) ?_ ?_
 refine (yC (i := 9) rfl rfl rfl (zH rfl _) (zK (vs := [u90]) Tryz.func114 nm114 rfl rfl rfl ?_))
 refine dJ (gT hX84.pins hr91 (by omega)) ?_
 rintro _ w96 ⟨u94, G95, rfl, ho97, hx98⟩
 refine ⟨_, rfl, ?_⟩
 have hX99 := hX84.tr hx98
 have ho100 := ho85.ext hx98
 have hb101 := hb86.ext hx98
 have hb102 := hb87.ext hx98
 have hb103 := hb88.ext hx98
 have ha104 : Apart u94.ownBlock u11.ownBlock := zV ho97.lt ho85.lt
 have ha105 : Apart u94.ownBlock (some c) := zX ho97.lt hb86.lt
 have ha106 : Apart u94.ownBlock (some b1) := zX ho97.lt hb87.lt
 have ha107 : Apart u94.ownBlock (some b30) := zX ho97.lt hb88.lt
 have ho108 := ho97.weaken hX84.size
 have hq109 := hq89.below hx98.below
 refine ⟨fun _ => ⟨hb103.reads, hq109⟩, ?_⟩
 refine zR (i := 12) (by kernel_rfl) (yC (i := 12) rfl rfl rfl (zH rfl _) (xI (E := eInt) (e := 3) [(.int .i64 0), (.int .i64 z53), (.int .i64 (-1)), (.int .i64 1)] [0, z53, (-1), 1] eR sz3 zr3 (by exact reps4 (by rfl) (by rfl) (by rfl) (by rfl)) (jB (by rfl) (by rfl) (by rfl) (by rfl)) rfl rfl rfl rfl (by decide) hX99.pins (fun u110 w111 ho112 hp113 hl114 hk115 => ?_)))
 have hb121 := hb103.below hl114
 have ho127 := ho112.weaken hX99.size
 have hq128 := hq109.below hl114
 refine ⟨fun _ => ⟨hb121.reads, hq128⟩, ?_⟩
 obtain ⟨G129, hle132, hX131, hr130, hf133⟩ := ho127.sealed (hX99.step hp113 hl114)
 refine zR (i := 13) (by kernel_rfl) (yC (i := 13) rfl rfl rfl (zH rfl _) (zK (vs := [(.pointer (some ⟨c, 0, none⟩)), u110]) Tryz.func68 nm68 rfl rfl rfl ?_))
 refine dJ (tC hX131.pins ((hb101.below hl114).moreO hf133 (zG hk115 hb101.lt).symm) (hc.mono (dH (dH hx23.le hx98.le) hle132)) (by omega) (by omega) hr130 (by simp)) ?_
 rintro _ w143 ⟨z139, a141, s142, rfl, hz140, hb144, hda145, hds146, hx147⟩
 refine ⟨_, rfl, ?_⟩
 have hX148 := hX131.trans hx147 (fun i hi => xO i hi)
 have hb152 := (hb121.moreO hf133 (zG hk115 hb103.lt).symm).extS hx147 (xJ ha41)
 have hq153 := Gadd.turn hq128 (dI hX148.pins (dH hx98.le hle132)) hx147 (notO ha26)
 refine ⟨fun _ => ⟨hb152.reads, hq153⟩, ?_⟩
 refine zR (i := 14) (by kernel_rfl) (yC (i := 14) rfl rfl rfl (zH rfl _) (xI (E := eInt) (e := 3) [(.int .i64 z139)] [z139] eR sz3 zr3 (by exact qQ (by rfl)) (yE (by rfl)) rfl rfl rfl rfl (by decide) hX148.pins (fun u154 w155 ho156 hp157 hl158 hk159 => ?_)))
 have hX160 := hX148.step hp157 hl158
 have ho161 := (((ho100.below hl114).moreO hle132 hf133 (zI hk115 ho100.lt).symm).extS hx147 (notO ha26)).below hl158
 have ho162 := (((ho108.below hl114).moreO hle132 hf133 (zI hk115 ho108.lt).symm).extS hx147 (notO ha105)).below hl158
 have hb163 := hb144.below hl158
 have hb164 := (((hb102.below hl114).moreO hf133 (zG hk115 hb102.lt).symm).extS hx147 (xJ ha9)).below hl158
 have hb165 := hb152.below hl158
 have ho171 := ho156.weaken hX148.size
 have hq172 := hq153.below hl158
 refine ⟨fun _ => ⟨hb165.reads, hq172⟩, ?_⟩
 refine zR (i := 15) (by kernel_rfl) (yC (i := 15) rfl rfl rfl (zH rfl _) (yH (E := eInt) (v := u94) (u := u154) 8 eR ap3 (by decide) rfl rfl hX160.pins ho162 ho171.src (by first | omega | (rw [List.nil_append]; omega) | (rw [List.length_nil]; omega) | (rw [List.length_append]; omega) | (simp; done) | (simp; omega) | (simp only [List.length_cons, List.length_nil]; omega) | (simp only [List.length_append, List.length_cons, List.length_nil]; omega)) (by first | omega | (rw [List.nil_append]; omega) | (rw [List.length_nil]; omega) | (rw [List.length_append]; omega) | (simp; done) | (simp; omega) | (simp only [List.length_cons, List.length_nil]; omega) | (simp only [List.length_append, List.length_cons, List.length_nil]; omega)) (hX160.size) (fun u173 w174 ho175 hp176 hg177 hw178 => ?_)))
 have hX179 := hX160.write hp176 hg177 ((yQ ho162))
 have hb184 := hb165.keptA hg177 ha107.symm
 have hm190 := la1 (((formG g12).getD (z53).toNat default).l) z139
 have hq191 := Gadd.turn hq172 (dI hX179.pins (dH hx98.le hle132)) (Ext.one hp176 hg177) (notO ha104.symm)
 refine ⟨fun _ => ⟨hb184.reads, hq191⟩, ?_⟩
 refine zR (i := 16) (by kernel_rfl) (yC (i := 16) rfl rfl rfl (zH rfl _) (EO.run (zL eT sz65 (v := u11) rfl rfl hr81 (by omega) (by omega)) ⟨fun _ => ⟨hb184.reads, hq191⟩, ?_⟩))
 refine dT (i := 17) rfl rfl (by kernel_rfl) (fun _ _ => yS (off := 0) eX rfl rfl nz59 (z := z53) (k := 0) rfl hr81 (by omega) (by omega)) ⟨hb184.reads, hq191⟩ ?_
 obtain ⟨G192, hle195, hX194, hr193, hf196⟩ := ho175.sealed hX179
 have ho197 := (ho161.keptA hg177 ha104.symm).moreO hle195 hf196 (zJ ha104.symm hw178 ho161.lt)
 refine zR (i := 18) (by kernel_rfl) (xQ (i := 18) rfl rfl rfl (zH rfl _) (o_setNL (v := u11) (z := z53) (u := u173) sz59 rfl rfl hr193 hX194.pins ho197 (by omega) (by omega) (fun w201 ho202 hp203 hg204 hz205 => ?_)))
 have hX206 := hX194.write hp203 hg204 ((yQ ho197))
 refine ⟨fun h => absurd rfl h, ?_⟩
 refine yP (by kernel_rfl) (yO (zA (zD (zE ?_))))
 refine qD rfl (zU (cs := [u11]) ag26 sz26 rfl (fun j u hj => ((hb184.moreO hf196 (zN ha107.symm hw178 hb165.lt)).keptA hg204 ha40).cell (by simpa using hj))) (q0 rfl rfl rfl (yD (cs' := [u11]) (us := [u11]) (v := (.agg [u11].toArray)) sz26 rfl rfl rfl (yE ho202.one) hX206.pins (((hb164.keptA hg177 ha106.symm).moreO hf196 (zN ha106.symm hw178 hb164.lt)).keptA hg204 ha27.symm) (dK rfl) rfl (fun w210 hb211 hp212 hg213 hz214 => ?_)))
 refine qe (zA ?_)
 refine wp_ret (zQ (qJ (cs := [u11]) rfl rfl rfl ag26 sz26 (fun j u hj => by rw [Nat.zero_add]; exact hb211.cell hj) ?_))
 obtain ⟨G219, hle222, hX221, hr220, hf223⟩ := (ho202.keptA hg213 ha27).sealed (hX206.write hp212 hg213 ((zS hlo10)))
 exact ⟨_, _, _, _, _, rfl, hr220, (((((hb163.keptA hg177 ha105.symm).moreO hf196 (zN ha105.symm hw178 hb163.lt)).keptA hg204 ha26.symm).keptA hg213 ha9.symm).moreO hf223 ha26.symm), (by omega), (by omega), hX221⟩
 refine (yC (i := 12) rfl rfl rfl (zH rfl _) (xI (E := eInt) (e := 3) [(.int .i64 0), (.int .i64 z53), (.int .i64 (-1)), (.int .i64 1)] [0, z53, (-1), 1] eR sz3 zr3 (by exact reps4 (by rfl) (by rfl) (by rfl) (by rfl)) (jB (by rfl) (by rfl) (by rfl) (by rfl)) rfl rfl rfl rfl (by decide) hX84.pins (fun u227 w228 ho229 hp230 hl231 hk232 => ?_)))
 have hX233 := hX84.step hp230 hl231
 have ho234 := ho85.below hl231
 have hb235 := hb86.below hl231
 have hb236 := hb87.below hl231
 have hb237 := hb88.below hl231
 have ho242 := ho229.weaken hX84.size
 have hq243 := hq89.below hl231
 refine ⟨fun _ => ⟨hb237.reads, hq243⟩, ?_⟩
 refine zR (i := 9) (by kernel_rfl) (yC (i := 9) rfl rfl rfl (zH rfl _) (zK (vs := [u90]) Tryz.func114 nm114 rfl rfl rfl ?_))
 refine dJ (gT hX233.pins hr91 (by omega)) ?_
 rintro _ w246 ⟨u244, G245, rfl, ho247, hx248⟩
 refine ⟨_, rfl, ?_⟩
 have hb254 := hb237.ext hx248
 have ha255 : Apart u244.ownBlock u11.ownBlock := zV ho247.lt ho234.lt
 have ha257 : Apart u244.ownBlock (some c) := zX ho247.lt hb235.lt
 have ha258 : Apart u244.ownBlock (some b1) := zX ho247.lt hb236.lt
 have ha259 : Apart u244.ownBlock (some b30) := zX ho247.lt hb237.lt
 have ho260 := ho247.weaken hX233.size
 have hq261 := hq243.below hx248.below
 refine ⟨fun _ => ⟨hb254.reads, hq261⟩, ?_⟩
 obtain ⟨G262, hle265, hX264, hr263, hf266⟩ := (ho242.ext hx248).sealed (hX233.tr hx248)
 refine zR (i := 13) (by kernel_rfl) (yC (i := 13) rfl rfl rfl (zH rfl _) (zK (vs := [(.pointer (some ⟨c, 0, none⟩)), u227]) Tryz.func68 nm68 rfl rfl rfl ?_))
 refine dJ (tC hX264.pins ((hb235.ext hx248).moreO hf266 (zG hk232 hb86.lt).symm) (hc.mono (dH (dH hx23.le hx248.le) hle265)) (by omega) (by omega) hr263 (by simp)) ?_
 rintro _ w276 ⟨z272, a274, s275, rfl, hz273, hb277, hda278, hds279, hx280⟩
 refine ⟨_, rfl, ?_⟩
 have hX281 := hX264.trans hx280 (fun i hi => xO i hi)
 have hb285 := (hb254.moreO hf266 (zG hk232 hb88.lt).symm).extS hx280 (xJ ha41)
 have hq286 := Gadd.turn hq261 (dI hX281.pins (dH hx248.le hle265)) hx280 (notO ha26)
 refine ⟨fun _ => ⟨hb285.reads, hq286⟩, ?_⟩
 refine zR (i := 14) (by kernel_rfl) (yC (i := 14) rfl rfl rfl (zH rfl _) (xI (E := eInt) (e := 3) [(.int .i64 z272)] [z272] eR sz3 zr3 (by exact qQ (by rfl)) (yE (by rfl)) rfl rfl rfl rfl (by decide) hX281.pins (fun u287 w288 ho289 hp290 hl291 hk292 => ?_)))
 have hX293 := hX281.step hp290 hl291
 have ho294 := (((ho234.ext hx248).moreO hle265 hf266 (zI hk232 ho85.lt).symm).extS hx280 (notO ha26)).below hl291
 have ho295 := ((ho260.moreO hle265 hf266 (zV ho247.lt ho242.lt)).extS hx280 (notO ha257)).below hl291
 have hb296 := hb277.below hl291
 have hb297 := (((hb236.ext hx248).moreO hf266 (zG hk232 hb87.lt).symm).extS hx280 (xJ ha9)).below hl291
 have hb298 := hb285.below hl291
 have ho304 := ho289.weaken hX281.size
 have hq305 := hq286.below hl291
 refine ⟨fun _ => ⟨hb298.reads, hq305⟩, ?_⟩
 refine zR (i := 15) (by kernel_rfl) (yC (i := 15) rfl rfl rfl (zH rfl _) (yH (E := eInt) (v := u244) (u := u287) 8 eR ap3 (by decide) rfl rfl hX293.pins ho295 ho304.src (by first | omega | (rw [List.nil_append]; omega) | (rw [List.length_nil]; omega) | (rw [List.length_append]; omega) | (simp; done) | (simp; omega) | (simp only [List.length_cons, List.length_nil]; omega) | (simp only [List.length_append, List.length_cons, List.length_nil]; omega)) (by first | omega | (rw [List.nil_append]; omega) | (rw [List.length_nil]; omega) | (rw [List.length_append]; omega) | (simp; done) | (simp; omega) | (simp only [List.length_cons, List.length_nil]; omega) | (simp only [List.length_append, List.length_cons, List.length_nil]; omega)) (hX293.size) (fun u306 w307 ho308 hp309 hg310 hw311 => ?_)))
 have hX312 := hX293.write hp309 hg310 ((yQ ho295))
 have hb317 := hb298.keptA hg310 ha259.symm
 have hm323 := la1 (((formG g12).getD (z53).toNat default).l) z272
 have hq324 := Gadd.turn hq305 (dI hX312.pins (dH hx248.le hle265)) (Ext.one hp309 hg310) (notO ha255.symm)
 refine ⟨fun _ => ⟨hb317.reads, hq324⟩, ?_⟩
 refine zR (i := 16) (by kernel_rfl) (yC (i := 16) rfl rfl rfl (zH rfl _) (EO.run (zL eT sz65 (v := u11) rfl rfl hr81 (by omega) (by omega)) ⟨fun _ => ⟨hb317.reads, hq324⟩, ?_⟩))
 refine dT (i := 17) rfl rfl (by kernel_rfl) (fun _ _ => yS (off := 0) eX rfl rfl nz59 (z := z53) (k := 0) rfl hr81 (by omega) (by omega)) ⟨hb317.reads, hq324⟩ ?_
 obtain ⟨G325, hle328, hX327, hr326, hf329⟩ := ho308.sealed hX312
 have ho330 := (ho294.keptA hg310 ha255.symm).moreO hle328 hf329 (zJ ha255.symm hw311 ho294.lt)
 refine zR (i := 18) (by kernel_rfl) (xQ (i := 18) rfl rfl rfl (zH rfl _) (o_setNL (v := u11) (z := z53) (u := u306) sz59 rfl rfl hr326 hX327.pins ho330 (by omega) (by omega) (fun w334 ho335 hp336 hg337 hz338 => ?_)))
 have hX339 := hX327.write hp336 hg337 ((yQ ho330))
 refine ⟨fun h => absurd rfl h, ?_⟩
 refine yP (by kernel_rfl) (yO (zA (zD (zE ?_))))
 refine qD rfl (zU (cs := [u11]) ag26 sz26 rfl (fun j u hj => ((hb317.moreO hf329 (zN ha259.symm hw311 hb298.lt)).keptA hg337 ha40).cell (by simpa using hj))) (q0 rfl rfl rfl (yD (cs' := [u11]) (us := [u11]) (v := (.agg [u11].toArray)) sz26 rfl rfl rfl (yE ho335.one) hX339.pins (((hb297.keptA hg310 ha258.symm).moreO hf329 (zN ha258.symm hw311 hb297.lt)).keptA hg337 ha27.symm) (dK rfl) rfl (fun w343 hb344 hp345 hg346 hz347 => ?_)))
 refine qe (zA ?_)
 refine wp_ret (zQ (qJ (cs := [u11]) rfl rfl rfl ag26 sz26 (fun j u hj => by rw [Nat.zero_add]; exact hb344.cell hj) ?_))
 obtain ⟨G352, hle355, hX354, hr353, hf356⟩ := (ho335.keptA hg346 ha27).sealed (hX339.write hp345 hg346 ((zS hlo10)))
 exact ⟨_, _, _, _, _, rfl, hr353, (((((hb296.keptA hg310 ha257.symm).moreO hf329 (zN ha257.symm hw311 hb296.lt)).keptA hg337 ha26.symm).keptA hg346 ha9.symm).moreO hf356 ha26.symm), (by omega), (by omega), hX354⟩
 refine zD (zE ?_)
 refine qD rfl (qN rfl rfl) (qD rfl (zC (v := (.bool (decide ((z66 : Int) = 1)))) rfl) (qe (zA ?_)))
 refine yJ (p := (z66 : Int) = 1) rfl rfl (fun h360 => ?_) (fun h360 => ?_)
 refine zE (qD rfl (zM (k := 0) rfl eY rfl nz24 rfl) (qD rfl (zP (u := u11) ag24 rfl (hb78.cell (o := 0) rfl)) (qI rfl (xI (E := eInt) (e := 3) [(.int .i64 0)] [0] eR sz3 zr3 (by exact qQ (by rfl)) (yE (by rfl)) rfl rfl rfl rfl (by decide) hX75.pins (fun u361 w362 ho363 hp364 hl365 hk366 => ?_)))))
 have ho376 := ho363.weaken hX75.size
 refine qD rfl (yY [(.slice none 0 0), (.slice none 0 0)] [(.slice none 0 0), u361] [(1, u361, [u361])] eX zr65 rfl pl65 rfl (List.forall_mem_cons.2 ⟨(yW ho376.one), (fun _ h => by cases h)⟩) rfl) ?_
 obtain ⟨G377, hle380, hX379, hr378, hf381⟩ := ho376.sealed (hX75.step hp364 hl365)
 refine qI rfl (xM (E := eNode) (e := 65) [(.slice none 0 0), u361] (⟨[], [0]⟩ : Nd) eT sz65 zr65 ⟨_, _, rfl, (yX _ _), hr378⟩ rfl (by decide) hX379.pins (fun u386 w387 ho388 hp389 hl390 hk391 => ?_))
 have hX392 := hX379.step hp389 hl390
 have ho393 := ((ho76.below hl365).moreO hle380 hf381 (zI hk366 ho76.lt).symm).below hl390
 have hb394 := ((hb71.below hl365).moreO hf381 (zG hk366 hb71.lt).symm).below hl390
 have hb395 := ((hb77.below hl365).moreO hf381 (zG hk366 hb77.lt).symm).below hl390
 have hb396 := ((hb78.below hl365).moreO hf381 (zG hk366 hb78.lt).symm).below hl390
 have ho401 := ho388.weaken hX379.size
 refine qI rfl (yH (E := eNode) (v := u11) (u := u386) 48 eT ap65 (by decide) rfl rfl hX392.pins ho393 ho401.src (by first | omega | (rw [List.nil_append]; omega) | (rw [List.length_nil]; omega) | (rw [List.length_append]; omega) | (simp; done) | (simp; omega) | (simp only [List.length_cons, List.length_nil]; omega) | (simp only [List.length_append, List.length_cons, List.length_nil]; omega)) (by first | omega | (rw [List.nil_append]; omega) | (rw [List.length_nil]; omega) | (rw [List.length_append]; omega) | (simp; done) | (simp; omega) | (simp only [List.length_cons, List.length_nil]; omega) | (simp only [List.length_append, List.length_cons, List.length_nil]; omega)) (hX392.size) (fun u402 w403 ho404 hp405 hg406 hw407 => ?_))
 have hX408 := hX392.write hp405 hg406 ((yQ ho393))
 have hm417 := la1 (formG g12) (⟨[], [0]⟩ : Nd)
 refine qD rfl (zM (k := 0) rfl eY rfl nz24 rfl) (q0 rfl rfl rfl (yD (cs' := [u402]) (us := [u402]) (v := u402) sz24 rfl rfl (vL ho404.one) (yE ho404.one) hX408.pins (hb396.keptA hg406 ha40) (dK rfl) rfl (fun w418 hb419 hp420 hg421 hz422 => ?_)))
 have hX423 := hX408.write hp420 hg421 ((zS hlo43))
 have ho424 := ho404.keptA hg421 (zN ha40 hw407 hb396.lt).symm
 refine qe (yO (zA (zD (zE ?_))))
 refine qD rfl (zU (cs := [u402]) ag26 sz26 rfl (fun j u hj => hb419.cell (by simpa using hj))) (q0 rfl rfl rfl (yD (cs' := [u402]) (us := [u402]) (v := (.agg [u402].toArray)) sz26 rfl rfl rfl (yE ho424.one) hX423.pins ((hb395.keptA hg406 ha27.symm).keptA hg421 ha42.symm) (dK rfl) rfl (fun w427 hb428 hp429 hg430 hz431 => ?_)))
 refine qe (zA ?_)
 refine wp_ret (zQ (qJ (cs := [u402]) rfl rfl rfl ag26 sz26 (fun j u hj => by rw [Nat.zero_add]; exact hb428.cell hj) ?_))
 obtain ⟨G436, hle439, hX438, hr437, hf440⟩ := (ho424.keptA hg430 (zN ha27.symm hw407 hb395.lt).symm).sealed (hX423.write hp429 hg430 ((zS hlo10)))
 exact ⟨_, _, _, _, _, rfl, hr437, ((((hb394.keptA hg406 ha26.symm).keptA hg421 ha41.symm).keptA hg430 ha9.symm).moreO hf440 (zN ha26.symm hw407 hb394.lt)), (by omega), (by omega), hX438⟩
 refine zD (zE ?_)
 refine qD rfl (qN rfl rfl) (qD rfl (zC (v := (.bool (decide ((z66 : Int) = 2)))) rfl) (qe (zA ?_)))
 refine yJ (p := (z66 : Int) = 2) rfl rfl (fun h444 => ?_) (fun h444 => ?_)
 refine zE (qD rfl (zM (k := 0) rfl eY rfl nz24 rfl) (qD rfl (zP (u := u11) ag24 rfl (hb78.cell (o := 0) rfl)) (qD rfl (zM (k := 0) rfl eY rfl nz24 rfl) (qD rfl (zP (u := u11) ag24 rfl (hb78.cell (o := 0) rfl)) (qD rfl (run_len eT (v := u11) rfl ho76.read) (qD rfl (vN rfl rfl (by omega)) ?_))))))
 obtain ⟨u445, ho446, hb447, hl448⟩ := own_cut ho76 ((((formG g12).length : Int) - 1).toNat) (((formG g12).length : Int) - 1) (by omega) rfl (by omega) (by omega)
 have ha449 : Apart u445.ownBlock (some c) := by rw [hb447]; exact ha26
 have ha450 : Apart u445.ownBlock (some b1) := by rw [hb447]; exact ha27
 have ha451 : Apart (some b30) u445.ownBlock := by rw [hb447]; exact ha40
 refine qD rfl (hl448 eT sz65 rfl rfl rfl) (qD rfl (zM (k := 0) rfl eY rfl nz24 rfl) (q0 rfl rfl rfl (yD (cs' := [u445]) (us := [u445]) (v := u445) sz24 rfl rfl (vL ho446.one) (yE ho446.one) hX75.pins hb78 (dK rfl) rfl (fun w452 hb453 hp454 hg455 hz456 => ?_))))
 have hX457 := hX75.write hp454 hg455 ((zS hlo43))
 have ho458 := ho446.keptA hg455 ha451.symm
 refine qe (yO (zA (zD (zE ?_))))
 refine qD rfl (zU (cs := [u445]) ag26 sz26 rfl (fun j u hj => hb453.cell (by simpa using hj))) (q0 rfl rfl rfl (yD (cs' := [u445]) (us := [u445]) (v := (.agg [u445].toArray)) sz26 rfl rfl rfl (yE ho458.one) hX457.pins (hb77.keptA hg455 ha42.symm) (dK rfl) rfl (fun w461 hb462 hp463 hg464 hz465 => ?_)))
 refine qe (zA ?_)
 refine wp_ret (zQ (qJ (cs := [u445]) rfl rfl rfl ag26 sz26 (fun j u hj => by rw [Nat.zero_add]; exact hb462.cell hj) ?_))
 obtain ⟨G470, hle473, hX472, hr471, hf474⟩ := (ho458.keptA hg464 ha450).sealed (hX457.write hp463 hg464 ((zS hlo10)))
 exact ⟨_, _, _, _, _, rfl, hr471, (((hb71.keptA hg455 ha41.symm).keptA hg464 ha9.symm).moreO hf474 ha449.symm), (by omega), (by omega), hX472⟩
 refine zD (zE ?_)
 refine qD rfl (qN rfl rfl) (qD rfl (zC (v := (.bool (decide ((z66 : Int) = 3)))) rfl) (qe (zA ?_)))
 refine yJ (p := (z66 : Int) = 3) rfl rfl (fun h478 => ?_) (fun h478 => ?_)
 refine zD (zE ?_)
 refine qD rfl (zM (k := 0) rfl eY rfl nz24 rfl) (qD rfl (zP (u := u11) ag24 rfl (hb78.cell (o := 0) rfl)) (qD rfl (zL eT sz65 (v := u11) rfl rfl ho76.read (by omega) (by omega)) ?_))
 obtain ⟨u479, u480, hr481, hr482, hl483⟩ := mS (ho76.at (z := 0) (by omega) (by omega)) (j := 0) rfl
 have hm484 := hr481.max
 have hm485 := hr482.max
 refine qD rfl (hl483 ag65 sz65 rfl (Gadd.pins hX75.pins u11)) (qI rfl (yL [(.slice none 0 0), (.slice none 0 0)] zr65 rfl hX75.pins (fun b486 w487 hk488 hb489 hp490 hl491 => ?_)))
 have hX492 := hX75.step hp490 hl491
 have ha497 : Apart (some b486) u11.ownBlock := zI (congrArg some hk488) ho76.lt
 have ha498 : Apart (some b486) (some c) := zG (congrArg some hk488) hb71.lt
 have ha499 : Apart (some b486) (some b1) := zG (congrArg some hk488) hb77.lt
 have ha500 : Apart (some b486) (some b30) := zG (congrArg some hk488) hb78.lt
 have hlo501 : w.heap.size ≤ b486 := by have := hX75.size; omega
 refine q0 rfl rfl rfl (yD (cs' := [u479, u480]) (us := [u479, u480]) (v := (.agg [u479, u480].toArray)) sz65 rfl rfl rfl (rV hr481.one hr482.one) hX492.pins hb489 (dK rfl) rfl (fun w502 hb503 hp504 hg505 hz506 => ?_))
 obtain ⟨G512, hle513, hX514, hbp515, hf516⟩ := hb503.shut (hX492.write hp504 hg505 ((zS hlo501))) hlo501
 have ho517 := ((ho76.below hl491).keptA hg505 ha497.symm).moreA hle513 hf516 ha497.symm
 refine qe (zA (zD ?_))
 have hr522 := ho517.read
 refine xD (S := fun wz => BxR wz b30 [u11] ∧ Pins (Gadd G512 w502 u11) wz) (last := 8) (by kernel_rfl) rfl ?_
 have hl523 := bdr w502
 have hX525 := hX514.step (hX514.pins.below hl523) hl523
 have ho526 := ho517.below hl523
 have hb529 := (((hb78.below hl491).keptA hg505 ha500.symm).moreA hf516 ha500.symm).below hl523
 have hq530 := (Gadd.pins hX514.pins u11).below hl523
 refine dT (i := 0) rfl rfl (by kernel_rfl) (fun _ _ => zM (k := 0) rfl eY rfl nz24 rfl) ⟨hb529.reads, hq530⟩ ?_
 refine dT (i := 1) rfl rfl (by kernel_rfl) (fun _ hS => zP (u := u11) ag24 rfl (hS.1 0 _ rfl)) ⟨hb529.reads, hq530⟩ ?_
 refine dT (i := 2) rfl rfl (by kernel_rfl) (fun _ _ => zM (k := 0) rfl eY rfl nz24 rfl) ⟨hb529.reads, hq530⟩ ?_
 refine dT (i := 3) rfl rfl (by kernel_rfl) (fun _ hS => zP (u := u11) ag24 rfl (hS.1 0 _ rfl)) ⟨hb529.reads, hq530⟩ ?_
 refine dT (i := 4) rfl rfl (by kernel_rfl) (fun _ _ => zB (v := (.int .i64 z53)) rfl) ⟨hb529.reads, hq530⟩ ?_
 refine dT (i := 5) rfl rfl (by kernel_rfl) (fun _ _ => zL eT sz65 (v := u11) rfl rfl hr522 (by omega) (by omega)) ⟨hb529.reads, hq530⟩ ?_
 obtain ⟨u531, u532, hr533, hr534, hl535⟩ := mS (ho517.at (z := z53) (by omega) (by omega)) (j := (z53).toNat) rfl
 have hm536 := hr533.max
 have hm537 := hr534.max
 refine dT (i := 6) rfl rfl (by kernel_rfl) (fun _ hS => hl535 ag65 sz65 rfl hS.2) ⟨hb529.reads, hq530⟩ ?_
 refine dT (i := 7) rfl rfl (by kernel_rfl) (fun _ _ => zL eT sz65 (v := u11) rfl rfl hr522 (by omega) (by omega)) ⟨hb529.reads, hq530⟩ ?_
 refine zR (i := 8) (by kernel_rfl) (xQ (i := 8) rfl rfl rfl (zH rfl _) (kO (E := eNode) (v := u11) (u := (.agg [u531, u532].toArray)) (z := 0) ((⟨((formG g12).getD (z53).toNat default).l, ((formG g12).getD (z53).toNat default).r⟩ : Nd)) sz65 rfl rfl rfl ⟨_, _, rfl, hr533, hr534⟩ hX525.pins ho526 (by omega) (by omega) (fun w538 ho539 hp540 hg541 hz542 => ?_)))
 have hX543 := hX525.write hp540 hg541 ((yQ ho526))
 have hb546 := hb529.keptA hg541 ha40
 have ho547 : Own eNode 65 G512 w538 w.heap.size u11 ((formG g12).set 0 (⟨((formG g12).getD (z53).toNat default).l, ((formG g12).getD (z53).toNat default).r⟩ : Nd)) := ho539
 have hm548 : ((formG g12).set 0 (⟨((formG g12).getD (z53).toNat default).l, ((formG g12).getD (z53).toNat default).r⟩ : Nd)).length = (formG g12).length := List.length_set ..
 refine ⟨fun h => absurd rfl h, ?_⟩
 refine yP (by kernel_rfl) (zA (zE ?_))
 refine qD rfl (zM (k := 0) rfl eY rfl nz24 rfl) (qD rfl (zP (u := u11) ag24 rfl (hb546.cell (o := 0) rfl)) (qD rfl (zB (v := (.int .i64 z53)) rfl) (qD rfl (zU (cs := [u479, u480]) ag65 sz65 rfl (fun j u hj => hX543.pins _ _ _ (hbp515 _ _ (by simpa using hj)))) (qD rfl (zL eT sz65 (v := u11) rfl rfl ho547.read (by omega) (by omega)) (q0 rfl rfl rfl (kO (E := eNode) (v := u11) (u := (.agg [u479, u480].toArray)) (z := z53) ((⟨((formG g12).getD 0 default).l, ((formG g12).getD 0 default).r⟩ : Nd)) sz65 rfl rfl rfl ⟨_, _, rfl, (hr481.mono hle513), (hr482.mono hle513)⟩ hX543.pins ho547 (by omega) (by omega) (fun w549 ho550 hp551 hg552 hz553 => ?_)))))))
 have hX554 := hX543.write hp551 hg552 ((yQ ho547))
 have ho558 : Own eNode 65 G512 w549 w.heap.size u11 (((formG g12).set 0 (⟨((formG g12).getD (z53).toNat default).l, ((formG g12).getD (z53).toNat default).r⟩ : Nd)).set (z53).toNat (⟨((formG g12).getD 0 default).l, ((formG g12).getD 0 default).r⟩ : Nd)) := ho550
 have hm559 : (((formG g12).set 0 (⟨((formG g12).getD (z53).toNat default).l, ((formG g12).getD (z53).toNat default).r⟩ : Nd)).set (z53).toNat (⟨((formG g12).getD 0 default).l, ((formG g12).getD 0 default).r⟩ : Nd)).length = ((formG g12).set 0 (⟨((formG g12).getD (z53).toNat default).l, ((formG g12).getD (z53).toNat default).r⟩ : Nd)).length := List.length_set ..
 refine qe (yO (zA (zD (zE ?_))))
 refine qD rfl (zU (cs := [u11]) ag26 sz26 rfl (fun j u hj => (hb546.keptA hg552 ha40).cell (by simpa using hj))) (q0 rfl rfl rfl (yD (cs' := [u11]) (us := [u11]) (v := (.agg [u11].toArray)) sz26 rfl rfl rfl (yE ho558.one) hX554.pins ((((((hb77.below hl491).keptA hg505 ha499.symm).moreA hf516 ha499.symm).below hl523).keptA hg541 ha27.symm).keptA hg552 ha27.symm) (dK rfl) rfl (fun w560 hb561 hp562 hg563 hz564 => ?_)))
 refine qe (zA ?_)
 refine wp_ret (zQ (qJ (cs := [u11]) rfl rfl rfl ag26 sz26 (fun j u hj => by rw [Nat.zero_add]; exact hb561.cell hj) ?_))
 obtain ⟨G569, hle572, hX571, hr570, hf573⟩ := (ho558.keptA hg563 ha27).sealed (hX554.write hp562 hg563 ((zS hlo10)))
 exact ⟨_, _, _, _, _, rfl, hr570, ((((((((hb71.below hl491).keptA hg505 ha498.symm).moreA hf516 ha498.symm).below hl523).keptA hg541 ha26.symm).keptA hg552 ha26.symm).keptA hg563 ha9.symm).moreO hf573 ha26.symm), (by omega), (by omega), hX571⟩
 refine wp_skip (yO (zA (zD (zE ?_))))
 refine qD rfl (zU (cs := [u11]) ag26 sz26 rfl (fun j u hj => hb78.cell (by simpa using hj))) (q0 rfl rfl rfl (yD (cs' := [u11]) (us := [u11]) (v := (.agg [u11].toArray)) sz26 rfl rfl rfl (yE ho76.one) hX75.pins hb77 (dK rfl) rfl (fun w577 hb578 hp579 hg580 hz581 => ?_)))
 refine qe (zA ?_)
 refine wp_ret (zQ (qJ (cs := [u11]) rfl rfl rfl ag26 sz26 (fun j u hj => by rw [Nat.zero_add]; exact hb578.cell hj) ?_))
 obtain ⟨G586, hle589, hX588, hr587, hf590⟩ := (ho76.keptA hg580 ha27).sealed (hX75.write hp579 hg580 ((zS hlo10)))
 exact ⟨_, _, _, _, _, rfl, hr587, ((hb71.keptA hg580 ha9.symm).moreO hf590 ha26.symm), (by omega), (by omega), hX588⟩
end DV1
end Go.Proofs.YtajkbplgbikgdaaGreatDoor
namespace Go.Proofs.YtajkbplgbikgdaaGreatDoor
namespace LX2
open Go.RowKit Go.GL Go.Proofs
open B1
variable {G : Pin} {u v : Value}
theorem mX {w : World} {xs ys : List Int} (hP : Pins G w) (hu : RSl eInt G u xs) (hv : RSl eInt G v ys) :
  Calls Tryz.prog 39 [u, v].toArray w fun e w' => e = .returned (.bool (decide (xs = ys))) ∧ Ext noS G w G w' := by
 refine yM (n := 26) Tryz.func39 Tryz.ntmps39 rfl rfl ?_
 have hX0 := exr noS hP
 have hm := hu.max
 refine zD (zE ?_)
 refine qD rfl (zC (v := (.bool false)) rfl) (qe (zA (zD (zD (zE ?_)))))
 refine qD rfl (zB (v := u) rfl) (qD rfl (run_len eR (v := u) rfl hu) (qD rfl (zB (v := v) rfl) (qD rfl (run_len eR (v := v) rfl hv) (qD rfl (kK rfl rfl) (qe (zA ?_))))))
 refine yJ (p := ((xs.length : Int) : Int) ≠ (ys.length : Int)) rfl rfl (fun h1 => ?_) (fun h1 => ?_)
 refine zD (zE ?_)
 refine qD rfl (zC (v := (.bool false)) rfl) (qe (zA ?_))
 exact wp_ret (zQ (yA (v := (.bool false)) rfl rfl rfl (⟨congrArg (fun z => Ending.returned (Value.bool z)) (decide_eq_false (fun e => h1 (by rw [e]))).symm, hX0⟩)))
 refine wp_skip (zA (zD (zD (zE ?_))))
 refine qD rfl (zC (v := (.int .i64 0)) rfl) (qe (zA ?_))
 refine yI (yZ (fun (k : Nat) (en : Nat → Value) (W : World) => ∃ (env1 : Nat → Value) (j : Nat), en = (upd (upd (upd env1 0 u) 1 v) 5 (.int .i64 (j : Int))) ∧ k = xs.length - j ∧ Ext noS G w G W ∧ (j ≤ xs.length) ∧ (xs.length = ys.length) ∧ (∀ i, i < j → xs.getD i 0 = ys.getD i 0)) _ ⟨_, 0, (zF (x := 5) (zF (x := 1) (yF (x := 0) rfl) rfl) rfl), rfl, hX0, Nat.zero_le _, (by omega), (fun i hi => absurd hi (Nat.not_lt_zero i))⟩ ?_)
 rintro k2 _ w3 ⟨env1, j, rfl, hk4, hX5, hj, heq, hp⟩
 refine zD (zD (zE ?_))
 refine qD rfl (zB (v := (.int .i64 (j : Int))) rfl) (qD rfl (zB (v := u) rfl) (qD rfl (run_len eR (v := u) rfl hu) (qD rfl (xB rfl rfl) (qe (zA ?_)))))
 refine yJ (p := ((j : Int) : Int) < (xs.length : Int)) rfl rfl (fun h6 => ?_) (fun h6 => ?_)
 refine wp_skip (zA (zD ?_))
 refine yI (zD (xD (S := fun wz => Pins G wz) (last := 9) (by kernel_rfl) rfl ?_))
 have hl7 := bdr w3
 have hX9 := hX5.step (hX5.pins.below hl7) hl7
 refine dT (i := 0) rfl rfl (by kernel_rfl) (fun _ _ => zB (v := u) rfl) hX9.pins ?_
 refine dT (i := 1) rfl rfl (by kernel_rfl) (fun _ _ => zB (v := (.int .i64 (j : Int))) rfl) hX9.pins ?_
 refine dT (i := 2) rfl rfl (by kernel_rfl) (fun _ _ => zL eR sz3 (v := u) rfl rfl hu (by omega) (by omega)) hX9.pins ?_
 refine dT (i := 3) rfl rfl (by kernel_rfl) (fun _ hS => zZ (r := xs.getD j 0) rfl ag3 (z := (j : Int)) rfl hu hS (by omega) (by omega)) hX9.pins ?_
 refine dT (i := 4) rfl rfl (by kernel_rfl) (fun _ _ => zB (v := v) rfl) hX9.pins ?_
 refine dT (i := 5) rfl rfl (by kernel_rfl) (fun _ _ => zB (v := (.int .i64 (j : Int))) rfl) hX9.pins ?_
 refine dT (i := 6) rfl rfl (by kernel_rfl) (fun _ _ => zL eR sz3 (v := v) rfl rfl hv (by omega) (by omega)) hX9.pins ?_
 refine dT (i := 7) rfl rfl (by kernel_rfl) (fun _ hS => zZ (r := ys.getD j 0) rfl ag3 (z := (j : Int)) rfl hv hS (by omega) (by omega)) hX9.pins ?_
 refine dT (i := 8) rfl rfl (by kernel_rfl) (fun _ _ => kK rfl rfl) hX9.pins ?_
 refine yP (by kernel_rfl) (zA (yJ (p := (xs.getD j 0 : Int) ≠ (ys.getD j 0)) rfl rfl (fun h10 => ?_) (fun h10 => ?_)))
 refine zD (zE ?_)
 refine qD rfl (zC (v := (.bool false)) rfl) (qe (zA ?_))
 exact wp_ret (zQ (yA (v := (.bool false)) rfl rfl rfl (⟨congrArg (fun z => Ending.returned (Value.bool z)) (decide_eq_false (fun e => h10 (by rw [e]))).symm, hX9⟩)))
 refine wp_skip (yO (zA (zE ?_)))
 refine qD rfl (zB (v := (.int .i64 (j : Int))) rfl) (qD rfl (yT rfl rfl (by omega)) (qD rfl (zC (v := (.int .i64 ((j : Int) + 1))) rfl) (qe (yR (⟨_, ?_, _, rfl, _, j + 1, (zF (x := 5) (zF (x := 1) (yF (x := 0) rfl) rfl) rfl), rfl, hX9, (by omega), heq, (eqstep hp h10)⟩)))))
 omega
 refine wp_exit (yK (yU (yV (zA (zD (zE ?_))))))
 refine qD rfl (zC (v := (.bool true)) rfl) (qe (zA ?_))
 exact wp_ret (zQ (yA (v := (.bool true)) rfl rfl rfl (⟨congrArg (fun z => Ending.returned (Value.bool z)) (decide_eq_true (eqdone heq (by omega) hp)).symm, hX5⟩)))
theorem rP {w : World} {xs ys : List Cl} (hP : Pins G w) (hu : RSl eClaim G u xs) (hv : RSl eClaim G v ys) :
  Calls Tryz.prog 21 [(.agg [u].toArray), (.agg [v].toArray)].toArray w fun e w' => ∃ G', e = .returned (.bool (decide (xs = ys))) ∧ Ext noS G w G' w' := by
 refine yM (n := 60) Tryz.func21 Tryz.ntmps21 rfl rfl ?_
 have hX0 := exr noS hP
 have hm := hu.max
 refine zD (zE ?_)
 refine qI rfl (xX [u] (v := (.agg [u].toArray)) rfl rfl hX0.pins (fun b1 w2 hk3 hb4 hp5 hl6 => ?_))
 have hlo8 : w.heap.size ≤ b1 := by have := hX0.size; omega
 obtain ⟨G9, hle10, hX11, hbp12, hf13⟩ := hb4.shut (hX0.step hp5 hl6) hlo8
 refine qI rfl (xX [v] (v := (.agg [v].toArray)) rfl rfl hX11.pins (fun b14 w15 hk16 hb17 hp18 hl19 => ?_))
 have hlo21 : w.heap.size ≤ b14 := by have := hX11.size; omega
 obtain ⟨G22, hle23, hX24, hbp25, hf26⟩ := hb17.shut (hX11.step hp18 hl19) hlo21
 refine qD rfl (zC (v := (.bool false)) rfl) (qe (zA (zD (zD (zE ?_)))))
 refine qD rfl (zM (k := 0) rfl eV rfl nz36 rfl) (qD rfl (zP (u := u) ag36 rfl ((dI hX24.pins hle23) _ _ _ (hbp12 0 _ rfl))) (qD rfl (run_len eU (v := u) rfl hu) (qD rfl (zM (k := 0) rfl eV rfl nz36 rfl) (qD rfl (zP (u := v) ag36 rfl (hX24.pins _ _ _ (hbp25 0 _ rfl))) (qD rfl (run_len eU (v := v) rfl hv) (qD rfl (kK rfl rfl) (qe (zA ?_))))))))
 refine yJ (p := ((xs.length : Int) : Int) ≠ (ys.length : Int)) rfl rfl (fun h27 => ?_) (fun h27 => ?_)
 refine zD (zE ?_)
 refine qD rfl (zC (v := (.bool false)) rfl) (qe (zA ?_))
 exact wp_ret (zQ (yA (v := (.bool false)) rfl rfl rfl (⟨_, congrArg (fun z => Ending.returned (Value.bool z)) (decide_eq_false (fun e => by subst e; first | omega | exact absurd rfl h27 | exact absurd h27 (by simp))).symm, hX24⟩)))
 refine wp_skip (zA (zD (zD (zE ?_))))
 refine qD rfl (zC (v := (.int .i64 0)) rfl) (qe (zA ?_))
 refine yI (yZ (fun (k : Nat) (en : Nat → Value) (W : World) => ∃ (env1 : Nat → Value) (j : Nat) (GL1 : Pin), en = (upd (upd (upd env1 2 (.pointer (some ⟨b1, 0, none⟩))) 3 (.pointer (some ⟨b14, 0, none⟩))) 5 (.int .i64 (j : Int))) ∧ k = xs.length - j ∧ Ext noS G w GL1 W ∧ Pin.le G22 GL1 ∧ (j ≤ xs.length) ∧ (xs.length = ys.length) ∧ (∀ i, i < j → xs.getD i default = ys.getD i default)) _ ⟨_, 0, G22, (zF (x := 5) (zF (x := 3) (yF (x := 2) rfl) rfl) rfl), rfl, hX24, Pin.le_refl _, Nat.zero_le _, (by omega), (fun i hi => absurd hi (Nat.not_lt_zero i))⟩ ?_)
 rintro k28 _ w29 ⟨env1, j, GL1, rfl, hk30, hX31, hlek28, hj, heq, hp⟩
 refine zD (zD (zE ?_))
 refine qD rfl (zB (v := (.int .i64 (j : Int))) rfl) (qD rfl (zM (k := 0) rfl eV rfl nz36 rfl) (qD rfl (zP (u := u) ag36 rfl ((dI hX31.pins (dH hle23 hlek28)) _ _ _ (hbp12 0 _ rfl))) (qD rfl (run_len eU (v := u) rfl hu) (qD rfl (xB rfl rfl) (qe (zA ?_))))))
 refine yJ (p := ((j : Int) : Int) < (xs.length : Int)) rfl rfl (fun h32 => ?_) (fun h32 => ?_)
 refine wp_skip (zA (zD ?_))
 refine yI (zD (eH (fun (en : Nat → Value) (W : World) => ∃ (env1 : Nat → Value) (c33 : Nat) (c34 : Value) (c35 : Value) (c36 : Nat) (c37 : Value) (c38 : Value) (G39 : Pin), en = (upd (upd (upd (upd (upd env1 2 (.pointer (some ⟨b1, 0, none⟩))) 3 (.pointer (some ⟨b14, 0, none⟩))) 5 (.int .i64 (j : Int))) 6 (.pointer (some ⟨c33, 0, none⟩))) 7 (.pointer (some ⟨c36, 0, none⟩))) ∧ Ext noS G w G39 W ∧ Pin.le GL1 G39 ∧ (RSl eInt G39 c34 ((xs.getD j default).r)) ∧ (RSl eInt G39 c35 ((xs.getD j default).l)) ∧ (RSl eInt G39 c37 ((ys.getD j default).r)) ∧ (RSl eInt G39 c38 ((ys.getD j default).l)) ∧ (BxP G39 c33 [(.int .i64 ((xs.getD j default).a)), (.int .i64 ((xs.getD j default).b)), c34, c35]) ∧ (BxP G39 c36 [(.int .i64 ((ys.getD j default).a)), (.int .i64 ((ys.getD j default).b)), c37, c38])) ?_ ?_))
 ·rintro _ w40 ⟨env1, c33, c34, c35, c36, c37, c38, G39, rfl, hX47, hle48, hr41, hr42, hr43, hr44, hb45, hb46⟩
  refine zA (zD (zE ?_))
  refine qD rfl (zM (k := 0) rfl eS rfl nz3 rfl) (qD rfl (zP (u := (.int .i64 ((xs.getD j default).a))) ag3 rfl (hX47.pins _ _ _ (hb45 0 _ rfl))) (qD rfl (zM (k := 0) rfl eS rfl nz3 rfl) (qD rfl (zP (u := (.int .i64 ((ys.getD j default).a))) ag3 rfl (hX47.pins _ _ _ (hb46 0 _ rfl))) (qD rfl (kK rfl rfl) (qD rfl (zB (v := (.bool (decide (((xs.getD j default).a : Int) ≠ ((ys.getD j default).a))))) rfl) (qbd (p := ((xs.getD j default).a : Int) ≠ ((ys.getD j default).a)) (t := 37) rfl (fun h49 => ?_) (fun h49 => ?_)))))))
  refine qs rfl rfl rfl rfl rfl rfl (qs rfl rfl rfl rfl rfl rfl (qs rfl rfl rfl rfl rfl rfl (qs rfl rfl rfl rfl rfl rfl (qs rfl rfl rfl rfl rfl rfl (qD rfl (yG (v := (.bool true)) rfl rfl) (qD rfl (zB (v := (.bool true)) rfl) (qs rfl rfl rfl rfl rfl rfl (qs rfl rfl rfl rfl rfl rfl (qs rfl rfl rfl rfl rfl rfl (qs rfl rfl rfl rfl rfl rfl (qs rfl rfl rfl rfl rfl rfl (qs rfl rfl rfl rfl rfl rfl (qD rfl (yG (v := (.bool true)) rfl rfl) (qD rfl (zB (v := (.bool true)) rfl) (qs rfl rfl rfl rfl rfl rfl (qs rfl rfl rfl rfl rfl rfl (qs rfl rfl rfl rfl rfl rfl (qs rfl rfl rfl rfl rfl rfl (qs rfl rfl rfl rfl rfl rfl (qs rfl rfl rfl rfl rfl rfl (qD rfl (yG (v := (.bool true)) rfl rfl) (qe (zA ?_)))))))))))))))))))))))
  refine qC rfl rfl (zD (zE ?_))
  refine qD rfl (zC (v := (.bool false)) rfl) (qe (zA ?_))
  exact wp_ret (zQ (yA (v := (.bool false)) rfl rfl rfl (⟨_, congrArg (fun z => Ending.returned (Value.bool z)) (decide_eq_false (fun e => by subst e; first | omega | exact absurd rfl h49 | exact absurd h49 (by simp))).symm, hX47⟩)))
  refine qdg rfl rfl rfl rfl rfl rfl (zM (k := 1) rfl eS rfl nz3 rfl) (qdg rfl rfl rfl rfl rfl rfl (zP (u := (.int .i64 ((xs.getD j default).b))) ag3 rfl (hX47.pins _ _ _ (hb45 1 _ rfl))) (qdg rfl rfl rfl rfl rfl rfl (zM (k := 1) rfl eS rfl nz3 rfl) (qdg rfl rfl rfl rfl rfl rfl (zP (u := (.int .i64 ((ys.getD j default).b))) ag3 rfl (hX47.pins _ _ _ (hb46 1 _ rfl))) (qdg rfl rfl rfl rfl rfl rfl (kK rfl rfl) (qD rfl (yN (v := (.bool (decide (((xs.getD j default).b : Int) ≠ ((ys.getD j default).b))))) rfl rfl) (qD rfl (zB (v := (.bool (decide (((xs.getD j default).b : Int) ≠ ((ys.getD j default).b))))) rfl) (qbd (p := ((xs.getD j default).b : Int) ≠ ((ys.getD j default).b)) (t := 44) rfl (fun h50 => ?_) (fun h50 => ?_))))))))
  refine qs rfl rfl rfl rfl rfl rfl (qs rfl rfl rfl rfl rfl rfl (qs rfl rfl rfl rfl rfl rfl (qs rfl rfl rfl rfl rfl rfl (qs rfl rfl rfl rfl rfl rfl (qs rfl rfl rfl rfl rfl rfl (qD rfl (yG (v := (.bool true)) rfl rfl) (qD rfl (zB (v := (.bool true)) rfl) (qs rfl rfl rfl rfl rfl rfl (qs rfl rfl rfl rfl rfl rfl (qs rfl rfl rfl rfl rfl rfl (qs rfl rfl rfl rfl rfl rfl (qs rfl rfl rfl rfl rfl rfl (qs rfl rfl rfl rfl rfl rfl (qD rfl (yG (v := (.bool true)) rfl rfl) (qe (zA ?_))))))))))))))))
  refine qC rfl rfl (zD (zE ?_))
  refine qD rfl (zC (v := (.bool false)) rfl) (qe (zA ?_))
  exact wp_ret (zQ (yA (v := (.bool false)) rfl rfl rfl (⟨_, congrArg (fun z => Ending.returned (Value.bool z)) (decide_eq_false (fun e => by subst e; first | omega | exact absurd rfl h50 | exact absurd h50 (by simp))).symm, hX47⟩)))
  refine qdg rfl rfl rfl rfl rfl rfl (zM (k := 2) rfl eS rfl nz59 rfl) (qdg rfl rfl rfl rfl rfl rfl (zP (u := c34) ag59 rfl (hX47.pins _ _ _ (hb45 2 _ rfl))) (qdg rfl rfl rfl rfl rfl rfl (zM (k := 2) rfl eS rfl nz59 rfl) (qdg rfl rfl rfl rfl rfl rfl (zP (u := c37) ag59 rfl (hX47.pins _ _ _ (hb46 2 _ rfl))) (q1g rfl rfl rfl rfl rfl rfl (zK (vs := [c34, c37]) Tryz.func39 nm39 rfl rfl rfl ?_)))))
  refine dJ (mX hX47.pins hr41 hr43) ?_
  rintro _ w51 ⟨rfl, hx52⟩
  refine ⟨_, rfl, ?_⟩
  have hX53 := hX47.step hx52.pins hx52.below
  refine qdg rfl rfl rfl rfl rfl rfl (xT rfl) (qD rfl (yN (v := (.bool (!(decide (((xs.getD j default).r) = ((ys.getD j default).r)))))) rfl rfl) (qD rfl (zB (v := (.bool (!(decide (((xs.getD j default).r) = ((ys.getD j default).r)))))) rfl) (qbn (t := 52) rfl (fun h54 => ?_) (fun h54 => ?_))))
  replace h54 := of_decide_eq_true h54
  refine qdg rfl rfl rfl rfl rfl rfl (zM (k := 3) rfl eS rfl nz59 rfl) (qdg rfl rfl rfl rfl rfl rfl (zP (u := c35) ag59 rfl (hX53.pins _ _ _ (hb45 3 _ rfl))) (qdg rfl rfl rfl rfl rfl rfl (zM (k := 3) rfl eS rfl nz59 rfl) (qdg rfl rfl rfl rfl rfl rfl (zP (u := c38) ag59 rfl (hX53.pins _ _ _ (hb46 3 _ rfl))) (q1g rfl rfl rfl rfl rfl rfl (zK (vs := [c35, c38]) Tryz.func39 nm39 rfl rfl rfl ?_)))))
  refine dJ (mX hX53.pins hr42 hr44) ?_
  rintro _ w55 ⟨rfl, hx56⟩
  refine ⟨_, rfl, ?_⟩
  have hX57 := hX53.step hx56.pins hx56.below
  refine qdg rfl rfl rfl rfl rfl rfl (xT rfl) (qD rfl (yN (v := (.bool (!(decide (((xs.getD j default).l) = ((ys.getD j default).l)))))) rfl rfl) (qe (zA ?_)))
  refine xV rfl rfl (fun h58 => ?_) (fun h58 => ?_)
  replace h58 := of_decide_eq_true h58
  refine wp_skip (yO (zA (zE ?_)))
  refine qD rfl (zB (v := (.int .i64 (j : Int))) rfl) (qD rfl (yT rfl rfl (by omega)) (qD rfl (zC (v := (.int .i64 ((j : Int) + 1))) rfl) (qe (yR (⟨_, ?_, _, rfl, _, j + 1, G39, (zF (x := 5) (zF (x := 3) (yF (x := 2) rfl) rfl) rfl), rfl, hX57, (dH hlek28 hle48), (by omega), heq, (eqstepG hp (cl_ext (by first | exact h49 | exact Decidable.not_not.1 h49 | (simpa using h49)) (by first | exact h50 | exact Decidable.not_not.1 h50 | (simpa using h50)) (by first | exact h54 | exact Decidable.not_not.1 h54 | (simpa using h54)) (by first | exact h58 | exact Decidable.not_not.1 h58 | (simpa using h58))))⟩)))))
  omega
  replace h58 := of_decide_eq_false h58
  refine zD (zE ?_)
  refine qD rfl (zC (v := (.bool false)) rfl) (qe (zA ?_))
  exact wp_ret (zQ (yA (v := (.bool false)) rfl rfl rfl (⟨_, congrArg (fun z => Ending.returned (Value.bool z)) (decide_eq_false (fun e => by subst e; first | omega | exact absurd rfl h58 | exact absurd h58 (by simp))).symm, hX57⟩)))
  replace h54 := of_decide_eq_false h54
  refine qs rfl rfl rfl rfl rfl rfl (qs rfl rfl rfl rfl rfl rfl (qs rfl rfl rfl rfl rfl rfl (qs rfl rfl rfl rfl rfl rfl (qs rfl rfl rfl rfl rfl rfl (qs rfl rfl rfl rfl rfl rfl (qD rfl (yG (v := (.bool true)) rfl rfl) (qe (zA ?_))))))))
  refine qC rfl rfl (zD (zE ?_))
  refine qD rfl (zC (v := (.bool false)) rfl) (qe (zA ?_))
  exact wp_ret (zQ (yA (v := (.bool false)) rfl rfl rfl (⟨_, congrArg (fun z => Ending.returned (Value.bool z)) (decide_eq_false (fun e => by subst e; first | omega | exact absurd rfl h54 | exact absurd h54 (by simp))).symm, hX53⟩)))
 refine xD (S := fun wz => Pins GL1 wz) (last := 13) (by kernel_rfl) rfl ?_
 have hl59 := bdr w29
 have hX61 := hX31.step (hX31.pins.below hl59) hl59
 refine dT (i := 0) rfl rfl (by kernel_rfl) (fun _ _ => zM (k := 0) rfl eV rfl nz36 rfl) hX61.pins ?_
 refine dT (i := 1) rfl rfl (by kernel_rfl) (fun _ hS => zP (u := u) ag36 rfl ((dI hS (dH hle23 hlek28)) _ _ _ (hbp12 0 _ rfl))) hX61.pins ?_
 refine dT (i := 2) rfl rfl (by kernel_rfl) (fun _ _ => zB (v := (.int .i64 (j : Int))) rfl) hX61.pins ?_
 refine dT (i := 3) rfl rfl (by kernel_rfl) (fun _ _ => zL eU sz72 (v := u) rfl rfl hu (by omega) (by omega)) hX61.pins ?_
 obtain ⟨cs62, hrep63, hagg64, hcell65⟩ := qO (j := j) default (hu.at (z := (j : Int)) (by omega) (by omega)) rfl
 obtain ⟨u66, u68, rfl, hr67, hr69⟩ := hrep63
 have hm70 := hr67.max
 have hm71 := hr69.max
 refine dT (i := 4) rfl rfl (by kernel_rfl) (fun _ hS => hagg64 ag72 sz72 rfl (dI hS (dH (dH hle10 hle23) hlek28))) hX61.pins ?_
 refine dT (i := 5) rfl rfl (by kernel_rfl) (fun _ _ => zM (k := 0) rfl eV rfl nz36 rfl) hX61.pins ?_
 refine dT (i := 6) rfl rfl (by kernel_rfl) (fun _ hS => zP (u := v) ag36 rfl ((dI hS hlek28) _ _ _ (hbp25 0 _ rfl))) hX61.pins ?_
 refine dT (i := 7) rfl rfl (by kernel_rfl) (fun _ _ => zB (v := (.int .i64 (j : Int))) rfl) hX61.pins ?_
 refine dT (i := 8) rfl rfl (by kernel_rfl) (fun _ _ => zL eU sz72 (v := v) rfl rfl hv (by omega) (by omega)) hX61.pins ?_
 obtain ⟨cs72, hrep73, hagg74, hcell75⟩ := qO (j := j) default (hv.at (z := (j : Int)) (by omega) (by omega)) rfl
 obtain ⟨u76, u78, rfl, hr77, hr79⟩ := hrep73
 have hm80 := hr77.max
 have hm81 := hr79.max
 refine dT (i := 9) rfl rfl (by kernel_rfl) (fun _ hS => hagg74 ag72 sz72 rfl (dI hS (dH (dH hle10 hle23) hlek28))) hX61.pins ?_
 refine jI (i := 10) (j := 11) (by kernel_rfl) ?_ ?_
 refine (yC (i := 10) rfl rfl rfl (zH rfl _) (yL [(.int .i64 0), (.int .i64 0), (.slice none 0 0), (.slice none 0 0)] zr72 rfl hX61.pins (fun b82 w83 hk84 hb85 hp86 hl87 => ?_)))
 have hX88 := hX61.step hp86 hl87
 have hlo89 : w.heap.size ≤ b82 := by have := hX61.size; omega
 refine ⟨fun _ => hX88.pins, ?_⟩
 refine zR (i := 11) (by kernel_rfl) (yC (i := 11) rfl rfl rfl (zH rfl _) (yL [(.int .i64 0), (.int .i64 0), (.slice none 0 0), (.slice none 0 0)] zr72 rfl hX88.pins (fun b90 w91 hk92 hb93 hp94 hl95 => ?_)))
 have hX96 := hX88.step hp94 hl95
 have ha98 : Apart (some b90) (some b82) := zG (congrArg some hk92) hb85.lt
 have hlo99 : w.heap.size ≤ b90 := by have := hX88.size; omega
 refine ⟨fun _ => hX96.pins, ?_⟩
 refine zR (i := 12) (by kernel_rfl) (xQ (i := 12) rfl rfl rfl (zH rfl _) (yD (cs' := [(.int .i64 ((xs.getD j default).a)), (.int .i64 ((xs.getD j default).b)), u66, u68]) (us := [(.int .i64 ((xs.getD j default).a)), (.int .i64 ((xs.getD j default).b)), u66, u68]) (v := (.agg [(.int .i64 ((xs.getD j default).a)), (.int .i64 ((xs.getD j default).b)), u66, u68].toArray)) sz72 rfl rfl rfl (jB (by rfl) (by rfl) hr67.one hr69.one) hX96.pins (hb85.below hl95) (dK rfl) rfl (fun w100 hb101 hp102 hg103 hz104 => ?_)))
 obtain ⟨G107, hle108, hX109, hbp110, hf111⟩ := hb101.shut (hX96.write hp102 hg103 ((zS hlo89))) hlo89
 refine ⟨fun _ => (dI hX109.pins hle108), ?_⟩
 refine zR (i := 13) (by kernel_rfl) (xQ (i := 13) rfl rfl rfl (zH rfl _) (yD (cs' := [(.int .i64 ((ys.getD j default).a)), (.int .i64 ((ys.getD j default).b)), u76, u78]) (us := [(.int .i64 ((ys.getD j default).a)), (.int .i64 ((ys.getD j default).b)), u76, u78]) (v := (.agg [(.int .i64 ((ys.getD j default).a)), (.int .i64 ((ys.getD j default).b)), u76, u78].toArray)) sz72 rfl rfl rfl (jB (by rfl) (by rfl) hr77.one hr79.one) hX109.pins ((hb93.keptA hg103 ha98).moreA hf111 ha98) (dK rfl) rfl (fun w113 hb114 hp115 hg116 hz117 => ?_)))
 obtain ⟨G119, hle120, hX121, hbp122, hf123⟩ := hb114.shut (hX109.write hp115 hg116 ((zS hlo99))) hlo99
 refine ⟨fun h => absurd rfl h, ?_⟩
 exact yP (by kernel_rfl) (qS ⟨_, b82, u66, u68, b90, u76, u78, G119, (zF (x := 7) (zF (x := 6) (zF (x := 5) (zF (x := 3) (yF (x := 2) rfl) rfl) rfl) rfl) rfl), hX121, (dH hle108 hle120), (hr67.mono (dH (dH (dH (dH hle10 hle23) hlek28) hle108) hle120)), (hr69.mono (dH (dH (dH (dH hle10 hle23) hlek28) hle108) hle120)), (hr77.mono (dH (dH (dH (dH hle10 hle23) hlek28) hle108) hle120)), (hr79.mono (dH (dH (dH (dH hle10 hle23) hlek28) hle108) hle120)), (hbp110.mono hle120), (hbp122.mono (Pin.le_refl _))⟩)
 refine (yC (i := 11) rfl rfl rfl (zH rfl _) (yL [(.int .i64 0), (.int .i64 0), (.slice none 0 0), (.slice none 0 0)] zr72 rfl hX61.pins (fun b124 w125 hk126 hb127 hp128 hl129 => ?_)))
 have hX130 := hX61.step hp128 hl129
 have hlo131 : w.heap.size ≤ b124 := by have := hX61.size; omega
 refine ⟨fun _ => hX130.pins, ?_⟩
 refine zR (i := 10) (by kernel_rfl) (yC (i := 10) rfl rfl rfl (zH rfl _) (yL [(.int .i64 0), (.int .i64 0), (.slice none 0 0), (.slice none 0 0)] zr72 rfl hX130.pins (fun b132 w133 hk134 hb135 hp136 hl137 => ?_)))
 have hX138 := hX130.step hp136 hl137
 have ha140 : Apart (some b132) (some b124) := zG (congrArg some hk134) hb127.lt
 have hlo141 : w.heap.size ≤ b132 := by have := hX130.size; omega
 refine ⟨fun _ => hX138.pins, ?_⟩
 refine zR (i := 12) (by kernel_rfl) (xQ (i := 12) rfl rfl rfl (zH rfl _) (yD (cs' := [(.int .i64 ((xs.getD j default).a)), (.int .i64 ((xs.getD j default).b)), u66, u68]) (us := [(.int .i64 ((xs.getD j default).a)), (.int .i64 ((xs.getD j default).b)), u66, u68]) (v := (.agg [(.int .i64 ((xs.getD j default).a)), (.int .i64 ((xs.getD j default).b)), u66, u68].toArray)) sz72 rfl rfl rfl (jB (by rfl) (by rfl) hr67.one hr69.one) hX138.pins hb135 (dK rfl) rfl (fun w142 hb143 hp144 hg145 hz146 => ?_)))
 obtain ⟨G149, hle150, hX151, hbp152, hf153⟩ := hb143.shut (hX138.write hp144 hg145 ((zS hlo141))) hlo141
 refine ⟨fun _ => (dI hX151.pins hle150), ?_⟩
 refine zR (i := 13) (by kernel_rfl) (xQ (i := 13) rfl rfl rfl (zH rfl _) (yD (cs' := [(.int .i64 ((ys.getD j default).a)), (.int .i64 ((ys.getD j default).b)), u76, u78]) (us := [(.int .i64 ((ys.getD j default).a)), (.int .i64 ((ys.getD j default).b)), u76, u78]) (v := (.agg [(.int .i64 ((ys.getD j default).a)), (.int .i64 ((ys.getD j default).b)), u76, u78].toArray)) sz72 rfl rfl rfl (jB (by rfl) (by rfl) hr77.one hr79.one) hX151.pins (((hb127.below hl137).keptA hg145 ha140.symm).moreA hf153 ha140.symm) (dK rfl) rfl (fun w155 hb156 hp157 hg158 hz159 => ?_)))
 obtain ⟨G161, hle162, hX163, hbp164, hf165⟩ := hb156.shut (hX151.write hp157 hg158 ((zS hlo131))) hlo131
 refine ⟨fun h => absurd rfl h, ?_⟩
 exact yP (by kernel_rfl) (qS ⟨_, b132, u66, u68, b124, u76, u78, G161, (zF (x := 7) (zF (x := 6) (zF (x := 5) (zF (x := 3) (yF (x := 2) rfl) rfl) rfl) rfl) rfl), hX163, (dH hle150 hle162), (hr67.mono (dH (dH (dH (dH hle10 hle23) hlek28) hle150) hle162)), (hr69.mono (dH (dH (dH (dH hle10 hle23) hlek28) hle150) hle162)), (hr77.mono (dH (dH (dH (dH hle10 hle23) hlek28) hle150) hle162)), (hr79.mono (dH (dH (dH (dH hle10 hle23) hlek28) hle150) hle162)), (hbp152.mono hle162), (hbp164.mono (Pin.le_refl _))⟩)
 refine wp_exit (yK (yU (yV (zA (zD (zE ?_))))))
 refine qD rfl (zC (v := (.bool true)) rfl) (qe (zA ?_))
 exact wp_ret (zQ (yA (v := (.bool true)) rfl rfl rfl (⟨_, congrArg (fun z => Ending.returned (Value.bool z)) (decide_eq_true (eqdoneG heq (by omega) hp)).symm, hX31⟩)))
end LX2
end Go.Proofs.YtajkbplgbikgdaaGreatDoor
namespace Go.Proofs.YtajkbplgbikgdaaGreatDoor
namespace PT1
open Go.RowKit Go.GL Go.Proofs
theorem mk3 : (Tryz.prog.info? 3).map (fun i => (i.size, i.bytes, i.zero)) = some (1, 8, some (.int .i64 0)) := by kernel_rfl
def TabW (w : World) : Prop := Lib.TabIs Tryz.prog w "internal/strconv.uint64pow10" .u64 Lib.pow10Tab
variable {G : Pin} {v : Value}
theorem TabW.keep {w w' : World} {G' : Pin} (h : TabW w) (hx : Ext noS G w G' w') : TabW w' := by
 unfold TabW Lib.TabIs World.var? at h ⊢
 cases hg : Tryz.prog.globalNamed "internal/strconv.uint64pow10" with
 | none => rw [hg] at h; cases h
 | some g =>
  rw [hg] at h
  simp only [Option.bind_some] at h ⊢
  cases hc : w.heap[g]? with
  | none => rw [hc] at h; cases h
  | some o =>
   have hlt : g < w.heap.size := (Array.getElem?_eq_some_iff.1 hc).1
   rw [hx.block g hlt id, hc]
   rw [hc] at h
   exact h
theorem gH {w : World} {n : Int} (hP : Pins G w) (hT : TabW w) (hn : -9223372036854775808 ≤ n ∧ n ≤ 9223372036854775807) :
  Calls Tryz.prog 46 [.int .i64 n].toArray w fun e w' => ∃ G', e = .returned (.string (numT n)) ∧ Ext noS G w G' w' := by
 refine (Tryz.strconv_Itoa n hn.1 hn.2 w hT).mono ?_
 rintro e w' ⟨rfl, k, os, rfl⟩
 exact ⟨G, rfl, (Ext.refl hP).step (hP.below (mF w k os)) (mF w k os)⟩
theorem sW {w : World} {xs : List ByteArray} {c : UInt8} (hP : Pins G w) (hv : RSl eStr G v xs) (hs : (joinC c xs).size ≤ 140737488355328 ∧ xs.length ≤ 1048576) :
  Calls Tryz.prog 48 [v, .string (⟨#[c]⟩ : ByteArray)].toArray w fun e w' => e = .returned (.string (joinC c xs)) ∧ Ext noS G w G w' := by
 have hX := exr noS hP
 match xs, hv, hs with
 | [], hv, _ =>
  obtain ⟨a, k, rfl, _⟩ := hv.sl
  refine (Tryz.strings_Join_none a k _ w).mono ?_
  rintro e w' ⟨rfl, rfl⟩
  exact ⟨by rw [vW], hX⟩
 | x :: r, hv, hs =>
  obtain ⟨b, o, k, rfl, hc, hb, hcells⟩ := hv.strs hP (by simp)
  refine (Tryz.strings_Join b o k (x :: r) _ w hcells hb (by omega) hc ?_).mono ?_
  ·have := hs.1
   unfold joinC at this
   simpa [ByteArray.size] using this
  ·rintro e w' ⟨rfl, hbl⟩
   exact ⟨rfl, hX.step (hP.below hbl) hbl⟩
theorem fA {w : World} {xs : List Int} (hP : Pins G w) (hT : TabW w) (hv : RSl eInt G v xs) (hb : NumsOk xs) (hl : xs.length ≤ 5000) :
  Calls Tryz.prog 47 [v].toArray w fun e w' => ∃ G', e = .returned (.string (numsT xs)) ∧ Ext noS G w G' w' := by
 refine yM (n := 21) Tryz.func47 Tryz.ntmps47 rfl rfl ?_
 have hX0 := exr noS hP
 have hm := hv.max
 have hnl := jR hb
 refine zD (zE ?_)
 refine qD rfl (zC (v := (.string (⟨#[]⟩ : ByteArray))) rfl) (qe (zA (zD (zE ?_))))
 refine qI rfl (xF (E := eStr) (e := 9) eZ sz9 hX0.pins (fun u1 w2 ho3 hp4 hl5 hk6 => ?_))
 have ho8 := ho3.weaken hX0.size
 refine qD rfl (zC (v := u1) rfl) (qe (zA (zD (zD (zE ?_)))))
 refine qD rfl (zB (v := v) rfl) (qD rfl (run_len eR (v := v) rfl hv) (qD rfl (zB (v := (.int .i64 0)) rfl) (qe (zA ?_))))
 refine yI (yZ (fun (k : Nat) (en : Nat → Value) (W : World) => ∃ (env1 : Nat → Value) (j : Nat) (ov : Value) (os : List ByteArray) (GL1 : Pin), en = (upd (upd (upd (upd (upd env1 2 (.string (⟨#[]⟩ : ByteArray))) 3 ov) 7 v) 8 (.int .i64 (xs.length : Int))) 9 (.int .i64 (j : Int))) ∧ k = xs.length - j ∧ Ext noS G w GL1 W ∧ Pin.le G GL1 ∧ (j ≤ xs.length) ∧ (os = (xs.take j).map numT) ∧ (os.length = j) ∧ (Own eStr 9 GL1 W w.heap.size ov (os))) _ ⟨_, 0, u1, [], G, (zF (x := 9) (zF (x := 8) (zF (x := 7) (zF (x := 3) (yF (x := 2) rfl) rfl) rfl) rfl) rfl), rfl, (hX0.step hp4 hl5), Pin.le_refl _, Nat.zero_le _, rfl, rfl, ho8⟩ ?_)
 rintro k9 _ w10 ⟨env1, j, ov, os, GL1, rfl, hk11, hX12, hlek9, hj, hos, hol, hw13⟩
 refine zD (zE ?_)
 refine qD rfl (xB rfl rfl) (qe (zA (zD ?_)))
 refine yJ (p := ((j : Int) : Int) < (xs.length : Int)) rfl rfl (fun h14 => ?_) (fun h14 => ?_)
 have hxj := nums_at hb (j := j) (by omega)
 refine wp_skip (zA (zD ?_))
 refine yI (zD (zE ?_))
 refine qD rfl (zL eR sz3 (v := v) rfl rfl hv (by omega) (by omega)) (qD rfl (zZ (r := xs.getD j 0) rfl ag3 (z := (j : Int)) rfl hv (dI hX12.pins hlek9) (by omega) (by omega)) (qD rfl (zC (v := (.int .i64 (xs.getD j 0))) rfl) (qe (zA (zE ?_)))))
 refine qD rfl (zB (v := ov) rfl) (qD rfl (zB (v := (.int .i64 (xs.getD j 0))) rfl) (qI rfl (zK (vs := [(.int .i64 (xs.getD j 0))]) Tryz.func46 nm46 rfl rfl rfl ?_)))
 refine dJ (gH (n := (xs.getD j 0)) hX12.pins (hT.keep hX12) (by omega)) ?_
 rintro _ w16 ⟨G15, rfl, hx17⟩
 refine ⟨_, rfl, ?_⟩
 have hX18 := hX12.tr hx17
 refine qI rfl (xI (E := eStr) (e := 9) [(.string (numT (xs.getD j 0)))] [numT (xs.getD j 0)] eZ sz9 zr9 (by exact qQ (by rfl)) (yE (by rfl)) rfl rfl rfl rfl (by decide) hX18.pins (fun u20 w21 ho22 hp23 hl24 hk25 => ?_))
 have hX26 := hX18.step hp23 hl24
 have ho27 := (hw13.ext hx17).below hl24
 have ho29 := ho22.weaken hX18.size
 refine qI rfl (yH (E := eStr) (v := ov) (u := u20) 16 eZ ap9 (by decide) rfl rfl hX26.pins ho27 ho29.src (by first | omega | (rw [List.nil_append]; omega) | (rw [List.length_nil]; omega) | (rw [List.length_append]; omega) | (simp; done) | (simp; omega) | (simp only [List.length_cons, List.length_nil]; omega) | (simp only [List.length_append, List.length_cons, List.length_nil]; omega)) (by first | omega | (rw [List.nil_append]; omega) | (rw [List.length_nil]; omega) | (rw [List.length_append]; omega) | (simp; done) | (simp; omega) | (simp only [List.length_cons, List.length_nil]; omega) | (simp only [List.length_append, List.length_cons, List.length_nil]; omega)) (hX26.size) (fun u30 w31 ho32 hp33 hg34 hw35 => ?_))
 have hm39 := la1 os (numT (xs.getD j 0))
 refine qD rfl (zC (v := u30) rfl) (qe (yO (zA (zE ?_))))
 refine qD rfl (yT rfl rfl (by omega)) (qD rfl (zB (v := (.int .i64 ((j : Int) + 1))) rfl) (qe (yR (⟨_, ?_, _, rfl, _, j + 1, u30, os ++ ([numT (xs.getD j 0)]), G15, (zF (x := 9) (zF (x := 8) (zF (x := 7) (zF (x := 3) (yF (x := 2) rfl) rfl) rfl) rfl) rfl), rfl, (hX26.write hp33 hg34 ((yQ ho27))), (dH hlek9 hx17.le), (by omega), (by rw [words_next (by omega), hos]), (by simp [hol]), ho32⟩))))
 omega
 refine wp_exit (yK (yU (yV (zA (zD (zE ?_))))))
 have hnt : joinC 44 os = numsT xs := by rw [hos, show j = xs.length by omega, List.take_length]; rfl
 refine qD rfl (zB (v := ov) rfl) ?_
 obtain ⟨G40, hle43, hX42, hr41, hf44⟩ := hw13.sealed hX12
 refine qI rfl (zK (vs := [ov, (.string (⟨#[44]⟩ : ByteArray))]) Tryz.func48 nm48 rfl rfl rfl ?_)
 refine dJ (sW (c := 44) hX42.pins hr41 (by rw [hnt]; exact ⟨by omega, by omega⟩)) ?_
 rintro _ w45 ⟨rfl, hx46⟩
 refine ⟨_, rfl, ?_⟩
 refine qD rfl (zC (v := (.string (joinC 44 os))) rfl) (qe (zA ?_))
 exact wp_ret (zQ (yA (v := (.string (joinC 44 os))) rfl rfl rfl (⟨_, congrArg (fun z => Ending.returned (Value.string z)) hnt, (hX42.step hx46.pins hx46.below)⟩)))
theorem usesT_spec {w : World} {ps : List Cl} (hP : Pins G w) (hv : RSl eClaim G v ps) (hlb : LenB ps) :
  Calls Tryz.prog 45 [(.agg [v].toArray)].toArray w fun e w' => ∃ (u : Value) (us : List Int) (ok : Bool) (G' : Pin), e = .returned (.tuple #[u, .bool ok]) ∧ RSl eInt G' u us ∧ (ok = true ↔ ShapeP ps) ∧ Ext noS G w G' w' := by
 refine yM (n := 60) Tryz.func45 Tryz.ntmps45 rfl rfl ?_
 have hX0 := exr noS hP
 have hm := hv.max
 refine zD (zE ?_)
 refine qI rfl (xX [v] (v := (.agg [v].toArray)) rfl rfl hX0.pins (fun b1 w2 hk3 hb4 hp5 hl6 => ?_))
 have hlo8 : w.heap.size ≤ b1 := by have := hX0.size; omega
 obtain ⟨G9, hle10, hX11, hbp12, hf13⟩ := hb4.shut (hX0.step hp5 hl6) hlo8
 refine qD rfl (zC (v := (.slice none 0 0)) rfl) (qD rfl (zC (v := (.bool false)) rfl) (qe (zA (zD (zD (zE ?_))))))
 refine qD rfl (zM (k := 0) rfl eV rfl nz36 rfl) (qD rfl (zP (u := v) ag36 rfl (hX11.pins _ _ _ (hbp12 0 _ rfl))) (qD rfl (run_len eU (v := v) rfl hv) (qD rfl (qV rfl rfl) (qe (zA ?_)))))
 refine yJ (p := (200 : Int) < (ps.length : Int)) rfl rfl (fun h14 => ?_) (fun h14 => ?_)
 refine zD (zE ?_)
 refine qI rfl (xF (E := eInt) (e := 3) eR sz3 hX11.pins (fun u15 w16 ho17 hp18 hl19 hk20 => ?_))
 have ho22 := ho17.weaken hX11.size
 refine qD rfl (zC (v := u15) rfl) (qD rfl (zC (v := (.bool false)) rfl) (qe (zA ?_)))
 refine wp_ret (zQ (xG (v := u15) (u := (.bool false)) rfl rfl rfl rfl rfl ?_))
 obtain ⟨G23, hle26, hX25, hr24, hf27⟩ := ho22.sealed (hX11.step hp18 hl19)
 exact ⟨_, _, _, _, rfl, hr24, ⟨(fun k => by cases k), (fun g => absurd g (fun g => absurd g.len (by omega)))⟩, hX25⟩
 refine wp_skip (zA (zD (zE ?_)))
 refine qD rfl (zM (k := 0) rfl eV rfl nz36 rfl) (qD rfl (zP (u := v) ag36 rfl (hX11.pins _ _ _ (hbp12 0 _ rfl))) (qD rfl (run_len eU (v := v) rfl hv) (qI rfl (rA (E := eInt) 0 8 (.int .i64 0) eR mk3 (fun _ => rfl) rfl rfl hX11.pins (by omega) (by omega) (by omega) (fun u28 w29 ho30 hp31 hl32 hk33 => ?_)))))
 have hX34 := hX11.step hp31 hl32
 have ho35 : Own eInt 3 G9 w29 w.heap.size u28 (List.replicate ps.length 0) := ho30.weaken hX11.size
 have hm36 : (List.replicate ps.length 0).length = ps.length := List.length_replicate ..
 refine qD rfl (zC (v := u28) rfl) (qe (zA (zD (zD (zE ?_)))))
 refine qD rfl (zM (k := 0) rfl eV rfl nz36 rfl) (qD rfl (zP (u := v) ag36 rfl (hX34.pins _ _ _ (hbp12 0 _ rfl))) (qD rfl (run_len eU (v := v) rfl hv) (qD rfl (zB (v := (.int .i64 0)) rfl) (qe (zA ?_)))))
 refine yI (yZ (fun (k : Nat) (en : Nat → Value) (W : World) => ∃ (env1 : Nat → Value) (kc : Nat) (us : List Int) (GL1 : Pin), en = (upd (upd (upd (upd env1 4 u28) 21 v) 22 (.int .i64 (ps.length : Int))) 23 (.int .i64 (kc : Int))) ∧ k = ps.length - kc ∧ Ext noS G w GL1 W ∧ Pin.le G9 GL1 ∧ (kc ≤ ps.length) ∧ (us.length = ps.length) ∧ (∀ m : Nat, 0 ≤ us.getD m 0 ∧ us.getD m 0 ≤ 10000 * (kc : Int)) ∧ (∀ j, j < kc → RowIn ps j) ∧ (Own eInt 3 GL1 W w.heap.size u28 (us))) _ ⟨_, 0, List.replicate ps.length 0, G9, (zF (x := 23) (zF (x := 22) (zF (x := 21) (yF (x := 4) rfl) rfl) rfl) rfl), rfl, hX34, Pin.le_refl _, Nat.zero_le _, (by simp), (rep_bd _), (fun j hj => absurd hj (Nat.not_lt_zero j)), ho35⟩ ?_)
 rintro k37 _ w38 ⟨env1, kc, us, GL1, rfl, hk39, hX40, hlek37, hk, hul, hbd, hrk, hw41⟩
 refine zD (zE ?_)
 refine qD rfl (xB rfl rfl) (qe (zA (zD ?_)))
 refine yJ (p := ((kc : Int) : Int) < (ps.length : Int)) rfl rfl (fun h42 => ?_) (fun h42 => ?_)
 have hso := hlb kc (by omega)
 refine wp_skip (zA (zD ?_))
 refine yI (zD (zE ?_))
 refine qD rfl (zB (v := (.int .i64 (kc : Int))) rfl) (qD rfl (zL eU sz72 (v := v) rfl rfl hv (by omega) (by omega)) ?_)
 obtain ⟨cs43, hrep44, hagg45, hcell46⟩ := qO (j := kc) default (hv.at (z := (kc : Int)) (by omega) (by omega)) rfl
 obtain ⟨u47, u49, rfl, hr48, hr50⟩ := hrep44
 have hm51 := hr48.max
 have hm52 := hr50.max
 refine qD rfl (hagg45 ag72 sz72 rfl (dI hX40.pins (dH hle10 hlek37))) (qI rfl (yL [(.int .i64 0), (.int .i64 0), (.slice none 0 0), (.slice none 0 0)] zr72 rfl hX40.pins (fun b53 w54 hk55 hb56 hp57 hl58 => ?_)))
 have hX59 := hX40.step hp57 hl58
 have ha61 : Apart (some b53) u28.ownBlock := zI (congrArg some hk55) hw41.lt
 have hlo62 : w.heap.size ≤ b53 := by have := hX40.size; omega
 refine qD rfl (zC (v := (.int .i64 (kc : Int))) rfl) (q0 rfl rfl rfl (yD (cs' := [(.int .i64 ((ps.getD kc default).a)), (.int .i64 ((ps.getD kc default).b)), u47, u49]) (us := [(.int .i64 ((ps.getD kc default).a)), (.int .i64 ((ps.getD kc default).b)), u47, u49]) (v := (.agg [(.int .i64 ((ps.getD kc default).a)), (.int .i64 ((ps.getD kc default).b)), u47, u49].toArray)) sz72 rfl rfl rfl (jB (by rfl) (by rfl) hr48.one hr50.one) hX59.pins hb56 (dK rfl) rfl (fun w63 hb64 hp65 hg66 hz67 => ?_)))
 obtain ⟨G70, hle71, hX72, hbp73, hf74⟩ := hb64.shut (hX59.write hp65 hg66 ((zS hlo62))) hlo62
 refine qe (zA (zD (zE ?_)))
 refine qD rfl (zM (k := 2) rfl eS rfl nz59 rfl) (qD rfl (zP (u := u47) ag59 rfl (hX72.pins _ _ _ (hbp73 2 _ rfl))) (qD rfl (zM (k := 3) rfl eS rfl nz59 rfl) (qD rfl (zP (u := u49) ag59 rfl (hX72.pins _ _ _ (hbp73 3 _ rfl))) (qD rfl (r_buildA (m := 1) [(.slice none 0 0), (.slice none 0 0)] [u47, u49] [(0, u47, [u47]), (1, u49, [u49])] Tryz.underlying129 zr129 rfl sz59 rfl (List.forall_mem_cons.2 ⟨(yW hr48.one), (List.forall_mem_cons.2 ⟨(yW hr50.one), (fun _ h => by cases h)⟩)⟩) rfl) (qD rfl (zB (v := (.int .i64 0)) rfl) (qe (zA ?_)))))))
 refine yI (yZ (fun (k : Nat) (en : Nat → Value) (W : World) => ∃ (env1 : Nat → Value) (h : Nat) (us2 : List Int) (GL2 : Pin), en = (upd (upd (upd (upd (upd (upd (upd env1 4 u28) 5 (.int .i64 (kc : Int))) 21 v) 22 (.int .i64 (ps.length : Int))) 23 (.int .i64 (kc : Int))) 32 (.agg [u47, u49].toArray)) 33 (.int .i64 (h : Int))) ∧ k = 2 - h ∧ Ext noS G w GL2 W ∧ Pin.le G70 GL2 ∧ (h ≤ 2) ∧ (us2.length = ps.length) ∧ (∀ m : Nat, 0 ≤ us2.getD m 0 ∧ us2.getD m 0 ≤ 10000 * (kc : Int) + 5000 * (h : Int)) ∧ (∀ s, s < h → InK kc (pick2 s (ps.getD kc default).r (ps.getD kc default).l)) ∧ (Own eInt 3 GL2 W w.heap.size u28 (us2))) _ ⟨_, 0, us, G70, (zF (x := 33) (zF (x := 32) (zF (x := 23) (zF (x := 22) (zF (x := 21) (zF (x := 5) (yF (x := 4) rfl) rfl) rfl) rfl) rfl) rfl) rfl), rfl, hX72, Pin.le_refl _, Nat.zero_le _, hul, (bd_le hbd (by omega)), (fun s hs => absurd hs (Nat.not_lt_zero s)), (((hw41.below hl58).keptA hg66 ha61.symm).moreA hle71 hf74 ha61.symm)⟩ ?_)
 rintro k76 _ w77 ⟨env1, h, us2, GL2, rfl, hk78, hX79, hlek76, hh, hul2, hbd2, hin2, hw80⟩
 refine zD (zE ?_)
 refine qD rfl (xB rfl rfl) (qe (zA (zD ?_)))
 refine yJ (p := ((h : Int) : Int) < 2) rfl rfl (fun h81 => ?_) (fun h81 => ?_)
 refine wp_skip (zA (zD ?_))
 refine yI (zD (zE ?_))
 obtain ⟨u82, hr83, hl84⟩ := name_index2 (hr48.mono (dH (dH (dH hle10 hlek37) hle71) hlek76)) (hr50.mono (dH (dH (dH hle10 hlek37) hle71) hlek76)) (z := (h : Int)) h (by omega) (by omega) rfl
 have hm85 := hr83.max
 refine qD rfl (hl84 Tryz.underlying129 rfl sz59 ag59 rfl rfl) (qD rfl (zC (v := u82) rfl) (qe (zA (zD (zE ?_)))))
 refine qD rfl (zB (v := u82) rfl) (qD rfl (run_len eR (v := u82) rfl hr83) (qD rfl (zB (v := (.int .i64 0)) rfl) (qe (zA ?_))))
 refine yI (yZ (fun (k : Nat) (en : Nat → Value) (W : World) => ∃ (env1 : Nat → Value) (q : Nat) (us3 : List Int) (GL3 : Pin), en = (upd (upd (upd (upd (upd (upd (upd (upd (upd (upd env1 4 u28) 5 (.int .i64 (kc : Int))) 21 v) 22 (.int .i64 (ps.length : Int))) 23 (.int .i64 (kc : Int))) 32 (.agg [u47, u49].toArray)) 33 (.int .i64 (h : Int))) 36 u82) 37 (.int .i64 ((pick2 h ((ps.getD kc default).r) ((ps.getD kc default).l)).length : Int))) 38 (.int .i64 (q : Int))) ∧ k = (pick2 h (ps.getD kc default).r (ps.getD kc default).l).length - q ∧ Ext noS G w GL3 W ∧ Pin.le GL2 GL3 ∧ (q ≤ (pick2 h (ps.getD kc default).r (ps.getD kc default).l).length) ∧ (us3.length = ps.length) ∧ (∀ m : Nat, 0 ≤ us3.getD m 0 ∧ us3.getD m 0 ≤ 10000 * (kc : Int) + 5000 * (h : Int) + (q : Int)) ∧ (∀ j, j < q → 0 ≤ (pick2 h (ps.getD kc default).r (ps.getD kc default).l).getD j 0 ∧ (pick2 h (ps.getD kc default).r (ps.getD kc default).l).getD j 0 < (kc : Int)) ∧ (Own eInt 3 GL3 W w.heap.size u28 (us3))) _ ⟨_, 0, us2, GL2, (zF (x := 38) (zF (x := 37) (zF (x := 36) (zF (x := 33) (zF (x := 32) (zF (x := 23) (zF (x := 22) (zF (x := 21) (zF (x := 5) (yF (x := 4) rfl) rfl) rfl) rfl) rfl) rfl) rfl) rfl) rfl) rfl), rfl, hX79, Pin.le_refl _, Nat.zero_le _, hul2, (bd_le hbd2 (by omega)), (fun j hj => absurd hj (Nat.not_lt_zero j)), hw80⟩ ?_)
 rintro k86 _ w87 ⟨env1, q, us3, GL3, rfl, hk88, hX89, hlek86, hq, hul3, hbd3, hin3, hw90⟩
 have hp24 : (pick2 h (ps.getD kc default).r (ps.getD kc default).l).length ≤ 5000 := pick2_le hso.1 hso.2
 refine zD (zE ?_)
 refine qD rfl (xB rfl rfl) (qe (zA (zD ?_)))
 refine yJ (p := ((q : Int) : Int) < ((pick2 h ((ps.getD kc default).r) ((ps.getD kc default).l)).length : Int)) rfl rfl (fun h91 => ?_) (fun h91 => ?_)
 have hbq := hbd3 ((pick2 h (ps.getD kc default).r (ps.getD kc default).l).getD q 0).toNat
 refine wp_skip (zA (zD ?_))
 refine yI (zD (zE ?_))
 refine qD rfl (zL eR sz3 (v := u82) rfl rfl hr83 (by omega) (by omega)) (qD rfl (zZ (r := (pick2 h ((ps.getD kc default).r) ((ps.getD kc default).l)).getD q 0) rfl ag3 (z := (q : Int)) rfl hr83 (dI hX89.pins hlek86) (by omega) (by omega)) (qD rfl (zC (v := (.int .i64 ((pick2 h ((ps.getD kc default).r) ((ps.getD kc default).l)).getD q 0))) rfl) (qe (zA (zD (zD (zE ?_)))))))
 refine qD rfl (zB (v := (.int .i64 ((pick2 h ((ps.getD kc default).r) ((ps.getD kc default).l)).getD q 0))) rfl) (qD rfl (xB rfl rfl) (qD rfl (zB (v := (.bool (decide (((pick2 h ((ps.getD kc default).r) ((ps.getD kc default).l)).getD q 0 : Int) < 0)))) rfl) (qbd (p := ((pick2 h ((ps.getD kc default).r) ((ps.getD kc default).l)).getD q 0 : Int) < 0) (t := 44) rfl (fun h92 => ?_) (fun h92 => ?_))))
 refine qs rfl rfl rfl rfl rfl rfl (qs rfl rfl rfl rfl rfl rfl (qs rfl rfl rfl rfl rfl rfl (qD rfl (yG (v := (.bool true)) rfl rfl) (qe (zA ?_)))))
 refine qC rfl rfl (zD (zE ?_))
 refine qI rfl (xF (E := eInt) (e := 3) eR sz3 hX89.pins (fun u93 w94 ho95 hp96 hl97 hk98 => ?_))
 have ho102 := ho95.weaken hX89.size
 refine qD rfl (zC (v := u93) rfl) (qD rfl (zC (v := (.bool false)) rfl) (qe (zA ?_)))
 refine wp_ret (zQ (xG (v := u93) (u := (.bool false)) rfl rfl rfl rfl rfl ?_))
 obtain ⟨G103, hle106, hX105, hr104, hf107⟩ := ho102.sealed (hX89.step hp96 hl97)
 exact ⟨_, _, _, _, rfl, hr104, ⟨(fun k => by cases k), (fun g => absurd g (fun g => absurd (g.pick (k := kc) (s := h) (i := q) (by omega) (by omega)) (by omega)))⟩, hX105⟩
 refine qdg rfl rfl rfl rfl rfl rfl (zB (v := (.int .i64 ((pick2 h ((ps.getD kc default).r) ((ps.getD kc default).l)).getD q 0))) rfl) (qdg rfl rfl rfl rfl rfl rfl (zB (v := (.int .i64 (kc : Int))) rfl) (qdg rfl rfl rfl rfl rfl rfl (rT rfl rfl) (qD rfl (yN (v := (.bool (decide (((kc : Int) : Int) ≤ ((pick2 h ((ps.getD kc default).r) ((ps.getD kc default).l)).getD q 0))))) rfl rfl) (qe (zA ?_)))))
 refine yJ (p := ((kc : Int) : Int) ≤ ((pick2 h ((ps.getD kc default).r) ((ps.getD kc default).l)).getD q 0)) rfl rfl (fun h109 => ?_) (fun h109 => ?_)
 refine zD (zE ?_)
 refine qI rfl (xF (E := eInt) (e := 3) eR sz3 hX89.pins (fun u110 w111 ho112 hp113 hl114 hk115 => ?_))
 have ho119 := ho112.weaken hX89.size
 refine qD rfl (zC (v := u110) rfl) (qD rfl (zC (v := (.bool false)) rfl) (qe (zA ?_)))
 refine wp_ret (zQ (xG (v := u110) (u := (.bool false)) rfl rfl rfl rfl rfl ?_))
 obtain ⟨G120, hle123, hX122, hr121, hf124⟩ := ho119.sealed (hX89.step hp113 hl114)
 exact ⟨_, _, _, _, rfl, hr121, ⟨(fun k => by cases k), (fun g => absurd g (fun g => absurd (g.pick (k := kc) (s := h) (i := q) (by omega) (by omega)) (by omega)))⟩, hX122⟩
 refine wp_skip (zA (zE ?_))
 refine qD rfl (zB (v := u28) rfl) (qD rfl (zB (v := (.int .i64 ((pick2 h ((ps.getD kc default).r) ((ps.getD kc default).l)).getD q 0))) rfl) (qD rfl (zL eR sz3 (v := u28) rfl rfl hw90.read (by omega) (by omega)) (qD rfl (zZ (r := us3.getD ((pick2 h ((ps.getD kc default).r) ((ps.getD kc default).l)).getD q 0).toNat 0) rfl ag3 (z := ((pick2 h ((ps.getD kc default).r) ((ps.getD kc default).l)).getD q 0)) rfl hw90.read (Gadd.pins hX89.pins u28) (by omega) (by omega)) (qD rfl (yT rfl rfl (by omega)) (qD rfl (zL eR sz3 (v := u28) rfl rfl hw90.read (by omega) (by omega)) (q0 rfl rfl rfl (kO (E := eInt) (v := u28) (u := (.int .i64 ((us3.getD ((pick2 h ((ps.getD kc default).r) ((ps.getD kc default).l)).getD q 0).toNat 0) + 1))) (z := ((pick2 h ((ps.getD kc default).r) ((ps.getD kc default).l)).getD q 0)) ((us3.getD ((pick2 h ((ps.getD kc default).r) ((ps.getD kc default).l)).getD q 0).toNat 0) + 1) sz3 rfl rfl rfl rfl hX89.pins hw90 (by omega) (by omega) (fun w126 ho127 hp128 hg129 hz130 => ?_))))))))
 have ho132 : Own eInt 3 GL3 w126 w.heap.size u28 ((us3).set ((pick2 h ((ps.getD kc default).r) ((ps.getD kc default).l)).getD q 0).toNat ((us3.getD ((pick2 h ((ps.getD kc default).r) ((ps.getD kc default).l)).getD q 0).toNat 0) + 1)) := ho127
 have hm133 : ((us3).set ((pick2 h ((ps.getD kc default).r) ((ps.getD kc default).l)).getD q 0).toNat ((us3.getD ((pick2 h ((ps.getD kc default).r) ((ps.getD kc default).l)).getD q 0).toNat 0) + 1)).length = us3.length := List.length_set ..
 refine qe (yO (zA (zE ?_)))
 refine qD rfl (yT rfl rfl (by omega)) (qD rfl (zB (v := (.int .i64 ((q : Int) + 1))) rfl) (qe (yR (⟨_, ?_, _, rfl, _, q + 1, (us3).set ((pick2 h ((ps.getD kc default).r) ((ps.getD kc default).l)).getD q 0).toNat ((us3.getD ((pick2 h ((ps.getD kc default).r) ((ps.getD kc default).l)).getD q 0).toNat 0) + 1), GL3, (zF (x := 38) (zF (x := 37) (zF (x := 36) (zF (x := 33) (zF (x := 32) (zF (x := 23) (zF (x := 22) (zF (x := 21) (zF (x := 5) (yF (x := 4) rfl) rfl) rfl) rfl) rfl) rfl) rfl) rfl) rfl) rfl), rfl, (hX89.write hp128 hg129 ((yQ hw90))), hlek86, (by omega), ((List.length_set ..).trans hul3), (bd_le (set_bd hbd3 _) (by omega)), (in_next hin3 (by omega)), ho132⟩))))
 omega
 refine wp_exit (yK (yU (yV (yO (zA (zE ?_))))))
 refine qD rfl (yT rfl rfl (by omega)) (qD rfl (zB (v := (.int .i64 ((h : Int) + 1))) rfl) (qe (yR (⟨_, ?_, _, rfl, _, h + 1, us3, GL3, (zF (x := 33) (zF (x := 32) (zF (x := 23) (zF (x := 22) (zF (x := 21) (zF (x := 5) (yF (x := 4) rfl) rfl) rfl) rfl) rfl) rfl) rfl), rfl, hX89, (dH hlek76 hlek86), (by omega), hul3, (bd_le hbd3 (by omega)), (pick_next hin2 (fun j hj => hin3 j (by omega))), hw90⟩))))
 omega
 refine wp_exit (yK (yU (yV (yO (zA (zE ?_))))))
 refine qD rfl (yT rfl rfl (by omega)) (qD rfl (zB (v := (.int .i64 ((kc : Int) + 1))) rfl) (qe (yR (⟨_, ?_, _, rfl, _, kc + 1, us2, GL2, (zF (x := 23) (zF (x := 22) (zF (x := 21) (yF (x := 4) rfl) rfl) rfl) rfl), rfl, hX79, (dH (dH hlek37 hle71) hlek76), (by omega), hul2, (bd_le hbd2 (by omega)), (row_next hrk (fun s hs => hin2 s (by omega))), hw80⟩))))
 omega
 refine wp_exit (yK (yU (yV (zA (zD (zE ?_))))))
 refine qD rfl (zB (v := u28) rfl) (qD rfl (zC (v := u28) rfl) (qD rfl (zC (v := (.bool true)) rfl) (qe (zA ?_))))
 refine wp_ret (zQ (xG (v := u28) (u := (.bool true)) rfl rfl rfl rfl rfl ?_))
 obtain ⟨G134, hle137, hX136, hr135, hf138⟩ := hw41.sealed hX40
 have hkn : kc = ps.length := by omega
 exact ⟨_, _, _, _, rfl, hr135, ⟨fun _ => shape_of (by omega) (fun k hk => hrk k (by omega)), fun _ => rfl⟩, hX136⟩
end PT1
end Go.Proofs.YtajkbplgbikgdaaGreatDoor
namespace Go.Proofs.YtajkbplgbikgdaaGreatDoor
namespace PT2
open Go.RowKit Go.GL Go.Proofs
open PT1
theorem vK {w : World} {G : Pin} {v : Value} {ps : List Cl} (hP : Pins G w) (hT : TabW w) (hv : RSl eClaim G v ps) (hlb : LenB ps) :
  Calls Tryz.prog 16 [(.agg [v].toArray)].toArray w fun e w' => ∃ G', e = .returned (.tuple #[.string (txF ps), .bool (tdB ps)]) ∧ Ext noS G w G' w' := by
 refine yM (n := 88) Tryz.func16 Tryz.ntmps16 rfl rfl ?_
 have hX0 := exr noS hP
 have hm := hv.max
 refine zD (zE ?_)
 refine qI rfl (xX [v] (v := (.agg [v].toArray)) rfl rfl hX0.pins (fun b1 w2 hk3 hb4 hp5 hl6 => ?_))
 have hlo8 : w.heap.size ≤ b1 := by have := hX0.size; omega
 obtain ⟨G9, hle10, hX11, hbp12, hf13⟩ := hb4.shut (hX0.step hp5 hl6) hlo8
 refine qD rfl (zC (v := (.string (⟨#[]⟩ : ByteArray))) rfl) (qD rfl (zC (v := (.bool false)) rfl) (qe (zA (zD (zD (zE ?_))))))
 refine qD rfl (zU (cs := [v]) ag38 sz38 rfl (fun j u hj => hX11.pins _ _ _ (hbp12 _ _ (by simpa using hj)))) (qI rfl (zK (vs := [(.agg [v].toArray)]) Tryz.func45 nm45 rfl rfl rfl ?_))
 refine dJ (usesT_spec hX11.pins (hv.mono hle10) hlb) ?_
 rintro _ w18 ⟨u14, us15, ok16, G17, rfl, hr19, huf20, hx21⟩
 refine ⟨_, rfl, ?_⟩
 have hX22 := hX11.tr hx21
 refine qD rfl (zB (v := (.tuple #[u14, (.bool ok16)])) rfl) (qD rfl (yB (v := u14) rfl rfl) (qD rfl (yB (v := (.bool ok16)) rfl rfl) (qD rfl (zC (v := u14) rfl) (qD rfl (zC (v := (.bool ok16)) rfl) (qe (zA (zD (zE ?_))))))))
 refine qD rfl (zB (v := (.bool ok16)) rfl) (qD rfl (xT rfl) (qe (zA ?_)))
 refine xV rfl rfl (fun h23 => ?_) (fun h23 => ?_)
 refine wp_skip (zA (zD (zE ?_)))
 have hsh : ShapeP ps := huf20.1 h23
 have hpl := hsh.len
 refine qI rfl (xF (E := eStr) (e := 9) eZ sz9 hX22.pins (fun u24 w25 ho26 hp27 hl28 hk29 => ?_))
 have hX30 := hX22.step hp27 hl28
 have ho31 := ho26.weaken hX22.size
 refine qD rfl (zC (v := u24) rfl) (qe (zA (zD (zE ?_))))
 refine qD rfl (zC (v := (.int .i64 0)) rfl) (qe (zA (zD (zD (zE ?_)))))
 refine qD rfl (zM (k := 0) rfl eV rfl nz36 rfl) (qD rfl (zP (u := v) ag36 rfl ((dI hX30.pins hx21.le) _ _ _ (hbp12 0 _ rfl))) (qD rfl (run_len eU (v := v) rfl hv) (qD rfl (zB (v := (.int .i64 0)) rfl) (qe (zA ?_)))))
 refine yI (yZ (fun (k : Nat) (en : Nat → Value) (W : World) => ∃ (env1 : Nat → Value) (kc : Nat) (ov : Value) (os : List ByteArray) (GL1 : Pin), en = (upd (upd (upd (upd (upd env1 6 ov) 7 (.int .i64 ((szW ps kc : Nat) : Int))) 20 v) 21 (.int .i64 (ps.length : Int))) 22 (.int .i64 (kc : Int))) ∧ k = ps.length - kc ∧ Ext noS G w GL1 W ∧ Pin.le G17 GL1 ∧ (kc ≤ ps.length) ∧ (os = (ps.take kc).map clT) ∧ (os.length = kc) ∧ (∀ j, j < kc → AbOk (ps.getD j default)) ∧ (szW ps kc ≤ 4001) ∧ (Own eStr 9 GL1 W w.heap.size ov (os))) _ ⟨_, 0, u24, [], G17, (zF (x := 22) (zF (x := 21) (zF (x := 20) (zF (x := 7) (yF (x := 6) rfl) rfl) rfl) rfl) rfl), rfl, hX30, Pin.le_refl _, Nat.zero_le _, rfl, rfl, (fun j hj => absurd hj (Nat.not_lt_zero j)), (Nat.zero_le _), ho31⟩ ?_)
 rintro k32 _ w33 ⟨env1, kc, ov, os, GL1, rfl, hk34, hX35, hlek32, hk, hos, hol, hab, hsz, hw36⟩
 refine zD (zE ?_)
 refine qD rfl (xB rfl rfl) (qe (zA (zD ?_)))
 refine yJ (p := ((kc : Int) : Int) < (ps.length : Int)) rfl rfl (fun h37 => ?_) (fun h37 => ?_)
 have hlk := hlb kc (by omega)
 refine wp_skip (zA (zD ?_))
 refine yI (zD (zE ?_))
 refine qD rfl (zL eU sz72 (v := v) rfl rfl hv (by omega) (by omega)) ?_
 obtain ⟨cs38, hrep39, hagg40, hcell41⟩ := qO (j := kc) default (hv.at (z := (kc : Int)) (by omega) (by omega)) rfl
 obtain ⟨u42, u44, rfl, hr43, hr45⟩ := hrep39
 have hm46 := hr43.max
 have hm47 := hr45.max
 refine qD rfl (hagg40 ag72 sz72 rfl (dI hX35.pins (dH (dH hle10 hx21.le) hlek32))) (qI rfl (yL [(.int .i64 0), (.int .i64 0), (.slice none 0 0), (.slice none 0 0)] zr72 rfl hX35.pins (fun b48 w49 hk50 hb51 hp52 hl53 => ?_)))
 have hX54 := hX35.step hp52 hl53
 have ha56 : Apart (some b48) ov.ownBlock := zI (congrArg some hk50) hw36.lt
 have hlo57 : w.heap.size ≤ b48 := by have := hX35.size; omega
 refine q0 rfl rfl rfl (yD (cs' := [(.int .i64 ((ps.getD kc default).a)), (.int .i64 ((ps.getD kc default).b)), u42, u44]) (us := [(.int .i64 ((ps.getD kc default).a)), (.int .i64 ((ps.getD kc default).b)), u42, u44]) (v := (.agg [(.int .i64 ((ps.getD kc default).a)), (.int .i64 ((ps.getD kc default).b)), u42, u44].toArray)) sz72 rfl rfl rfl (jB (by rfl) (by rfl) hr43.one hr45.one) hX54.pins hb51 (dK rfl) rfl (fun w58 hb59 hp60 hg61 hz62 => ?_))
 obtain ⟨G65, hle66, hX67, hbp68, hf69⟩ := hb59.shut (hX54.write hp60 hg61 ((zS hlo57))) hlo57
 refine qe (zA (zD (zD (zE ?_))))
 refine qD rfl (zM (k := 0) rfl eS rfl nz3 rfl) (qD rfl (zP (u := (.int .i64 ((ps.getD kc default).a))) ag3 rfl (hX67.pins _ _ _ (hbp68 0 _ rfl))) (qD rfl (xB rfl rfl) (qD rfl (zB (v := (.bool (decide (((ps.getD kc default).a : Int) < 0)))) rfl) (qbd (p := ((ps.getD kc default).a : Int) < 0) (t := 29) rfl (fun h71 => ?_) (fun h71 => ?_)))))
 refine qs rfl rfl rfl rfl rfl rfl (qs rfl rfl rfl rfl rfl rfl (qs rfl rfl rfl rfl rfl rfl (qD rfl (yG (v := (.bool true)) rfl rfl) (qD rfl (zB (v := (.bool true)) rfl) (qs rfl rfl rfl rfl rfl rfl (qs rfl rfl rfl rfl rfl rfl (qs rfl rfl rfl rfl rfl rfl (qD rfl (yG (v := (.bool true)) rfl rfl) (qD rfl (zB (v := (.bool true)) rfl) (qs rfl rfl rfl rfl rfl rfl (qs rfl rfl rfl rfl rfl rfl (qs rfl rfl rfl rfl rfl rfl (qD rfl (yG (v := (.bool true)) rfl rfl) (qD rfl (zB (v := (.bool true)) rfl) (qs rfl rfl rfl rfl rfl rfl (qs rfl rfl rfl rfl rfl rfl (qs rfl rfl rfl rfl rfl rfl (qs rfl rfl rfl rfl rfl rfl (qD rfl (yG (v := (.bool true)) rfl rfl) (qD rfl (zB (v := (.bool true)) rfl) (qs rfl rfl rfl rfl rfl rfl (qs rfl rfl rfl rfl rfl rfl (qs rfl rfl rfl rfl rfl rfl (qs rfl rfl rfl rfl rfl rfl (qD rfl (yG (v := (.bool true)) rfl rfl) (qe (zA ?_)))))))))))))))))))))))))))
 refine qC rfl rfl (zD (zE ?_))
 refine qD rfl (zC (v := (.string (⟨#[]⟩ : ByteArray))) rfl) (qD rfl (zC (v := (.bool false)) rfl) (qe (zA ?_)))
 refine wp_ret (zQ (xG (v := (.string (⟨#[]⟩ : ByteArray))) (u := (.bool false)) rfl rfl rfl rfl rfl ?_))
 have hno : tdB ps = false := decP_false.2 (fun g => by have h9 := gQ (p := ps) (k := kc) (by omega); have h8 := vT (g.shape.ok (k := kc) (by omega) (g.ab kc (by omega))); have h7 := (g.ab kc (by omega)); have h6 := h7.1; have h5 := h7.2; have h4 := g.size; omega)
 exact ⟨_, (by rw [hno, kS hno]), hX67⟩
 refine qdg rfl rfl rfl rfl rfl rfl (zM (k := 0) rfl eS rfl nz3 rfl) (qdg rfl rfl rfl rfl rfl rfl (zP (u := (.int .i64 ((ps.getD kc default).a))) ag3 rfl (hX67.pins _ _ _ (hbp68 0 _ rfl))) (qdg rfl rfl rfl rfl rfl rfl (rT rfl rfl) (qD rfl (yN (v := (.bool (decide ((120 : Int) ≤ ((ps.getD kc default).a))))) rfl rfl) (qD rfl (zB (v := (.bool (decide ((120 : Int) ≤ ((ps.getD kc default).a))))) rfl) (qbd (p := (120 : Int) ≤ ((ps.getD kc default).a)) (t := 34) rfl (fun h72 => ?_) (fun h72 => ?_))))))
 refine qs rfl rfl rfl rfl rfl rfl (qs rfl rfl rfl rfl rfl rfl (qs rfl rfl rfl rfl rfl rfl (qD rfl (yG (v := (.bool true)) rfl rfl) (qD rfl (zB (v := (.bool true)) rfl) (qs rfl rfl rfl rfl rfl rfl (qs rfl rfl rfl rfl rfl rfl (qs rfl rfl rfl rfl rfl rfl (qD rfl (yG (v := (.bool true)) rfl rfl) (qD rfl (zB (v := (.bool true)) rfl) (qs rfl rfl rfl rfl rfl rfl (qs rfl rfl rfl rfl rfl rfl (qs rfl rfl rfl rfl rfl rfl (qs rfl rfl rfl rfl rfl rfl (qD rfl (yG (v := (.bool true)) rfl rfl) (qD rfl (zB (v := (.bool true)) rfl) (qs rfl rfl rfl rfl rfl rfl (qs rfl rfl rfl rfl rfl rfl (qs rfl rfl rfl rfl rfl rfl (qs rfl rfl rfl rfl rfl rfl (qD rfl (yG (v := (.bool true)) rfl rfl) (qe (zA ?_))))))))))))))))))))))
 refine qC rfl rfl (zD (zE ?_))
 refine qD rfl (zC (v := (.string (⟨#[]⟩ : ByteArray))) rfl) (qD rfl (zC (v := (.bool false)) rfl) (qe (zA ?_)))
 refine wp_ret (zQ (xG (v := (.string (⟨#[]⟩ : ByteArray))) (u := (.bool false)) rfl rfl rfl rfl rfl ?_))
 have hno : tdB ps = false := decP_false.2 (fun g => by have h9 := gQ (p := ps) (k := kc) (by omega); have h8 := vT (g.shape.ok (k := kc) (by omega) (g.ab kc (by omega))); have h7 := (g.ab kc (by omega)); have h6 := h7.1; have h5 := h7.2; have h4 := g.size; omega)
 exact ⟨_, (by rw [hno, kS hno]), hX67⟩
 refine qdg rfl rfl rfl rfl rfl rfl (zM (k := 1) rfl eS rfl nz3 rfl) (qdg rfl rfl rfl rfl rfl rfl (zP (u := (.int .i64 ((ps.getD kc default).b))) ag3 rfl (hX67.pins _ _ _ (hbp68 1 _ rfl))) (qdg rfl rfl rfl rfl rfl rfl (xB rfl rfl) (qD rfl (yN (v := (.bool (decide (((ps.getD kc default).b : Int) < 0)))) rfl rfl) (qD rfl (zB (v := (.bool (decide (((ps.getD kc default).b : Int) < 0)))) rfl) (qbd (p := ((ps.getD kc default).b : Int) < 0) (t := 39) rfl (fun h73 => ?_) (fun h73 => ?_))))))
 refine qs rfl rfl rfl rfl rfl rfl (qs rfl rfl rfl rfl rfl rfl (qs rfl rfl rfl rfl rfl rfl (qD rfl (yG (v := (.bool true)) rfl rfl) (qD rfl (zB (v := (.bool true)) rfl) (qs rfl rfl rfl rfl rfl rfl (qs rfl rfl rfl rfl rfl rfl (qs rfl rfl rfl rfl rfl rfl (qs rfl rfl rfl rfl rfl rfl (qD rfl (yG (v := (.bool true)) rfl rfl) (qD rfl (zB (v := (.bool true)) rfl) (qs rfl rfl rfl rfl rfl rfl (qs rfl rfl rfl rfl rfl rfl (qs rfl rfl rfl rfl rfl rfl (qs rfl rfl rfl rfl rfl rfl (qD rfl (yG (v := (.bool true)) rfl rfl) (qe (zA ?_)))))))))))))))))
 refine qC rfl rfl (zD (zE ?_))
 refine qD rfl (zC (v := (.string (⟨#[]⟩ : ByteArray))) rfl) (qD rfl (zC (v := (.bool false)) rfl) (qe (zA ?_)))
 refine wp_ret (zQ (xG (v := (.string (⟨#[]⟩ : ByteArray))) (u := (.bool false)) rfl rfl rfl rfl rfl ?_))
 have hno : tdB ps = false := decP_false.2 (fun g => by have h9 := gQ (p := ps) (k := kc) (by omega); have h8 := vT (g.shape.ok (k := kc) (by omega) (g.ab kc (by omega))); have h7 := (g.ab kc (by omega)); have h6 := h7.1; have h5 := h7.2; have h4 := g.size; omega)
 exact ⟨_, (by rw [hno, kS hno]), hX67⟩
 refine qdg rfl rfl rfl rfl rfl rfl (zM (k := 1) rfl eS rfl nz3 rfl) (qdg rfl rfl rfl rfl rfl rfl (zP (u := (.int .i64 ((ps.getD kc default).b))) ag3 rfl (hX67.pins _ _ _ (hbp68 1 _ rfl))) (qdg rfl rfl rfl rfl rfl rfl (rT rfl rfl) (qD rfl (yN (v := (.bool (decide ((120 : Int) ≤ ((ps.getD kc default).b))))) rfl rfl) (qD rfl (zB (v := (.bool (decide ((120 : Int) ≤ ((ps.getD kc default).b))))) rfl) (qbd (p := (120 : Int) ≤ ((ps.getD kc default).b)) (t := 44) rfl (fun h74 => ?_) (fun h74 => ?_))))))
 refine qs rfl rfl rfl rfl rfl rfl (qs rfl rfl rfl rfl rfl rfl (qs rfl rfl rfl rfl rfl rfl (qs rfl rfl rfl rfl rfl rfl (qD rfl (yG (v := (.bool true)) rfl rfl) (qD rfl (zB (v := (.bool true)) rfl) (qs rfl rfl rfl rfl rfl rfl (qs rfl rfl rfl rfl rfl rfl (qs rfl rfl rfl rfl rfl rfl (qs rfl rfl rfl rfl rfl rfl (qD rfl (yG (v := (.bool true)) rfl rfl) (qe (zA ?_))))))))))))
 refine qC rfl rfl (zD (zE ?_))
 refine qD rfl (zC (v := (.string (⟨#[]⟩ : ByteArray))) rfl) (qD rfl (zC (v := (.bool false)) rfl) (qe (zA ?_)))
 refine wp_ret (zQ (xG (v := (.string (⟨#[]⟩ : ByteArray))) (u := (.bool false)) rfl rfl rfl rfl rfl ?_))
 have hno : tdB ps = false := decP_false.2 (fun g => by have h9 := gQ (p := ps) (k := kc) (by omega); have h8 := vT (g.shape.ok (k := kc) (by omega) (g.ab kc (by omega))); have h7 := (g.ab kc (by omega)); have h6 := h7.1; have h5 := h7.2; have h4 := g.size; omega)
 exact ⟨_, (by rw [hno, kS hno]), hX67⟩
 refine qdg rfl rfl rfl rfl rfl rfl (zM (k := 2) rfl eS rfl nz59 rfl) (qdg rfl rfl rfl rfl rfl rfl (zP (u := u42) ag59 rfl (hX67.pins _ _ _ (hbp68 2 _ rfl))) (qdg rfl rfl rfl rfl rfl rfl (run_len eR (v := u42) rfl hr43) (qdg rfl rfl rfl rfl rfl rfl (qV rfl rfl) (qD rfl (yN (v := (.bool (decide ((4000 : Int) < (((ps.getD kc default).r).length : Int))))) rfl rfl) (qD rfl (zB (v := (.bool (decide ((4000 : Int) < (((ps.getD kc default).r).length : Int))))) rfl) (qbd (p := (4000 : Int) < (((ps.getD kc default).r).length : Int)) (t := 50) rfl (fun h75 => ?_) (fun h75 => ?_)))))))
 refine qs rfl rfl rfl rfl rfl rfl (qs rfl rfl rfl rfl rfl rfl (qs rfl rfl rfl rfl rfl rfl (qs rfl rfl rfl rfl rfl rfl (qD rfl (yG (v := (.bool true)) rfl rfl) (qe (zA ?_))))))
 refine qC rfl rfl (zD (zE ?_))
 refine qD rfl (zC (v := (.string (⟨#[]⟩ : ByteArray))) rfl) (qD rfl (zC (v := (.bool false)) rfl) (qe (zA ?_)))
 refine wp_ret (zQ (xG (v := (.string (⟨#[]⟩ : ByteArray))) (u := (.bool false)) rfl rfl rfl rfl rfl ?_))
 have hno : tdB ps = false := decP_false.2 (fun g => by have h9 := gQ (p := ps) (k := kc) (by omega); have h8 := vT (g.shape.ok (k := kc) (by omega) (g.ab kc (by omega))); have h7 := (g.ab kc (by omega)); have h6 := h7.1; have h5 := h7.2; have h4 := g.size; omega)
 exact ⟨_, (by rw [hno, kS hno]), hX67⟩
 refine qdg rfl rfl rfl rfl rfl rfl (zM (k := 3) rfl eS rfl nz59 rfl) (qdg rfl rfl rfl rfl rfl rfl (zP (u := u44) ag59 rfl (hX67.pins _ _ _ (hbp68 3 _ rfl))) (qdg rfl rfl rfl rfl rfl rfl (run_len eR (v := u44) rfl hr45) (qdg rfl rfl rfl rfl rfl rfl (qV rfl rfl) (qD rfl (yN (v := (.bool (decide ((4000 : Int) < (((ps.getD kc default).l).length : Int))))) rfl rfl) (qe (zA ?_))))))
 refine yJ (p := (4000 : Int) < (((ps.getD kc default).l).length : Int)) rfl rfl (fun h76 => ?_) (fun h76 => ?_)
 refine zD (zE ?_)
 refine qD rfl (zC (v := (.string (⟨#[]⟩ : ByteArray))) rfl) (qD rfl (zC (v := (.bool false)) rfl) (qe (zA ?_)))
 refine wp_ret (zQ (xG (v := (.string (⟨#[]⟩ : ByteArray))) (u := (.bool false)) rfl rfl rfl rfl rfl ?_))
 have hno : tdB ps = false := decP_false.2 (fun g => by have h9 := gQ (p := ps) (k := kc) (by omega); have h8 := vT (g.shape.ok (k := kc) (by omega) (g.ab kc (by omega))); have h7 := (g.ab kc (by omega)); have h6 := h7.1; have h5 := h7.2; have h4 := g.size; omega)
 exact ⟨_, (by rw [hno, kS hno]), hX67⟩
 refine wp_skip (zA (zD ?_))
 have hak : AbOk (ps.getD kc default) := ⟨by omega, by omega⟩
 have hck := hsh.ok (k := kc) (by omega) hak
 have hcz := vT hck
 have hn1 := qF hck.a
 have hn2 := qF hck.b
 have hn3 := jR hck.r
 have hn4 := jR hck.l
 have hak1 := hak.1
 have hak2 := hak.2
 refine xD (S := fun wz => Pins G65 wz) (last := 19) (by kernel_rfl) rfl ?_
 have hl77 := bdr w58
 have hX79 := hX67.step (hX67.pins.below hl77) hl77
 refine dT (i := 0) rfl rfl (by kernel_rfl) (fun _ _ => zM (k := 0) rfl eS rfl nz3 rfl) hX79.pins ?_
 refine dT (i := 1) rfl rfl (by kernel_rfl) (fun _ hS => zP (u := (.int .i64 ((ps.getD kc default).a))) ag3 rfl (hS _ _ _ (hbp68 0 _ rfl))) hX79.pins ?_
 refine dT (i := 4) rfl rfl (by kernel_rfl) (fun _ _ => zM (k := 1) rfl eS rfl nz3 rfl) hX79.pins ?_
 refine dT (i := 5) rfl rfl (by kernel_rfl) (fun _ hS => zP (u := (.int .i64 ((ps.getD kc default).b))) ag3 rfl (hS _ _ _ (hbp68 1 _ rfl))) hX79.pins ?_
 refine dT (i := 9) rfl rfl (by kernel_rfl) (fun _ _ => zM (k := 2) rfl eS rfl nz59 rfl) hX79.pins ?_
 refine dT (i := 10) rfl rfl (by kernel_rfl) (fun _ hS => zP (u := u42) ag59 rfl (hS _ _ _ (hbp68 2 _ rfl))) hX79.pins ?_
 refine dT (i := 14) rfl rfl (by kernel_rfl) (fun _ _ => zM (k := 3) rfl eS rfl nz59 rfl) hX79.pins ?_
 refine dT (i := 15) rfl rfl (by kernel_rfl) (fun _ hS => zP (u := u44) ag59 rfl (hS _ _ _ (hbp68 3 _ rfl))) hX79.pins ?_
 refine zR (i := 2) (by kernel_rfl) (yC (i := 2) rfl rfl rfl (zH rfl _) (zK (vs := [(.int .i64 ((ps.getD kc default).a))]) Tryz.func46 nm46 rfl rfl rfl ?_))
 refine dJ (gH (n := ((ps.getD kc default).a)) hX79.pins (hT.keep hX79) (by omega)) ?_
 rintro _ w82 ⟨G81, rfl, hx83⟩
 refine ⟨_, rfl, ?_⟩
 have hX84 := hX79.tr hx83
 refine ⟨fun _ => (dI hX84.pins hx83.le), ?_⟩
 have hm86 : (⟨#[32]⟩ : ByteArray).size = 1 := rfl
 have hm87 : ((numT ((ps.getD kc default).a)) ++ (⟨#[32]⟩ : ByteArray)).size = (numT ((ps.getD kc default).a)).size + (⟨#[32]⟩ : ByteArray).size := ByteArray.size_append
 refine dT (i := 3) rfl rfl (by kernel_rfl) (fun _ _ => xR rfl rfl (by omega)) (dI hX84.pins hx83.le) ?_
 refine zR (i := 6) (by kernel_rfl) (yC (i := 6) rfl rfl rfl (zH rfl _) (zK (vs := [(.int .i64 ((ps.getD kc default).b))]) Tryz.func46 nm46 rfl rfl rfl ?_))
 refine dJ (gH (n := ((ps.getD kc default).b)) hX84.pins (hT.keep hX84) (by omega)) ?_
 rintro _ w89 ⟨G88, rfl, hx90⟩
 refine ⟨_, rfl, ?_⟩
 have hX91 := hX84.tr hx90
 refine ⟨fun _ => (dI hX91.pins (dH hx83.le hx90.le)), ?_⟩
 have hm93 : (((numT ((ps.getD kc default).a)) ++ (⟨#[32]⟩ : ByteArray)) ++ (numT ((ps.getD kc default).b))).size = ((numT ((ps.getD kc default).a)) ++ (⟨#[32]⟩ : ByteArray)).size + (numT ((ps.getD kc default).b)).size := ByteArray.size_append
 refine dT (i := 7) rfl rfl (by kernel_rfl) (fun _ _ => xR rfl rfl (by omega)) (dI hX91.pins (dH hx83.le hx90.le)) ?_
 have hm94 : (⟨#[58]⟩ : ByteArray).size = 1 := rfl
 have hm95 : ((((numT ((ps.getD kc default).a)) ++ (⟨#[32]⟩ : ByteArray)) ++ (numT ((ps.getD kc default).b))) ++ (⟨#[58]⟩ : ByteArray)).size = (((numT ((ps.getD kc default).a)) ++ (⟨#[32]⟩ : ByteArray)) ++ (numT ((ps.getD kc default).b))).size + (⟨#[58]⟩ : ByteArray).size := ByteArray.size_append
 refine dT (i := 8) rfl rfl (by kernel_rfl) (fun _ _ => xR rfl rfl (by omega)) (dI hX91.pins (dH hx83.le hx90.le)) ?_
 refine zR (i := 11) (by kernel_rfl) (yC (i := 11) rfl rfl rfl (zH rfl _) (zK (vs := [u42]) Tryz.func47 nm47 rfl rfl rfl ?_))
 refine dJ (fA hX91.pins (hT.keep hX91) (hr43.mono (dH (dH (dH (dH (dH hle10 hx21.le) hlek32) hle66) hx83.le) hx90.le)) (by first | exact hck.r | exact hck.l) (by omega)) ?_
 rintro _ w97 ⟨G96, rfl, hx98⟩
 refine ⟨_, rfl, ?_⟩
 have hX99 := hX91.tr hx98
 refine ⟨fun _ => (dI hX99.pins (dH (dH hx83.le hx90.le) hx98.le)), ?_⟩
 have hm101 : (((((numT ((ps.getD kc default).a)) ++ (⟨#[32]⟩ : ByteArray)) ++ (numT ((ps.getD kc default).b))) ++ (⟨#[58]⟩ : ByteArray)) ++ (numsT ((ps.getD kc default).r))).size = ((((numT ((ps.getD kc default).a)) ++ (⟨#[32]⟩ : ByteArray)) ++ (numT ((ps.getD kc default).b))) ++ (⟨#[58]⟩ : ByteArray)).size + (numsT ((ps.getD kc default).r)).size := ByteArray.size_append
 refine dT (i := 12) rfl rfl (by kernel_rfl) (fun _ _ => xR rfl rfl (by omega)) (dI hX99.pins (dH (dH hx83.le hx90.le) hx98.le)) ?_
 have hm102 : (⟨#[58]⟩ : ByteArray).size = 1 := rfl
 have hm103 : ((((((numT ((ps.getD kc default).a)) ++ (⟨#[32]⟩ : ByteArray)) ++ (numT ((ps.getD kc default).b))) ++ (⟨#[58]⟩ : ByteArray)) ++ (numsT ((ps.getD kc default).r))) ++ (⟨#[58]⟩ : ByteArray)).size = (((((numT ((ps.getD kc default).a)) ++ (⟨#[32]⟩ : ByteArray)) ++ (numT ((ps.getD kc default).b))) ++ (⟨#[58]⟩ : ByteArray)) ++ (numsT ((ps.getD kc default).r))).size + (⟨#[58]⟩ : ByteArray).size := ByteArray.size_append
 refine dT (i := 13) rfl rfl (by kernel_rfl) (fun _ _ => xR rfl rfl (by omega)) (dI hX99.pins (dH (dH hx83.le hx90.le) hx98.le)) ?_
 refine zR (i := 16) (by kernel_rfl) (yC (i := 16) rfl rfl rfl (zH rfl _) (zK (vs := [u44]) Tryz.func47 nm47 rfl rfl rfl ?_))
 refine dJ (fA hX99.pins (hT.keep hX99) (hr45.mono (dH (dH (dH (dH (dH (dH hle10 hx21.le) hlek32) hle66) hx83.le) hx90.le) hx98.le)) (by first | exact hck.r | exact hck.l) (by omega)) ?_
 rintro _ w105 ⟨G104, rfl, hx106⟩
 refine ⟨_, rfl, ?_⟩
 have hX107 := hX99.tr hx106
 refine ⟨fun _ => (dI hX107.pins (dH (dH (dH hx83.le hx90.le) hx98.le) hx106.le)), ?_⟩
 have hm109 : (((((((numT ((ps.getD kc default).a)) ++ (⟨#[32]⟩ : ByteArray)) ++ (numT ((ps.getD kc default).b))) ++ (⟨#[58]⟩ : ByteArray)) ++ (numsT ((ps.getD kc default).r))) ++ (⟨#[58]⟩ : ByteArray)) ++ (numsT ((ps.getD kc default).l))).size = ((((((numT ((ps.getD kc default).a)) ++ (⟨#[32]⟩ : ByteArray)) ++ (numT ((ps.getD kc default).b))) ++ (⟨#[58]⟩ : ByteArray)) ++ (numsT ((ps.getD kc default).r))) ++ (⟨#[58]⟩ : ByteArray)).size + (numsT ((ps.getD kc default).l)).size := ByteArray.size_append
 refine dT (i := 17) rfl rfl (by kernel_rfl) (fun _ _ => xR rfl rfl (by omega)) (dI hX107.pins (dH (dH (dH hx83.le hx90.le) hx98.le) hx106.le)) ?_
 refine dT (i := 18) rfl rfl (by kernel_rfl) (fun _ _ => zC (v := (.string (((((((numT ((ps.getD kc default).a)) ++ (⟨#[32]⟩ : ByteArray)) ++ (numT ((ps.getD kc default).b))) ++ (⟨#[58]⟩ : ByteArray)) ++ (numsT ((ps.getD kc default).r))) ++ (⟨#[58]⟩ : ByteArray)) ++ (numsT ((ps.getD kc default).l))))) rfl) (dI hX107.pins (dH (dH (dH hx83.le hx90.le) hx98.le) hx106.le)) ?_
 refine yP (by kernel_rfl) (zA (zD (zE ?_)))
 have hwd : ((((((numT ((ps.getD kc default).a)) ++ (⟨#[32]⟩ : ByteArray)) ++ (numT ((ps.getD kc default).b))) ++ (⟨#[58]⟩ : ByteArray)) ++ (numsT ((ps.getD kc default).r))) ++ (⟨#[58]⟩ : ByteArray)) ++ (numsT ((ps.getD kc default).l)) = clT (ps.getD kc default) := rfl
 have hwz : (((((((numT ((ps.getD kc default).a)) ++ (⟨#[32]⟩ : ByteArray)) ++ (numT ((ps.getD kc default).b))) ++ (⟨#[58]⟩ : ByteArray)) ++ (numsT ((ps.getD kc default).r))) ++ (⟨#[58]⟩ : ByteArray)) ++ (numsT ((ps.getD kc default).l))).size = (clT (ps.getD kc default)).size := rfl
 have hsn : szW ps (kc + 1) = szW ps kc + ((clT (ps.getD kc default)).size + 1) := rfl
 refine qD rfl (zB (v := (.int .i64 ((szW ps kc : Nat) : Int))) rfl) (qD rfl (zB (v := (.string (((((((numT ((ps.getD kc default).a)) ++ (⟨#[32]⟩ : ByteArray)) ++ (numT ((ps.getD kc default).b))) ++ (⟨#[58]⟩ : ByteArray)) ++ (numsT ((ps.getD kc default).r))) ++ (⟨#[58]⟩ : ByteArray)) ++ (numsT ((ps.getD kc default).l))))) rfl) (qD rfl (qH eW rfl) (qD rfl (yT rfl rfl (by omega)) (qD rfl (yT rfl rfl (by omega)) (qD rfl (zC (v := (.int .i64 (((szW ps kc : Nat) : Int) + (((((((((numT ((ps.getD kc default).a)) ++ (⟨#[32]⟩ : ByteArray)) ++ (numT ((ps.getD kc default).b))) ++ (⟨#[58]⟩ : ByteArray)) ++ (numsT ((ps.getD kc default).r))) ++ (⟨#[58]⟩ : ByteArray)) ++ (numsT ((ps.getD kc default).l))).size : Int) + 1)))) rfl) (qe (zA (zD (zD (zE ?_))))))))))
 refine qD rfl (zB (v := (.int .i64 (((szW ps kc : Nat) : Int) + (((((((((numT ((ps.getD kc default).a)) ++ (⟨#[32]⟩ : ByteArray)) ++ (numT ((ps.getD kc default).b))) ++ (⟨#[58]⟩ : ByteArray)) ++ (numsT ((ps.getD kc default).r))) ++ (⟨#[58]⟩ : ByteArray)) ++ (numsT ((ps.getD kc default).l))).size : Int) + 1)))) rfl) (qD rfl (qV rfl rfl) (qe (zA ?_)))
 refine yJ (p := (4001 : Int) < (((szW ps kc : Nat) : Int) + (((((((((numT ((ps.getD kc default).a)) ++ (⟨#[32]⟩ : ByteArray)) ++ (numT ((ps.getD kc default).b))) ++ (⟨#[58]⟩ : ByteArray)) ++ (numsT ((ps.getD kc default).r))) ++ (⟨#[58]⟩ : ByteArray)) ++ (numsT ((ps.getD kc default).l))).size : Int) + 1))) rfl rfl (fun h110 => ?_) (fun h110 => ?_)
 refine zD (zE ?_)
 refine qD rfl (zC (v := (.string (⟨#[]⟩ : ByteArray))) rfl) (qD rfl (zC (v := (.bool false)) rfl) (qe (zA ?_)))
 refine wp_ret (zQ (xG (v := (.string (⟨#[]⟩ : ByteArray))) (u := (.bool false)) rfl rfl rfl rfl rfl ?_))
 have hno : tdB ps = false := decP_false.2 (fun g => by have h9 := pr_mono (p := ps) (k := kc + 1) (by omega); have h8 := g.size; have h7 := pr_sz (p := ps) (k := kc + 1) (by omega); rw [if_pos (by omega)] at h7; omega)
 exact ⟨_, (by rw [hno, kS hno]), hX107⟩
 refine wp_skip (zA (zE ?_))
 refine qD rfl (zB (v := ov) rfl) (qD rfl (zB (v := (.string (((((((numT ((ps.getD kc default).a)) ++ (⟨#[32]⟩ : ByteArray)) ++ (numT ((ps.getD kc default).b))) ++ (⟨#[58]⟩ : ByteArray)) ++ (numsT ((ps.getD kc default).r))) ++ (⟨#[58]⟩ : ByteArray)) ++ (numsT ((ps.getD kc default).l))))) rfl) (qI rfl (xI (E := eStr) (e := 9) [(.string (((((((numT ((ps.getD kc default).a)) ++ (⟨#[32]⟩ : ByteArray)) ++ (numT ((ps.getD kc default).b))) ++ (⟨#[58]⟩ : ByteArray)) ++ (numsT ((ps.getD kc default).r))) ++ (⟨#[58]⟩ : ByteArray)) ++ (numsT ((ps.getD kc default).l))))] [((((((numT ((ps.getD kc default).a)) ++ (⟨#[32]⟩ : ByteArray)) ++ (numT ((ps.getD kc default).b))) ++ (⟨#[58]⟩ : ByteArray)) ++ (numsT ((ps.getD kc default).r))) ++ (⟨#[58]⟩ : ByteArray)) ++ (numsT ((ps.getD kc default).l))] eZ sz9 zr9 (by exact qQ (by rfl)) (yE (by rfl)) rfl rfl rfl rfl (by decide) hX107.pins (fun u111 w112 ho113 hp114 hl115 hk116 => ?_))))
 have hX117 := hX107.step hp114 hl115
 have ho118 := ((((((((hw36.below hl53).keptA hg61 ha56.symm).moreA hle66 hf69 ha56.symm).below hl77).ext hx83).ext hx90).ext hx98).ext hx106).below hl115
 have ho120 := ho113.weaken hX107.size
 refine qI rfl (yH (E := eStr) (v := ov) (u := u111) 16 eZ ap9 (by decide) rfl rfl hX117.pins ho118 ho120.src (by first | omega | (rw [List.nil_append]; omega) | (rw [List.length_nil]; omega) | (rw [List.length_append]; omega) | (simp; done) | (simp; omega) | (simp only [List.length_cons, List.length_nil]; omega) | (simp only [List.length_append, List.length_cons, List.length_nil]; omega)) (by first | omega | (rw [List.nil_append]; omega) | (rw [List.length_nil]; omega) | (rw [List.length_append]; omega) | (simp; done) | (simp; omega) | (simp only [List.length_cons, List.length_nil]; omega) | (simp only [List.length_append, List.length_cons, List.length_nil]; omega)) (hX117.size) (fun u121 w122 ho123 hp124 hg125 hw126 => ?_))
 have hm130 := la1 os (((((((numT ((ps.getD kc default).a)) ++ (⟨#[32]⟩ : ByteArray)) ++ (numT ((ps.getD kc default).b))) ++ (⟨#[58]⟩ : ByteArray)) ++ (numsT ((ps.getD kc default).r))) ++ (⟨#[58]⟩ : ByteArray)) ++ (numsT ((ps.getD kc default).l)))
 refine qD rfl (zC (v := u121) rfl) (qe (yO (zA (zE ?_))))
 refine qD rfl (yT rfl rfl (by omega)) (qD rfl (zB (v := (.int .i64 ((kc : Int) + 1))) rfl) (qe (yR (⟨_, ?_, _, rfl, _, kc + 1, u121, os ++ ([((((((numT ((ps.getD kc default).a)) ++ (⟨#[32]⟩ : ByteArray)) ++ (numT ((ps.getD kc default).b))) ++ (⟨#[58]⟩ : ByteArray)) ++ (numsT ((ps.getD kc default).r))) ++ (⟨#[58]⟩ : ByteArray)) ++ (numsT ((ps.getD kc default).l))]), G104, (zF (x := 22) (zF (x := 21) (zF (x := 20) (zF (x := 7) (yF (x := 6) rfl) rfl) rfl) rfl) rfl), rfl, (hX117.write hp124 hg125 ((yQ ho118))), (dH (dH (dH (dH (dH hlek32 hle66) hx83.le) hx90.le) hx98.le) hx106.le), (by omega), (by rw [cls_next (by omega), hos]; rfl), (by simp [hol]), (ab_next hab hak), (by omega), ho123⟩))))
 omega
 refine wp_exit (yK (yU (yV (zA (zD (zE ?_))))))
 have hkn : kc = ps.length := by omega
 have hpt : joinC 59 os = prT ps := by rw [hos, hkn, List.take_length]; rfl
 rw [hkn] at hsz hab
 have hp4 : (prT ps).size ≤ 4000 := pr_le hsz
 have htd : tdB ps = true := decP_true.2 ⟨hsh, hab, hp4⟩
 refine qD rfl (zB (v := ov) rfl) ?_
 obtain ⟨G131, hle134, hX133, hr132, hf135⟩ := hw36.sealed hX35
 refine qI rfl (zK (vs := [ov, (.string (⟨#[59]⟩ : ByteArray))]) Tryz.func48 nm48 rfl rfl rfl ?_)
 refine dJ (sW (c := 59) hX133.pins hr132 (by rw [hpt]; exact ⟨by omega, by omega⟩)) ?_
 rintro _ w136 ⟨rfl, hx137⟩
 refine ⟨_, rfl, ?_⟩
 refine qD rfl (zC (v := (.string (joinC 59 os))) rfl) (qD rfl (zC (v := (.bool true)) rfl) (qe (zA ?_)))
 exact wp_ret (zQ (xG (v := (.string (joinC 59 os))) (u := (.bool true)) rfl rfl rfl rfl rfl (⟨_, (by rw [htd, fW htd, hpt]), (hX133.step hx137.pins hx137.below)⟩)))
 refine zD (zE ?_)
 refine qD rfl (zC (v := (.string (⟨#[]⟩ : ByteArray))) rfl) (qD rfl (zC (v := (.bool false)) rfl) (qe (zA ?_)))
 refine wp_ret (zQ (xG (v := (.string (⟨#[]⟩ : ByteArray))) (u := (.bool false)) rfl rfl rfl rfl rfl ?_))
 have hno : tdB ps = false := decP_false.2 (fun g => by have := huf20.2 g.shape; simp_all)
 exact ⟨_, (by rw [hno, kS hno]), hX22⟩
end PT2
end Go.Proofs.YtajkbplgbikgdaaGreatDoor
namespace Go.Proofs.YtajkbplgbikgdaaGreatDoor
namespace PT3
open Go.RowKit Go.GL Go.Proofs
variable {G : Pin}
theorem jH {w : World} {x a b : Int} (hP : Pins G w) :
  Calls Tryz.prog 95 [(.int .i64 x), (.int .i64 a), (.int .i64 b)].toArray w fun e w' => e = .returned (.bool (decide (a ≤ x ∧ x ≤ b))) ∧ w' = w := by
 refine yM (n := 15) Tryz.func95 Tryz.ntmps95 rfl rfl ?_
 have hX0 := exr noS hP
 refine zD (zE ?_)
 refine qD rfl (zC (v := (.bool false)) rfl) (qe (zA (zD (zE ?_))))
 refine qD rfl (zB (v := (.int .i64 x)) rfl) (qD rfl (zB (v := (.int .i64 a)) rfl) (qD rfl (rT rfl rfl) (qD rfl (zB (v := (.bool (decide ((a : Int) ≤ x)))) rfl) (qbd (p := (a : Int) ≤ x) (t := 10) rfl (fun h1 => ?_) (fun h1 => ?_)))))
 refine qdg rfl rfl rfl rfl rfl rfl (zB (v := (.int .i64 x)) rfl) (qdg rfl rfl rfl rfl rfl rfl (zB (v := (.int .i64 b)) rfl) (qdg rfl rfl rfl rfl rfl rfl (kL rfl rfl) (qD rfl (yG (v := (.bool (decide ((x : Int) ≤ b)))) rfl rfl) (qD rfl (zC (v := (.bool (decide ((x : Int) ≤ b)))) rfl) (qe (zA ?_))))))
 exact wp_ret (zQ (yA (v := (.bool (decide ((x : Int) ≤ b)))) rfl rfl rfl (⟨congrArg (fun z => Ending.returned (Value.bool z)) (decide_eq_decide.2 (by omega)), rfl⟩)))
 refine qs rfl rfl rfl rfl rfl rfl (qs rfl rfl rfl rfl rfl rfl (qs rfl rfl rfl rfl rfl rfl (qD rfl (yN (v := (.bool false)) rfl rfl) (qD rfl (zC (v := (.bool false)) rfl) (qe (zA ?_))))))
 exact wp_ret (zQ (yA (v := (.bool false)) rfl rfl rfl (⟨congrArg (fun z => Ending.returned (Value.bool z)) ((decide_eq_false (by omega)).symm), rfl⟩)))
def NuP (n : Int) : Prop := ∀ {w : World} {G : Pin}, Pins G w → Calls Tryz.prog 96 [.int .i64 n].toArray w fun e w' => ∃ G', e = .returned (.string (numT n)) ∧ Ext noS G w G' w'
theorem nX {w : World} {n : Int} (hP : Pins G w) (h0 : 0 ≤ n ∧ n ≤ 999999) (ih : ∀ m : Int, 0 ≤ m → m < n → NuP m) :
  Calls Tryz.prog 96 [(.int .i64 n)].toArray w fun e w' => ∃ G', e = .returned (.string (numT n)) ∧ Ext noS G w G' w' := by
 refine yM (n := 25) Tryz.func96 Tryz.ntmps96 rfl rfl ?_
 have hX0 := exr noS hP
 have hdz : (⟨#[48, 49, 50, 51, 52, 53, 54, 55, 56, 57]⟩ : ByteArray).size = 10 := rfl
 have hnz := (qF (n := n / 10) ⟨by omega, by omega⟩).2
 refine zD (zE ?_)
 refine qD rfl (zC (v := (.string (⟨#[]⟩ : ByteArray))) rfl) (qe (zA (zD (zD (zE ?_)))))
 refine qD rfl (zB (v := (.int .i64 n)) rfl) (qD rfl (xB rfl rfl) (qe (zA ?_)))
 refine yJ (p := (n : Int) < 0) rfl rfl (fun h1 => ?_) (fun h1 => ?_)
 refine zD (zE ?_)
 refine qD rfl (zB (v := (.int .i64 n)) rfl) (qD rfl (r_neg rfl (by omega)) (qI rfl (zK (vs := [(.int .i64 (-n))]) Tryz.func96 nm96 rfl rfl rfl ?_)))
 refine dJ (ih (-n) (by omega) (by omega) hX0.pins) ?_
 rintro _ w3 ⟨G2, rfl, hx4⟩
 refine ⟨_, rfl, ?_⟩
 have hm6 : (⟨#[45]⟩ : ByteArray).size = 1 := rfl
 have hm7 : ((⟨#[45]⟩ : ByteArray) ++ (numT (-n))).size = (⟨#[45]⟩ : ByteArray).size + (numT (-n)).size := ByteArray.size_append
 refine qD rfl (xR rfl rfl (by omega)) (qD rfl (zC (v := (.string ((⟨#[45]⟩ : ByteArray) ++ (numT (-n))))) rfl) (qe (zA ?_)))
 exact wp_ret (zQ (yA (v := (.string ((⟨#[45]⟩ : ByteArray) ++ (numT (-n))))) rfl rfl rfl (⟨_, congrArg (fun z => Ending.returned (Value.string z)) ((by exfalso; omega)), (hX0.tr hx4)⟩)))
 refine wp_skip (zA (zD (zD (zE ?_))))
 refine qD rfl (zB (v := (.int .i64 n)) rfl) (qD rfl (xB rfl rfl) (qe (zA ?_)))
 refine yJ (p := (n : Int) < 10) rfl rfl (fun h8 => ?_) (fun h8 => ?_)
 refine zD (zE ?_)
 refine qD rfl (zB (v := (.int .i64 n)) rfl) (qD rfl (zB (v := (.int .i64 n)) rfl) (qD rfl (yT rfl rfl (by omega)) ?_))
 have hm9 : ((⟨#[48, 49, 50, 51, 52, 53, 54, 55, 56, 57]⟩ : ByteArray).extract (n).toNat (n + 1).toNat).size = min (n + 1).toNat (⟨#[48, 49, 50, 51, 52, 53, 54, 55, 56, 57]⟩ : ByteArray).size - (n).toNat := ByteArray.size_extract
 refine qD rfl (nN eW rfl rfl rfl (by omega) (by omega) (by omega)) (qD rfl (zC (v := (.string ((⟨#[48, 49, 50, 51, 52, 53, 54, 55, 56, 57]⟩ : ByteArray).extract (n).toNat (n + 1).toNat))) rfl) (qe (zA ?_)))
 exact wp_ret (zQ (yA (v := (.string ((⟨#[48, 49, 50, 51, 52, 53, 54, 55, 56, 57]⟩ : ByteArray).extract (n).toNat (n + 1).toNat))) rfl rfl rfl (⟨_, congrArg (fun z => Ending.returned (Value.string z)) (sP ⟨by omega, by omega⟩), hX0⟩)))
 refine wp_skip (zA (zD ?_))
 refine xD (S := fun wz => Pins G wz) (last := 11) (by kernel_rfl) rfl ?_
 have hl10 := bdr w
 have hX12 := hX0.step (hX0.pins.below hl10) hl10
 refine dT (i := 0) rfl rfl (by kernel_rfl) (fun _ _ => zB (v := (.int .i64 n)) rfl) hX12.pins ?_
 refine dT (i := 1) rfl rfl (by kernel_rfl) (fun _ _ => r_quo rfl rfl (by omega) (by omega) (by omega)) hX12.pins ?_
 refine dT (i := 3) rfl rfl (by kernel_rfl) (fun _ _ => zB (v := (.int .i64 n)) rfl) hX12.pins ?_
 refine dT (i := 4) rfl rfl (by kernel_rfl) (fun _ _ => rS rfl rfl (by omega) (by omega)) hX12.pins ?_
 refine dT (i := 5) rfl rfl (by kernel_rfl) (fun _ _ => zB (v := (.int .i64 n)) rfl) hX12.pins ?_
 refine dT (i := 6) rfl rfl (by kernel_rfl) (fun _ _ => rS rfl rfl (by omega) (by omega)) hX12.pins ?_
 refine dT (i := 7) rfl rfl (by kernel_rfl) (fun _ _ => yT rfl rfl (by omega)) hX12.pins ?_
 have hm13 : ((⟨#[48, 49, 50, 51, 52, 53, 54, 55, 56, 57]⟩ : ByteArray).extract (n % 10).toNat ((n % 10) + 1).toNat).size = min ((n % 10) + 1).toNat (⟨#[48, 49, 50, 51, 52, 53, 54, 55, 56, 57]⟩ : ByteArray).size - (n % 10).toNat := ByteArray.size_extract
 refine dT (i := 8) rfl rfl (by kernel_rfl) (fun _ _ => nN eW rfl rfl rfl (by omega) (by omega) (by omega)) hX12.pins ?_
 refine zR (i := 2) (by kernel_rfl) (yC (i := 2) rfl rfl rfl (zH rfl _) (zK (vs := [(.int .i64 (n / 10))]) Tryz.func96 nm96 rfl rfl rfl ?_))
 refine dJ (ih (n / 10) (by omega) (by omega) hX12.pins) ?_
 rintro _ w15 ⟨G14, rfl, hx16⟩
 refine ⟨_, rfl, ?_⟩
 have hX17 := hX12.tr hx16
 refine ⟨fun _ => (dI hX17.pins hx16.le), ?_⟩
 have hm18 : ((numT (n / 10)) ++ ((⟨#[48, 49, 50, 51, 52, 53, 54, 55, 56, 57]⟩ : ByteArray).extract (n % 10).toNat ((n % 10) + 1).toNat)).size = (numT (n / 10)).size + ((⟨#[48, 49, 50, 51, 52, 53, 54, 55, 56, 57]⟩ : ByteArray).extract (n % 10).toNat ((n % 10) + 1).toNat).size := ByteArray.size_append
 refine dT (i := 9) rfl rfl (by kernel_rfl) (fun _ _ => xR rfl rfl (by omega)) (dI hX17.pins hx16.le) ?_
 refine dT (i := 10) rfl rfl (by kernel_rfl) (fun _ _ => zC (v := (.string ((numT (n / 10)) ++ ((⟨#[48, 49, 50, 51, 52, 53, 54, 55, 56, 57]⟩ : ByteArray).extract (n % 10).toNat ((n % 10) + 1).toNat)))) rfl) (dI hX17.pins hx16.le) ?_
 exact yP (by kernel_rfl) (zA (wp_ret (zQ (yA (v := (.string ((numT (n / 10)) ++ ((⟨#[48, 49, 50, 51, 52, 53, 54, 55, 56, 57]⟩ : ByteArray).extract (n % 10).toNat ((n % 10) + 1).toNat)))) rfl rfl rfl (⟨_, congrArg (fun z => Ending.returned (Value.string z)) (numT_step (by omega)), hX17⟩)))))
theorem sU : ∀ (k : Nat) (n : Int), n ≤ k → 0 ≤ n → n ≤ 999999 → NuP n
 | 0, n, hk, h0, h1 => fun hP => nX hP ⟨h0, h1⟩ fun m hm hn => by omega
 | k + 1, n, hk, h0, h1 => fun hP => nX hP ⟨h0, h1⟩ fun m hm hn => sU k m (by omega) hm (by omega)
theorem nY (n : Int) (h0 : 0 ≤ n) (h1 : n ≤ 999999) : NuP n := sU n.toNat n (by omega) h0 h1
theorem l1Num_neg {w : World} {n : Int} (hP : Pins G w) (h0 : -999999 ≤ n ∧ n < 0) :
  Calls Tryz.prog 96 [(.int .i64 n)].toArray w fun e w' => ∃ G', e = .returned (.string (numT n)) ∧ Ext noS G w G' w' := by
 refine yM (n := 25) Tryz.func96 Tryz.ntmps96 rfl rfl ?_
 have hX0 := exr noS hP
 have hdz : (⟨#[48, 49, 50, 51, 52, 53, 54, 55, 56, 57]⟩ : ByteArray).size = 10 := rfl
 have hnz := (qF (n := -n) ⟨by omega, by omega⟩).2
 refine zD (zE ?_)
 refine qD rfl (zC (v := (.string (⟨#[]⟩ : ByteArray))) rfl) (qe (zA (zD (zD (zE ?_)))))
 refine qD rfl (zB (v := (.int .i64 n)) rfl) (qD rfl (xB rfl rfl) (qe (zA ?_)))
 refine yJ (p := (n : Int) < 0) rfl rfl (fun h1 => ?_) (fun h1 => ?_)
 refine zD (zE ?_)
 refine qD rfl (zB (v := (.int .i64 n)) rfl) (qD rfl (r_neg rfl (by omega)) (qI rfl (zK (vs := [(.int .i64 (-n))]) Tryz.func96 nm96 rfl rfl rfl ?_)))
 refine dJ (nY (-n) (by omega) (by omega) hX0.pins) ?_
 rintro _ w3 ⟨G2, rfl, hx4⟩
 refine ⟨_, rfl, ?_⟩
 have hm6 : (⟨#[45]⟩ : ByteArray).size = 1 := rfl
 have hm7 : ((⟨#[45]⟩ : ByteArray) ++ (numT (-n))).size = (⟨#[45]⟩ : ByteArray).size + (numT (-n)).size := ByteArray.size_append
 refine qD rfl (xR rfl rfl (by omega)) (qD rfl (zC (v := (.string ((⟨#[45]⟩ : ByteArray) ++ (numT (-n))))) rfl) (qe (zA ?_)))
 exact wp_ret (zQ (yA (v := (.string ((⟨#[45]⟩ : ByteArray) ++ (numT (-n))))) rfl rfl rfl (⟨_, congrArg (fun z => Ending.returned (Value.string z)) (by first | exact nS (by omega) | (exfalso; omega)), (hX0.tr hx4)⟩)))
 refine wp_skip (zA (zD (zD (zE ?_))))
 refine qD rfl (zB (v := (.int .i64 n)) rfl) (qD rfl (xB rfl rfl) (qe (zA ?_)))
 refine yJ (p := (n : Int) < 10) rfl rfl (fun h8 => ?_) (fun h8 => ?_)
 refine zD (zE ?_)
 refine qD rfl (zB (v := (.int .i64 n)) rfl) (qD rfl (zB (v := (.int .i64 n)) rfl) (qD rfl (yT rfl rfl (by omega)) ?_))
 have hm9 : ((⟨#[48, 49, 50, 51, 52, 53, 54, 55, 56, 57]⟩ : ByteArray).extract (n).toNat (n + 1).toNat).size = min (n + 1).toNat (⟨#[48, 49, 50, 51, 52, 53, 54, 55, 56, 57]⟩ : ByteArray).size - (n).toNat := ByteArray.size_extract
 refine qD rfl (nN eW rfl rfl rfl (by omega) (by omega) (by omega)) (qD rfl (zC (v := (.string ((⟨#[48, 49, 50, 51, 52, 53, 54, 55, 56, 57]⟩ : ByteArray).extract (n).toNat (n + 1).toNat))) rfl) (qe (zA ?_)))
 exact wp_ret (zQ (yA (v := (.string ((⟨#[48, 49, 50, 51, 52, 53, 54, 55, 56, 57]⟩ : ByteArray).extract (n).toNat (n + 1).toNat))) rfl rfl rfl (⟨_, congrArg (fun z => Ending.returned (Value.string z)) (by first | exact nS (by omega) | (exfalso; omega)), hX0⟩)))
 refine wp_skip (zA (zD ?_))
 refine xD (S := fun wz => Pins G wz) (last := 11) (by kernel_rfl) rfl ?_
 have hl10 := bdr w
 have hX12 := hX0.step (hX0.pins.below hl10) hl10
 refine dT (i := 0) rfl rfl (by kernel_rfl) (fun _ _ => zB (v := (.int .i64 n)) rfl) hX12.pins ?_
 refine dT (i := 1) rfl rfl (by kernel_rfl) (fun _ _ => r_quo rfl rfl (by omega) (by omega) (by omega)) hX12.pins ?_
 refine dT (i := 3) rfl rfl (by kernel_rfl) (fun _ _ => zB (v := (.int .i64 n)) rfl) hX12.pins ?_
 refine dT (i := 4) rfl rfl (by kernel_rfl) (fun _ _ => rS rfl rfl (by omega) (by omega)) hX12.pins ?_
 refine dT (i := 5) rfl rfl (by kernel_rfl) (fun _ _ => zB (v := (.int .i64 n)) rfl) hX12.pins ?_
 refine dT (i := 6) rfl rfl (by kernel_rfl) (fun _ _ => rS rfl rfl (by omega) (by omega)) hX12.pins ?_
 refine dT (i := 7) rfl rfl (by kernel_rfl) (fun _ _ => yT rfl rfl (by omega)) hX12.pins ?_
 have hm13 : ((⟨#[48, 49, 50, 51, 52, 53, 54, 55, 56, 57]⟩ : ByteArray).extract (n % 10).toNat ((n % 10) + 1).toNat).size = min ((n % 10) + 1).toNat (⟨#[48, 49, 50, 51, 52, 53, 54, 55, 56, 57]⟩ : ByteArray).size - (n % 10).toNat := ByteArray.size_extract
 refine dT (i := 8) rfl rfl (by kernel_rfl) (fun _ _ => nN eW rfl rfl rfl (by omega) (by omega) (by omega)) hX12.pins ?_
 refine zR (i := 2) (by kernel_rfl) (yC (i := 2) rfl rfl rfl (zH rfl _) (zK (vs := [(.int .i64 (n / 10))]) Tryz.func96 nm96 rfl rfl rfl ?_))
 refine dJ (nY (n / 10) (by omega) (by omega) hX12.pins) ?_
 rintro _ w15 ⟨G14, rfl, hx16⟩
 refine ⟨_, rfl, ?_⟩
 have hX17 := hX12.tr hx16
 refine ⟨fun _ => (dI hX17.pins hx16.le), ?_⟩
 have hm18 : ((numT (n / 10)) ++ ((⟨#[48, 49, 50, 51, 52, 53, 54, 55, 56, 57]⟩ : ByteArray).extract (n % 10).toNat ((n % 10) + 1).toNat)).size = (numT (n / 10)).size + ((⟨#[48, 49, 50, 51, 52, 53, 54, 55, 56, 57]⟩ : ByteArray).extract (n % 10).toNat ((n % 10) + 1).toNat).size := ByteArray.size_append
 refine dT (i := 9) rfl rfl (by kernel_rfl) (fun _ _ => xR rfl rfl (by omega)) (dI hX17.pins hx16.le) ?_
 refine dT (i := 10) rfl rfl (by kernel_rfl) (fun _ _ => zC (v := (.string ((numT (n / 10)) ++ ((⟨#[48, 49, 50, 51, 52, 53, 54, 55, 56, 57]⟩ : ByteArray).extract (n % 10).toNat ((n % 10) + 1).toNat)))) rfl) (dI hX17.pins hx16.le) ?_
 exact yP (by kernel_rfl) (zA (wp_ret (zQ (yA (v := (.string ((numT (n / 10)) ++ ((⟨#[48, 49, 50, 51, 52, 53, 54, 55, 56, 57]⟩ : ByteArray).extract (n % 10).toNat ((n % 10) + 1).toNat)))) rfl rfl rfl (⟨_, congrArg (fun z => Ending.returned (Value.string z)) (by first | exact nS (by omega) | (exfalso; omega)), hX17⟩)))))
theorem qB (n : Int) (h0 : -999999 ≤ n) (h1 : n ≤ 999999) : NuP n := fun hP => by
 by_cases h : n < 0
 ·exact l1Num_neg hP ⟨h0, h⟩
 ·exact nY n (by omega) h1 hP
theorem jN {w : World} {v : Value} {xs : List Int} (hP : Pins G w) (hv : RSl eInt G v xs) (hb : NumsOk xs) (hl : xs.length ≤ 5000) :
  Calls Tryz.prog 97 [v].toArray w fun e w' => ∃ G', e = .returned (.string (numsT xs)) ∧ Ext noS G w G' w' := by
 refine yM (n := 23) Tryz.func97 Tryz.ntmps97 rfl rfl ?_
 have hX0 := exr noS hP
 have hm := hv.max
 refine zD (zE ?_)
 refine qD rfl (zC (v := (.string (⟨#[]⟩ : ByteArray))) rfl) (qe (zA (zD (zE ?_))))
 refine qD rfl (zC (v := (.string (⟨#[]⟩ : ByteArray))) rfl) (qe (zA (zD (zD (zE ?_)))))
 refine qD rfl (zC (v := (.int .i64 0)) rfl) (qe (zA ?_))
 refine yI (yZ (fun (k : Nat) (en : Nat → Value) (W : World) => ∃ (env1 : Nat → Value) (j : Nat) (os : ByteArray) (GL1 : Pin), en = (upd (upd (upd (upd env1 0 v) 2 (.string (⟨#[]⟩ : ByteArray))) 3 (.string os)) 4 (.int .i64 (j : Int))) ∧ k = xs.length - j ∧ Ext noS G w GL1 W ∧ Pin.le G GL1 ∧ (j ≤ xs.length) ∧ (os = numsT (xs.take j))) _ ⟨_, 0, (⟨#[]⟩ : ByteArray), G, (zF (x := 4) (zF (x := 3) (zF (x := 2) (yF (x := 0) rfl) rfl) rfl) rfl), rfl, hX0, Pin.le_refl _, Nat.zero_le _, numsT_nil.symm⟩ ?_)
 rintro k1 _ w2 ⟨env1, j, os, GL1, rfl, hk3, hX4, hlek1, hj, hos⟩
 have hoz := nums_take hb hj
 rw [← hos] at hoz
 refine zD (zD (zE ?_))
 refine qD rfl (zB (v := (.int .i64 (j : Int))) rfl) (qD rfl (zB (v := v) rfl) (qD rfl (run_len eR (v := v) rfl hv) (qD rfl (xB rfl rfl) (qe (zA ?_)))))
 refine yJ (p := ((j : Int) : Int) < (xs.length : Int)) rfl rfl (fun h5 => ?_) (fun h5 => ?_)
 have hxj := nums_at hb (j := j) (by omega)
 have hxz := qF hxj
 refine wp_skip (zA (zD ?_))
 refine yI (zD (zD (zE ?_)))
 refine qD rfl (zB (v := (.int .i64 (j : Int))) rfl) (qD rfl (qV rfl rfl) (qe (zA ?_)))
 refine yJ (p := (0 : Int) < (j : Int)) rfl rfl (fun h6 => ?_) (fun h6 => ?_)
 refine zE (qD rfl (zB (v := (.string os)) rfl) ?_)
 have hm7 : (⟨#[44]⟩ : ByteArray).size = 1 := rfl
 have hm8 : (os ++ (⟨#[44]⟩ : ByteArray)).size = os.size + (⟨#[44]⟩ : ByteArray).size := ByteArray.size_append
 refine qD rfl (xR rfl rfl (by omega)) (qD rfl (zC (v := (.string (os ++ (⟨#[44]⟩ : ByteArray)))) rfl) (qe (zA (zE ?_))))
 refine qD rfl (zB (v := (.string (os ++ (⟨#[44]⟩ : ByteArray)))) rfl) (qD rfl (zB (v := v) rfl) (qD rfl (zB (v := (.int .i64 (j : Int))) rfl) (qD rfl (zL eR sz3 (v := v) rfl rfl hv (by omega) (by omega)) (qD rfl (zZ (r := xs.getD j 0) rfl ag3 (z := (j : Int)) rfl hv (dI hX4.pins hlek1) (by omega) (by omega)) (qI rfl (zK (vs := [(.int .i64 (xs.getD j 0))]) Tryz.func96 nm96 rfl rfl rfl ?_))))))
 refine dJ (qB (xs.getD j 0) (by omega) (by omega) hX4.pins) ?_
 rintro _ w10 ⟨G9, rfl, hx11⟩
 refine ⟨_, rfl, ?_⟩
 have hm13 : ((os ++ (⟨#[44]⟩ : ByteArray)) ++ (numT (xs.getD j 0))).size = (os ++ (⟨#[44]⟩ : ByteArray)).size + (numT (xs.getD j 0)).size := ByteArray.size_append
 refine qD rfl (xR rfl rfl (by omega)) (qD rfl (zC (v := (.string ((os ++ (⟨#[44]⟩ : ByteArray)) ++ (numT (xs.getD j 0))))) rfl) (qe (yO (zA (zE ?_)))))
 refine qD rfl (zB (v := (.int .i64 (j : Int))) rfl) (qD rfl (yT rfl rfl (by omega)) (qD rfl (zC (v := (.int .i64 ((j : Int) + 1))) rfl) (qe (yR (⟨_, ?_, _, rfl, _, j + 1, (os ++ (⟨#[44]⟩ : ByteArray)) ++ (numT (xs.getD j 0)), G9, (zF (x := 4) (zF (x := 3) (zF (x := 2) (yF (x := 0) rfl) rfl) rfl) rfl), rfl, (hX4.tr hx11), (dH hlek1 hx11.le), (by omega), (nums_stepA (by omega) hos h6)⟩)))))
 omega
 refine wp_skip (zA (zE ?_))
 refine qD rfl (zB (v := (.string os)) rfl) (qD rfl (zB (v := v) rfl) (qD rfl (zB (v := (.int .i64 (j : Int))) rfl) (qD rfl (zL eR sz3 (v := v) rfl rfl hv (by omega) (by omega)) (qD rfl (zZ (r := xs.getD j 0) rfl ag3 (z := (j : Int)) rfl hv (dI hX4.pins hlek1) (by omega) (by omega)) (qI rfl (zK (vs := [(.int .i64 (xs.getD j 0))]) Tryz.func96 nm96 rfl rfl rfl ?_))))))
 refine dJ (qB (xs.getD j 0) (by omega) (by omega) hX4.pins) ?_
 rintro _ w15 ⟨G14, rfl, hx16⟩
 refine ⟨_, rfl, ?_⟩
 have hm18 : (os ++ (numT (xs.getD j 0))).size = os.size + (numT (xs.getD j 0)).size := ByteArray.size_append
 refine qD rfl (xR rfl rfl (by omega)) (qD rfl (zC (v := (.string (os ++ (numT (xs.getD j 0))))) rfl) (qe (yO (zA (zE ?_)))))
 refine qD rfl (zB (v := (.int .i64 (j : Int))) rfl) (qD rfl (yT rfl rfl (by omega)) (qD rfl (zC (v := (.int .i64 ((j : Int) + 1))) rfl) (qe (yR (⟨_, ?_, _, rfl, _, j + 1, os ++ (numT (xs.getD j 0)), G14, (zF (x := 4) (zF (x := 3) (zF (x := 2) (yF (x := 0) rfl) rfl) rfl) rfl), rfl, (hX4.tr hx16), (dH hlek1 hx16.le), (by omega), (nums_stepB (by omega) hos h6)⟩)))))
 omega
 refine wp_exit (yK (yU (yV (zA (zD (zE ?_))))))
 refine qD rfl (zB (v := (.string os)) rfl) (qD rfl (zC (v := (.string os)) rfl) (qe (zA ?_)))
 refine wp_ret (zQ (yA (v := (.string os)) rfl rfl rfl ?_))
 have hjn : j = xs.length := by omega
 rw [hjn, List.take_length] at hos
 exact ⟨_, congrArg (fun z => Ending.returned (Value.string z)) hos, hX4⟩
end PT3
end Go.Proofs.YtajkbplgbikgdaaGreatDoor
namespace Go.Proofs.YtajkbplgbikgdaaGreatDoor
namespace PT4
open Go.RowKit Go.GL Go.Proofs
open PT3
theorem jT {w : World} {G : Pin} {v : Value} {ps : List Cl} (hP : Pins G w) (hv : RSl eClaim G v ps) (hlb : LenB ps) (hcl : ∀ k, k < ps.length → ClOk (ps.getD k default)) :
  Calls Tryz.prog 50 [(.agg [v].toArray)].toArray w fun e w' => ∃ (z : ByteArray) (G' : Pin), e = .returned (.string z) ∧ TxR ps z ∧ Ext noS G w G' w' := by
 refine yM (n := 48) Tryz.func50 Tryz.ntmps50 rfl rfl ?_
 have hX0 := exr noS hP
 have hm := hv.max
 refine zD (zE ?_)
 refine qI rfl (xX [v] (v := (.agg [v].toArray)) rfl rfl hX0.pins (fun b1 w2 hk3 hb4 hp5 hl6 => ?_))
 have hlo8 : w.heap.size ≤ b1 := by have := hX0.size; omega
 obtain ⟨G9, hle10, hX11, hbp12, hf13⟩ := hb4.shut (hX0.step hp5 hl6) hlo8
 refine qD rfl (zC (v := (.string (⟨#[]⟩ : ByteArray))) rfl) (qe (zA (zD (zE ?_))))
 refine qD rfl (zC (v := (.string (⟨#[]⟩ : ByteArray))) rfl) (qe (zA (zD (zD (zE ?_)))))
 refine qD rfl (zC (v := (.int .i64 0)) rfl) (qe (zA ?_))
 refine yI (yZ (fun (k : Nat) (en : Nat → Value) (W : World) => ∃ (env1 : Nat → Value) (kc : Nat) (os : ByteArray) (GL1 : Pin), en = (upd (upd (upd (upd env1 1 (.pointer (some ⟨b1, 0, none⟩))) 2 (.string (⟨#[]⟩ : ByteArray))) 3 (.string os)) 4 (.int .i64 (kc : Int))) ∧ k = ps.length - kc ∧ Ext noS G w GL1 W ∧ Pin.le G9 GL1 ∧ (kc ≤ ps.length) ∧ (os = prT (ps.take kc)) ∧ (os.size ≤ 80000)) _ ⟨_, 0, (⟨#[]⟩ : ByteArray), G9, (zF (x := 4) (zF (x := 3) (zF (x := 2) (yF (x := 1) rfl) rfl) rfl) rfl), rfl, hX11, Pin.le_refl _, Nat.zero_le _, prT_nil.symm, (Nat.zero_le _)⟩ ?_)
 rintro k14 _ w15 ⟨env1, kc, os, GL1, rfl, hk16, hX17, hlek14, hk, hos, hoz⟩
 refine zD (zD (zE ?_))
 refine qD rfl (zB (v := (.int .i64 (kc : Int))) rfl) (qD rfl (zM (k := 0) rfl eV rfl nz36 rfl) (qD rfl (zP (u := v) ag36 rfl ((dI hX17.pins hlek14) _ _ _ (hbp12 0 _ rfl))) (qD rfl (run_len eU (v := v) rfl hv) (qD rfl (xB rfl rfl) (qD rfl (zB (v := (.bool (decide (((kc : Int) : Int) < (ps.length : Int))))) rfl) (qbd (p := ((kc : Int) : Int) < (ps.length : Int)) (t := 11) rfl (fun h18 => ?_) (fun h18 => ?_)))))))
 refine qdg rfl rfl rfl rfl rfl rfl (zB (v := (.string os)) rfl) (qdg rfl rfl rfl rfl rfl rfl (qH eW rfl) (qdg rfl rfl rfl rfl rfl rfl (kL rfl rfl) (qD rfl (yG (v := (.bool (decide (((os.size : Int) : Int) ≤ 4000)))) rfl rfl) (qe (zA ?_)))))
 refine yJ (p := ((os.size : Int) : Int) ≤ 4000) rfl rfl (fun h19 => ?_) (fun h19 => ?_)
 refine wp_skip (zA (zD ?_))
 refine yI (zD (zD (zE ?_)))
 have hck := hcl kc (by omega)
 have hlk := hlb kc (by omega)
 have hcz := vT hck
 have hn1 := qF hck.a
 have hn2 := qF hck.b
 have hn3 := jR hck.r
 have hn4 := jR hck.l
 have ha1 := hck.a.1
 have ha2 := hck.a.2
 have hb1 := hck.b.1
 have hb2 := hck.b.2
 refine qD rfl (zB (v := (.int .i64 (kc : Int))) rfl) (qD rfl (qV rfl rfl) (qe (zA ?_)))
 refine yJ (p := (0 : Int) < (kc : Int)) rfl rfl (fun h20 => ?_) (fun h20 => ?_)
 refine zE (qD rfl (zB (v := (.string os)) rfl) ?_)
 have hm21 : (⟨#[59]⟩ : ByteArray).size = 1 := rfl
 have hm22 : (os ++ (⟨#[59]⟩ : ByteArray)).size = os.size + (⟨#[59]⟩ : ByteArray).size := ByteArray.size_append
 refine qD rfl (xR rfl rfl (by omega)) (qD rfl (zC (v := (.string (os ++ (⟨#[59]⟩ : ByteArray)))) rfl) (qe (zA (zD (zE ?_)))))
 refine qD rfl (zM (k := 0) rfl eV rfl nz36 rfl) (qD rfl (zP (u := v) ag36 rfl ((dI hX17.pins hlek14) _ _ _ (hbp12 0 _ rfl))) (qD rfl (zB (v := (.int .i64 (kc : Int))) rfl) (qD rfl (zL eU sz72 (v := v) rfl rfl hv (by omega) (by omega)) ?_)))
 obtain ⟨cs23, hrep24, hagg25, hcell26⟩ := qO (j := kc) default (hv.at (z := (kc : Int)) (by omega) (by omega)) rfl
 obtain ⟨u27, u29, rfl, hr28, hr30⟩ := hrep24
 have hm31 := hr28.max
 have hm32 := hr30.max
 refine qD rfl (hagg25 ag72 sz72 rfl (dI hX17.pins (dH hle10 hlek14))) (qI rfl (yL [(.int .i64 0), (.int .i64 0), (.slice none 0 0), (.slice none 0 0)] zr72 rfl hX17.pins (fun b33 w34 hk35 hb36 hp37 hl38 => ?_)))
 have hX39 := hX17.step hp37 hl38
 have hlo40 : w.heap.size ≤ b33 := by have := hX17.size; omega
 refine q0 rfl rfl rfl (yD (cs' := [(.int .i64 ((ps.getD kc default).a)), (.int .i64 ((ps.getD kc default).b)), u27, u29]) (us := [(.int .i64 ((ps.getD kc default).a)), (.int .i64 ((ps.getD kc default).b)), u27, u29]) (v := (.agg [(.int .i64 ((ps.getD kc default).a)), (.int .i64 ((ps.getD kc default).b)), u27, u29].toArray)) sz72 rfl rfl rfl (jB (by rfl) (by rfl) hr28.one hr30.one) hX39.pins hb36 (dK rfl) rfl (fun w41 hb42 hp43 hg44 hz45 => ?_))
 obtain ⟨G47, hle48, hX49, hbp50, hf51⟩ := hb42.shut (hX39.write hp43 hg44 ((zS hlo40))) hlo40
 refine qe (zA ?_)
 refine xD (S := fun wz => Pins G47 wz) (last := 21) (by kernel_rfl) rfl ?_
 have hl52 := bdr w41
 have hX54 := hX49.step (hX49.pins.below hl52) hl52
 refine dT (i := 0) rfl rfl (by kernel_rfl) (fun _ _ => zB (v := (.string (os ++ (⟨#[59]⟩ : ByteArray)))) rfl) hX54.pins ?_
 refine dT (i := 1) rfl rfl (by kernel_rfl) (fun _ _ => zM (k := 0) rfl eS rfl nz3 rfl) hX54.pins ?_
 refine dT (i := 2) rfl rfl (by kernel_rfl) (fun _ hS => zP (u := (.int .i64 ((ps.getD kc default).a))) ag3 rfl (hS _ _ _ (hbp50 0 _ rfl))) hX54.pins ?_
 refine dT (i := 6) rfl rfl (by kernel_rfl) (fun _ _ => zM (k := 1) rfl eS rfl nz3 rfl) hX54.pins ?_
 refine dT (i := 7) rfl rfl (by kernel_rfl) (fun _ hS => zP (u := (.int .i64 ((ps.getD kc default).b))) ag3 rfl (hS _ _ _ (hbp50 1 _ rfl))) hX54.pins ?_
 refine dT (i := 11) rfl rfl (by kernel_rfl) (fun _ _ => zM (k := 2) rfl eS rfl nz59 rfl) hX54.pins ?_
 refine dT (i := 12) rfl rfl (by kernel_rfl) (fun _ hS => zP (u := u27) ag59 rfl (hS _ _ _ (hbp50 2 _ rfl))) hX54.pins ?_
 refine dT (i := 16) rfl rfl (by kernel_rfl) (fun _ _ => zM (k := 3) rfl eS rfl nz59 rfl) hX54.pins ?_
 refine dT (i := 17) rfl rfl (by kernel_rfl) (fun _ hS => zP (u := u29) ag59 rfl (hS _ _ _ (hbp50 3 _ rfl))) hX54.pins ?_
 refine zR (i := 3) (by kernel_rfl) (yC (i := 3) rfl rfl rfl (zH rfl _) (zK (vs := [(.int .i64 ((ps.getD kc default).a))]) Tryz.func96 nm96 rfl rfl rfl ?_))
 refine dJ (qB ((ps.getD kc default).a) (by omega) (by omega) hX54.pins) ?_
 rintro _ w56 ⟨G55, rfl, hx57⟩
 refine ⟨_, rfl, ?_⟩
 have hX58 := hX54.tr hx57
 refine ⟨fun _ => (dI hX58.pins hx57.le), ?_⟩
 have hm59 : ((os ++ (⟨#[59]⟩ : ByteArray)) ++ (numT ((ps.getD kc default).a))).size = (os ++ (⟨#[59]⟩ : ByteArray)).size + (numT ((ps.getD kc default).a)).size := ByteArray.size_append
 refine dT (i := 4) rfl rfl (by kernel_rfl) (fun _ _ => xR rfl rfl (by omega)) (dI hX58.pins hx57.le) ?_
 have hm60 : (⟨#[32]⟩ : ByteArray).size = 1 := rfl
 have hm61 : (((os ++ (⟨#[59]⟩ : ByteArray)) ++ (numT ((ps.getD kc default).a))) ++ (⟨#[32]⟩ : ByteArray)).size = ((os ++ (⟨#[59]⟩ : ByteArray)) ++ (numT ((ps.getD kc default).a))).size + (⟨#[32]⟩ : ByteArray).size := ByteArray.size_append
 refine dT (i := 5) rfl rfl (by kernel_rfl) (fun _ _ => xR rfl rfl (by omega)) (dI hX58.pins hx57.le) ?_
 refine zR (i := 8) (by kernel_rfl) (yC (i := 8) rfl rfl rfl (zH rfl _) (zK (vs := [(.int .i64 ((ps.getD kc default).b))]) Tryz.func96 nm96 rfl rfl rfl ?_))
 refine dJ (qB ((ps.getD kc default).b) (by omega) (by omega) hX58.pins) ?_
 rintro _ w63 ⟨G62, rfl, hx64⟩
 refine ⟨_, rfl, ?_⟩
 have hX65 := hX58.tr hx64
 refine ⟨fun _ => (dI hX65.pins (dH hx57.le hx64.le)), ?_⟩
 have hm66 : ((((os ++ (⟨#[59]⟩ : ByteArray)) ++ (numT ((ps.getD kc default).a))) ++ (⟨#[32]⟩ : ByteArray)) ++ (numT ((ps.getD kc default).b))).size = (((os ++ (⟨#[59]⟩ : ByteArray)) ++ (numT ((ps.getD kc default).a))) ++ (⟨#[32]⟩ : ByteArray)).size + (numT ((ps.getD kc default).b)).size := ByteArray.size_append
 refine dT (i := 9) rfl rfl (by kernel_rfl) (fun _ _ => xR rfl rfl (by omega)) (dI hX65.pins (dH hx57.le hx64.le)) ?_
 have hm67 : (⟨#[58]⟩ : ByteArray).size = 1 := rfl
 have hm68 : (((((os ++ (⟨#[59]⟩ : ByteArray)) ++ (numT ((ps.getD kc default).a))) ++ (⟨#[32]⟩ : ByteArray)) ++ (numT ((ps.getD kc default).b))) ++ (⟨#[58]⟩ : ByteArray)).size = ((((os ++ (⟨#[59]⟩ : ByteArray)) ++ (numT ((ps.getD kc default).a))) ++ (⟨#[32]⟩ : ByteArray)) ++ (numT ((ps.getD kc default).b))).size + (⟨#[58]⟩ : ByteArray).size := ByteArray.size_append
 refine dT (i := 10) rfl rfl (by kernel_rfl) (fun _ _ => xR rfl rfl (by omega)) (dI hX65.pins (dH hx57.le hx64.le)) ?_
 refine zR (i := 13) (by kernel_rfl) (yC (i := 13) rfl rfl rfl (zH rfl _) (zK (vs := [u27]) Tryz.func97 nm97 rfl rfl rfl ?_))
 refine dJ (jN hX65.pins (hr28.mono (dH (dH (dH (dH hle10 hlek14) hle48) hx57.le) hx64.le)) (by first | exact hck.r | exact hck.l) (by omega)) ?_
 rintro _ w70 ⟨G69, rfl, hx71⟩
 refine ⟨_, rfl, ?_⟩
 have hX72 := hX65.tr hx71
 refine ⟨fun _ => (dI hX72.pins (dH (dH hx57.le hx64.le) hx71.le)), ?_⟩
 have hm73 : ((((((os ++ (⟨#[59]⟩ : ByteArray)) ++ (numT ((ps.getD kc default).a))) ++ (⟨#[32]⟩ : ByteArray)) ++ (numT ((ps.getD kc default).b))) ++ (⟨#[58]⟩ : ByteArray)) ++ (numsT ((ps.getD kc default).r))).size = (((((os ++ (⟨#[59]⟩ : ByteArray)) ++ (numT ((ps.getD kc default).a))) ++ (⟨#[32]⟩ : ByteArray)) ++ (numT ((ps.getD kc default).b))) ++ (⟨#[58]⟩ : ByteArray)).size + (numsT ((ps.getD kc default).r)).size := ByteArray.size_append
 refine dT (i := 14) rfl rfl (by kernel_rfl) (fun _ _ => xR rfl rfl (by omega)) (dI hX72.pins (dH (dH hx57.le hx64.le) hx71.le)) ?_
 have hm74 : (⟨#[58]⟩ : ByteArray).size = 1 := rfl
 have hm75 : (((((((os ++ (⟨#[59]⟩ : ByteArray)) ++ (numT ((ps.getD kc default).a))) ++ (⟨#[32]⟩ : ByteArray)) ++ (numT ((ps.getD kc default).b))) ++ (⟨#[58]⟩ : ByteArray)) ++ (numsT ((ps.getD kc default).r))) ++ (⟨#[58]⟩ : ByteArray)).size = ((((((os ++ (⟨#[59]⟩ : ByteArray)) ++ (numT ((ps.getD kc default).a))) ++ (⟨#[32]⟩ : ByteArray)) ++ (numT ((ps.getD kc default).b))) ++ (⟨#[58]⟩ : ByteArray)) ++ (numsT ((ps.getD kc default).r))).size + (⟨#[58]⟩ : ByteArray).size := ByteArray.size_append
 refine dT (i := 15) rfl rfl (by kernel_rfl) (fun _ _ => xR rfl rfl (by omega)) (dI hX72.pins (dH (dH hx57.le hx64.le) hx71.le)) ?_
 refine zR (i := 18) (by kernel_rfl) (yC (i := 18) rfl rfl rfl (zH rfl _) (zK (vs := [u29]) Tryz.func97 nm97 rfl rfl rfl ?_))
 refine dJ (jN hX72.pins (hr30.mono (dH (dH (dH (dH (dH hle10 hlek14) hle48) hx57.le) hx64.le) hx71.le)) (by first | exact hck.r | exact hck.l) (by omega)) ?_
 rintro _ w77 ⟨G76, rfl, hx78⟩
 refine ⟨_, rfl, ?_⟩
 have hX79 := hX72.tr hx78
 refine ⟨fun _ => (dI hX79.pins (dH (dH (dH hx57.le hx64.le) hx71.le) hx78.le)), ?_⟩
 have hm80 : ((((((((os ++ (⟨#[59]⟩ : ByteArray)) ++ (numT ((ps.getD kc default).a))) ++ (⟨#[32]⟩ : ByteArray)) ++ (numT ((ps.getD kc default).b))) ++ (⟨#[58]⟩ : ByteArray)) ++ (numsT ((ps.getD kc default).r))) ++ (⟨#[58]⟩ : ByteArray)) ++ (numsT ((ps.getD kc default).l))).size = (((((((os ++ (⟨#[59]⟩ : ByteArray)) ++ (numT ((ps.getD kc default).a))) ++ (⟨#[32]⟩ : ByteArray)) ++ (numT ((ps.getD kc default).b))) ++ (⟨#[58]⟩ : ByteArray)) ++ (numsT ((ps.getD kc default).r))) ++ (⟨#[58]⟩ : ByteArray)).size + (numsT ((ps.getD kc default).l)).size := ByteArray.size_append
 refine dT (i := 19) rfl rfl (by kernel_rfl) (fun _ _ => xR rfl rfl (by omega)) (dI hX79.pins (dH (dH (dH hx57.le hx64.le) hx71.le) hx78.le)) ?_
 refine dT (i := 20) rfl rfl (by kernel_rfl) (fun _ _ => zC (v := (.string ((((((((os ++ (⟨#[59]⟩ : ByteArray)) ++ (numT ((ps.getD kc default).a))) ++ (⟨#[32]⟩ : ByteArray)) ++ (numT ((ps.getD kc default).b))) ++ (⟨#[58]⟩ : ByteArray)) ++ (numsT ((ps.getD kc default).r))) ++ (⟨#[58]⟩ : ByteArray)) ++ (numsT ((ps.getD kc default).l))))) rfl) (dI hX79.pins (dH (dH (dH hx57.le hx64.le) hx71.le) hx78.le)) ?_
 refine yP (by kernel_rfl) (yO (zA (zE ?_)))
 refine qD rfl (zB (v := (.int .i64 (kc : Int))) rfl) (qD rfl (yT rfl rfl (by omega)) (qD rfl (zC (v := (.int .i64 ((kc : Int) + 1))) rfl) (qe (yR (⟨_, ?_, _, rfl, _, kc + 1, (((((((os ++ (⟨#[59]⟩ : ByteArray)) ++ (numT ((ps.getD kc default).a))) ++ (⟨#[32]⟩ : ByteArray)) ++ (numT ((ps.getD kc default).b))) ++ (⟨#[58]⟩ : ByteArray)) ++ (numsT ((ps.getD kc default).r))) ++ (⟨#[58]⟩ : ByteArray)) ++ (numsT ((ps.getD kc default).l)), G76, (zF (x := 4) (zF (x := 3) (zF (x := 2) (yF (x := 1) rfl) rfl) rfl) rfl), rfl, hX79, (dH (dH (dH (dH (dH hlek14 hle48) hx57.le) hx64.le) hx71.le) hx78.le), (by omega), (pr_stepA (by omega) hos h20), (by omega)⟩)))))
 omega
 refine wp_skip (zA (zD (zE ?_)))
 refine qD rfl (zM (k := 0) rfl eV rfl nz36 rfl) (qD rfl (zP (u := v) ag36 rfl ((dI hX17.pins hlek14) _ _ _ (hbp12 0 _ rfl))) (qD rfl (zB (v := (.int .i64 (kc : Int))) rfl) (qD rfl (zL eU sz72 (v := v) rfl rfl hv (by omega) (by omega)) ?_)))
 obtain ⟨cs81, hrep82, hagg83, hcell84⟩ := qO (j := kc) default (hv.at (z := (kc : Int)) (by omega) (by omega)) rfl
 obtain ⟨u85, u87, rfl, hr86, hr88⟩ := hrep82
 have hm89 := hr86.max
 have hm90 := hr88.max
 refine qD rfl (hagg83 ag72 sz72 rfl (dI hX17.pins (dH hle10 hlek14))) (qI rfl (yL [(.int .i64 0), (.int .i64 0), (.slice none 0 0), (.slice none 0 0)] zr72 rfl hX17.pins (fun b91 w92 hk93 hb94 hp95 hl96 => ?_)))
 have hX97 := hX17.step hp95 hl96
 have hlo98 : w.heap.size ≤ b91 := by have := hX17.size; omega
 refine q0 rfl rfl rfl (yD (cs' := [(.int .i64 ((ps.getD kc default).a)), (.int .i64 ((ps.getD kc default).b)), u85, u87]) (us := [(.int .i64 ((ps.getD kc default).a)), (.int .i64 ((ps.getD kc default).b)), u85, u87]) (v := (.agg [(.int .i64 ((ps.getD kc default).a)), (.int .i64 ((ps.getD kc default).b)), u85, u87].toArray)) sz72 rfl rfl rfl (jB (by rfl) (by rfl) hr86.one hr88.one) hX97.pins hb94 (dK rfl) rfl (fun w99 hb100 hp101 hg102 hz103 => ?_))
 obtain ⟨G105, hle106, hX107, hbp108, hf109⟩ := hb100.shut (hX97.write hp101 hg102 ((zS hlo98))) hlo98
 refine qe (zA ?_)
 refine xD (S := fun wz => Pins G105 wz) (last := 21) (by kernel_rfl) rfl ?_
 have hl110 := bdr w99
 have hX112 := hX107.step (hX107.pins.below hl110) hl110
 refine dT (i := 0) rfl rfl (by kernel_rfl) (fun _ _ => zB (v := (.string os)) rfl) hX112.pins ?_
 refine dT (i := 1) rfl rfl (by kernel_rfl) (fun _ _ => zM (k := 0) rfl eS rfl nz3 rfl) hX112.pins ?_
 refine dT (i := 2) rfl rfl (by kernel_rfl) (fun _ hS => zP (u := (.int .i64 ((ps.getD kc default).a))) ag3 rfl (hS _ _ _ (hbp108 0 _ rfl))) hX112.pins ?_
 refine dT (i := 6) rfl rfl (by kernel_rfl) (fun _ _ => zM (k := 1) rfl eS rfl nz3 rfl) hX112.pins ?_
 refine dT (i := 7) rfl rfl (by kernel_rfl) (fun _ hS => zP (u := (.int .i64 ((ps.getD kc default).b))) ag3 rfl (hS _ _ _ (hbp108 1 _ rfl))) hX112.pins ?_
 refine dT (i := 11) rfl rfl (by kernel_rfl) (fun _ _ => zM (k := 2) rfl eS rfl nz59 rfl) hX112.pins ?_
 refine dT (i := 12) rfl rfl (by kernel_rfl) (fun _ hS => zP (u := u85) ag59 rfl (hS _ _ _ (hbp108 2 _ rfl))) hX112.pins ?_
 refine dT (i := 16) rfl rfl (by kernel_rfl) (fun _ _ => zM (k := 3) rfl eS rfl nz59 rfl) hX112.pins ?_
 refine dT (i := 17) rfl rfl (by kernel_rfl) (fun _ hS => zP (u := u87) ag59 rfl (hS _ _ _ (hbp108 3 _ rfl))) hX112.pins ?_
 refine zR (i := 3) (by kernel_rfl) (yC (i := 3) rfl rfl rfl (zH rfl _) (zK (vs := [(.int .i64 ((ps.getD kc default).a))]) Tryz.func96 nm96 rfl rfl rfl ?_))
 refine dJ (qB ((ps.getD kc default).a) (by omega) (by omega) hX112.pins) ?_
 rintro _ w114 ⟨G113, rfl, hx115⟩
 refine ⟨_, rfl, ?_⟩
 have hX116 := hX112.tr hx115
 refine ⟨fun _ => (dI hX116.pins hx115.le), ?_⟩
 have hm117 : (os ++ (numT ((ps.getD kc default).a))).size = os.size + (numT ((ps.getD kc default).a)).size := ByteArray.size_append
 refine dT (i := 4) rfl rfl (by kernel_rfl) (fun _ _ => xR rfl rfl (by omega)) (dI hX116.pins hx115.le) ?_
 have hm118 : (⟨#[32]⟩ : ByteArray).size = 1 := rfl
 have hm119 : ((os ++ (numT ((ps.getD kc default).a))) ++ (⟨#[32]⟩ : ByteArray)).size = (os ++ (numT ((ps.getD kc default).a))).size + (⟨#[32]⟩ : ByteArray).size := ByteArray.size_append
 refine dT (i := 5) rfl rfl (by kernel_rfl) (fun _ _ => xR rfl rfl (by omega)) (dI hX116.pins hx115.le) ?_
 refine zR (i := 8) (by kernel_rfl) (yC (i := 8) rfl rfl rfl (zH rfl _) (zK (vs := [(.int .i64 ((ps.getD kc default).b))]) Tryz.func96 nm96 rfl rfl rfl ?_))
 refine dJ (qB ((ps.getD kc default).b) (by omega) (by omega) hX116.pins) ?_
 rintro _ w121 ⟨G120, rfl, hx122⟩
 refine ⟨_, rfl, ?_⟩
 have hX123 := hX116.tr hx122
 refine ⟨fun _ => (dI hX123.pins (dH hx115.le hx122.le)), ?_⟩
 have hm124 : (((os ++ (numT ((ps.getD kc default).a))) ++ (⟨#[32]⟩ : ByteArray)) ++ (numT ((ps.getD kc default).b))).size = ((os ++ (numT ((ps.getD kc default).a))) ++ (⟨#[32]⟩ : ByteArray)).size + (numT ((ps.getD kc default).b)).size := ByteArray.size_append
 refine dT (i := 9) rfl rfl (by kernel_rfl) (fun _ _ => xR rfl rfl (by omega)) (dI hX123.pins (dH hx115.le hx122.le)) ?_
 have hm125 : (⟨#[58]⟩ : ByteArray).size = 1 := rfl
 have hm126 : ((((os ++ (numT ((ps.getD kc default).a))) ++ (⟨#[32]⟩ : ByteArray)) ++ (numT ((ps.getD kc default).b))) ++ (⟨#[58]⟩ : ByteArray)).size = (((os ++ (numT ((ps.getD kc default).a))) ++ (⟨#[32]⟩ : ByteArray)) ++ (numT ((ps.getD kc default).b))).size + (⟨#[58]⟩ : ByteArray).size := ByteArray.size_append
 refine dT (i := 10) rfl rfl (by kernel_rfl) (fun _ _ => xR rfl rfl (by omega)) (dI hX123.pins (dH hx115.le hx122.le)) ?_
 refine zR (i := 13) (by kernel_rfl) (yC (i := 13) rfl rfl rfl (zH rfl _) (zK (vs := [u85]) Tryz.func97 nm97 rfl rfl rfl ?_))
 refine dJ (jN hX123.pins (hr86.mono (dH (dH (dH (dH hle10 hlek14) hle106) hx115.le) hx122.le)) (by first | exact hck.r | exact hck.l) (by omega)) ?_
 rintro _ w128 ⟨G127, rfl, hx129⟩
 refine ⟨_, rfl, ?_⟩
 have hX130 := hX123.tr hx129
 refine ⟨fun _ => (dI hX130.pins (dH (dH hx115.le hx122.le) hx129.le)), ?_⟩
 have hm131 : (((((os ++ (numT ((ps.getD kc default).a))) ++ (⟨#[32]⟩ : ByteArray)) ++ (numT ((ps.getD kc default).b))) ++ (⟨#[58]⟩ : ByteArray)) ++ (numsT ((ps.getD kc default).r))).size = ((((os ++ (numT ((ps.getD kc default).a))) ++ (⟨#[32]⟩ : ByteArray)) ++ (numT ((ps.getD kc default).b))) ++ (⟨#[58]⟩ : ByteArray)).size + (numsT ((ps.getD kc default).r)).size := ByteArray.size_append
 refine dT (i := 14) rfl rfl (by kernel_rfl) (fun _ _ => xR rfl rfl (by omega)) (dI hX130.pins (dH (dH hx115.le hx122.le) hx129.le)) ?_
 have hm132 : (⟨#[58]⟩ : ByteArray).size = 1 := rfl
 have hm133 : ((((((os ++ (numT ((ps.getD kc default).a))) ++ (⟨#[32]⟩ : ByteArray)) ++ (numT ((ps.getD kc default).b))) ++ (⟨#[58]⟩ : ByteArray)) ++ (numsT ((ps.getD kc default).r))) ++ (⟨#[58]⟩ : ByteArray)).size = (((((os ++ (numT ((ps.getD kc default).a))) ++ (⟨#[32]⟩ : ByteArray)) ++ (numT ((ps.getD kc default).b))) ++ (⟨#[58]⟩ : ByteArray)) ++ (numsT ((ps.getD kc default).r))).size + (⟨#[58]⟩ : ByteArray).size := ByteArray.size_append
 refine dT (i := 15) rfl rfl (by kernel_rfl) (fun _ _ => xR rfl rfl (by omega)) (dI hX130.pins (dH (dH hx115.le hx122.le) hx129.le)) ?_
 refine zR (i := 18) (by kernel_rfl) (yC (i := 18) rfl rfl rfl (zH rfl _) (zK (vs := [u87]) Tryz.func97 nm97 rfl rfl rfl ?_))
 refine dJ (jN hX130.pins (hr88.mono (dH (dH (dH (dH (dH hle10 hlek14) hle106) hx115.le) hx122.le) hx129.le)) (by first | exact hck.r | exact hck.l) (by omega)) ?_
 rintro _ w135 ⟨G134, rfl, hx136⟩
 refine ⟨_, rfl, ?_⟩
 have hX137 := hX130.tr hx136
 refine ⟨fun _ => (dI hX137.pins (dH (dH (dH hx115.le hx122.le) hx129.le) hx136.le)), ?_⟩
 have hm138 : (((((((os ++ (numT ((ps.getD kc default).a))) ++ (⟨#[32]⟩ : ByteArray)) ++ (numT ((ps.getD kc default).b))) ++ (⟨#[58]⟩ : ByteArray)) ++ (numsT ((ps.getD kc default).r))) ++ (⟨#[58]⟩ : ByteArray)) ++ (numsT ((ps.getD kc default).l))).size = ((((((os ++ (numT ((ps.getD kc default).a))) ++ (⟨#[32]⟩ : ByteArray)) ++ (numT ((ps.getD kc default).b))) ++ (⟨#[58]⟩ : ByteArray)) ++ (numsT ((ps.getD kc default).r))) ++ (⟨#[58]⟩ : ByteArray)).size + (numsT ((ps.getD kc default).l)).size := ByteArray.size_append
 refine dT (i := 19) rfl rfl (by kernel_rfl) (fun _ _ => xR rfl rfl (by omega)) (dI hX137.pins (dH (dH (dH hx115.le hx122.le) hx129.le) hx136.le)) ?_
 refine dT (i := 20) rfl rfl (by kernel_rfl) (fun _ _ => zC (v := (.string (((((((os ++ (numT ((ps.getD kc default).a))) ++ (⟨#[32]⟩ : ByteArray)) ++ (numT ((ps.getD kc default).b))) ++ (⟨#[58]⟩ : ByteArray)) ++ (numsT ((ps.getD kc default).r))) ++ (⟨#[58]⟩ : ByteArray)) ++ (numsT ((ps.getD kc default).l))))) rfl) (dI hX137.pins (dH (dH (dH hx115.le hx122.le) hx129.le) hx136.le)) ?_
 refine yP (by kernel_rfl) (yO (zA (zE ?_)))
 refine qD rfl (zB (v := (.int .i64 (kc : Int))) rfl) (qD rfl (yT rfl rfl (by omega)) (qD rfl (zC (v := (.int .i64 ((kc : Int) + 1))) rfl) (qe (yR (⟨_, ?_, _, rfl, _, kc + 1, ((((((os ++ (numT ((ps.getD kc default).a))) ++ (⟨#[32]⟩ : ByteArray)) ++ (numT ((ps.getD kc default).b))) ++ (⟨#[58]⟩ : ByteArray)) ++ (numsT ((ps.getD kc default).r))) ++ (⟨#[58]⟩ : ByteArray)) ++ (numsT ((ps.getD kc default).l)), G134, (zF (x := 4) (zF (x := 3) (zF (x := 2) (yF (x := 1) rfl) rfl) rfl) rfl), rfl, hX137, (dH (dH (dH (dH (dH hlek14 hle106) hx115.le) hx122.le) hx129.le) hx136.le), (by omega), (pr_stepB (by omega) hos h20), (by omega)⟩)))))
 omega
 refine wp_exit (yK (yU (yV (zA (zD (zE ?_))))))
 refine qD rfl (zB (v := (.string os)) rfl) (qD rfl (zC (v := (.string os)) rfl) (qe (zA ?_)))
 exact wp_ret (zQ (yA (v := (.string os)) rfl rfl rfl (⟨_, _, rfl, tx_cut hos hk (by omega) hoz, hX17⟩)))
 refine qs rfl rfl rfl rfl rfl rfl (qs rfl rfl rfl rfl rfl rfl (qs rfl rfl rfl rfl rfl rfl (qD rfl (yN (v := (.bool false)) rfl rfl) (qe (zA ?_)))))
 refine vP rfl rfl (wp_exit (yK (yU (yV (zA (zD (zE ?_)))))))
 refine qD rfl (zB (v := (.string os)) rfl) (qD rfl (zC (v := (.string os)) rfl) (qe (zA ?_)))
 exact wp_ret (zQ (yA (v := (.string os)) rfl rfl rfl (⟨_, _, rfl, tx_done hos (by omega) hoz, hX17⟩)))
end PT4
end Go.Proofs.YtajkbplgbikgdaaGreatDoor
namespace Go.Proofs.YtajkbplgbikgdaaGreatDoor
namespace PT5
open Go.RowKit Go.GL Go.Proofs
open PT3
theorem pS {w : World} {G : Pin} {v : Value} {ps : List Cl} (hP : Pins G w) (hv : RSl eClaim G v ps) :
  Calls Tryz.prog 94 [(.agg [v].toArray)].toArray w fun e w' => ∃ G', e = .returned (.bool (shB ps)) ∧ Ext noS G w G' w' := by
 refine yM (n := 69) Tryz.func94 Tryz.ntmps94 rfl rfl ?_
 have hX0 := exr noS hP
 have hm := hv.max
 refine zD (zE ?_)
 refine qI rfl (xX [v] (v := (.agg [v].toArray)) rfl rfl hX0.pins (fun b1 w2 hk3 hb4 hp5 hl6 => ?_))
 have hlo8 : w.heap.size ≤ b1 := by have := hX0.size; omega
 obtain ⟨G9, hle10, hX11, hbp12, hf13⟩ := hb4.shut (hX0.step hp5 hl6) hlo8
 refine qD rfl (zC (v := (.bool false)) rfl) (qe (zA (zD (zD (zE ?_)))))
 refine qD rfl (zC (v := (.int .i64 0)) rfl) (qe (zA ?_))
 refine yI (yZ (fun (k : Nat) (en : Nat → Value) (W : World) => ∃ (env1 : Nat → Value) (kc : Nat) (GL1 : Pin), en = (upd (upd env1 1 (.pointer (some ⟨b1, 0, none⟩))) 3 (.int .i64 (kc : Int))) ∧ k = ps.length - kc ∧ Ext noS G w GL1 W ∧ Pin.le G9 GL1 ∧ (kc ≤ ps.length) ∧ (kc ≤ 201) ∧ (∀ j, j < kc → RowIn ps j)) _ ⟨_, 0, G9, (zF (x := 3) (yF (x := 1) rfl) rfl), rfl, hX11, Pin.le_refl _, Nat.zero_le _, Nat.zero_le _, (fun j hj => absurd hj (Nat.not_lt_zero j))⟩ ?_)
 rintro k14 _ w15 ⟨env1, kc, GL1, rfl, hk16, hX17, hlek14, hk, hk2, hrk⟩
 refine zD (zD (zE ?_))
 refine qD rfl (zB (v := (.int .i64 (kc : Int))) rfl) (qD rfl (zM (k := 0) rfl eV rfl nz36 rfl) (qD rfl (zP (u := v) ag36 rfl ((dI hX17.pins hlek14) _ _ _ (hbp12 0 _ rfl))) (qD rfl (run_len eU (v := v) rfl hv) (qD rfl (xB rfl rfl) (qD rfl (zB (v := (.bool (decide (((kc : Int) : Int) < (ps.length : Int))))) rfl) (qbd (p := ((kc : Int) : Int) < (ps.length : Int)) (t := 11) rfl (fun h18 => ?_) (fun h18 => ?_)))))))
 refine qdg rfl rfl rfl rfl rfl rfl (zB (v := (.int .i64 (kc : Int))) rfl) (qdg rfl rfl rfl rfl rfl rfl (kL rfl rfl) (qD rfl (yG (v := (.bool (decide (((kc : Int) : Int) ≤ 200)))) rfl rfl) (qe (zA ?_))))
 refine yJ (p := ((kc : Int) : Int) ≤ 200) rfl rfl (fun h19 => ?_) (fun h19 => ?_)
 refine wp_skip (zA (zD ?_))
 refine yI (zD (zD (zE ?_)))
 refine qD rfl (zC (v := (.int .i64 0)) rfl) (qe (zA ?_))
 refine yI (yZ (fun (k : Nat) (en : Nat → Value) (W : World) => ∃ (env1 : Nat → Value) (q2 : Nat) (GL2 : Pin), en = (upd (upd (upd env1 1 (.pointer (some ⟨b1, 0, none⟩))) 3 (.int .i64 (kc : Int))) 4 (.int .i64 (q2 : Int))) ∧ k = (ps.getD kc default).r.length - q2 ∧ Ext noS G w GL2 W ∧ Pin.le GL1 GL2 ∧ (q2 ≤ (ps.getD kc default).r.length) ∧ (∀ j, j < q2 → 0 ≤ (ps.getD kc default).r.getD j 0 ∧ (ps.getD kc default).r.getD j 0 < (kc : Int))) _ ⟨_, 0, GL1, (zF (x := 4) (zF (x := 3) (yF (x := 1) rfl) rfl) rfl), rfl, hX17, Pin.le_refl _, Nat.zero_le _, (fun j hj => absurd hj (Nat.not_lt_zero j))⟩ ?_)
 rintro k20 _ w21 ⟨env1, q2, GL2, rfl, hk22, hX23, hlek20, hq2, hi2⟩
 refine zD (zD (zE ?_))
 refine qD rfl (zB (v := (.int .i64 (q2 : Int))) rfl) (qD rfl (zM (k := 0) rfl eV rfl nz36 rfl) (qD rfl (zP (u := v) ag36 rfl ((dI hX23.pins (dH hlek14 hlek20)) _ _ _ (hbp12 0 _ rfl))) (qD rfl (zB (v := (.int .i64 (kc : Int))) rfl) (qD rfl (zL eU sz72 (v := v) rfl rfl hv (by omega) (by omega)) (qD rfl (yS (off := 2) eS rfl rfl nz59 (z := (kc : Int)) (k := 0) rfl hv (by omega) (by omega)) ?_)))))
 obtain ⟨cs24, hrep25, hagg26, hcell27⟩ := qO (j := kc) default (hv.at (z := (kc : Int)) (by omega) (by omega)) rfl
 obtain ⟨u28, u30, rfl, hr29, hr31⟩ := hrep25
 have hm32 := hr29.max
 have hm33 := hr31.max
 refine qD rfl (hcell27 2 _ rfl ag59 rfl (dI hX23.pins (dH (dH hle10 hlek14) hlek20))) (qD rfl (run_len eR (v := u28) rfl hr29) (qD rfl (xB rfl rfl) (qe (zA ?_))))
 refine yJ (p := ((q2 : Int) : Int) < (((ps.getD kc default).r).length : Int)) rfl rfl (fun h34 => ?_) (fun h34 => ?_)
 refine wp_skip (zA (zD ?_))
 refine yI (zD (zE ?_))
 refine qD rfl (zM (k := 0) rfl eV rfl nz36 rfl) (qD rfl (zP (u := v) ag36 rfl ((dI hX23.pins (dH hlek14 hlek20)) _ _ _ (hbp12 0 _ rfl))) (qD rfl (zB (v := (.int .i64 (kc : Int))) rfl) (qD rfl (zL eU sz72 (v := v) rfl rfl hv (by omega) (by omega)) (qD rfl (yS (off := 2) eS rfl rfl nz59 (z := (kc : Int)) (k := 0) rfl hv (by omega) (by omega)) ?_))))
 obtain ⟨cs35, hrep36, hagg37, hcell38⟩ := qO (j := kc) default (hv.at (z := (kc : Int)) (by omega) (by omega)) rfl
 obtain ⟨u39, u41, rfl, hr40, hr42⟩ := hrep36
 have hm43 := hr40.max
 have hm44 := hr42.max
 refine qD rfl (hcell38 2 _ rfl ag59 rfl (dI hX23.pins (dH (dH hle10 hlek14) hlek20))) (qD rfl (zB (v := (.int .i64 (q2 : Int))) rfl) (qD rfl (zL eR sz3 (v := u39) rfl rfl hr40 (by omega) (by omega)) (qD rfl (zZ (r := ((ps.getD kc default).r).getD q2 0) rfl ag3 (z := (q2 : Int)) rfl hr40 (dI hX23.pins (dH (dH hle10 hlek14) hlek20)) (by omega) (by omega)) (qD rfl (zB (v := (.int .i64 (kc : Int))) rfl) (qD rfl (vN rfl rfl (by omega)) (qI rfl (zK (vs := [(.int .i64 (((ps.getD kc default).r).getD q2 0)), (.int .i64 0), (.int .i64 ((kc : Int) - 1))]) Tryz.func95 nm95 rfl rfl rfl ?_)))))))
 refine dJ (jH hX23.pins) ?_
 rintro _ _ ⟨rfl, rfl⟩
 refine ⟨_, rfl, ?_⟩
 refine qD rfl (xT rfl) (qe (zA ?_))
 refine xV rfl rfl (fun h45 => ?_) (fun h45 => ?_)
 replace h45 := of_decide_eq_true h45
 refine wp_skip (yO (zA (zE ?_)))
 refine qD rfl (zB (v := (.int .i64 (q2 : Int))) rfl) (qD rfl (yT rfl rfl (by omega)) (qD rfl (zC (v := (.int .i64 ((q2 : Int) + 1))) rfl) (qe (yR (⟨_, ?_, _, rfl, _, q2 + 1, GL2, (zF (x := 4) (zF (x := 3) (yF (x := 1) rfl) rfl) rfl), rfl, hX23, hlek20, (by omega), (in_next hi2 (by omega))⟩)))))
 omega
 replace h45 := of_decide_eq_false h45
 refine zD (zE ?_)
 refine qD rfl (zC (v := (.bool false)) rfl) (qe (zA ?_))
 exact wp_ret (zQ (yA (v := (.bool false)) rfl rfl rfl (⟨_, congrArg (fun z => Ending.returned (Value.bool z)) (sh_no (fun g => by have h9 := g.r kc (by omega) q2 (by omega); omega)).symm, hX23⟩)))
 refine wp_exit (yK (yU (yV (zA (zD (zE ?_))))))
 refine qD rfl (zC (v := (.int .i64 0)) rfl) (qe (zA ?_))
 refine yI (yZ (fun (k : Nat) (en : Nat → Value) (W : World) => ∃ (env1 : Nat → Value) (q3 : Nat) (GL3 : Pin), en = (upd (upd (upd env1 1 (.pointer (some ⟨b1, 0, none⟩))) 3 (.int .i64 (kc : Int))) 5 (.int .i64 (q3 : Int))) ∧ k = (ps.getD kc default).l.length - q3 ∧ Ext noS G w GL3 W ∧ Pin.le GL2 GL3 ∧ (q3 ≤ (ps.getD kc default).l.length) ∧ (∀ j, j < q3 → 0 ≤ (ps.getD kc default).l.getD j 0 ∧ (ps.getD kc default).l.getD j 0 < (kc : Int))) _ ⟨_, 0, GL2, (zF (x := 5) (zF (x := 3) (yF (x := 1) rfl) rfl) rfl), rfl, hX23, Pin.le_refl _, Nat.zero_le _, (fun j hj => absurd hj (Nat.not_lt_zero j))⟩ ?_)
 rintro k46 _ w47 ⟨env1, q3, GL3, rfl, hk48, hX49, hlek46, hq3, hi3⟩
 refine zD (zD (zE ?_))
 refine qD rfl (zB (v := (.int .i64 (q3 : Int))) rfl) (qD rfl (zM (k := 0) rfl eV rfl nz36 rfl) (qD rfl (zP (u := v) ag36 rfl ((dI hX49.pins (dH (dH hlek14 hlek20) hlek46)) _ _ _ (hbp12 0 _ rfl))) (qD rfl (zB (v := (.int .i64 (kc : Int))) rfl) (qD rfl (zL eU sz72 (v := v) rfl rfl hv (by omega) (by omega)) (qD rfl (yS (off := 3) eS rfl rfl nz59 (z := (kc : Int)) (k := 0) rfl hv (by omega) (by omega)) ?_)))))
 obtain ⟨cs50, hrep51, hagg52, hcell53⟩ := qO (j := kc) default (hv.at (z := (kc : Int)) (by omega) (by omega)) rfl
 obtain ⟨u54, u56, rfl, hr55, hr57⟩ := hrep51
 have hm58 := hr55.max
 have hm59 := hr57.max
 refine qD rfl (hcell53 3 _ rfl ag59 rfl (dI hX49.pins (dH (dH (dH hle10 hlek14) hlek20) hlek46))) (qD rfl (run_len eR (v := u56) rfl hr57) (qD rfl (xB rfl rfl) (qe (zA ?_))))
 refine yJ (p := ((q3 : Int) : Int) < (((ps.getD kc default).l).length : Int)) rfl rfl (fun h60 => ?_) (fun h60 => ?_)
 refine wp_skip (zA (zD ?_))
 refine yI (zD (zE ?_))
 refine qD rfl (zM (k := 0) rfl eV rfl nz36 rfl) (qD rfl (zP (u := v) ag36 rfl ((dI hX49.pins (dH (dH hlek14 hlek20) hlek46)) _ _ _ (hbp12 0 _ rfl))) (qD rfl (zB (v := (.int .i64 (kc : Int))) rfl) (qD rfl (zL eU sz72 (v := v) rfl rfl hv (by omega) (by omega)) (qD rfl (yS (off := 3) eS rfl rfl nz59 (z := (kc : Int)) (k := 0) rfl hv (by omega) (by omega)) ?_))))
 obtain ⟨cs61, hrep62, hagg63, hcell64⟩ := qO (j := kc) default (hv.at (z := (kc : Int)) (by omega) (by omega)) rfl
 obtain ⟨u65, u67, rfl, hr66, hr68⟩ := hrep62
 have hm69 := hr66.max
 have hm70 := hr68.max
 refine qD rfl (hcell64 3 _ rfl ag59 rfl (dI hX49.pins (dH (dH (dH hle10 hlek14) hlek20) hlek46))) (qD rfl (zB (v := (.int .i64 (q3 : Int))) rfl) (qD rfl (zL eR sz3 (v := u67) rfl rfl hr68 (by omega) (by omega)) (qD rfl (zZ (r := ((ps.getD kc default).l).getD q3 0) rfl ag3 (z := (q3 : Int)) rfl hr68 (dI hX49.pins (dH (dH (dH hle10 hlek14) hlek20) hlek46)) (by omega) (by omega)) (qD rfl (zB (v := (.int .i64 (kc : Int))) rfl) (qD rfl (vN rfl rfl (by omega)) (qI rfl (zK (vs := [(.int .i64 (((ps.getD kc default).l).getD q3 0)), (.int .i64 0), (.int .i64 ((kc : Int) - 1))]) Tryz.func95 nm95 rfl rfl rfl ?_)))))))
 refine dJ (jH hX49.pins) ?_
 rintro _ _ ⟨rfl, rfl⟩
 refine ⟨_, rfl, ?_⟩
 refine qD rfl (xT rfl) (qe (zA ?_))
 refine xV rfl rfl (fun h71 => ?_) (fun h71 => ?_)
 replace h71 := of_decide_eq_true h71
 refine wp_skip (yO (zA (zE ?_)))
 refine qD rfl (zB (v := (.int .i64 (q3 : Int))) rfl) (qD rfl (yT rfl rfl (by omega)) (qD rfl (zC (v := (.int .i64 ((q3 : Int) + 1))) rfl) (qe (yR (⟨_, ?_, _, rfl, _, q3 + 1, GL3, (zF (x := 5) (zF (x := 3) (yF (x := 1) rfl) rfl) rfl), rfl, hX49, hlek46, (by omega), (in_next hi3 (by omega))⟩)))))
 omega
 replace h71 := of_decide_eq_false h71
 refine zD (zE ?_)
 refine qD rfl (zC (v := (.bool false)) rfl) (qe (zA ?_))
 exact wp_ret (zQ (yA (v := (.bool false)) rfl rfl rfl (⟨_, congrArg (fun z => Ending.returned (Value.bool z)) (sh_no (fun g => by have h9 := g.l kc (by omega) q3 (by omega); omega)).symm, hX49⟩)))
 refine wp_exit (yK (yU (yV (yO (zA (zE ?_))))))
 refine qD rfl (zB (v := (.int .i64 (kc : Int))) rfl) (qD rfl (yT rfl rfl (by omega)) (qD rfl (zC (v := (.int .i64 ((kc : Int) + 1))) rfl) (qe (yR (⟨_, ?_, _, rfl, _, kc + 1, GL3, (zF (x := 3) (yF (x := 1) rfl) rfl), rfl, hX49, (dH (dH hlek14 hlek20) hlek46), (by omega), (by omega), (in_rows hrk ⟨fun j hj => hi2 j (by omega), fun j hj => hi3 j (by omega)⟩)⟩)))))
 omega
 refine wp_exit (yK (yU (yV (zA (zD (zE ?_))))))
 refine qD rfl (zM (k := 0) rfl eV rfl nz36 rfl) (qD rfl (zP (u := v) ag36 rfl ((dI hX17.pins hlek14) _ _ _ (hbp12 0 _ rfl))) (qD rfl (run_len eU (v := v) rfl hv) (qD rfl (kL rfl rfl) (qD rfl (zC (v := (.bool (decide (((ps.length : Int) : Int) ≤ 200)))) rfl) (qe (zA ?_))))))
 exact wp_ret (zQ (yA (v := (.bool (decide (((ps.length : Int) : Int) ≤ 200)))) rfl rfl rfl (⟨_, congrArg (fun z => Ending.returned (Value.bool z)) (sh_done hrk (by omega)), hX17⟩)))
 refine qs rfl rfl rfl rfl rfl rfl (qs rfl rfl rfl rfl rfl rfl (qD rfl (yN (v := (.bool false)) rfl rfl) (qe (zA ?_))))
 refine vP rfl rfl (wp_exit (yK (yU (yV (zA (zD (zE ?_)))))))
 refine qD rfl (zM (k := 0) rfl eV rfl nz36 rfl) (qD rfl (zP (u := v) ag36 rfl ((dI hX17.pins hlek14) _ _ _ (hbp12 0 _ rfl))) (qD rfl (run_len eU (v := v) rfl hv) (qD rfl (kL rfl rfl) (qD rfl (zC (v := (.bool (decide (((ps.length : Int) : Int) ≤ 200)))) rfl) (qe (zA ?_))))))
 exact wp_ret (zQ (yA (v := (.bool (decide (((ps.length : Int) : Int) ≤ 200)))) rfl rfl rfl (⟨_, congrArg (fun z => Ending.returned (Value.bool z)) (sh_done hrk (by omega)), hX17⟩)))
end PT5
end Go.Proofs.YtajkbplgbikgdaaGreatDoor
namespace Go.Proofs.YtajkbplgbikgdaaGreatDoor
namespace PT6
open Go.RowKit Go.GL Go.Proofs
open PT3 PT4 PT5
variable {G : Pin} {v : Value} {ps : List Cl}
theorem fL {w : World} (hP : Pins G w) (hv : RSl eClaim G v ps) (hlb : LenB ps) :
  Calls Tryz.prog 49 [(.agg [v].toArray)].toArray w fun e w' => ∃ G', e = .returned (.bool (tdB ps)) ∧ Ext noS G w G' w' := by
 refine yM (n := 36) Tryz.func49 Tryz.ntmps49 rfl rfl ?_
 have hX0 := exr noS hP
 have hm := hv.max
 refine zD (zE ?_)
 refine qI rfl (xX [v] (v := (.agg [v].toArray)) rfl rfl hX0.pins (fun b1 w2 hk3 hb4 hp5 hl6 => ?_))
 have hlo8 : w.heap.size ≤ b1 := by have := hX0.size; omega
 obtain ⟨G9, hle10, hX11, hbp12, hf13⟩ := hb4.shut (hX0.step hp5 hl6) hlo8
 refine qD rfl (zC (v := (.bool false)) rfl) (qe (zA (zD (zD (zE ?_)))))
 refine qD rfl (zU (cs := [v]) ag38 sz38 rfl (fun j u hj => hX11.pins _ _ _ (hbp12 _ _ (by simpa using hj)))) (qI rfl (zK (vs := [(.agg [v].toArray)]) Tryz.func94 nm94 rfl rfl rfl ?_))
 refine dJ (pS hX11.pins (hv.mono hle10)) ?_
 rintro _ w15 ⟨G14, rfl, hx16⟩
 refine ⟨_, rfl, ?_⟩
 have hX17 := hX11.tr hx16
 refine qD rfl (xT rfl) (qe (zA ?_))
 refine xV rfl rfl (fun h18 => ?_) (fun h18 => ?_)
 refine wp_skip (zA (zD (zD (zE ?_))))
 refine qD rfl (zC (v := (.int .i64 0)) rfl) (qe (zA ?_))
 refine yI (yZ (fun (k : Nat) (en : Nat → Value) (W : World) => ∃ (env1 : Nat → Value) (kc : Nat) (GL1 : Pin), en = (upd (upd env1 1 (.pointer (some ⟨b1, 0, none⟩))) 3 (.int .i64 (kc : Int))) ∧ k = ps.length - kc ∧ Ext noS G w GL1 W ∧ Pin.le G14 GL1 ∧ (kc ≤ ps.length) ∧ (∀ j, j < kc → AbOk (ps.getD j default))) _ ⟨_, 0, G14, (zF (x := 3) (yF (x := 1) rfl) rfl), rfl, hX17, Pin.le_refl _, Nat.zero_le _, (fun j hj => absurd hj (Nat.not_lt_zero j))⟩ ?_)
 rintro k19 _ w20 ⟨env1, kc, GL1, rfl, hk21, hX22, hlek19, hk, hab⟩
 refine zD (zD (zE ?_))
 refine qD rfl (zB (v := (.int .i64 (kc : Int))) rfl) (qD rfl (zM (k := 0) rfl eV rfl nz36 rfl) (qD rfl (zP (u := v) ag36 rfl ((dI hX22.pins (dH hx16.le hlek19)) _ _ _ (hbp12 0 _ rfl))) (qD rfl (run_len eU (v := v) rfl hv) (qD rfl (xB rfl rfl) (qe (zA ?_))))))
 refine yJ (p := ((kc : Int) : Int) < (ps.length : Int)) rfl rfl (fun h23 => ?_) (fun h23 => ?_)
 refine wp_skip (zA (zD ?_))
 refine yI (zD (zE ?_))
 refine qD rfl (zM (k := 0) rfl eV rfl nz36 rfl) (qD rfl (zP (u := v) ag36 rfl ((dI hX22.pins (dH hx16.le hlek19)) _ _ _ (hbp12 0 _ rfl))) (qD rfl (zB (v := (.int .i64 (kc : Int))) rfl) (qD rfl (zL eU sz72 (v := v) rfl rfl hv (by omega) (by omega)) (qD rfl (yS (off := 0) eS rfl rfl nz3 (z := (kc : Int)) (k := 0) rfl hv (by omega) (by omega)) ?_))))
 obtain ⟨cs24, hrep25, hagg26, hcell27⟩ := qO (j := kc) default (hv.at (z := (kc : Int)) (by omega) (by omega)) rfl
 obtain ⟨u28, u30, rfl, hr29, hr31⟩ := hrep25
 have hm32 := hr29.max
 have hm33 := hr31.max
 refine qD rfl (hcell27 0 _ rfl ag3 rfl (dI hX22.pins (dH (dH hle10 hx16.le) hlek19))) (qI rfl (zK (vs := [(.int .i64 ((ps.getD kc default).a)), (.int .i64 0), (.int .i64 119)]) Tryz.func95 nm95 rfl rfl rfl ?_))
 refine dJ (jH hX22.pins) ?_
 rintro _ _ ⟨rfl, rfl⟩
 refine ⟨_, rfl, ?_⟩
 refine qD rfl (xT rfl) (qD rfl (zB (v := (.bool (!(decide ((0 : Int) ≤ ((ps.getD kc default).a) ∧ ((ps.getD kc default).a : Int) ≤ 119))))) rfl) (qbn (t := 22) rfl (fun h34 => ?_) (fun h34 => ?_)))
 replace h34 := of_decide_eq_true h34
 refine qdg rfl rfl rfl rfl rfl rfl (zM (k := 0) rfl eV rfl nz36 rfl) (qdg rfl rfl rfl rfl rfl rfl (zP (u := v) ag36 rfl ((dI hX22.pins (dH hx16.le hlek19)) _ _ _ (hbp12 0 _ rfl))) (qdg rfl rfl rfl rfl rfl rfl (zB (v := (.int .i64 (kc : Int))) rfl) (qdg rfl rfl rfl rfl rfl rfl (zL eU sz72 (v := v) rfl rfl hv (by omega) (by omega)) (qdg rfl rfl rfl rfl rfl rfl (yS (off := 1) eS rfl rfl nz3 (z := (kc : Int)) (k := 0) rfl hv (by omega) (by omega)) ?_))))
 obtain ⟨cs35, hrep36, hagg37, hcell38⟩ := qO (j := kc) default (hv.at (z := (kc : Int)) (by omega) (by omega)) rfl
 obtain ⟨u39, u41, rfl, hr40, hr42⟩ := hrep36
 have hm43 := hr40.max
 have hm44 := hr42.max
 refine qdg rfl rfl rfl rfl rfl rfl (hcell38 1 _ rfl ag3 rfl (dI hX22.pins (dH (dH hle10 hx16.le) hlek19))) (q1g rfl rfl rfl rfl rfl rfl (zK (vs := [(.int .i64 ((ps.getD kc default).b)), (.int .i64 0), (.int .i64 119)]) Tryz.func95 nm95 rfl rfl rfl ?_))
 refine dJ (jH hX22.pins) ?_
 rintro _ _ ⟨rfl, rfl⟩
 refine ⟨_, rfl, ?_⟩
 refine qdg rfl rfl rfl rfl rfl rfl (xT rfl) (qD rfl (yN (v := (.bool (!(decide ((0 : Int) ≤ ((ps.getD kc default).b) ∧ ((ps.getD kc default).b : Int) ≤ 119))))) rfl rfl) (qe (zA ?_)))
 refine xV rfl rfl (fun h45 => ?_) (fun h45 => ?_)
 replace h45 := of_decide_eq_true h45
 refine wp_skip (yO (zA (zE ?_)))
 refine qD rfl (zB (v := (.int .i64 (kc : Int))) rfl) (qD rfl (yT rfl rfl (by omega)) (qD rfl (zC (v := (.int .i64 ((kc : Int) + 1))) rfl) (qe (yR (⟨_, ?_, _, rfl, _, kc + 1, GL1, (zF (x := 3) (yF (x := 1) rfl) rfl), rfl, hX22, hlek19, (by omega), (ab_next hab ⟨by omega, by omega⟩)⟩)))))
 omega
 replace h45 := of_decide_eq_false h45
 refine zD (zE ?_)
 refine qD rfl (zC (v := (.bool false)) rfl) (qe (zA ?_))
 exact wp_ret (zQ (yA (v := (.bool false)) rfl rfl rfl (⟨_, congrArg (fun z => Ending.returned (Value.bool z)) (td_no (fun g => by have h9 := g.ab kc (by omega); have h8 := h9.1; have h7 := h9.2; omega)).symm, hX22⟩)))
 replace h34 := of_decide_eq_false h34
 refine qs rfl rfl rfl rfl rfl rfl (qs rfl rfl rfl rfl rfl rfl (qs rfl rfl rfl rfl rfl rfl (qs rfl rfl rfl rfl rfl rfl (qs rfl rfl rfl rfl rfl rfl (qs rfl rfl rfl rfl rfl rfl (qs rfl rfl rfl rfl rfl rfl (qs rfl rfl rfl rfl rfl rfl (qD rfl (yG (v := (.bool true)) rfl rfl) (qe (zA ?_))))))))))
 refine qC rfl rfl (zD (zE ?_))
 refine qD rfl (zC (v := (.bool false)) rfl) (qe (zA ?_))
 exact wp_ret (zQ (yA (v := (.bool false)) rfl rfl rfl (⟨_, congrArg (fun z => Ending.returned (Value.bool z)) (td_no (fun g => by have h9 := g.ab kc (by omega); have h8 := h9.1; have h7 := h9.2; omega)).symm, hX22⟩)))
 refine wp_exit (yK (yU (yV (zA (zD (zE ?_))))))
 have hab2 : ∀ j, j < ps.length → AbOk (ps.getD j default) := fun j hj => hab j (by omega)
 refine qD rfl (zU (cs := [v]) ag38 sz38 rfl (fun j u hj => (dI hX22.pins (dH hx16.le hlek19)) _ _ _ (hbp12 _ _ (by simpa using hj)))) (qI rfl (zK (vs := [(.agg [v].toArray)]) Tryz.func50 nm50 rfl rfl rfl ?_))
 refine dJ (jT hX22.pins (hv.mono (dH (dH hle10 hx16.le) hlek19)) hlb (cls_ok h18 hab2)) ?_
 rintro _ w48 ⟨z46, G47, rfl, htx49, hx50⟩
 refine ⟨_, rfl, ?_⟩
 have hm52 := htx49.hi
 refine qD rfl (qH eW rfl) (qD rfl (kL rfl rfl) (qD rfl (zC (v := (.bool (decide (((z46.size : Int) : Int) ≤ 4000)))) rfl) (qe (zA ?_))))
 exact wp_ret (zQ (yA (v := (.bool (decide (((z46.size : Int) : Int) ≤ 4000)))) rfl rfl rfl (⟨_, congrArg (fun z => Ending.returned (Value.bool z)) (td_done h18 hab2 htx49), (hX22.tr hx50)⟩)))
 refine zD (zE ?_)
 refine qD rfl (zC (v := (.bool false)) rfl) (qe (zA ?_))
 exact wp_ret (zQ (yA (v := (.bool false)) rfl rfl rfl (⟨_, congrArg (fun z => Ending.returned (Value.bool z)) (td_no (fun g => absurd g.shape (decP_false.1 h18))).symm, hX17⟩)))
theorem mI {w : World} (hP : Pins G w) (hv : RSl eClaim G v ps) (hlb : LenB ps) :
  Calls Tryz.prog 17 [(.agg [v].toArray)].toArray w fun e w' => ∃ G', e = .returned (.tuple #[.string (txF ps), .bool (tdB ps)]) ∧ Ext noS G w G' w' := by
 refine yM (n := 9) Tryz.func17 Tryz.ntmps17 rfl rfl ?_
 have hX0 := exr noS hP
 have hm := hv.max
 refine zD (zE ?_)
 refine qI rfl (xX [v] (v := (.agg [v].toArray)) rfl rfl hX0.pins (fun b1 w2 hk3 hb4 hp5 hl6 => ?_))
 have hlo8 : w.heap.size ≤ b1 := by have := hX0.size; omega
 obtain ⟨G9, hle10, hX11, hbp12, hf13⟩ := hb4.shut (hX0.step hp5 hl6) hlo8
 refine qD rfl (zC (v := (.string (⟨#[]⟩ : ByteArray))) rfl) (qD rfl (zC (v := (.bool false)) rfl) (qe (zA (zD (zD (zE ?_))))))
 refine qD rfl (zU (cs := [v]) ag38 sz38 rfl (fun j u hj => hX11.pins _ _ _ (hbp12 _ _ (by simpa using hj)))) (qI rfl (zK (vs := [(.agg [v].toArray)]) Tryz.func49 nm49 rfl rfl rfl ?_))
 refine dJ (fL hX11.pins (hv.mono hle10) hlb) ?_
 rintro _ w15 ⟨G14, rfl, hx16⟩
 refine ⟨_, rfl, ?_⟩
 have hX17 := hX11.tr hx16
 refine qD rfl (xT rfl) (qe (zA ?_))
 refine xV rfl rfl (fun h18 => ?_) (fun h18 => ?_)
 refine wp_skip (zA (zD (zE ?_)))
 refine qD rfl (zU (cs := [v]) ag38 sz38 rfl (fun j u hj => (dI hX17.pins hx16.le) _ _ _ (hbp12 _ _ (by simpa using hj)))) (qI rfl (zK (vs := [(.agg [v].toArray)]) Tryz.func50 nm50 rfl rfl rfl ?_))
 refine dJ (jT hX17.pins (hv.mono (dH hle10 hx16.le)) hlb (nA h18)) ?_
 rintro _ w21 ⟨z19, G20, rfl, htx22, hx23⟩
 refine ⟨_, rfl, ?_⟩
 have hm25 := htx22.hi
 refine qD rfl (zC (v := (.string z19)) rfl) (qD rfl (zC (v := (.bool true)) rfl) (qe (zA ?_)))
 exact wp_ret (zQ (xG (v := (.string z19)) (u := (.bool true)) rfl rfl rfl rfl rfl (⟨_, (by rw [tE h18 htx22, h18]), (hX17.tr hx23)⟩)))
 refine zD (zE ?_)
 refine qD rfl (zC (v := (.string (⟨#[]⟩ : ByteArray))) rfl) (qD rfl (zC (v := (.bool false)) rfl) (qe (zA ?_)))
 exact wp_ret (zQ (xG (v := (.string (⟨#[]⟩ : ByteArray))) (u := (.bool false)) rfl rfl rfl rfl rfl (⟨_, (by rw [h18, kS h18]), hX17⟩)))
end PT6
end Go.Proofs.YtajkbplgbikgdaaGreatDoor
namespace Go.Proofs.YtajkbplgbikgdaaGreatDoor
namespace PT7
open Go.RowKit Go.GL Go.Proofs
open PT1
variable {G : Pin}
theorem atoi_spec {w : World} {s : ByteArray} (hP : Pins G w) (hE : ErG 4 G) (hs : s.size ≤ 7) :
  Calls Tryz.prog 149 [.string s].toArray w fun e w' => ∃ (v : Int) (b : Bool) (te N : Nat) (G' : Pin), e = .returned (.tuple #[.int .i64 v, erV b te N]) ∧ (b = true → Lib.atoi s.data.toList = some v) ∧ (b = false → Lib.atoi s.data.toList = none) ∧ Ext noS G w G' w' := by
 have hsh := Lib.atoiAll_short s.data.toList (by rw [jV]; omega)
 cases hv : Lib.atoi s.data.toList with
 | some v =>
  rw [hv] at hsh
  refine (Tryz.strconv_Atoi_ok s (by omega) v hsh w).mono ?_
  rintro e w' ⟨rfl, hw⟩
  have hb : Below w.heap.size w w' := by
   rcases hw with rfl | ⟨t, rfl⟩
   ·exact Below.refl _ _
   ·exact Lib.bytesWorld_below w _ t
  exact ⟨v, true, 0, 0, G, rfl, fun _ => rfl, fun h => (by cases h), (Ext.refl hP).step (hP.below hb) hb⟩
 | none =>
  rw [hv] at hsh
  obtain ⟨te, pe, h4⟩ := hE
  refine (Tryz.strconv_Atoi_syntax s (by omega) hsh (.iface te pe) w (hP _ _ _ h4) (Or.inr ⟨_, _, rfl⟩)).mono ?_
  rintro e w' ⟨N, rfl, _, _, hb⟩
  exact ⟨0, false, _, N, G, rfl, fun h => (by cases h), fun _ => rfl, (Ext.refl hP).step (hP.below hb) hb⟩
theorem numText_spec {w : World} {n : Int} (hP : Pins G w) (hT : TabW w) :
  Calls Tryz.prog 150 [(.int .i64 n)].toArray w fun e w' => ∃ G', e = .returned (.tuple #[.string (ntT n), .bool (decP (RngN n))]) ∧ Ext noS G w G' w' := by
 refine yM (n := 12) Tryz.func150 Tryz.ntmps150 rfl rfl ?_
 have hX0 := exr noS hP
 refine zD (zE ?_)
 refine qD rfl (zC (v := (.string (⟨#[]⟩ : ByteArray))) rfl) (qD rfl (zC (v := (.bool false)) rfl) (qe (zA (zD (zD (zE ?_))))))
 refine qD rfl (zB (v := (.int .i64 n)) rfl) (qD rfl (xB rfl rfl) (qD rfl (zB (v := (.bool (decide ((n : Int) < (-999999))))) rfl) (qbd (p := (n : Int) < (-999999)) (t := 6) rfl (fun h1 => ?_) (fun h1 => ?_))))
 refine qs rfl rfl rfl rfl rfl rfl (qs rfl rfl rfl rfl rfl rfl (qD rfl (yG (v := (.bool true)) rfl rfl) (qe (zA ?_))))
 refine qC rfl rfl (zD (zE ?_))
 refine qD rfl (zC (v := (.string (⟨#[]⟩ : ByteArray))) rfl) (qD rfl (zC (v := (.bool false)) rfl) (qe (zA ?_)))
 refine wp_ret (zQ (xG (v := (.string (⟨#[]⟩ : ByteArray))) (u := (.bool false)) rfl rfl rfl rfl rfl ?_))
 obtain ⟨e1, e2⟩ := ntT_no (n := n) (by omega)
 exact ⟨_, (by rw [e1, e2]), hX0⟩
 refine qdg rfl rfl rfl rfl rfl rfl (zB (v := (.int .i64 n)) rfl) (qdg rfl rfl rfl rfl rfl rfl (qV rfl rfl) (qD rfl (yN (v := (.bool (decide ((999999 : Int) < n)))) rfl rfl) (qe (zA ?_))))
 refine yJ (p := (999999 : Int) < n) rfl rfl (fun h2 => ?_) (fun h2 => ?_)
 refine zD (zE ?_)
 refine qD rfl (zC (v := (.string (⟨#[]⟩ : ByteArray))) rfl) (qD rfl (zC (v := (.bool false)) rfl) (qe (zA ?_)))
 refine wp_ret (zQ (xG (v := (.string (⟨#[]⟩ : ByteArray))) (u := (.bool false)) rfl rfl rfl rfl rfl ?_))
 obtain ⟨e1, e2⟩ := ntT_no (n := n) (by omega)
 exact ⟨_, (by rw [e1, e2]), hX0⟩
 refine wp_skip (zA (zD (zE ?_)))
 refine qD rfl (zB (v := (.int .i64 n)) rfl) (qI rfl (zK (vs := [(.int .i64 n)]) Tryz.func46 nm46 rfl rfl rfl ?_))
 refine dJ (gH (n := n) hX0.pins (hT.keep hX0) (by omega)) ?_
 rintro _ w4 ⟨G3, rfl, hx5⟩
 refine ⟨_, rfl, ?_⟩
 refine qD rfl (zC (v := (.string (numT n))) rfl) (qD rfl (zC (v := (.bool true)) rfl) (qe (zA ?_)))
 refine wp_ret (zQ (xG (v := (.string (numT n))) (u := (.bool true)) rfl rfl rfl rfl rfl ?_))
 obtain ⟨e1, e2⟩ := ntT_yes (n := n) (by omega)
 exact ⟨_, (by rw [e1, e2]), (hX0.tr hx5)⟩
theorem fG {w : World} {s : ByteArray} (hP : Pins G w) (hT : TabW w) (hE : ErG 4 G) :
  Calls Tryz.prog 104 [(.string s)].toArray w fun e w' => ∃ (n : Int) (ok : Bool) (G' : Pin), e = .returned (.tuple #[.int .i64 n, .bool ok]) ∧ RdN s n ok ∧ Ext noS G w G' w' := by
 refine yM (n := 31) Tryz.func104 Tryz.ntmps104 rfl rfl ?_
 have hX0 := exr noS hP
 refine zD (zE ?_)
 refine qD rfl (zC (v := (.int .i64 0)) rfl) (qD rfl (zC (v := (.bool false)) rfl) (qe (zA (zD (zD (zE ?_))))))
 refine qD rfl (zB (v := (.string s)) rfl) (qD rfl (qH eW rfl) (qD rfl (qV rfl rfl) (qe (zA ?_))))
 refine yJ (p := (7 : Int) < (s.size : Int)) rfl rfl (fun h1 => ?_) (fun h1 => ?_)
 refine zD (zE ?_)
 refine qD rfl (zC (v := (.int .i64 0)) rfl) (qD rfl (zC (v := (.bool false)) rfl) (qe (zA ?_)))
 exact wp_ret (zQ (xG (v := (.int .i64 0)) (u := (.bool false)) rfl rfl rfl rfl rfl (⟨_, _, _, rfl, rdn_long (by omega), hX0⟩)))
 refine wp_skip (zA (zD (zE ?_)))
 refine qD rfl (zB (v := (.string s)) rfl) (qI rfl (zK (vs := [(.string s)]) Tryz.func149 nm149 rfl rfl rfl ?_))
 refine dJ (atoi_spec (s := s) hX0.pins hE (by omega)) ?_
 rintro _ w7 ⟨v2, b3, te4, n5, G6, rfl, hat8, har9, hx10⟩
 refine ⟨_, rfl, ?_⟩
 have hX11 := hX0.tr hx10
 refine qD rfl (zB (v := (.tuple #[(.int .i64 v2), (erV b3 te4 n5)])) rfl) (qD rfl (yB (v := (.int .i64 v2)) rfl rfl) (qD rfl (yB (v := (erV b3 te4 n5)) rfl rfl) (qD rfl (zC (v := (.int .i64 v2)) rfl) (qD rfl (zC (v := (erV b3 te4 n5)) rfl) (qe (zA (zD (zD (zE ?_)))))))))
 refine qD rfl (zB (v := (erV b3 te4 n5)) rfl) (qD rfl (r_neqE Tryz.underlying135 rfl rfl) (qe (zA ?_)))
 refine xV rfl rfl (fun h12 => ?_) (fun h12 => ?_)
 refine wp_skip (zA (zD (zD (zE ?_))))
 refine qD rfl (zB (v := (.int .i64 v2)) rfl) (qI rfl (zK (vs := [(.int .i64 v2)]) Tryz.func150 nm150 rfl rfl rfl ?_))
 refine dJ (numText_spec (n := v2) hX11.pins (hT.keep hX11)) ?_
 rintro _ w14 ⟨G13, rfl, hx15⟩
 refine ⟨_, rfl, ?_⟩
 have hX16 := hX11.tr hx15
 refine qD rfl (zB (v := (.tuple #[(.string (ntT v2)), (.bool (decP (RngN v2)))])) rfl) (qD rfl (yB (v := (.string (ntT v2))) rfl rfl) (qD rfl (yB (v := (.bool (decP (RngN v2)))) rfl rfl) (qD rfl (zC (v := (.string (ntT v2))) rfl) (qD rfl (zC (v := (.bool (decP (RngN v2)))) rfl) (qe (zA (zD (zE ?_))))))))
 refine qD rfl (zB (v := (.bool (decP (RngN v2)))) rfl) (qD rfl (xT rfl) (qD rfl (zB (v := (.bool (!(decP (RngN v2))))) rfl) (qbn (t := 25) rfl (fun h17 => ?_) (fun h17 => ?_))))
 refine qdg rfl rfl rfl rfl rfl rfl (zB (v := (.string (ntT v2))) rfl) (qdg rfl rfl rfl rfl rfl rfl (zB (v := (.string s)) rfl) (qdg rfl rfl rfl rfl rfl rfl (jO rfl rfl) (qD rfl (yN (v := (.bool (!((ntT v2).toList == s.toList)))) rfl rfl) (qe (zA ?_)))))
 refine xV rfl rfl (fun h18 => ?_) (fun h18 => ?_)
 refine wp_skip (zA (zD (zE ?_)))
 refine qD rfl (zB (v := (.int .i64 v2)) rfl) (qD rfl (zC (v := (.int .i64 v2)) rfl) (qD rfl (zC (v := (.bool true)) rfl) (qe (zA ?_))))
 exact wp_ret (zQ (xG (v := (.int .i64 v2)) (u := (.bool true)) rfl rfl rfl rfl rfl (⟨_, _, _, rfl, rdn_yes (hat8 h12) h17, hX16⟩)))
 refine zD (zE ?_)
 refine qD rfl (zC (v := (.int .i64 0)) rfl) (qD rfl (zC (v := (.bool false)) rfl) (qe (zA ?_)))
 exact wp_ret (zQ (xG (v := (.int .i64 0)) (u := (.bool false)) rfl rfl rfl rfl rfl (⟨_, _, _, rfl, rdn_dif (hat8 h12) h17 h18, hX16⟩)))
 refine qs rfl rfl rfl rfl rfl rfl (qs rfl rfl rfl rfl rfl rfl (qs rfl rfl rfl rfl rfl rfl (qD rfl (yG (v := (.bool true)) rfl rfl) (qe (zA ?_)))))
 refine qC rfl rfl (zD (zE ?_))
 refine qD rfl (zC (v := (.int .i64 0)) rfl) (qD rfl (zC (v := (.bool false)) rfl) (qe (zA ?_)))
 exact wp_ret (zQ (xG (v := (.int .i64 0)) (u := (.bool false)) rfl rfl rfl rfl rfl (⟨_, _, _, rfl, rdn_out (hat8 h12) h17, hX16⟩)))
 refine zD (zE ?_)
 refine qD rfl (zC (v := (.int .i64 0)) rfl) (qD rfl (zC (v := (.bool false)) rfl) (qe (zA ?_)))
 exact wp_ret (zQ (xG (v := (.int .i64 0)) (u := (.bool false)) rfl rfl rfl rfl rfl (⟨_, _, _, rfl, rdn_err (har9 h12), hX11⟩)))
theorem cut_spec {w : World} {s : ByteArray} {c : UInt8} (hP : Pins G w) (hM : MxI 1 G) (hs : s.size ≤ 1048576) :
  Calls Tryz.prog 103 [.string s, .string (⟨#[c]⟩ : ByteArray)].toArray w fun e w' => ∃ G', e = .returned (.tuple #[.string (cutA c s), .string (cutZ c s), .bool (cutY c s)]) ∧ Ext noS G w G' w' := by
 obtain ⟨m, hm⟩ := hM
 refine (Tryz.strings_Cut s _ m w (by omega) (hP _ _ _ hm)).mono ?_
 rintro e w' ⟨rfl, n, rfl⟩
 exact ⟨G, rfl, (Ext.refl hP).step (hP.below (mA w n)) (mA w n)⟩
theorem gO {w : World} {s : ByteArray} {c : UInt8} (hP : Pins G w) (hM : MxI 1 G) (hs : s.size ≤ 1048576) :
  Calls Tryz.prog 54 [.string s, .string (⟨#[c]⟩ : ByteArray)].toArray w fun e w' => ∃ (u : Value) (G' : Pin), e = .returned u ∧ Own eStr 9 G' w' w.heap.size u (partsB c s) ∧ Ext noS G w G' w' := by
 obtain ⟨m, hm⟩ := hM
 have h1 : 1 ≤ (⟨#[c]⟩ : ByteArray).size := by show 1 ≤ 1; omega
 refine (Tryz.strings_Split s _ m w (by omega) (hP _ _ _ hm) h1).mono ?_
 rintro e w' ⟨rfl, rfl⟩
 have hl : (Lib.splitB ⟨#[c]⟩ 0 (Lib.countB s ⟨#[c]⟩) s).length = Lib.countB s ⟨#[c]⟩ + 1 := Lib.splitB_all _ h1 0 _ s rfl
 have hcl := Lib.countB_le ⟨#[c]⟩ h1 s.size s (Nat.le_refl _)
 obtain ⟨a1, a2, a3⟩ := own_strs (e := 9) (Lib.splitB ⟨#[c]⟩ 0 (Lib.countB s ⟨#[c]⟩) s) hP (by omega)
 rw [hl] at a1
 exact ⟨_, G, rfl, a1, (Ext.refl hP).step a2 a3⟩
end PT7
end Go.Proofs.YtajkbplgbikgdaaGreatDoor
namespace Go.Proofs.YtajkbplgbikgdaaGreatDoor
namespace PT8
open Go.RowKit Go.GL Go.Proofs
open PT1 PT7
theorem kY {w : World} {G : Pin} {s : ByteArray} (hP : Pins G w) (hT : TabW w) (hE : ErG 4 G) (hM : MxI 1 G) (hs : s.size ≤ 4000) :
  Calls Tryz.prog 105 [(.string s)].toArray w fun e w' => ∃ (u : Value) (l : List Int) (ok : Bool) (G' : Pin), e = .returned (.tuple #[u, .bool ok]) ∧ RSl eInt G' u l ∧ RdL s l ok ∧ Ext noS G w G' w' := by
 refine yM (n := 32) Tryz.func105 Tryz.ntmps105 rfl rfl ?_
 have hX0 := exr noS hP
 refine zD (zE ?_)
 refine qD rfl (zC (v := (.slice none 0 0)) rfl) (qD rfl (zC (v := (.bool false)) rfl) (qe (zA (zD (zD (zE ?_))))))
 refine qD rfl (zB (v := (.string s)) rfl) (qD rfl (r_eqlS rfl rfl) (qe (zA ?_)))
 refine c_if rfl rfl (fun h1 => ?_) (fun h1 => ?_)
 refine zD (zE ?_)
 refine qD rfl (zC (v := (.slice none 0 0)) rfl) (qD rfl (zC (v := (.bool true)) rfl) (qe (zA ?_)))
 exact wp_ret (zQ (xG (v := (.slice none 0 0)) (u := (.bool true)) rfl rfl rfl rfl rfl (⟨_, _, _, _, rfl, (yX _ _), rdl_nil (fV h1), hX0⟩)))
 refine wp_skip (zA (zD (zE ?_)))
 have hs0 := tS h1
 refine qI rfl (xF (E := eInt) (e := 3) eR sz3 hX0.pins (fun u2 w3 ho4 hp5 hl6 hk7 => ?_))
 have hX8 := hX0.step hp5 hl6
 have ho9 := ho4.weaken hX0.size
 refine qD rfl (zC (v := u2) rfl) (qe (zA (zD (zD (zE ?_)))))
 refine qD rfl (zB (v := (.string s)) rfl) (qI rfl (zK (vs := [(.string s), (.string (⟨#[44]⟩ : ByteArray))]) Tryz.func54 nm54 rfl rfl rfl ?_))
 refine dJ (gO (s := s) (c := 44) hX8.pins hM (by omega)) ?_
 rintro _ w12 ⟨u10, G11, rfl, ho13, hx14⟩
 refine ⟨_, rfl, ?_⟩
 have ho18 := ho13.weaken hX8.size
 have hm19 := jG 44 s
 have hm20 := kA 44 s
 refine qD rfl (run_len eZ (v := u10) rfl ho18.read) (qD rfl (zB (v := (.int .i64 0)) rfl) (qe (zA ?_)))
 refine yI (yZ (fun (k : Nat) (en : Nat → Value) (W : World) => ∃ (env1 : Nat → Value) (j : Nat) (ov : Value) (os : List Int) (GL1 : Pin), en = (upd (upd (upd (upd env1 4 ov) 13 u10) 14 (.int .i64 ((partsB 44 s).length : Int))) 15 (.int .i64 (j : Int))) ∧ k = (partsB 44 s).length - j ∧ Ext noS G w GL1 W ∧ Pin.le G11 GL1 ∧ (j ≤ (partsB 44 s).length) ∧ (LsI s j os) ∧ (Own eInt 3 GL1 W w.heap.size ov (os)) ∧ (Own eStr 9 GL1 W w.heap.size u10 (partsB 44 s)) ∧ (Apart ov.ownBlock u10.ownBlock)) _ ⟨_, 0, u2, [], G11, (zF (x := 15) (zF (x := 14) (zF (x := 13) (yF (x := 4) rfl) rfl) rfl) rfl), rfl, (hX8.tr hx14), Pin.le_refl _, Nat.zero_le _, lsI_zero, (ho9.ext hx14), ho18, (zV ho13.lt ho9.lt).symm⟩ ?_)
 rintro k21 _ w22 ⟨env1, j, ov, os, GL1, rfl, hk23, hX24, hlek21, hj, hli, hw25, hw26, ha27⟩
 have hol := hli.len
 refine zD (zE ?_)
 refine qD rfl (xB rfl rfl) (qe (zA (zD ?_)))
 refine yJ (p := ((j : Int) : Int) < ((partsB 44 s).length : Int)) rfl rfl (fun h28 => ?_) (fun h28 => ?_)
 refine wp_skip (zA (zD ?_))
 refine yI (zD (zE ?_))
 refine qD rfl (zL eZ sz9 (v := u10) rfl rfl hw26.read (by omega) (by omega)) (qD rfl (xK (r := (partsB 44 s).getD j ByteArray.empty) rfl ag9 (z := (j : Int)) rfl hw26.read (Gadd.pins hX24.pins u10) (by omega) (by omega)) (qD rfl (zC (v := (.string ((partsB 44 s).getD j ByteArray.empty))) rfl) (qe (zA (zD (zE ?_))))))
 refine qD rfl (zB (v := (.string ((partsB 44 s).getD j ByteArray.empty))) rfl) (qI rfl (zK (vs := [(.string ((partsB 44 s).getD j ByteArray.empty))]) Tryz.func104 nm104 rfl rfl rfl ?_))
 refine dJ (fG (s := ((partsB 44 s).getD j ByteArray.empty)) hX24.pins (hT.keep hX24) (hE.le (dH hx14.le hlek21))) ?_
 rintro _ w32 ⟨n29, ok30, G31, rfl, hrn33, hx34⟩
 refine ⟨_, rfl, ?_⟩
 have hX35 := hX24.tr hx34
 have hm38 := hrn33.lo
 have hm39 := hrn33.hi
 refine qD rfl (zB (v := (.tuple #[(.int .i64 n29), (.bool ok30)])) rfl) (qD rfl (yB (v := (.int .i64 n29)) rfl rfl) (qD rfl (yB (v := (.bool ok30)) rfl rfl) (qD rfl (zC (v := (.int .i64 n29)) rfl) (qD rfl (zC (v := (.bool ok30)) rfl) (qe (zA (zD (zD (zE ?_)))))))))
 refine qD rfl (zB (v := (.bool ok30)) rfl) (qD rfl (xT rfl) (qe (zA ?_)))
 refine xV rfl rfl (fun h40 => ?_) (fun h40 => ?_)
 refine wp_skip (zA (zE ?_))
 refine qD rfl (zB (v := ov) rfl) (qD rfl (zB (v := (.int .i64 n29)) rfl) (qI rfl (xI (E := eInt) (e := 3) [(.int .i64 n29)] [n29] eR sz3 zr3 (by exact qQ (by rfl)) (yE (by rfl)) rfl rfl rfl rfl (by decide) hX35.pins (fun u41 w42 ho43 hp44 hl45 hk46 => ?_))))
 have hX47 := hX35.step hp44 hl45
 have ho48 := (hw25.ext hx34).below hl45
 have ho49 := (hw26.ext hx34).below hl45
 have ho52 := ho43.weaken hX35.size
 refine qI rfl (yH (E := eInt) (v := ov) (u := u41) 8 eR ap3 (by decide) rfl rfl hX47.pins ho48 ho52.src (by first | omega | (rw [List.nil_append]; omega) | (rw [List.length_nil]; omega) | (rw [List.length_append]; omega) | (simp; done) | (simp; omega) | (simp only [List.length_cons, List.length_nil]; omega) | (simp only [List.length_append, List.length_cons, List.length_nil]; omega)) (by first | omega | (rw [List.nil_append]; omega) | (rw [List.length_nil]; omega) | (rw [List.length_append]; omega) | (simp; done) | (simp; omega) | (simp only [List.length_cons, List.length_nil]; omega) | (simp only [List.length_append, List.length_cons, List.length_nil]; omega)) (hX47.size) (fun u53 w54 ho55 hp56 hg57 hw58 => ?_))
 have hm64 := la1 os n29
 refine qD rfl (zC (v := u53) rfl) (qe (yO (zA (zE ?_))))
 refine qD rfl (yT rfl rfl (by omega)) (qD rfl (zB (v := (.int .i64 ((j : Int) + 1))) rfl) (qe (yR (⟨_, ?_, _, rfl, _, j + 1, u53, os ++ ([n29]), G31, (zF (x := 15) (zF (x := 14) (zF (x := 13) (yF (x := 4) rfl) rfl) rfl) rfl), rfl, (hX47.write hp56 hg57 ((yQ ho48))), (dH hlek21 hx34.le), (by omega), (lsI_next hs0 hli (by omega) hrn33), ho55, (ho49.keptA hg57 ha27.symm), (zJ ha27.symm hw58 ho49.lt).symm⟩))))
 omega
 refine zD (zE ?_)
 refine qD rfl (zC (v := (.slice none 0 0)) rfl) (qD rfl (zC (v := (.bool false)) rfl) (qe (zA ?_)))
 exact wp_ret (zQ (xG (v := (.slice none 0 0)) (u := (.bool false)) rfl rfl rfl rfl rfl (⟨_, _, _, _, rfl, (yX _ _), lsI_fail hs0 (by omega) (h40 ▸ hrn33), hX35⟩)))
 refine wp_exit (yK (yU (yV (zA (zD (zE ?_))))))
 refine qD rfl (zB (v := ov) rfl) (qD rfl (zC (v := ov) rfl) (qD rfl (zC (v := (.bool true)) rfl) (qe (zA ?_))))
 refine wp_ret (zQ (xG (v := ov) (u := (.bool true)) rfl rfl rfl rfl rfl ?_))
 obtain ⟨G65, hle68, hX67, hr66, hf69⟩ := hw25.sealed hX24
 exact ⟨_, _, _, _, rfl, hr66, lsI_done hs0 hli (by omega) hj, hX67⟩
end PT8
end Go.Proofs.YtajkbplgbikgdaaGreatDoor
namespace Go.Proofs.YtajkbplgbikgdaaGreatDoor
namespace PT9
open Go.RowKit Go.GL Go.Proofs
open PT1 PT7 PT8
theorem pl72 : (Tryz.prog.underlying 72).bind (placesD Tryz.prog) = some [(0, 1), (1, 1), (2, 1), (3, 1)] := by kernel_rfl
theorem nG {w : World} {G : Pin} {s : ByteArray} (hP : Pins G w) (hT : TabW w) (hE : ErG 4 G) (hM : MxI 1 G) (hs : s.size ≤ 4000) :
  Calls Tryz.prog 55 [(.string s)].toArray w fun e w' => ∃ (ru lu : Value) (d : Cl) (ok : Bool) (G' : Pin), e = .returned (.tuple #[(.agg [(.int .i64 d.a), (.int .i64 d.b), ru, lu].toArray), .bool ok]) ∧ RSl eInt G' ru d.r ∧ RSl eInt G' lu d.l ∧ RdC s d ok ∧ Ext noS G w G' w' := by
 refine yM (n := 78) Tryz.func55 Tryz.ntmps55 rfl rfl ?_
 have hX0 := exr noS hP
 refine zD (zE ?_)
 refine qI rfl (yL [(.int .i64 0), (.int .i64 0), (.slice none 0 0), (.slice none 0 0)] zr72 rfl hX0.pins (fun b1 w2 hk3 hb4 hp5 hl6 => ?_))
 have hX7 := hX0.step hp5 hl6
 have hlo8 : w.heap.size ≤ b1 := by have := hX0.size; omega
 refine qD rfl (zC (v := (.bool false)) rfl) (qe (zA (zD (zE ?_))))
 refine qD rfl (zB (v := (.string s)) rfl) (qI rfl (zK (vs := [(.string s), (.string (⟨#[58]⟩ : ByteArray))]) Tryz.func54 nm54 rfl rfl rfl ?_))
 refine dJ (gO (s := s) (c := 58) hX7.pins hM (by omega)) ?_
 rintro _ w11 ⟨u9, G10, rfl, ho12, hx13⟩
 refine ⟨_, rfl, ?_⟩
 have hX14 := hX7.tr hx13
 have hb15 := hb4.ext hx13
 have ho17 := ho12.weaken hX7.size
 have hm18 := jG 58 s
 have hm19 := kA 58 s
 refine qD rfl (zC (v := u9) rfl) (qe (zA (zD (zD (zE ?_)))))
 refine qD rfl (zB (v := u9) rfl) (qD rfl (run_len eZ (v := u9) rfl ho17.read) (qD rfl (kK rfl rfl) (qe (zA ?_))))
 refine yJ (p := (((partsB 58 s).length : Int) : Int) ≠ 3) rfl rfl (fun h20 => ?_) (fun h20 => ?_)
 refine zD (zE ?_)
 refine qD rfl (yY [(.int .i64 0), (.int .i64 0), (.slice none 0 0), (.slice none 0 0)] [(.int .i64 0), (.int .i64 0), (.slice none 0 0), (.slice none 0 0)] [] eS zr72 rfl pl72 rfl (fun _ h => by cases h) rfl) (q0 rfl rfl rfl (yD (cs' := [(.int .i64 0), (.int .i64 0), (.slice none 0 0), (.slice none 0 0)]) (us := [(.int .i64 0), (.int .i64 0), (.slice none 0 0), (.slice none 0 0)]) (v := (.agg [(.int .i64 0), (.int .i64 0), (.slice none 0 0), (.slice none 0 0)].toArray)) sz72 rfl rfl rfl (jB (by rfl) (by rfl) (by rfl) (by rfl)) hX14.pins hb15 (dK rfl) rfl (fun w21 hb22 hp23 hg24 hz25 => ?_)))
 refine qD rfl (zC (v := (.bool false)) rfl) (qe (zA ?_))
 exact wp_ret (zQ (xN (cs := [(.int .i64 0), (.int .i64 0), (.slice none 0 0), (.slice none 0 0)]) (v := (.bool false)) rfl rfl rfl rfl rfl ag72 sz72 (fun j u hj => by rw [Nat.zero_add]; exact hb22.cell hj) (⟨_, _, ⟨0, 0, [], []⟩, _, _, rfl, (yX _ _), (yX _ _), rdc_len (by omega), (hX14.write hp23 hg24 ((zS hlo8)))⟩)))
 refine wp_skip (zA (zD (zE ?_)))
 have hf0 : ((partsB 58 s).getD 0 ByteArray.empty).size ≤ s.size := jL (by omega)
 have hf1 : ((partsB 58 s).getD 1 ByteArray.empty).size ≤ s.size := jL (by omega)
 have hf2 : ((partsB 58 s).getD 2 ByteArray.empty).size ≤ s.size := jL (by omega)
 refine qD rfl (zB (v := u9) rfl) (qD rfl (zL eZ sz9 (v := u9) rfl rfl ho17.read (by omega) (by omega)) (qD rfl (xK (r := (partsB 58 s).getD 0 ByteArray.empty) rfl ag9 (z := 0) rfl ho17.read (Gadd.pins hX14.pins u9) (by omega) (by omega)) (qI rfl (zK (vs := [(.string ((partsB 58 s).getD 0 ByteArray.empty)), (.string (⟨#[32]⟩ : ByteArray))]) Tryz.func103 nm103 rfl rfl rfl ?_))))
 refine dJ (cut_spec (s := ((partsB 58 s).getD 0 ByteArray.empty)) (c := 32) hX14.pins (hM.le hx13.le) (by omega)) ?_
 rintro _ w29 ⟨G28, rfl, hx30⟩
 refine ⟨_, rfl, ?_⟩
 have hX31 := hX14.tr hx30
 refine qD rfl (zB (v := (.tuple #[(.string (cutA 32 ((partsB 58 s).getD 0 ByteArray.empty))), (.string (cutZ 32 ((partsB 58 s).getD 0 ByteArray.empty))), (.bool (cutY 32 ((partsB 58 s).getD 0 ByteArray.empty)))])) rfl) (qD rfl (yB (v := (.string (cutA 32 ((partsB 58 s).getD 0 ByteArray.empty)))) rfl rfl) (qD rfl (yB (v := (.string (cutZ 32 ((partsB 58 s).getD 0 ByteArray.empty)))) rfl rfl) (qD rfl (yB (v := (.bool (cutY 32 ((partsB 58 s).getD 0 ByteArray.empty)))) rfl rfl) (qD rfl (zC (v := (.string (cutA 32 ((partsB 58 s).getD 0 ByteArray.empty)))) rfl) (qD rfl (zC (v := (.string (cutZ 32 ((partsB 58 s).getD 0 ByteArray.empty)))) rfl) (qD rfl (zC (v := (.bool (cutY 32 ((partsB 58 s).getD 0 ByteArray.empty)))) rfl) (qe (zA (zD (zE ?_))))))))))
 refine qD rfl (zB (v := (.string (cutA 32 ((partsB 58 s).getD 0 ByteArray.empty)))) rfl) (qI rfl (zK (vs := [(.string (cutA 32 ((partsB 58 s).getD 0 ByteArray.empty)))]) Tryz.func104 nm104 rfl rfl rfl ?_))
 refine dJ (fG (s := (cutA 32 ((partsB 58 s).getD 0 ByteArray.empty))) hX31.pins (hT.keep hX31) (hE.le (dH hx13.le hx30.le))) ?_
 rintro _ w37 ⟨n34, ok35, G36, rfl, hrn38, hx39⟩
 refine ⟨_, rfl, ?_⟩
 have hX40 := hX31.tr hx39
 have hm43 := hrn38.lo
 have hm44 := hrn38.hi
 refine qD rfl (zB (v := (.tuple #[(.int .i64 n34), (.bool ok35)])) rfl) (qD rfl (yB (v := (.int .i64 n34)) rfl rfl) (qD rfl (yB (v := (.bool ok35)) rfl rfl) (qD rfl (zC (v := (.int .i64 n34)) rfl) (qD rfl (zC (v := (.bool ok35)) rfl) (qe (zA (zD (zE ?_))))))))
 refine qD rfl (zB (v := (.string (cutZ 32 ((partsB 58 s).getD 0 ByteArray.empty)))) rfl) (qI rfl (zK (vs := [(.string (cutZ 32 ((partsB 58 s).getD 0 ByteArray.empty)))]) Tryz.func104 nm104 rfl rfl rfl ?_))
 refine dJ (fG (s := (cutZ 32 ((partsB 58 s).getD 0 ByteArray.empty))) hX40.pins (hT.keep hX40) (hE.le (dH (dH hx13.le hx30.le) hx39.le))) ?_
 rintro _ w48 ⟨n45, ok46, G47, rfl, hrn49, hx50⟩
 refine ⟨_, rfl, ?_⟩
 have hX51 := hX40.tr hx50
 have ho52 := ((ho17.ext hx30).ext hx39).ext hx50
 have hm54 := hrn49.lo
 have hm55 := hrn49.hi
 refine qD rfl (zB (v := (.tuple #[(.int .i64 n45), (.bool ok46)])) rfl) (qD rfl (yB (v := (.int .i64 n45)) rfl rfl) (qD rfl (yB (v := (.bool ok46)) rfl rfl) (qD rfl (zC (v := (.int .i64 n45)) rfl) (qD rfl (zC (v := (.bool ok46)) rfl) (qe (zA (zD (zE ?_))))))))
 refine qD rfl (zB (v := u9) rfl) (qD rfl (zL eZ sz9 (v := u9) rfl rfl ho52.read (by omega) (by omega)) (qD rfl (xK (r := (partsB 58 s).getD 1 ByteArray.empty) rfl ag9 (z := 1) rfl ho52.read (Gadd.pins hX51.pins u9) (by omega) (by omega)) (qI rfl (zK (vs := [(.string ((partsB 58 s).getD 1 ByteArray.empty))]) Tryz.func105 nm105 rfl rfl rfl ?_))))
 refine dJ (kY (s := ((partsB 58 s).getD 1 ByteArray.empty)) hX51.pins (hT.keep hX51) (hE.le (dH (dH (dH hx13.le hx30.le) hx39.le) hx50.le)) (hM.le (dH (dH (dH hx13.le hx30.le) hx39.le) hx50.le)) (by omega)) ?_
 rintro _ w60 ⟨u56, l57, ok58, G59, rfl, hr61, hrl62, hx63⟩
 refine ⟨_, rfl, ?_⟩
 have hX64 := hX51.tr hx63
 have ho65 := ho52.ext hx63
 refine qD rfl (zB (v := (.tuple #[u56, (.bool ok58)])) rfl) (qD rfl (yB (v := u56) rfl rfl) (qD rfl (yB (v := (.bool ok58)) rfl rfl) (qD rfl (zC (v := u56) rfl) (qD rfl (zC (v := (.bool ok58)) rfl) (qe (zA (zD (zE ?_))))))))
 refine qD rfl (zB (v := u9) rfl) (qD rfl (zL eZ sz9 (v := u9) rfl rfl ho65.read (by omega) (by omega)) (qD rfl (xK (r := (partsB 58 s).getD 2 ByteArray.empty) rfl ag9 (z := 2) rfl ho65.read (Gadd.pins hX64.pins u9) (by omega) (by omega)) (qI rfl (zK (vs := [(.string ((partsB 58 s).getD 2 ByteArray.empty))]) Tryz.func105 nm105 rfl rfl rfl ?_))))
 refine dJ (kY (s := ((partsB 58 s).getD 2 ByteArray.empty)) hX64.pins (hT.keep hX64) (hE.le (dH (dH (dH (dH hx13.le hx30.le) hx39.le) hx50.le) hx63.le)) (hM.le (dH (dH (dH (dH hx13.le hx30.le) hx39.le) hx50.le) hx63.le)) (by omega)) ?_
 rintro _ w71 ⟨u67, l68, ok69, G70, rfl, hr72, hrl73, hx74⟩
 refine ⟨_, rfl, ?_⟩
 have hX75 := hX64.tr hx74
 have hb77 := ((((hb15.ext hx30).ext hx39).ext hx50).ext hx63).ext hx74
 refine qD rfl (zB (v := (.tuple #[u67, (.bool ok69)])) rfl) (qD rfl (yB (v := u67) rfl rfl) (qD rfl (yB (v := (.bool ok69)) rfl rfl) (qD rfl (zC (v := u67) rfl) (qD rfl (zC (v := (.bool ok69)) rfl) (qe (zA (zD (zD (zE ?_)))))))))
 refine qD rfl (zB (v := (.bool (cutY 32 ((partsB 58 s).getD 0 ByteArray.empty)))) rfl) (qD rfl (xT rfl) (qD rfl (zB (v := (.bool (!(cutY 32 ((partsB 58 s).getD 0 ByteArray.empty))))) rfl) (qbn (t := 56) rfl (fun h78 => ?_) (fun h78 => ?_))))
 refine qdg rfl rfl rfl rfl rfl rfl (zB (v := (.bool ok35)) rfl) (qdg rfl rfl rfl rfl rfl rfl (xT rfl) (qD rfl (yN (v := (.bool (!ok35))) rfl rfl) (qD rfl (zB (v := (.bool (!ok35))) rfl) (qbn (t := 60) rfl (fun h79 => ?_) (fun h79 => ?_)))))
 refine qdg rfl rfl rfl rfl rfl rfl (zB (v := (.bool ok46)) rfl) (qdg rfl rfl rfl rfl rfl rfl (xT rfl) (qD rfl (yN (v := (.bool (!ok46))) rfl rfl) (qD rfl (zB (v := (.bool (!ok46))) rfl) (qbn (t := 64) rfl (fun h80 => ?_) (fun h80 => ?_)))))
 refine qdg rfl rfl rfl rfl rfl rfl (zB (v := (.bool ok58)) rfl) (qdg rfl rfl rfl rfl rfl rfl (xT rfl) (qD rfl (yN (v := (.bool (!ok58))) rfl rfl) (qD rfl (zB (v := (.bool (!ok58))) rfl) (qbn (t := 68) rfl (fun h81 => ?_) (fun h81 => ?_)))))
 refine qdg rfl rfl rfl rfl rfl rfl (zB (v := (.bool ok69)) rfl) (qdg rfl rfl rfl rfl rfl rfl (xT rfl) (qD rfl (yN (v := (.bool (!ok69))) rfl rfl) (qe (zA ?_))))
 refine xV rfl rfl (fun h82 => ?_) (fun h82 => ?_)
 refine wp_skip (zA (zD (zE ?_)))
 refine qD rfl (zB (v := (.int .i64 n34)) rfl) (qD rfl (zB (v := (.int .i64 n45)) rfl) (qD rfl (zB (v := u56) rfl) (qD rfl (zB (v := u67) rfl) (qD rfl (yY [(.int .i64 0), (.int .i64 0), (.slice none 0 0), (.slice none 0 0)] [(.int .i64 n34), (.int .i64 n45), u56, u67] [(0, (.int .i64 n34), [(.int .i64 n34)]), (1, (.int .i64 n45), [(.int .i64 n45)]), (2, u56, [u56]), (3, u67, [u67])] eS zr72 rfl pl72 rfl (List.forall_mem_cons.2 ⟨rfl, (List.forall_mem_cons.2 ⟨rfl, (List.forall_mem_cons.2 ⟨(yW hr61.one), (List.forall_mem_cons.2 ⟨(yW hr72.one), (fun _ h => by cases h)⟩)⟩)⟩)⟩) rfl) (q0 rfl rfl rfl (yD (cs' := [(.int .i64 n34), (.int .i64 n45), u56, u67]) (us := [(.int .i64 n34), (.int .i64 n45), u56, u67]) (v := (.agg [(.int .i64 n34), (.int .i64 n45), u56, u67].toArray)) sz72 rfl rfl rfl (jB (by rfl) (by rfl) hr61.one hr72.one) hX75.pins hb77 (dK rfl) rfl (fun w83 hb84 hp85 hg86 hz87 => ?_)))))))
 refine qD rfl (zC (v := (.bool true)) rfl) (qe (zA ?_))
 exact wp_ret (zQ (xN (cs := [(.int .i64 n34), (.int .i64 n45), u56, u67]) (v := (.bool true)) rfl rfl rfl rfl rfl ag72 sz72 (fun j u hj => by rw [Nat.zero_add]; exact hb84.cell hj) (⟨_, _, ⟨n34, n45, l57, l68⟩, _, _, rfl, (hr61.mono hx74.le), hr72, rdc_yes (by omega) hrn38 hrn49 hrl62 hrl73, (hX75.write hp85 hg86 ((zS hlo8)))⟩)))
 refine zD (zE ?_)
 refine qD rfl (yY [(.int .i64 0), (.int .i64 0), (.slice none 0 0), (.slice none 0 0)] [(.int .i64 0), (.int .i64 0), (.slice none 0 0), (.slice none 0 0)] [] eS zr72 rfl pl72 rfl (fun _ h => by cases h) rfl) (q0 rfl rfl rfl (yD (cs' := [(.int .i64 0), (.int .i64 0), (.slice none 0 0), (.slice none 0 0)]) (us := [(.int .i64 0), (.int .i64 0), (.slice none 0 0), (.slice none 0 0)]) (v := (.agg [(.int .i64 0), (.int .i64 0), (.slice none 0 0), (.slice none 0 0)].toArray)) sz72 rfl rfl rfl (jB (by rfl) (by rfl) (by rfl) (by rfl)) hX75.pins hb77 (dK rfl) rfl (fun w90 hb91 hp92 hg93 hz94 => ?_)))
 refine qD rfl (zC (v := (.bool false)) rfl) (qe (zA ?_))
 exact wp_ret (zQ (xN (cs := [(.int .i64 0), (.int .i64 0), (.slice none 0 0), (.slice none 0 0)]) (v := (.bool false)) rfl rfl rfl rfl rfl ag72 sz72 (fun j u hj => by rw [Nat.zero_add]; exact hb91.cell hj) (⟨_, _, ⟨0, 0, [], []⟩, _, _, rfl, (yX _ _), (yX _ _), nK (by omega) hrn38 hrn49 hrl62 hrl73 (fun k => Bool.false_ne_true (h82.symm.trans k.2.2.2.2)), (hX75.write hp92 hg93 ((zS hlo8)))⟩)))
 refine qs rfl rfl rfl rfl rfl rfl (qs rfl rfl rfl rfl rfl rfl (qD rfl (yG (v := (.bool true)) rfl rfl) (qe (zA ?_))))
 refine qC rfl rfl (zD (zE ?_))
 refine qD rfl (yY [(.int .i64 0), (.int .i64 0), (.slice none 0 0), (.slice none 0 0)] [(.int .i64 0), (.int .i64 0), (.slice none 0 0), (.slice none 0 0)] [] eS zr72 rfl pl72 rfl (fun _ h => by cases h) rfl) (q0 rfl rfl rfl (yD (cs' := [(.int .i64 0), (.int .i64 0), (.slice none 0 0), (.slice none 0 0)]) (us := [(.int .i64 0), (.int .i64 0), (.slice none 0 0), (.slice none 0 0)]) (v := (.agg [(.int .i64 0), (.int .i64 0), (.slice none 0 0), (.slice none 0 0)].toArray)) sz72 rfl rfl rfl (jB (by rfl) (by rfl) (by rfl) (by rfl)) hX75.pins hb77 (dK rfl) rfl (fun w97 hb98 hp99 hg100 hz101 => ?_)))
 refine qD rfl (zC (v := (.bool false)) rfl) (qe (zA ?_))
 exact wp_ret (zQ (xN (cs := [(.int .i64 0), (.int .i64 0), (.slice none 0 0), (.slice none 0 0)]) (v := (.bool false)) rfl rfl rfl rfl rfl ag72 sz72 (fun j u hj => by rw [Nat.zero_add]; exact hb98.cell hj) (⟨_, _, ⟨0, 0, [], []⟩, _, _, rfl, (yX _ _), (yX _ _), nK (by omega) hrn38 hrn49 hrl62 hrl73 (fun k => Bool.false_ne_true (h81.symm.trans k.2.2.2.1)), (hX75.write hp99 hg100 ((zS hlo8)))⟩)))
 refine qs rfl rfl rfl rfl rfl rfl (qs rfl rfl rfl rfl rfl rfl (qD rfl (yG (v := (.bool true)) rfl rfl) (qD rfl (zB (v := (.bool true)) rfl) (qs rfl rfl rfl rfl rfl rfl (qs rfl rfl rfl rfl rfl rfl (qD rfl (yG (v := (.bool true)) rfl rfl) (qe (zA ?_))))))))
 refine qC rfl rfl (zD (zE ?_))
 refine qD rfl (yY [(.int .i64 0), (.int .i64 0), (.slice none 0 0), (.slice none 0 0)] [(.int .i64 0), (.int .i64 0), (.slice none 0 0), (.slice none 0 0)] [] eS zr72 rfl pl72 rfl (fun _ h => by cases h) rfl) (q0 rfl rfl rfl (yD (cs' := [(.int .i64 0), (.int .i64 0), (.slice none 0 0), (.slice none 0 0)]) (us := [(.int .i64 0), (.int .i64 0), (.slice none 0 0), (.slice none 0 0)]) (v := (.agg [(.int .i64 0), (.int .i64 0), (.slice none 0 0), (.slice none 0 0)].toArray)) sz72 rfl rfl rfl (jB (by rfl) (by rfl) (by rfl) (by rfl)) hX75.pins hb77 (dK rfl) rfl (fun w104 hb105 hp106 hg107 hz108 => ?_)))
 refine qD rfl (zC (v := (.bool false)) rfl) (qe (zA ?_))
 exact wp_ret (zQ (xN (cs := [(.int .i64 0), (.int .i64 0), (.slice none 0 0), (.slice none 0 0)]) (v := (.bool false)) rfl rfl rfl rfl rfl ag72 sz72 (fun j u hj => by rw [Nat.zero_add]; exact hb105.cell hj) (⟨_, _, ⟨0, 0, [], []⟩, _, _, rfl, (yX _ _), (yX _ _), nK (by omega) hrn38 hrn49 hrl62 hrl73 (fun k => Bool.false_ne_true (h80.symm.trans k.2.2.1)), (hX75.write hp106 hg107 ((zS hlo8)))⟩)))
 refine qs rfl rfl rfl rfl rfl rfl (qs rfl rfl rfl rfl rfl rfl (qD rfl (yG (v := (.bool true)) rfl rfl) (qD rfl (zB (v := (.bool true)) rfl) (qs rfl rfl rfl rfl rfl rfl (qs rfl rfl rfl rfl rfl rfl (qD rfl (yG (v := (.bool true)) rfl rfl) (qD rfl (zB (v := (.bool true)) rfl) (qs rfl rfl rfl rfl rfl rfl (qs rfl rfl rfl rfl rfl rfl (qD rfl (yG (v := (.bool true)) rfl rfl) (qe (zA ?_))))))))))))
 refine qC rfl rfl (zD (zE ?_))
 refine qD rfl (yY [(.int .i64 0), (.int .i64 0), (.slice none 0 0), (.slice none 0 0)] [(.int .i64 0), (.int .i64 0), (.slice none 0 0), (.slice none 0 0)] [] eS zr72 rfl pl72 rfl (fun _ h => by cases h) rfl) (q0 rfl rfl rfl (yD (cs' := [(.int .i64 0), (.int .i64 0), (.slice none 0 0), (.slice none 0 0)]) (us := [(.int .i64 0), (.int .i64 0), (.slice none 0 0), (.slice none 0 0)]) (v := (.agg [(.int .i64 0), (.int .i64 0), (.slice none 0 0), (.slice none 0 0)].toArray)) sz72 rfl rfl rfl (jB (by rfl) (by rfl) (by rfl) (by rfl)) hX75.pins hb77 (dK rfl) rfl (fun w111 hb112 hp113 hg114 hz115 => ?_)))
 refine qD rfl (zC (v := (.bool false)) rfl) (qe (zA ?_))
 exact wp_ret (zQ (xN (cs := [(.int .i64 0), (.int .i64 0), (.slice none 0 0), (.slice none 0 0)]) (v := (.bool false)) rfl rfl rfl rfl rfl ag72 sz72 (fun j u hj => by rw [Nat.zero_add]; exact hb112.cell hj) (⟨_, _, ⟨0, 0, [], []⟩, _, _, rfl, (yX _ _), (yX _ _), nK (by omega) hrn38 hrn49 hrl62 hrl73 (fun k => Bool.false_ne_true (h79.symm.trans k.2.1)), (hX75.write hp113 hg114 ((zS hlo8)))⟩)))
 refine qs rfl rfl rfl rfl rfl rfl (qs rfl rfl rfl rfl rfl rfl (qD rfl (yG (v := (.bool true)) rfl rfl) (qD rfl (zB (v := (.bool true)) rfl) (qs rfl rfl rfl rfl rfl rfl (qs rfl rfl rfl rfl rfl rfl (qD rfl (yG (v := (.bool true)) rfl rfl) (qD rfl (zB (v := (.bool true)) rfl) (qs rfl rfl rfl rfl rfl rfl (qs rfl rfl rfl rfl rfl rfl (qD rfl (yG (v := (.bool true)) rfl rfl) (qD rfl (zB (v := (.bool true)) rfl) (qs rfl rfl rfl rfl rfl rfl (qs rfl rfl rfl rfl rfl rfl (qD rfl (yG (v := (.bool true)) rfl rfl) (qe (zA ?_))))))))))))))))
 refine qC rfl rfl (zD (zE ?_))
 refine qD rfl (yY [(.int .i64 0), (.int .i64 0), (.slice none 0 0), (.slice none 0 0)] [(.int .i64 0), (.int .i64 0), (.slice none 0 0), (.slice none 0 0)] [] eS zr72 rfl pl72 rfl (fun _ h => by cases h) rfl) (q0 rfl rfl rfl (yD (cs' := [(.int .i64 0), (.int .i64 0), (.slice none 0 0), (.slice none 0 0)]) (us := [(.int .i64 0), (.int .i64 0), (.slice none 0 0), (.slice none 0 0)]) (v := (.agg [(.int .i64 0), (.int .i64 0), (.slice none 0 0), (.slice none 0 0)].toArray)) sz72 rfl rfl rfl (jB (by rfl) (by rfl) (by rfl) (by rfl)) hX75.pins hb77 (dK rfl) rfl (fun w118 hb119 hp120 hg121 hz122 => ?_)))
 refine qD rfl (zC (v := (.bool false)) rfl) (qe (zA ?_))
 exact wp_ret (zQ (xN (cs := [(.int .i64 0), (.int .i64 0), (.slice none 0 0), (.slice none 0 0)]) (v := (.bool false)) rfl rfl rfl rfl rfl ag72 sz72 (fun j u hj => by rw [Nat.zero_add]; exact hb119.cell hj) (⟨_, _, ⟨0, 0, [], []⟩, _, _, rfl, (yX _ _), (yX _ _), nK (by omega) hrn38 hrn49 hrl62 hrl73 (fun k => Bool.false_ne_true (h78.symm.trans k.1)), (hX75.write hp120 hg121 ((zS hlo8)))⟩)))
end PT9
end Go.Proofs.YtajkbplgbikgdaaGreatDoor
namespace Go.Proofs.YtajkbplgbikgdaaGreatDoor
namespace PTA
open Go.RowKit Go.GL Go.Proofs
open PT1 PT2 PT7 PT9
theorem pl38 : (Tryz.prog.underlying 38).bind (placesD Tryz.prog) = some [(0, 1)] := by kernel_rfl
theorem fO {w : World} {G : Pin} {s : ByteArray} (hP : Pins G w) (hT : TabW w) (hE : ErG 4 G) (hM : MxI 1 G) :
  Calls Tryz.prog 19 [(.string s)].toArray w fun e w' => ∃ (u : Value) (q : List Cl) (ok : Bool) (G' : Pin), e = .returned (.tuple #[(.agg [u].toArray), .bool ok]) ∧ RSl eClaim G' u q ∧ RdP s q ok ∧ Ext noS G w G' w' := by
 refine yM (n := 54) Tryz.func19 Tryz.ntmps19 rfl rfl ?_
 have hX0 := exr noS hP
 refine zD (zE ?_)
 refine qI rfl (yL [(.slice none 0 0)] zr38 rfl hX0.pins (fun b1 w2 hk3 hb4 hp5 hl6 => ?_))
 have hX7 := hX0.step hp5 hl6
 have hlo8 : w.heap.size ≤ b1 := by have := hX0.size; omega
 refine qD rfl (zC (v := (.bool false)) rfl) (qe (zA (zD (zD (zE ?_)))))
 refine qD rfl (zB (v := (.string s)) rfl) (qD rfl (qH eW rfl) (qD rfl (qV rfl rfl) (qe (zA ?_))))
 refine yJ (p := (4000 : Int) < (s.size : Int)) rfl rfl (fun h9 => ?_) (fun h9 => ?_)
 refine zD (zE ?_)
 refine qD rfl (yY [(.slice none 0 0)] [(.slice none 0 0)] [] eV zr38 rfl pl38 rfl (fun _ h => by cases h) rfl) (q0 rfl rfl rfl (yD (cs' := [(.slice none 0 0)]) (us := [(.slice none 0 0)]) (v := (.agg [(.slice none 0 0)].toArray)) sz38 rfl rfl rfl (yE (by rfl)) hX7.pins hb4 (dK rfl) rfl (fun w10 hb11 hp12 hg13 hz14 => ?_)))
 refine qD rfl (zC (v := (.bool false)) rfl) (qe (zA ?_))
 exact wp_ret (zQ (xN (cs := [(.slice none 0 0)]) (v := (.bool false)) rfl rfl rfl rfl rfl ag38 sz38 (fun j u hj => by rw [Nat.zero_add]; exact hb11.cell hj) (⟨_, _, _, _, rfl, (yX _ _), rdp_long (by omega), (hX7.write hp12 hg13 ((zS hlo8)))⟩)))
 refine wp_skip (zA (zD (zE ?_)))
 refine qD rfl (yY [(.slice none 0 0)] [(.slice none 0 0)] [] eV zr38 rfl pl38 rfl (fun _ h => by cases h) rfl) (qI rfl (yL [(.slice none 0 0)] zr38 rfl hX7.pins (fun b16 w17 hk18 hb19 hp20 hl21 => ?_)))
 have hX22 := hX7.step hp20 hl21
 have ha24 : Apart (some b16) (some b1) := zG (congrArg some hk18) hb4.lt
 have hlo25 : w.heap.size ≤ b16 := by have := hX7.size; omega
 refine q0 rfl rfl rfl (yD (cs' := [(.slice none 0 0)]) (us := [(.slice none 0 0)]) (v := (.agg [(.slice none 0 0)].toArray)) sz38 rfl rfl rfl (yE (by rfl)) hX22.pins hb19 (dK rfl) rfl (fun w26 hb27 hp28 hg29 hz30 => ?_))
 have hX31 := hX22.write hp28 hg29 ((zS hlo25))
 have hb32 := (hb4.below hl21).keptA hg29 ha24.symm
 refine qe (zA (zD (zD (zE ?_))))
 refine qD rfl (zB (v := (.string s)) rfl) (qD rfl (jO rfl rfl) (qe (zA ?_)))
 refine xV rfl rfl (fun h33 => ?_) (fun h33 => ?_)
 refine wp_skip (zA (zD (zD (zE ?_))))
 have hac : AllC s [] := allC_nil (fV h33)
 have hlb : LenB ([] : List Cl) := fun k hk => absurd hk (Nat.not_lt_zero k)
 refine qD rfl (zU (cs := [(.slice none 0 0)]) ag38 sz38 rfl (fun j u hj => hb27.cell (by simpa using hj))) (qI rfl (zK (vs := [(.agg [(.slice none 0 0)].toArray)]) Tryz.func16 nm16 rfl rfl rfl ?_))
 refine dJ (vK hX31.pins (hT.keep hX31) (yX _ _) hlb) ?_
 rintro _ w35 ⟨G34, rfl, hx36⟩
 refine ⟨_, rfl, ?_⟩
 have hX37 := hX31.tr hx36
 have hb38 := hb32.ext hx36
 refine qD rfl (zB (v := (.tuple #[(.string (txF ([]))), (.bool (tdB ([])))])) rfl) (qD rfl (yB (v := (.string (txF ([])))) rfl rfl) (qD rfl (yB (v := (.bool (tdB ([])))) rfl rfl) (qD rfl (zC (v := (.string (txF ([])))) rfl) (qD rfl (zC (v := (.bool (tdB ([])))) rfl) (qe (zA (zD (zE ?_))))))))
 refine qD rfl (zB (v := (.bool (tdB ([])))) rfl) (qD rfl (xT rfl) (qD rfl (zB (v := (.bool (!(tdB ([]))))) rfl) (qbn (t := 47) rfl (fun h40 => ?_) (fun h40 => ?_))))
 refine qdg rfl rfl rfl rfl rfl rfl (zB (v := (.string (txF ([])))) rfl) (qdg rfl rfl rfl rfl rfl rfl (zB (v := (.string s)) rfl) (qdg rfl rfl rfl rfl rfl rfl (jO rfl rfl) (qD rfl (yN (v := (.bool (!((txF ([])).toList == s.toList)))) rfl rfl) (qe (zA ?_)))))
 refine xV rfl rfl (fun h41 => ?_) (fun h41 => ?_)
 refine wp_skip (zA (zD (zE ?_)))
 refine qD rfl (zU (cs := [(.slice none 0 0)]) ag38 sz38 rfl (fun j u hj => (hb27.ext hx36).cell (by simpa using hj))) (q0 rfl rfl rfl (yD (cs' := [(.slice none 0 0)]) (us := [(.slice none 0 0)]) (v := (.agg [(.slice none 0 0)].toArray)) sz38 rfl rfl rfl (yE (by rfl)) hX37.pins hb38 (dK rfl) rfl (fun w42 hb43 hp44 hg45 hz46 => ?_)))
 refine qD rfl (zC (v := (.bool true)) rfl) (qe (zA ?_))
 exact wp_ret (zQ (xN (cs := [(.slice none 0 0)]) (v := (.bool true)) rfl rfl rfl rfl rfl ag38 sz38 (fun j u hj => by rw [Nat.zero_add]; exact hb43.cell hj) (⟨_, _, _, _, rfl, (yX _ _), mN hac h40 h41, (hX37.write hp44 hg45 ((zS hlo8)))⟩)))
 refine zD (zE ?_)
 refine qD rfl (yY [(.slice none 0 0)] [(.slice none 0 0)] [] eV zr38 rfl pl38 rfl (fun _ h => by cases h) rfl) (q0 rfl rfl rfl (yD (cs' := [(.slice none 0 0)]) (us := [(.slice none 0 0)]) (v := (.agg [(.slice none 0 0)].toArray)) sz38 rfl rfl rfl (yE (by rfl)) hX37.pins hb38 (dK rfl) rfl (fun w49 hb50 hp51 hg52 hz53 => ?_)))
 refine qD rfl (zC (v := (.bool false)) rfl) (qe (zA ?_))
 exact wp_ret (zQ (xN (cs := [(.slice none 0 0)]) (v := (.bool false)) rfl rfl rfl rfl rfl ag38 sz38 (fun j u hj => by rw [Nat.zero_add]; exact hb50.cell hj) (⟨_, _, _, _, rfl, (yX _ _), mO hac h40 h41, (hX37.write hp51 hg52 ((zS hlo8)))⟩)))
 refine qs rfl rfl rfl rfl rfl rfl (qs rfl rfl rfl rfl rfl rfl (qs rfl rfl rfl rfl rfl rfl (qD rfl (yG (v := (.bool true)) rfl rfl) (qe (zA ?_)))))
 refine qC rfl rfl (zD (zE ?_))
 refine qD rfl (yY [(.slice none 0 0)] [(.slice none 0 0)] [] eV zr38 rfl pl38 rfl (fun _ h => by cases h) rfl) (q0 rfl rfl rfl (yD (cs' := [(.slice none 0 0)]) (us := [(.slice none 0 0)]) (v := (.agg [(.slice none 0 0)].toArray)) sz38 rfl rfl rfl (yE (by rfl)) hX37.pins hb38 (dK rfl) rfl (fun w56 hb57 hp58 hg59 hz60 => ?_)))
 refine qD rfl (zC (v := (.bool false)) rfl) (qe (zA ?_))
 exact wp_ret (zQ (xN (cs := [(.slice none 0 0)]) (v := (.bool false)) rfl rfl rfl rfl rfl ag38 sz38 (fun j u hj => by rw [Nat.zero_add]; exact hb57.cell hj) (⟨_, _, _, _, rfl, (yX _ _), rdp_no hac h40, (hX37.write hp58 hg59 ((zS hlo8)))⟩)))
 have hs0 := tS h33
 refine zD (zE ?_)
 refine qD rfl (zB (v := (.string s)) rfl) (qI rfl (zK (vs := [(.string s), (.string (⟨#[59]⟩ : ByteArray))]) Tryz.func54 nm54 rfl rfl rfl ?_))
 refine dJ (gO (s := s) (c := 59) hX31.pins hM (by omega)) ?_
 rintro _ w65 ⟨u63, G64, rfl, ho66, hx67⟩
 refine ⟨_, rfl, ?_⟩
 have ho73 := ho66.weaken hX31.size
 have hm74 := jG 59 s
 have hm75 := kA 59 s
 refine qD rfl (run_len eZ (v := u63) rfl ho73.read) (qD rfl (zB (v := (.int .i64 0)) rfl) (qe (zA ?_)))
 refine yI (yZ (fun (k : Nat) (en : Nat → Value) (W : World) => ∃ (env1 : Nat → Value) (j : Nat) (ov : Value) (os : List Cl) (GL1 : Pin), en = (upd (upd (upd (upd (upd (upd env1 0 (.string s)) 2 (.pointer (some ⟨b1, 0, none⟩))) 4 (.pointer (some ⟨b16, 0, none⟩))) 19 u63) 20 (.int .i64 ((partsB 59 s).length : Int))) 21 (.int .i64 (j : Int))) ∧ k = (partsB 59 s).length - j ∧ Ext noS G w GL1 W ∧ Pin.le G64 GL1 ∧ (j ≤ (partsB 59 s).length) ∧ (LcI s j os) ∧ (Own eClaim 72 GL1 W w.heap.size ov (os)) ∧ (Own eStr 9 GL1 W w.heap.size u63 (partsB 59 s)) ∧ (Bx GL1 W b1 [(.slice none 0 0)]) ∧ (Bx GL1 W b16 [ov]) ∧ (Apart ov.ownBlock u63.ownBlock) ∧ (Apart ov.ownBlock (some b1)) ∧ (Apart ov.ownBlock (some b16))) _ ⟨_, 0, (.slice none 0 0), [], G64, (zF (x := 21) (zF (x := 20) (zF (x := 19) (zF (x := 4) (zF (x := 2) (yF (x := 0) rfl) rfl) rfl) rfl) rfl) rfl), rfl, (hX31.tr hx67), Pin.le_refl _, Nat.zero_le _, lcI_zero, (Own.nil _ _ _ _ _), ho73, (hb32.ext hx67), (hb27.ext hx67), apart_none, apart_none, apart_none⟩ ?_)
 rintro k76 _ w77 ⟨env1, j, ov, os, GL1, rfl, hk78, hX79, hlek76, hj, hli, hw80, hw81, hw82, hw83, ha84, ha85, ha86⟩
 have hol := hli.len
 refine zD (zE ?_)
 refine qD rfl (xB rfl rfl) (qe (zA (zD ?_)))
 refine yJ (p := ((j : Int) : Int) < ((partsB 59 s).length : Int)) rfl rfl (fun h87 => ?_) (fun h87 => ?_)
 have hwz := qG 59 s _ (xE (d := ByteArray.empty) (show j < (partsB 59 s).length by omega))
 refine wp_skip (zA (zD ?_))
 refine yI (zD (zE ?_))
 refine qD rfl (zL eZ sz9 (v := u63) rfl rfl hw81.read (by omega) (by omega)) (qD rfl (xK (r := (partsB 59 s).getD j ByteArray.empty) rfl ag9 (z := (j : Int)) rfl hw81.read (Gadd.pins hX79.pins u63) (by omega) (by omega)) (qD rfl (zC (v := (.string ((partsB 59 s).getD j ByteArray.empty))) rfl) (qe (zA (zD (zE ?_))))))
 refine qD rfl (zB (v := (.string ((partsB 59 s).getD j ByteArray.empty))) rfl) (qI rfl (zK (vs := [(.string ((partsB 59 s).getD j ByteArray.empty))]) Tryz.func55 nm55 rfl rfl rfl ?_))
 refine dJ (nG (s := ((partsB 59 s).getD j ByteArray.empty)) hX79.pins (hT.keep hX79) (hE.le (dH hx67.le hlek76)) (hM.le (dH hx67.le hlek76)) (by omega)) ?_
 rintro _ w93 ⟨ru88, lu89, d90, ok91, G92, rfl, hr94, hr95, hrc96, hx97⟩
 refine ⟨_, rfl, ?_⟩
 have hX98 := hX79.tr hx97
 have ho99 := hw80.ext hx97
 have ho100 := hw81.ext hx97
 have hb101 := hw82.ext hx97
 have hb102 := hw83.ext hx97
 refine qD rfl (zB (v := (.tuple #[(.agg [(.int .i64 d90.a), (.int .i64 d90.b), ru88, lu89].toArray), (.bool ok91)])) rfl) (qD rfl (yB (v := (.agg [(.int .i64 d90.a), (.int .i64 d90.b), ru88, lu89].toArray)) rfl rfl) (qD rfl (yB (v := (.bool ok91)) rfl rfl) (qI rfl (yL [(.int .i64 0), (.int .i64 0), (.slice none 0 0), (.slice none 0 0)] zr72 rfl hX98.pins (fun b103 w104 hk105 hb106 hp107 hl108 => ?_)))))
 have hX109 := hX98.step hp107 hl108
 have ha114 : Apart (some b103) ov.ownBlock := zI (congrArg some hk105) ho99.lt
 have ha115 : Apart (some b103) u63.ownBlock := zI (congrArg some hk105) ho100.lt
 have ha116 : Apart (some b103) (some b1) := zG (congrArg some hk105) hb101.lt
 have ha117 : Apart (some b103) (some b16) := zG (congrArg some hk105) hb102.lt
 have hlo118 : w.heap.size ≤ b103 := by have := hX98.size; omega
 refine q0 rfl rfl rfl (yD (cs' := [(.int .i64 d90.a), (.int .i64 d90.b), ru88, lu89]) (us := [(.int .i64 d90.a), (.int .i64 d90.b), ru88, lu89]) (v := (.agg [(.int .i64 d90.a), (.int .i64 d90.b), ru88, lu89].toArray)) sz72 rfl rfl rfl (jB (by rfl) (by rfl) hr94.one hr95.one) hX109.pins hb106 (dK rfl) rfl (fun w119 hb120 hp121 hg122 hz123 => ?_))
 obtain ⟨G129, hle130, hX131, hbp132, hf133⟩ := hb120.shut (hX109.write hp121 hg122 ((zS hlo118))) hlo118
 have hb136 := ((hb101.below hl108).keptA hg122 ha116.symm).moreA hf133 ha116.symm
 have hb137 := ((hb102.below hl108).keptA hg122 ha117.symm).moreA hf133 ha117.symm
 refine qD rfl (zC (v := (.bool ok91)) rfl) (qe (zA (zD (zD (zE ?_)))))
 refine qD rfl (zB (v := (.bool ok91)) rfl) (qD rfl (xT rfl) (qe (zA ?_)))
 refine xV rfl rfl (fun h138 => ?_) (fun h138 => ?_)
 refine wp_skip (zA (zE ?_))
 refine qD rfl (zM (k := 0) rfl eV rfl nz36 rfl) (qD rfl (zP (u := ov) ag36 rfl (hb137.cell (o := 0) rfl)) (qD rfl (zU (cs := [(.int .i64 d90.a), (.int .i64 d90.b), ru88, lu89]) ag72 sz72 rfl (fun j u hj => hX131.pins _ _ _ (hbp132 _ _ (by simpa using hj)))) (qI rfl (xM (E := eClaim) (e := 72) [(.int .i64 d90.a), (.int .i64 d90.b), ru88, lu89] (⟨d90.a, d90.b, d90.r, d90.l⟩ : Cl) eU sz72 zr72 ⟨_, _, rfl, (hr94.mono hle130), (hr95.mono hle130)⟩ rfl (by decide) hX131.pins (fun u139 w140 ho141 hp142 hl143 hk144 => ?_)))))
 have hX145 := hX131.step hp142 hl143
 have ho146 := (((ho99.below hl108).keptA hg122 ha114.symm).moreA hle130 hf133 ha114.symm).below hl143
 have ho147 := (((ho100.below hl108).keptA hg122 ha115.symm).moreA hle130 hf133 ha115.symm).below hl143
 have hb148 := hb136.below hl143
 have hb149 := hb137.below hl143
 have ho154 := ho141.weaken hX131.size
 refine qI rfl (yH (E := eClaim) (v := ov) (u := u139) 64 eU ap72 (by decide) rfl rfl hX145.pins ho146 ho154.src (by first | omega | (rw [List.nil_append]; omega) | (rw [List.length_nil]; omega) | (rw [List.length_append]; omega) | (simp; done) | (simp; omega) | (simp only [List.length_cons, List.length_nil]; omega) | (simp only [List.length_append, List.length_cons, List.length_nil]; omega)) (by first | omega | (rw [List.nil_append]; omega) | (rw [List.length_nil]; omega) | (rw [List.length_append]; omega) | (simp; done) | (simp; omega) | (simp only [List.length_cons, List.length_nil]; omega) | (simp only [List.length_append, List.length_cons, List.length_nil]; omega)) (hX145.size) (fun u155 w156 ho157 hp158 hg159 hw160 => ?_))
 have hX161 := hX145.write hp158 hg159 ((yQ ho146))
 have ha169 : Apart (some b16) u155.ownBlock := zN ha86.symm hw160 hb149.lt
 have hm170 := la1 os (⟨d90.a, d90.b, d90.r, d90.l⟩ : Cl)
 refine qD rfl (zM (k := 0) rfl eV rfl nz36 rfl) (q0 rfl rfl rfl (yD (cs' := [u155]) (us := [u155]) (v := u155) sz36 rfl rfl (vL ho157.one) (yE ho157.one) hX161.pins (hb149.keptA hg159 ha86.symm) (dK rfl) rfl (fun w171 hb172 hp173 hg174 hz175 => ?_)))
 refine qe (yO (zA (zE ?_)))
 refine qD rfl (yT rfl rfl (by omega)) (qD rfl (zB (v := (.int .i64 ((j : Int) + 1))) rfl) (qe (yR (⟨_, ?_, _, rfl, _, j + 1, u155, os ++ ([(⟨d90.a, d90.b, d90.r, d90.l⟩ : Cl)]), G129, (zF (x := 21) (zF (x := 20) (zF (x := 19) (zF (x := 4) (zF (x := 2) (yF (x := 0) rfl) rfl) rfl) rfl) rfl) rfl), rfl, (hX161.write hp173 hg174 ((zS hlo25))), (dH (dH hlek76 hx97.le) hle130), (by omega), (tL hs0 (by omega) hli (by omega) hrc96), (ho157.keptA hg174 ha169.symm), ((ho147.keptA hg159 ha84.symm).keptA hg174 (zX ho66.lt hb27.lt)), ((hb148.keptA hg159 ha85.symm).keptA hg174 ha24.symm), hb172, (zJ ha84.symm hw160 ho147.lt).symm, (zN ha85.symm hw160 hb148.lt).symm, ha169.symm⟩))))
 omega
 refine zD (zE ?_)
 refine qD rfl (yY [(.slice none 0 0)] [(.slice none 0 0)] [] eV zr38 rfl pl38 rfl (fun _ h => by cases h) rfl) (q0 rfl rfl rfl (yD (cs' := [(.slice none 0 0)]) (us := [(.slice none 0 0)]) (v := (.agg [(.slice none 0 0)].toArray)) sz38 rfl rfl rfl (yE (by rfl)) hX131.pins hb136 (dK rfl) rfl (fun w180 hb181 hp182 hg183 hz184 => ?_)))
 refine qD rfl (zC (v := (.bool false)) rfl) (qe (zA ?_))
 exact wp_ret (zQ (xN (cs := [(.slice none 0 0)]) (v := (.bool false)) rfl rfl rfl rfl rfl ag38 sz38 (fun j u hj => by rw [Nat.zero_add]; exact hb181.cell hj) (⟨_, _, _, _, rfl, (yX _ _), nV hs0 (by omega) (h138 ▸ hrc96), (hX131.write hp182 hg183 ((zS hlo8)))⟩)))
 refine wp_exit (yK (yU (yV (zA (zD (zD (zE ?_)))))))
 have hac := nW hs0 hli (by omega)
 have hlb := hli.lb
 refine qD rfl (zU (cs := [ov]) ag38 sz38 rfl (fun j u hj => hw83.cell (by simpa using hj))) ?_
 obtain ⟨G189, hle192, hX191, hr190, hf193⟩ := hw80.sealed hX79
 refine qI rfl (zK (vs := [(.agg [ov].toArray)]) Tryz.func16 nm16 rfl rfl rfl ?_)
 refine dJ (vK hX191.pins (hT.keep hX191) hr190 hlb) ?_
 rintro _ w198 ⟨G197, rfl, hx199⟩
 refine ⟨_, rfl, ?_⟩
 have hX200 := hX191.tr hx199
 have hb202 := (hw82.moreO hf193 ha85.symm).ext hx199
 refine qD rfl (zB (v := (.tuple #[(.string (txF os)), (.bool (tdB os))])) rfl) (qD rfl (yB (v := (.string (txF os))) rfl rfl) (qD rfl (yB (v := (.bool (tdB os))) rfl rfl) (qD rfl (zC (v := (.string (txF os))) rfl) (qD rfl (zC (v := (.bool (tdB os))) rfl) (qe (zA (zD (zE ?_))))))))
 refine qD rfl (zB (v := (.bool (tdB os))) rfl) (qD rfl (xT rfl) (qD rfl (zB (v := (.bool (!(tdB os)))) rfl) (qbn (t := 47) rfl (fun h204 => ?_) (fun h204 => ?_))))
 refine qdg rfl rfl rfl rfl rfl rfl (zB (v := (.string (txF os))) rfl) (qdg rfl rfl rfl rfl rfl rfl (zB (v := (.string s)) rfl) (qdg rfl rfl rfl rfl rfl rfl (jO rfl rfl) (qD rfl (yN (v := (.bool (!((txF os).toList == s.toList)))) rfl rfl) (qe (zA ?_)))))
 refine xV rfl rfl (fun h205 => ?_) (fun h205 => ?_)
 refine wp_skip (zA (zD (zE ?_)))
 refine qD rfl (zU (cs := [ov]) ag38 sz38 rfl (fun j u hj => ((hw83.moreO hf193 ha86.symm).ext hx199).cell (by simpa using hj))) (q0 rfl rfl rfl (yD (cs' := [ov]) (us := [ov]) (v := (.agg [ov].toArray)) sz38 rfl rfl rfl (yE hr190.one) hX200.pins hb202 (dK rfl) rfl (fun w206 hb207 hp208 hg209 hz210 => ?_)))
 refine qD rfl (zC (v := (.bool true)) rfl) (qe (zA ?_))
 exact wp_ret (zQ (xN (cs := [ov]) (v := (.bool true)) rfl rfl rfl rfl rfl ag38 sz38 (fun j u hj => by rw [Nat.zero_add]; exact hb207.cell hj) (⟨_, _, _, _, rfl, (hr190.mono hx199.le), mN hac h204 h205, (hX200.write hp208 hg209 ((zS hlo8)))⟩)))
 refine zD (zE ?_)
 refine qD rfl (yY [(.slice none 0 0)] [(.slice none 0 0)] [] eV zr38 rfl pl38 rfl (fun _ h => by cases h) rfl) (q0 rfl rfl rfl (yD (cs' := [(.slice none 0 0)]) (us := [(.slice none 0 0)]) (v := (.agg [(.slice none 0 0)].toArray)) sz38 rfl rfl rfl (yE (by rfl)) hX200.pins hb202 (dK rfl) rfl (fun w214 hb215 hp216 hg217 hz218 => ?_)))
 refine qD rfl (zC (v := (.bool false)) rfl) (qe (zA ?_))
 exact wp_ret (zQ (xN (cs := [(.slice none 0 0)]) (v := (.bool false)) rfl rfl rfl rfl rfl ag38 sz38 (fun j u hj => by rw [Nat.zero_add]; exact hb215.cell hj) (⟨_, _, _, _, rfl, (yX _ _), mO hac h204 h205, (hX200.write hp216 hg217 ((zS hlo8)))⟩)))
 refine qs rfl rfl rfl rfl rfl rfl (qs rfl rfl rfl rfl rfl rfl (qs rfl rfl rfl rfl rfl rfl (qD rfl (yG (v := (.bool true)) rfl rfl) (qe (zA ?_)))))
 refine qC rfl rfl (zD (zE ?_))
 refine qD rfl (yY [(.slice none 0 0)] [(.slice none 0 0)] [] eV zr38 rfl pl38 rfl (fun _ h => by cases h) rfl) (q0 rfl rfl rfl (yD (cs' := [(.slice none 0 0)]) (us := [(.slice none 0 0)]) (v := (.agg [(.slice none 0 0)].toArray)) sz38 rfl rfl rfl (yE (by rfl)) hX200.pins hb202 (dK rfl) rfl (fun w222 hb223 hp224 hg225 hz226 => ?_)))
 refine qD rfl (zC (v := (.bool false)) rfl) (qe (zA ?_))
 exact wp_ret (zQ (xN (cs := [(.slice none 0 0)]) (v := (.bool false)) rfl rfl rfl rfl rfl ag38 sz38 (fun j u hj => by rw [Nat.zero_add]; exact hb223.cell hj) (⟨_, _, _, _, rfl, (yX _ _), rdp_no hac h204, (hX200.write hp224 hg225 ((zS hlo8)))⟩)))
end PTA
end Go.Proofs.YtajkbplgbikgdaaGreatDoor
