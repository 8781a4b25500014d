/- Texts of this claim in one file: DR2, DV1, WN1, WN3, AR1, AR2, AR3, AR4, AR5, AR6. -/
import Derived.Test.YtdongckiecjbaaaLf5
import Derived.Test.YtdongckiecjbaaaChecked
set_option maxRecDepth 20000
set_option maxHeartbeats 2000000
namespace Go.Proofs.Ytdongckiecjbaaa
namespace DR2
open Go.RowKit Go.GL Go.Proofs
open B1 C1 D1 E1 MK1 DR1









theorem l3MakeV_spec {w : World} {G : Pin} {base : Nat} {Q : List Nat} {vs us ws : List Value} {u v : Value} (hP : Pins G w) (hF : Fr 48 base G w Q vs) (hq : KQ Q) (hl : Q.length ≤ 60) (hb : base ≤ w.heap.size)
  (hu : RSl eVal G u us) (hv : RSl eVal G v ws) (hmu : ∀ x ∈ us, x ∈ vs) (hmv : ∀ x ∈ ws, x ∈ vs) (hlu : us.length ≤ 100) (hlv : ws.length ≤ 100) :
  Calls Try.prog 28 [u, v].toArray w fun e w' => ∃ (x : Value) (g : Nat) (G' : Pin), e = .returned (.agg [x].toArray) ∧ KQ (g :: Q) ∧ Fr 48 base G' w' (g :: Q) (x :: vs) ∧ Ext noS G w G' w' := by
 obtain ⟨gs, g1, g2, g3⟩ := (hF.mem hmu).games
 obtain ⟨hs, h1, h2, h3⟩ := (hF.mem hmv).games
 have ru := vals_read hu (by rw [List.length_map]; exact g1) g3
 have rv := vals_read hv (by rw [List.length_map]; exact h1) h3
 have wu := hq.allW (by omega) g2 (by omega)
 have wv := hq.allW (by omega) h2 (by omega)
 refine (l3Make_own hP ru rv wu wv).mono fun e w' ⟨x, G', e1, hr, hx, Gi, ho, hle⟩ => ?_
 have hk := hq.add (by omega) g2 h2 (by omega) (by omega)
 have hm := hk.is _ List.mem_cons_self
 exact ⟨x, _, G', e1, hk, (hF.ext hx).cons ⟨⟨Gi, ho.weaken hb, hle⟩, hr, hm.1.lo⟩, hx⟩

theorem l3Small_spec {w : World} {G : Pin} (hP : Pins G w) :
  Calls Try.prog 26 [].toArray w fun e w' => ∃ (u : Value) (vs : List Value) (Q : List Nat) (G' : Pin), e = .returned u ∧ Own eVal 26 G' w' w.heap.size u vs ∧ Fr 48 w.heap.size G' w' Q vs ∧ KQ Q ∧ vs.length = 9 ∧ Q.length = 9 ∧ Ext noS G w G' w' := by
 refine s_enter (n := 59) Try.func26 Try.ntmps26 rfl rfl ?_
 have hX0 : Ext noS G w G w := Ext.refl hP
 have hfr0 : Fr 48 w.heap.size G w [] [] := Fr.nil
 refine s_seq (c_reg ?_)
 refine qd rfl rfl rfl (r_assign (v := (.slice none 0 0)) rfl) (qe (s_then (s_seq (c_reg ?_))))
 refine q1 rfl rfl rfl (o_call (vs := [(.slice none 0 0), (.slice none 0 0)]) Try.func28 nm28 rfl rfl rfl ?_)
 refine Calls.mono (l3MakeV_spec hX0.pins hfr0 KQ.nil (by first | omega | (simp; done) | (simp; omega)) hX0.size (nil_reads _ _) (nil_reads _ _) (by simp) (by simp) (by first | omega | simp) (by first | omega | simp)) ?_
 rintro _ w4 ⟨x1, g2, G3, rfl, hkq5, hfr6, hx7⟩
 refine ⟨_, rfl, ?_⟩
 have hX8 := hX0.tr hx7
 have hone10 := hfr6.one List.mem_cons_self
 refine q1 rfl rfl rfl (o_alloc [(.slice none 0 0)] zr26 rfl hX8.pins (fun b11 w12 hk13 hb14 hp15 hl16 => ?_))
 have hX17 := hX8.step hp15 hl16
 have hfr18 := hfr6.below hl16
 have hlo19 : w.heap.size ≤ b11 := by have := hX8.size; omega
 refine q0 rfl rfl rfl (o_stp (cs' := [x1]) (us := [x1]) (v := (.agg [x1].toArray)) sz26 rfl rfl rfl (ones1 hone10) hX17.pins hb14 (Nat.le_of_ble_eq_true rfl) rfl (fun w20 hb21 hp22 hg23 hz24 => ?_))
 have hX25 := hX17.write hp22 hg23 ((lo_box hlo19))
 have hfr26 := hfr18.kept hg23 (fun k hk o u => by cases hk; exact hb14.free o u)
 obtain ⟨G27, hle28, hX29, hbp30, hf31⟩ := hb21.shut hX25 hlo19
 have hfr32 := hfr26.le hle28
 refine qe (s_then (s_seq (c_reg ?_)))
 refine qd rfl rfl rfl (r_ldpA (cs := [x1]) ag26 sz26 rfl (fun j u hj => hX29.pins _ _ _ (hbp30 _ _ (by simpa using hj)))) (q1 rfl rfl rfl (o_build1 (E := eVal) (e := 26) [x1] x1 Try.underlying65 sz26 zr26 ⟨rfl, hone10⟩ rfl (by decide) hX29.pins (fun u33 w34 ho35 hp36 hl37 hk38 => ?_)))
 have hX39 := hX29.step hp36 hl37
 have hfr40 := hfr32.below hl37
 have ho41 : Own eVal 26 G27 w34 w.heap.size u33 ([x1]) := ho35.weaken hX29.size
 obtain ⟨G42, hle45, hX44, hr43, hf46⟩ := ho41.sealed hX39
 have hfr47 := hfr40.le hle45
 refine q1 rfl rfl rfl (o_call (vs := [u33, (.slice none 0 0)]) Try.func28 nm28 rfl rfl rfl ?_)
 refine Calls.mono (l3MakeV_spec hX44.pins hfr47 hkq5 (by first | omega | (simp; done) | (simp; omega)) hX44.size hr43 (nil_reads _ _) (by simp) (by simp) (by first | omega | simp) (by first | omega | simp)) ?_
 rintro _ w51 ⟨x48, g49, G50, rfl, hkq52, hfr53, hx54⟩
 refine ⟨_, rfl, ?_⟩
 have hX55 := hX44.tr hx54
 have hone57 := hfr53.one List.mem_cons_self
 refine q1 rfl rfl rfl (o_alloc [(.slice none 0 0)] zr26 rfl hX55.pins (fun b58 w59 hk60 hb61 hp62 hl63 => ?_))
 have hX64 := hX55.step hp62 hl63
 have hfr65 := hfr53.below hl63
 have hlo66 : w.heap.size ≤ b58 := by have := hX55.size; omega
 refine q0 rfl rfl rfl (o_stp (cs' := [x48]) (us := [x48]) (v := (.agg [x48].toArray)) sz26 rfl rfl rfl (ones1 hone57) hX64.pins hb61 (Nat.le_of_ble_eq_true rfl) rfl (fun w67 hb68 hp69 hg70 hz71 => ?_))
 have hX72 := hX64.write hp69 hg70 ((lo_box hlo66))
 have hfr73 := hfr65.kept hg70 (fun k hk o u => by cases hk; exact hb61.free o u)
 obtain ⟨G74, hle75, hX76, hbp77, hf78⟩ := hb68.shut hX72 hlo66
 have hfr79 := hfr73.le hle75
 refine qe (s_then (s_seq (c_reg ?_)))
 refine qd rfl rfl rfl (r_ldpA (cs := [x1]) ag26 sz26 rfl (fun j u hj => (Pins.of_le hX76.pins (Pin.le_trans (Pin.le_trans hle45 hx54.le) hle75)) _ _ _ (hbp30 _ _ (by simpa using hj)))) (q1 rfl rfl rfl (o_build1 (E := eVal) (e := 26) [x1] x1 Try.underlying65 sz26 zr26 ⟨rfl, hone10⟩ rfl (by decide) hX76.pins (fun u80 w81 ho82 hp83 hl84 hk85 => ?_)))
 have hX86 := hX76.step hp83 hl84
 have hfr87 := hfr79.below hl84
 have ho88 : Own eVal 26 G74 w81 w.heap.size u80 ([x1]) := ho82.weaken hX76.size
 obtain ⟨G89, hle92, hX91, hr90, hf93⟩ := ho88.sealed hX86
 have hfr94 := hfr87.le hle92
 refine q1 rfl rfl rfl (o_call (vs := [(.slice none 0 0), u80]) Try.func28 nm28 rfl rfl rfl ?_)
 refine Calls.mono (l3MakeV_spec hX91.pins hfr94 hkq52 (by first | omega | (simp; done) | (simp; omega)) hX91.size (nil_reads _ _) hr90 (by simp) (by simp) (by first | omega | simp) (by first | omega | simp)) ?_
 rintro _ w98 ⟨x95, g96, G97, rfl, hkq99, hfr100, hx101⟩
 refine ⟨_, rfl, ?_⟩
 have hX102 := hX91.tr hx101
 have hone104 := hfr100.one List.mem_cons_self
 refine q1 rfl rfl rfl (o_alloc [(.slice none 0 0)] zr26 rfl hX102.pins (fun b105 w106 hk107 hb108 hp109 hl110 => ?_))
 have hX111 := hX102.step hp109 hl110
 have hfr112 := hfr100.below hl110
 have hlo113 : w.heap.size ≤ b105 := by have := hX102.size; omega
 refine q0 rfl rfl rfl (o_stp (cs' := [x95]) (us := [x95]) (v := (.agg [x95].toArray)) sz26 rfl rfl rfl (ones1 hone104) hX111.pins hb108 (Nat.le_of_ble_eq_true rfl) rfl (fun w114 hb115 hp116 hg117 hz118 => ?_))
 have hX119 := hX111.write hp116 hg117 ((lo_box hlo113))
 have hfr120 := hfr112.kept hg117 (fun k hk o u => by cases hk; exact hb108.free o u)
 obtain ⟨G121, hle122, hX123, hbp124, hf125⟩ := hb115.shut hX119 hlo113
 have hfr126 := hfr120.le hle122
 refine qe (s_then (s_seq (c_reg ?_)))
 refine qd rfl rfl rfl (r_ldpA (cs := [x1]) ag26 sz26 rfl (fun j u hj => (Pins.of_le hX123.pins (Pin.le_trans (Pin.le_trans (Pin.le_trans (Pin.le_trans (Pin.le_trans hle45 hx54.le) hle75) hle92) hx101.le) hle122)) _ _ _ (hbp30 _ _ (by simpa using hj)))) (q1 rfl rfl rfl (o_build1 (E := eVal) (e := 26) [x1] x1 Try.underlying65 sz26 zr26 ⟨rfl, hone10⟩ rfl (by decide) hX123.pins (fun u127 w128 ho129 hp130 hl131 hk132 => ?_)))
 have hX133 := hX123.step hp130 hl131
 have hfr134 := hfr126.below hl131
 have ho135 : Own eVal 26 G121 w128 w.heap.size u127 ([x1]) := ho129.weaken hX123.size
 refine qd rfl rfl rfl (r_ldpA (cs := [x1]) ag26 sz26 rfl (fun j u hj => (Pins.of_le hX133.pins (Pin.le_trans (Pin.le_trans (Pin.le_trans (Pin.le_trans (Pin.le_trans hle45 hx54.le) hle75) hle92) hx101.le) hle122)) _ _ _ (hbp30 _ _ (by simpa using hj)))) (q1 rfl rfl rfl (o_build1 (E := eVal) (e := 26) [x1] x1 Try.underlying65 sz26 zr26 ⟨rfl, hone10⟩ rfl (by decide) hX133.pins (fun u136 w137 ho138 hp139 hl140 hk141 => ?_)))
 have hX142 := hX133.step hp139 hl140
 have ho143 := ho135.below hl140
 have hfr144 := hfr134.below hl140
 have ha145 : Apart u136.ownBlock u127.ownBlock := new_ne_own hk141 ho135.lt
 have ho146 : Own eVal 26 G121 w137 w.heap.size u136 ([x1]) := ho138.weaken hX133.size
 obtain ⟨G147, hle150, hX149, hr148, hf151⟩ := ho143.sealed hX142
 have ho152 := ho146.moreO hle150 hf151 ha145
 have hfr153 := hfr144.le hle150
 obtain ⟨G154, hle157, hX156, hr155, hf158⟩ := ho152.sealed hX149
 have hfr159 := hfr153.le hle157
 refine q1 rfl rfl rfl (o_call (vs := [u127, u136]) Try.func28 nm28 rfl rfl rfl ?_)
 refine Calls.mono (l3MakeV_spec hX156.pins hfr159 hkq99 (by first | omega | (simp; done) | (simp; omega)) hX156.size (hr148.mono hle157) hr155 (by simp) (by simp) (by first | omega | simp) (by first | omega | simp)) ?_
 rintro _ w163 ⟨x160, g161, G162, rfl, hkq164, hfr165, hx166⟩
 refine ⟨_, rfl, ?_⟩
 have hX167 := hX156.tr hx166
 have hone169 := hfr165.one List.mem_cons_self
 refine q1 rfl rfl rfl (o_alloc [(.slice none 0 0)] zr26 rfl hX167.pins (fun b170 w171 hk172 hb173 hp174 hl175 => ?_))
 have hX176 := hX167.step hp174 hl175
 have hfr177 := hfr165.below hl175
 have hlo178 : w.heap.size ≤ b170 := by have := hX167.size; omega
 refine q0 rfl rfl rfl (o_stp (cs' := [x160]) (us := [x160]) (v := (.agg [x160].toArray)) sz26 rfl rfl rfl (ones1 hone169) hX176.pins hb173 (Nat.le_of_ble_eq_true rfl) rfl (fun w179 hb180 hp181 hg182 hz183 => ?_))
 have hX184 := hX176.write hp181 hg182 ((lo_box hlo178))
 have hfr185 := hfr177.kept hg182 (fun k hk o u => by cases hk; exact hb173.free o u)
 obtain ⟨G186, hle187, hX188, hbp189, hf190⟩ := hb180.shut hX184 hlo178
 have hfr191 := hfr185.le hle187
 refine qe (s_then (s_seq (c_reg ?_)))
 refine qd rfl rfl rfl (r_ldpA (cs := [x1]) ag26 sz26 rfl (fun j u hj => (Pins.of_le hX188.pins (Pin.le_trans (Pin.le_trans (Pin.le_trans (Pin.le_trans (Pin.le_trans (Pin.le_trans (Pin.le_trans (Pin.le_trans (Pin.le_trans hle45 hx54.le) hle75) hle92) hx101.le) hle122) hle150) hle157) hx166.le) hle187)) _ _ _ (hbp30 _ _ (by simpa using hj)))) (q1 rfl rfl rfl (o_build1 (E := eVal) (e := 26) [x1] x1 Try.underlying65 sz26 zr26 ⟨rfl, hone10⟩ rfl (by decide) hX188.pins (fun u192 w193 ho194 hp195 hl196 hk197 => ?_)))
 have hX198 := hX188.step hp195 hl196
 have hfr199 := hfr191.below hl196
 have ho200 : Own eVal 26 G186 w193 w.heap.size u192 ([x1]) := ho194.weaken hX188.size
 refine qd rfl rfl rfl (r_ldpA (cs := [x160]) ag26 sz26 rfl (fun j u hj => hX198.pins _ _ _ (hbp189 _ _ (by simpa using hj)))) (q1 rfl rfl rfl (o_build1 (E := eVal) (e := 26) [x160] x160 Try.underlying65 sz26 zr26 ⟨rfl, hone169⟩ rfl (by decide) hX198.pins (fun u201 w202 ho203 hp204 hl205 hk206 => ?_)))
 have hX207 := hX198.step hp204 hl205
 have ho208 := ho200.below hl205
 have hfr209 := hfr199.below hl205
 have ha210 : Apart u201.ownBlock u192.ownBlock := new_ne_own hk206 ho200.lt
 have ho211 : Own eVal 26 G186 w202 w.heap.size u201 ([x160]) := ho203.weaken hX198.size
 obtain ⟨G212, hle215, hX214, hr213, hf216⟩ := ho208.sealed hX207
 have ho217 := ho211.moreO hle215 hf216 ha210
 have hfr218 := hfr209.le hle215
 obtain ⟨G219, hle222, hX221, hr220, hf223⟩ := ho217.sealed hX214
 have hfr224 := hfr218.le hle222
 refine q1 rfl rfl rfl (o_call (vs := [u192, u201]) Try.func28 nm28 rfl rfl rfl ?_)
 refine Calls.mono (l3MakeV_spec hX221.pins hfr224 hkq164 (by first | omega | (simp; done) | (simp; omega)) hX221.size (hr213.mono hle222) hr220 (by simp) (by simp) (by first | omega | simp) (by first | omega | simp)) ?_
 rintro _ w228 ⟨x225, g226, G227, rfl, hkq229, hfr230, hx231⟩
 refine ⟨_, rfl, ?_⟩
 have hX232 := hX221.tr hx231
 have hone234 := hfr230.one List.mem_cons_self
 refine q1 rfl rfl rfl (o_alloc [(.slice none 0 0)] zr26 rfl hX232.pins (fun b235 w236 hk237 hb238 hp239 hl240 => ?_))
 have hX241 := hX232.step hp239 hl240
 have hfr242 := hfr230.below hl240
 have hlo243 : w.heap.size ≤ b235 := by have := hX232.size; omega
 refine q0 rfl rfl rfl (o_stp (cs' := [x225]) (us := [x225]) (v := (.agg [x225].toArray)) sz26 rfl rfl rfl (ones1 hone234) hX241.pins hb238 (Nat.le_of_ble_eq_true rfl) rfl (fun w244 hb245 hp246 hg247 hz248 => ?_))
 have hX249 := hX241.write hp246 hg247 ((lo_box hlo243))
 have hfr250 := hfr242.kept hg247 (fun k hk o u => by cases hk; exact hb238.free o u)
 obtain ⟨G251, hle252, hX253, hbp254, hf255⟩ := hb245.shut hX249 hlo243
 have hfr256 := hfr250.le hle252
 refine qe (s_then (s_seq (c_reg ?_)))
 refine qd rfl rfl rfl (r_ldpA (cs := [x1]) ag26 sz26 rfl (fun j u hj => (Pins.of_le hX253.pins (Pin.le_trans (Pin.le_trans (Pin.le_trans (Pin.le_trans (Pin.le_trans (Pin.le_trans (Pin.le_trans (Pin.le_trans (Pin.le_trans (Pin.le_trans (Pin.le_trans (Pin.le_trans (Pin.le_trans hle45 hx54.le) hle75) hle92) hx101.le) hle122) hle150) hle157) hx166.le) hle187) hle215) hle222) hx231.le) hle252)) _ _ _ (hbp30 _ _ (by simpa using hj)))) (q1 rfl rfl rfl (o_build1 (E := eVal) (e := 26) [x1] x1 Try.underlying65 sz26 zr26 ⟨rfl, hone10⟩ rfl (by decide) hX253.pins (fun u257 w258 ho259 hp260 hl261 hk262 => ?_)))
 have hX263 := hX253.step hp260 hl261
 have hfr264 := hfr256.below hl261
 have ho265 : Own eVal 26 G251 w258 w.heap.size u257 ([x1]) := ho259.weaken hX253.size
 refine qd rfl rfl rfl (r_ldpA (cs := [x48]) ag26 sz26 rfl (fun j u hj => (Pins.of_le hX263.pins (Pin.le_trans (Pin.le_trans (Pin.le_trans (Pin.le_trans (Pin.le_trans (Pin.le_trans (Pin.le_trans (Pin.le_trans (Pin.le_trans (Pin.le_trans hle92 hx101.le) hle122) hle150) hle157) hx166.le) hle187) hle215) hle222) hx231.le) hle252)) _ _ _ (hbp77 _ _ (by simpa using hj)))) (q1 rfl rfl rfl (o_build1 (E := eVal) (e := 26) [x48] x48 Try.underlying65 sz26 zr26 ⟨rfl, hone57⟩ rfl (by decide) hX263.pins (fun u266 w267 ho268 hp269 hl270 hk271 => ?_)))
 have hX272 := hX263.step hp269 hl270
 have ho273 := ho265.below hl270
 have hfr274 := hfr264.below hl270
 have ha275 : Apart u266.ownBlock u257.ownBlock := new_ne_own hk271 ho265.lt
 have ho276 : Own eVal 26 G251 w267 w.heap.size u266 ([x48]) := ho268.weaken hX263.size
 obtain ⟨G277, hle280, hX279, hr278, hf281⟩ := ho273.sealed hX272
 have ho282 := ho276.moreO hle280 hf281 ha275
 have hfr283 := hfr274.le hle280
 obtain ⟨G284, hle287, hX286, hr285, hf288⟩ := ho282.sealed hX279
 have hfr289 := hfr283.le hle287
 refine q1 rfl rfl rfl (o_call (vs := [u257, u266]) Try.func28 nm28 rfl rfl rfl ?_)
 refine Calls.mono (l3MakeV_spec hX286.pins hfr289 hkq229 (by first | omega | (simp; done) | (simp; omega)) hX286.size (hr278.mono hle287) hr285 (by simp) (by simp) (by first | omega | simp) (by first | omega | simp)) ?_
 rintro _ w293 ⟨x290, g291, G292, rfl, hkq294, hfr295, hx296⟩
 refine ⟨_, rfl, ?_⟩
 have hX297 := hX286.tr hx296
 have hone299 := hfr295.one List.mem_cons_self
 refine q1 rfl rfl rfl (o_alloc [(.slice none 0 0)] zr26 rfl hX297.pins (fun b300 w301 hk302 hb303 hp304 hl305 => ?_))
 have hX306 := hX297.step hp304 hl305
 have hfr307 := hfr295.below hl305
 have hlo308 : w.heap.size ≤ b300 := by have := hX297.size; omega
 refine q0 rfl rfl rfl (o_stp (cs' := [x290]) (us := [x290]) (v := (.agg [x290].toArray)) sz26 rfl rfl rfl (ones1 hone299) hX306.pins hb303 (Nat.le_of_ble_eq_true rfl) rfl (fun w309 hb310 hp311 hg312 hz313 => ?_))
 have hX314 := hX306.write hp311 hg312 ((lo_box hlo308))
 have hfr315 := hfr307.kept hg312 (fun k hk o u => by cases hk; exact hb303.free o u)
 obtain ⟨G316, hle317, hX318, hbp319, hf320⟩ := hb310.shut hX314 hlo308
 have hfr321 := hfr315.le hle317
 refine qe (s_then (s_seq (c_reg ?_)))
 refine qd rfl rfl rfl (r_ldpA (cs := [x48]) ag26 sz26 rfl (fun j u hj => (Pins.of_le hX318.pins (Pin.le_trans (Pin.le_trans (Pin.le_trans (Pin.le_trans (Pin.le_trans (Pin.le_trans (Pin.le_trans (Pin.le_trans (Pin.le_trans (Pin.le_trans (Pin.le_trans (Pin.le_trans (Pin.le_trans (Pin.le_trans hle92 hx101.le) hle122) hle150) hle157) hx166.le) hle187) hle215) hle222) hx231.le) hle252) hle280) hle287) hx296.le) hle317)) _ _ _ (hbp77 _ _ (by simpa using hj)))) (q1 rfl rfl rfl (o_build1 (E := eVal) (e := 26) [x48] x48 Try.underlying65 sz26 zr26 ⟨rfl, hone57⟩ rfl (by decide) hX318.pins (fun u322 w323 ho324 hp325 hl326 hk327 => ?_)))
 have hX328 := hX318.step hp325 hl326
 have hfr329 := hfr321.below hl326
 have ho330 : Own eVal 26 G316 w323 w.heap.size u322 ([x48]) := ho324.weaken hX318.size
 refine qd rfl rfl rfl (r_ldpA (cs := [x95]) ag26 sz26 rfl (fun j u hj => (Pins.of_le hX328.pins (Pin.le_trans (Pin.le_trans (Pin.le_trans (Pin.le_trans (Pin.le_trans (Pin.le_trans (Pin.le_trans (Pin.le_trans (Pin.le_trans (Pin.le_trans (Pin.le_trans hle150 hle157) hx166.le) hle187) hle215) hle222) hx231.le) hle252) hle280) hle287) hx296.le) hle317)) _ _ _ (hbp124 _ _ (by simpa using hj)))) (q1 rfl rfl rfl (o_build1 (E := eVal) (e := 26) [x95] x95 Try.underlying65 sz26 zr26 ⟨rfl, hone104⟩ rfl (by decide) hX328.pins (fun u331 w332 ho333 hp334 hl335 hk336 => ?_)))
 have hX337 := hX328.step hp334 hl335
 have ho338 := ho330.below hl335
 have hfr339 := hfr329.below hl335
 have ha340 : Apart u331.ownBlock u322.ownBlock := new_ne_own hk336 ho330.lt
 have ho341 : Own eVal 26 G316 w332 w.heap.size u331 ([x95]) := ho333.weaken hX328.size
 obtain ⟨G342, hle345, hX344, hr343, hf346⟩ := ho338.sealed hX337
 have ho347 := ho341.moreO hle345 hf346 ha340
 have hfr348 := hfr339.le hle345
 obtain ⟨G349, hle352, hX351, hr350, hf353⟩ := ho347.sealed hX344
 have hfr354 := hfr348.le hle352
 refine q1 rfl rfl rfl (o_call (vs := [u322, u331]) Try.func28 nm28 rfl rfl rfl ?_)
 refine Calls.mono (l3MakeV_spec hX351.pins hfr354 hkq294 (by first | omega | (simp; done) | (simp; omega)) hX351.size (hr343.mono hle352) hr350 (by simp) (by simp) (by first | omega | simp) (by first | omega | simp)) ?_
 rintro _ w358 ⟨x355, g356, G357, rfl, hkq359, hfr360, hx361⟩
 refine ⟨_, rfl, ?_⟩
 have hX362 := hX351.tr hx361
 have hone364 := hfr360.one List.mem_cons_self
 refine q1 rfl rfl rfl (o_alloc [(.slice none 0 0)] zr26 rfl hX362.pins (fun b365 w366 hk367 hb368 hp369 hl370 => ?_))
 have hX371 := hX362.step hp369 hl370
 have hfr372 := hfr360.below hl370
 have hlo373 : w.heap.size ≤ b365 := by have := hX362.size; omega
 refine q0 rfl rfl rfl (o_stp (cs' := [x355]) (us := [x355]) (v := (.agg [x355].toArray)) sz26 rfl rfl rfl (ones1 hone364) hX371.pins hb368 (Nat.le_of_ble_eq_true rfl) rfl (fun w374 hb375 hp376 hg377 hz378 => ?_))
 have hX379 := hX371.write hp376 hg377 ((lo_box hlo373))
 have hfr380 := hfr372.kept hg377 (fun k hk o u => by cases hk; exact hb368.free o u)
 obtain ⟨G381, hle382, hX383, hbp384, hf385⟩ := hb375.shut hX379 hlo373
 have hfr386 := hfr380.le hle382
 refine qe (s_then (s_seq (c_reg ?_)))
 refine qd rfl rfl rfl (r_ldpA (cs := [x1]) ag26 sz26 rfl (fun j u hj => (Pins.of_le hX383.pins (Pin.le_trans (Pin.le_trans (Pin.le_trans (Pin.le_trans (Pin.le_trans (Pin.le_trans (Pin.le_trans (Pin.le_trans (Pin.le_trans (Pin.le_trans (Pin.le_trans (Pin.le_trans (Pin.le_trans (Pin.le_trans (Pin.le_trans (Pin.le_trans (Pin.le_trans (Pin.le_trans (Pin.le_trans (Pin.le_trans (Pin.le_trans hle45 hx54.le) hle75) hle92) hx101.le) hle122) hle150) hle157) hx166.le) hle187) hle215) hle222) hx231.le) hle252) hle280) hle287) hx296.le) hle317) hle345) hle352) hx361.le) hle382)) _ _ _ (hbp30 _ _ (by simpa using hj)))) (qd rfl rfl rfl (r_ldpA (cs := [x160]) ag26 sz26 rfl (fun j u hj => (Pins.of_le hX383.pins (Pin.le_trans (Pin.le_trans (Pin.le_trans (Pin.le_trans (Pin.le_trans (Pin.le_trans (Pin.le_trans (Pin.le_trans (Pin.le_trans (Pin.le_trans (Pin.le_trans hle215 hle222) hx231.le) hle252) hle280) hle287) hx296.le) hle317) hle345) hle352) hx361.le) hle382)) _ _ _ (hbp189 _ _ (by simpa using hj)))) (q1 rfl rfl rfl (o_buildA (E := eVal) (e := 26) [x1, x160] [x1, x160] Try.underlying65 sz26 zr26 (by exact reps2 (⟨rfl, hone10⟩) (⟨rfl, hone169⟩)) (ones2 hone10 hone169) rfl rfl rfl rfl (by decide) hX383.pins (fun u387 w388 ho389 hp390 hl391 hk392 => ?_))))
 have hX393 := hX383.step hp390 hl391
 have hfr394 := hfr386.below hl391
 have ho395 : Own eVal 26 G381 w388 w.heap.size u387 ([x1, x160]) := ho389.weaken hX383.size
 refine qd rfl rfl rfl (r_ldpA (cs := [x1]) ag26 sz26 rfl (fun j u hj => (Pins.of_le hX393.pins (Pin.le_trans (Pin.le_trans (Pin.le_trans (Pin.le_trans (Pin.le_trans (Pin.le_trans (Pin.le_trans (Pin.le_trans (Pin.le_trans (Pin.le_trans (Pin.le_trans (Pin.le_trans (Pin.le_trans (Pin.le_trans (Pin.le_trans (Pin.le_trans (Pin.le_trans (Pin.le_trans (Pin.le_trans (Pin.le_trans (Pin.le_trans hle45 hx54.le) hle75) hle92) hx101.le) hle122) hle150) hle157) hx166.le) hle187) hle215) hle222) hx231.le) hle252) hle280) hle287) hx296.le) hle317) hle345) hle352) hx361.le) hle382)) _ _ _ (hbp30 _ _ (by simpa using hj)))) (qd rfl rfl rfl (r_ldpA (cs := [x160]) ag26 sz26 rfl (fun j u hj => (Pins.of_le hX393.pins (Pin.le_trans (Pin.le_trans (Pin.le_trans (Pin.le_trans (Pin.le_trans (Pin.le_trans (Pin.le_trans (Pin.le_trans (Pin.le_trans (Pin.le_trans (Pin.le_trans hle215 hle222) hx231.le) hle252) hle280) hle287) hx296.le) hle317) hle345) hle352) hx361.le) hle382)) _ _ _ (hbp189 _ _ (by simpa using hj)))) (q1 rfl rfl rfl (o_buildA (E := eVal) (e := 26) [x1, x160] [x1, x160] Try.underlying65 sz26 zr26 (by exact reps2 (⟨rfl, hone10⟩) (⟨rfl, hone169⟩)) (ones2 hone10 hone169) rfl rfl rfl rfl (by decide) hX393.pins (fun u396 w397 ho398 hp399 hl400 hk401 => ?_))))
 have hX402 := hX393.step hp399 hl400
 have ho403 := ho395.below hl400
 have hfr404 := hfr394.below hl400
 have ha405 : Apart u396.ownBlock u387.ownBlock := new_ne_own hk401 ho395.lt
 have ho406 : Own eVal 26 G381 w397 w.heap.size u396 ([x1, x160]) := ho398.weaken hX393.size
 obtain ⟨G407, hle410, hX409, hr408, hf411⟩ := ho403.sealed hX402
 have ho412 := ho406.moreO hle410 hf411 ha405
 have hfr413 := hfr404.le hle410
 obtain ⟨G414, hle417, hX416, hr415, hf418⟩ := ho412.sealed hX409
 have hfr419 := hfr413.le hle417
 refine q1 rfl rfl rfl (o_call (vs := [u387, u396]) Try.func28 nm28 rfl rfl rfl ?_)
 refine Calls.mono (l3MakeV_spec hX416.pins hfr419 hkq359 (by first | omega | (simp; done) | (simp; omega)) hX416.size (hr408.mono hle417) hr415 (by simp) (by simp) (by first | omega | simp) (by first | omega | simp)) ?_
 rintro _ w423 ⟨x420, g421, G422, rfl, hkq424, hfr425, hx426⟩
 refine ⟨_, rfl, ?_⟩
 have hX427 := hX416.tr hx426
 have hone429 := hfr425.one List.mem_cons_self
 refine q1 rfl rfl rfl (o_alloc [(.slice none 0 0)] zr26 rfl hX427.pins (fun b430 w431 hk432 hb433 hp434 hl435 => ?_))
 have hX436 := hX427.step hp434 hl435
 have hfr437 := hfr425.below hl435
 have hlo438 : w.heap.size ≤ b430 := by have := hX427.size; omega
 refine q0 rfl rfl rfl (o_stp (cs' := [x420]) (us := [x420]) (v := (.agg [x420].toArray)) sz26 rfl rfl rfl (ones1 hone429) hX436.pins hb433 (Nat.le_of_ble_eq_true rfl) rfl (fun w439 hb440 hp441 hg442 hz443 => ?_))
 have hX444 := hX436.write hp441 hg442 ((lo_box hlo438))
 have hfr445 := hfr437.kept hg442 (fun k hk o u => by cases hk; exact hb433.free o u)
 obtain ⟨G446, hle447, hX448, hbp449, hf450⟩ := hb440.shut hX444 hlo438
 have hfr451 := hfr445.le hle447
 refine qe (s_then (s_seq (c_reg ?_)))
 refine qd rfl rfl rfl (r_ldpA (cs := [x160]) ag26 sz26 rfl (fun j u hj => (Pins.of_le hX448.pins (Pin.le_trans (Pin.le_trans (Pin.le_trans (Pin.le_trans (Pin.le_trans (Pin.le_trans (Pin.le_trans (Pin.le_trans (Pin.le_trans (Pin.le_trans (Pin.le_trans (Pin.le_trans (Pin.le_trans (Pin.le_trans (Pin.le_trans hle215 hle222) hx231.le) hle252) hle280) hle287) hx296.le) hle317) hle345) hle352) hx361.le) hle382) hle410) hle417) hx426.le) hle447)) _ _ _ (hbp189 _ _ (by simpa using hj)))) (q1 rfl rfl rfl (o_build1 (E := eVal) (e := 26) [x160] x160 Try.underlying65 sz26 zr26 ⟨rfl, hone169⟩ rfl (by decide) hX448.pins (fun u452 w453 ho454 hp455 hl456 hk457 => ?_)))
 have hX458 := hX448.step hp455 hl456
 have hfr459 := hfr451.below hl456
 have ho460 : Own eVal 26 G446 w453 w.heap.size u452 ([x160]) := ho454.weaken hX448.size
 refine qd rfl rfl rfl (r_ldpA (cs := [x1]) ag26 sz26 rfl (fun j u hj => (Pins.of_le hX458.pins (Pin.le_trans (Pin.le_trans (Pin.le_trans (Pin.le_trans (Pin.le_trans (Pin.le_trans (Pin.le_trans (Pin.le_trans (Pin.le_trans (Pin.le_trans (Pin.le_trans (Pin.le_trans (Pin.le_trans (Pin.le_trans (Pin.le_trans (Pin.le_trans (Pin.le_trans (Pin.le_trans (Pin.le_trans (Pin.le_trans (Pin.le_trans (Pin.le_trans (Pin.le_trans (Pin.le_trans (Pin.le_trans hle45 hx54.le) hle75) hle92) hx101.le) hle122) hle150) hle157) hx166.le) hle187) hle215) hle222) hx231.le) hle252) hle280) hle287) hx296.le) hle317) hle345) hle352) hx361.le) hle382) hle410) hle417) hx426.le) hle447)) _ _ _ (hbp30 _ _ (by simpa using hj)))) (q1 rfl rfl rfl (o_build1 (E := eVal) (e := 26) [x1] x1 Try.underlying65 sz26 zr26 ⟨rfl, hone10⟩ rfl (by decide) hX458.pins (fun u461 w462 ho463 hp464 hl465 hk466 => ?_)))
 have hX467 := hX458.step hp464 hl465
 have ho468 := ho460.below hl465
 have hfr469 := hfr459.below hl465
 have ha470 : Apart u461.ownBlock u452.ownBlock := new_ne_own hk466 ho460.lt
 have ho471 : Own eVal 26 G446 w462 w.heap.size u461 ([x1]) := ho463.weaken hX458.size
 obtain ⟨G472, hle475, hX474, hr473, hf476⟩ := ho468.sealed hX467
 have ho477 := ho471.moreO hle475 hf476 ha470
 have hfr478 := hfr469.le hle475
 obtain ⟨G479, hle482, hX481, hr480, hf483⟩ := ho477.sealed hX474
 have hfr484 := hfr478.le hle482
 refine q1 rfl rfl rfl (o_call (vs := [u452, u461]) Try.func28 nm28 rfl rfl rfl ?_)
 refine Calls.mono (l3MakeV_spec hX481.pins hfr484 hkq424 (by first | omega | (simp; done) | (simp; omega)) hX481.size (hr473.mono hle482) hr480 (by simp) (by simp) (by first | omega | simp) (by first | omega | simp)) ?_
 rintro _ w488 ⟨x485, g486, G487, rfl, hkq489, hfr490, hx491⟩
 refine ⟨_, rfl, ?_⟩
 have hX492 := hX481.tr hx491
 have hone494 := hfr490.one List.mem_cons_self
 refine q1 rfl rfl rfl (o_alloc [(.slice none 0 0)] zr26 rfl hX492.pins (fun b495 w496 hk497 hb498 hp499 hl500 => ?_))
 have hX501 := hX492.step hp499 hl500
 have hfr502 := hfr490.below hl500
 have hlo503 : w.heap.size ≤ b495 := by have := hX492.size; omega
 refine q0 rfl rfl rfl (o_stp (cs' := [x485]) (us := [x485]) (v := (.agg [x485].toArray)) sz26 rfl rfl rfl (ones1 hone494) hX501.pins hb498 (Nat.le_of_ble_eq_true rfl) rfl (fun w504 hb505 hp506 hg507 hz508 => ?_))
 have hX509 := hX501.write hp506 hg507 ((lo_box hlo503))
 have hfr510 := hfr502.kept hg507 (fun k hk o u => by cases hk; exact hb498.free o u)
 obtain ⟨G511, hle512, hX513, hbp514, hf515⟩ := hb505.shut hX509 hlo503
 have hfr516 := hfr510.le hle512
 refine qe (s_then (s_seq (c_reg ?_)))
 refine qd rfl rfl rfl (r_ldpA (cs := [x1]) ag26 sz26 rfl (fun j u hj => (Pins.of_le hX513.pins (Pin.le_trans (Pin.le_trans (Pin.le_trans (Pin.le_trans (Pin.le_trans (Pin.le_trans (Pin.le_trans (Pin.le_trans (Pin.le_trans (Pin.le_trans (Pin.le_trans (Pin.le_trans (Pin.le_trans (Pin.le_trans (Pin.le_trans (Pin.le_trans (Pin.le_trans (Pin.le_trans (Pin.le_trans (Pin.le_trans (Pin.le_trans (Pin.le_trans (Pin.le_trans (Pin.le_trans (Pin.le_trans (Pin.le_trans (Pin.le_trans (Pin.le_trans (Pin.le_trans hle45 hx54.le) hle75) hle92) hx101.le) hle122) hle150) hle157) hx166.le) hle187) hle215) hle222) hx231.le) hle252) hle280) hle287) hx296.le) hle317) hle345) hle352) hx361.le) hle382) hle410) hle417) hx426.le) hle447) hle475) hle482) hx491.le) hle512)) _ _ _ (hbp30 _ _ (by simpa using hj)))) (qd rfl rfl rfl (r_ldpA (cs := [x48]) ag26 sz26 rfl (fun j u hj => (Pins.of_le hX513.pins (Pin.le_trans (Pin.le_trans (Pin.le_trans (Pin.le_trans (Pin.le_trans (Pin.le_trans (Pin.le_trans (Pin.le_trans (Pin.le_trans (Pin.le_trans (Pin.le_trans (Pin.le_trans (Pin.le_trans (Pin.le_trans (Pin.le_trans (Pin.le_trans (Pin.le_trans (Pin.le_trans (Pin.le_trans (Pin.le_trans (Pin.le_trans (Pin.le_trans (Pin.le_trans (Pin.le_trans (Pin.le_trans (Pin.le_trans hle92 hx101.le) hle122) hle150) hle157) hx166.le) hle187) hle215) hle222) hx231.le) hle252) hle280) hle287) hx296.le) hle317) hle345) hle352) hx361.le) hle382) hle410) hle417) hx426.le) hle447) hle475) hle482) hx491.le) hle512)) _ _ _ (hbp77 _ _ (by simpa using hj)))) (qd rfl rfl rfl (r_ldpA (cs := [x95]) ag26 sz26 rfl (fun j u hj => (Pins.of_le hX513.pins (Pin.le_trans (Pin.le_trans (Pin.le_trans (Pin.le_trans (Pin.le_trans (Pin.le_trans (Pin.le_trans (Pin.le_trans (Pin.le_trans (Pin.le_trans (Pin.le_trans (Pin.le_trans (Pin.le_trans (Pin.le_trans (Pin.le_trans (Pin.le_trans (Pin.le_trans (Pin.le_trans (Pin.le_trans (Pin.le_trans (Pin.le_trans (Pin.le_trans (Pin.le_trans hle150 hle157) hx166.le) hle187) hle215) hle222) hx231.le) hle252) hle280) hle287) hx296.le) hle317) hle345) hle352) hx361.le) hle382) hle410) hle417) hx426.le) hle447) hle475) hle482) hx491.le) hle512)) _ _ _ (hbp124 _ _ (by simpa using hj)))) (qd rfl rfl rfl (r_ldpA (cs := [x160]) ag26 sz26 rfl (fun j u hj => (Pins.of_le hX513.pins (Pin.le_trans (Pin.le_trans (Pin.le_trans (Pin.le_trans (Pin.le_trans (Pin.le_trans (Pin.le_trans (Pin.le_trans (Pin.le_trans (Pin.le_trans (Pin.le_trans (Pin.le_trans (Pin.le_trans (Pin.le_trans (Pin.le_trans (Pin.le_trans (Pin.le_trans (Pin.le_trans (Pin.le_trans hle215 hle222) hx231.le) hle252) hle280) hle287) hx296.le) hle317) hle345) hle352) hx361.le) hle382) hle410) hle417) hx426.le) hle447) hle475) hle482) hx491.le) hle512)) _ _ _ (hbp189 _ _ (by simpa using hj)))) ?_)))
 refine qd rfl rfl rfl (r_ldpA (cs := [x225]) ag26 sz26 rfl (fun j u hj => (Pins.of_le hX513.pins (Pin.le_trans (Pin.le_trans (Pin.le_trans (Pin.le_trans (Pin.le_trans (Pin.le_trans (Pin.le_trans (Pin.le_trans (Pin.le_trans (Pin.le_trans (Pin.le_trans (Pin.le_trans (Pin.le_trans (Pin.le_trans (Pin.le_trans hle280 hle287) hx296.le) hle317) hle345) hle352) hx361.le) hle382) hle410) hle417) hx426.le) hle447) hle475) hle482) hx491.le) hle512)) _ _ _ (hbp254 _ _ (by simpa using hj)))) (qd rfl rfl rfl (r_ldpA (cs := [x290]) ag26 sz26 rfl (fun j u hj => (Pins.of_le hX513.pins (Pin.le_trans (Pin.le_trans (Pin.le_trans (Pin.le_trans (Pin.le_trans (Pin.le_trans (Pin.le_trans (Pin.le_trans (Pin.le_trans (Pin.le_trans (Pin.le_trans hle345 hle352) hx361.le) hle382) hle410) hle417) hx426.le) hle447) hle475) hle482) hx491.le) hle512)) _ _ _ (hbp319 _ _ (by simpa using hj)))) (qd rfl rfl rfl (r_ldpA (cs := [x355]) ag26 sz26 rfl (fun j u hj => (Pins.of_le hX513.pins (Pin.le_trans (Pin.le_trans (Pin.le_trans (Pin.le_trans (Pin.le_trans (Pin.le_trans (Pin.le_trans hle410 hle417) hx426.le) hle447) hle475) hle482) hx491.le) hle512)) _ _ _ (hbp384 _ _ (by simpa using hj)))) (qd rfl rfl rfl (r_ldpA (cs := [x420]) ag26 sz26 rfl (fun j u hj => (Pins.of_le hX513.pins (Pin.le_trans (Pin.le_trans (Pin.le_trans hle475 hle482) hx491.le) hle512)) _ _ _ (hbp449 _ _ (by simpa using hj)))) (qd rfl rfl rfl (r_ldpA (cs := [x485]) ag26 sz26 rfl (fun j u hj => hX513.pins _ _ _ (hbp514 _ _ (by simpa using hj)))) (q1 rfl rfl rfl (o_buildA (E := eVal) (e := 26) [x1, x48, x95, x160, x225, x290, x355, x420, x485] [x1, x48, x95, x160, x225, x290, x355, x420, x485] Try.underlying65 sz26 zr26 (repsC (⟨rfl, hone10⟩) (repsC (⟨rfl, hone57⟩) (repsC (⟨rfl, hone104⟩) (repsC (⟨rfl, hone169⟩) (repsC (⟨rfl, hone234⟩) (repsC (⟨rfl, hone299⟩) (repsC (⟨rfl, hone364⟩) (repsC (⟨rfl, hone429⟩) (repsC (⟨rfl, hone494⟩) repsN))))))))) (onesC hone10 (onesC hone57 (onesC hone104 (onesC hone169 (onesC hone234 (onesC hone299 (onesC hone364 (onesC hone429 (onesC hone494 onesN))))))))) rfl rfl rfl rfl (by decide) hX513.pins (fun u517 w518 ho519 hp520 hl521 hk522 => ?_)))))))
 have hX523 := hX513.step hp520 hl521
 have hfr524 := hfr516.below hl521
 have ho525 : Own eVal 26 G511 w518 w.heap.size u517 ([x1, x48, x95, x160, x225, x290, x355, x420, x485]) := ho519.weaken hX513.size
 refine qd rfl rfl rfl (r_assign (v := u517) rfl) (qe (s_then ?_))
 exact wp_ret (s_ret (c_ret1 (v := u517) rfl rfl rfl (⟨_, _, _, _, rfl, ho525, hfr524.mem (by simp), hkq489, rfl, rfl, hX523⟩)))

theorem some_spec {w : World} {G : Pin} {c : Nat} {cv : Value} {code : List UInt8} {a s : Int} {l : Value} {vs : List Value} {m : Int} (hP : Pins G w) (hB : Bx G w c [cv, .int .i64 a, .int .u64 s]) (hc : RSl eByte G cv code) (ha : 0 ≤ a ∧ a + 6 ≤ 1000000) (hs : 0 ≤ s ∧ s < 18446744073709551616) (hl : RSl eVal G l vs) (hn : 1 ≤ vs.length ∧ vs.length ≤ 1000) (hm2 : 0 ≤ m ∧ m ≤ 2) :
  Calls Try.prog 27 [(.pointer (some ⟨c, 0, none⟩)), l, (.int .i64 m)].toArray w fun e w' => ∃ (u : Value) (ys : List Value) (a' s' : Int) (G' : Pin), e = .returned u ∧ Own eVal 26 G' w' w.heap.size u ys ∧ (∀ y ∈ ys, y ∈ vs) ∧ ys.length ≤ 2 ∧ Bx G' w' c [cv, .int .i64 a', .int .u64 s'] ∧ (a ≤ a' ∧ a' ≤ a + 6) ∧ (0 ≤ s' ∧ s' < 18446744073709551616) ∧ Ext (inO (some c)) G w G' w' := by
 refine s_enter (n := 31) Try.func27 Try.ntmps27 rfl rfl ?_
 have hX0 : Ext (inO (some c)) G w G w := Ext.refl hP
 have hm := hc.max
 refine s_seq (c_reg ?_)
 refine qd rfl rfl rfl (r_assign (v := (.slice none 0 0)) rfl) (qe (s_then (s_seq (c_reg ?_))))
 refine q1 rfl rfl rfl (o_build0 (E := eVal) (e := 26) Try.underlying65 sz26 hX0.pins (fun u1 w2 ho3 hp4 hl5 hk6 => ?_))
 have hX7 := hX0.step hp4 hl5
 have hb8 := hB.below hl5
 have ha9 : Apart u1.ownBlock (some c) := new_ne_box hk6 hB.lt
 have ho10 : Own eVal 26 G w2 w.heap.size u1 ([]) := ho3.weaken hX0.size
 refine qd rfl rfl rfl (r_assign (v := u1) rfl) (qe (s_then (s_seq (c_reg ?_))))
 refine qd rfl rfl rfl (r_move (v := (.pointer (some ⟨c, 0, none⟩))) rfl) (qd rfl rfl rfl (r_move (v := (.int .i64 m)) rfl) (qd rfl rfl rfl (r_add rfl rfl (by omega)) (q1 rfl rfl rfl (o_call (vs := [(.pointer (some ⟨c, 0, none⟩)), (.int .i64 (m + 1))]) Try.func23 nm23 rfl rfl rfl ?_))))
 refine Calls.mono (pick_spec hX7.pins hb8 hc (by omega) (by omega) (n := (m + 1)) (by omega)) ?_
 rintro _ w15 ⟨z11, a13, s14, rfl, hz12, hb16, hda17, hds18, hx19⟩
 refine ⟨_, rfl, ?_⟩
 have hX20 := hX7.trans hx19 (fun i hi => lo_self i hi)
 have ho21 := ho10.extS hx19 (notO ha9)
 refine qd rfl rfl rfl (r_assign (v := (.int .i64 z11)) rfl) (qe (s_then (s_seq (s_seq (c_reg ?_)))))
 refine qd rfl rfl rfl (r_assign (v := (.int .i64 0)) rfl) (qe (s_then ?_))
 refine s_blk (s_loop (fun (k : Nat) (en : Nat → Value) (W : World) => ∃ (env1 : Nat → Value) (i : Nat) (ov : Value) (ys : List Value) (a1 : Int) (s1 : Int) (GL : Pin), en = (upd (upd (upd (upd (upd (upd env1 0 (.pointer (some ⟨c, 0, none⟩))) 1 l) 6 (.slice none 0 0)) 7 ov) 8 (.int .i64 z11)) 9 (.int .i64 (i : Int))) ∧ k = (z11).toNat - i ∧ Ext (inO (some c)) G w GL W ∧ Pin.le G GL ∧ (i : Int) ≤ z11 ∧ (∀ y ∈ ys, y ∈ vs) ∧ (ys.length = i) ∧ (a ≤ a1 ∧ a1 ≤ a + 2 + 2 * (i : Int)) ∧ (0 ≤ s1 ∧ s1 < 18446744073709551616) ∧ (Own eVal 26 GL W w.heap.size ov (ys)) ∧ (Bx GL W c [cv, (.int .i64 a1), (.int .u64 s1)]) ∧ (Apart ov.ownBlock (some c))) _ ⟨_, 0, u1, [], a13, s14, G, (packS (x := 9) (packS (x := 8) (packS (x := 7) (packS (x := 6) (packS (x := 1) (pack1 (x := 0) rfl) rfl) rfl) rfl) rfl) rfl), rfl, hX20, Pin.le_refl _, (by omega), (fun y hy => (List.not_mem_nil hy).elim), rfl, (by omega), (by omega), ho21, hb16, ha9⟩ ?_)
 rintro k22 _ w23 ⟨env1, i, ov, ys, a1, s1, GL, rfl, hk24, hX25, hlek22, hi, hys, hyl, hda, hds, hw26, hw27, ha28⟩
 refine s_seq (s_seq (c_reg ?_))
 refine qd rfl rfl rfl (r_move (v := (.int .i64 (i : Int))) rfl) (qd rfl rfl rfl (r_move (v := (.int .i64 z11)) rfl) (qd rfl rfl rfl (r_lss rfl rfl) (qe (s_then ?_))))
 refine c_ifd (p := ((i : Int) : Int) < z11) rfl rfl (fun h29 => ?_) (fun h29 => ?_)
 refine wp_skip (s_then (s_seq ?_))
 refine s_blk (c_reg (qd rfl rfl rfl (r_move (v := ov) rfl) (qd rfl rfl rfl (r_move (v := l) rfl) (qd rfl rfl rfl (r_move (v := (.pointer (some ⟨c, 0, none⟩))) rfl) (qd rfl rfl rfl (r_move (v := l) rfl) (qd rfl rfl rfl (run_len Try.underlying65 (v := l) rfl hl) (q1 rfl rfl rfl (o_call (vs := [(.pointer (some ⟨c, 0, none⟩)), (.int .i64 (vs.length : Int))]) Try.func23 nm23 rfl rfl rfl ?_))))))))
 refine Calls.mono (pick_spec hX25.pins hw27 (hc.mono hlek22) (by omega) (by omega) (n := (vs.length : Int)) (by omega)) ?_
 rintro _ w34 ⟨z30, a32, s33, rfl, hz31, hb35, hda36, hds37, hx38⟩
 refine ⟨_, rfl, ?_⟩
 have hX39 := hX25.trans hx38 (fun i hi => lo_self i hi)
 have ho40 := hw26.extS hx38 (notO ha28)
 refine qd rfl rfl rfl (run_idx Try.underlying65 sz26 (v := l) rfl rfl hl (by omega) (by omega)) ?_
 obtain ⟨cs41, hrep42, hagg43, hcell44⟩ := nm_el (j := (z30).toNat) default (hl.at (z := z30) (by omega) (by omega)) rfl
 obtain ⟨rfl, hone45⟩ := hrep42
 refine qd rfl rfl rfl (hagg43 ag26 sz26 rfl (Pins.of_le hX39.pins hlek22)) (q1 rfl rfl rfl (o_build1 (E := eVal) (e := 26) [(vs.getD (z30).toNat default)] (vs.getD (z30).toNat default) Try.underlying65 sz26 zr26 ⟨rfl, hone45⟩ rfl (by decide) hX39.pins (fun u46 w47 ho48 hp49 hl50 hk51 => ?_)))
 have hX52 := hX39.step hp49 hl50
 have ho53 := ho40.below hl50
 have hb54 := hb35.below hl50
 have ho57 : Own eVal 26 GL w47 w.heap.size u46 ([(vs.getD (z30).toNat default)]) := ho48.weaken hX39.size
 refine q1 rfl rfl rfl (o_append (E := eVal) (v := ov) (u := u46) 24 Try.underlying65 ap26 (by decide) rfl rfl hX52.pins ho53 ho57.src (by first | omega | (rw [List.nil_append]; omega) | (rw [List.length_nil]; omega) | (rw [List.length_append]; omega) | (simp; done) | (simp; omega) | (simp only [List.length_append, List.length_cons, List.length_nil]; omega)) (by first | omega | (rw [List.nil_append]; omega) | (rw [List.length_nil]; omega) | (rw [List.length_append]; omega) | (simp; done) | (simp; omega) | (simp only [List.length_append, List.length_cons, List.length_nil]; omega)) (hX52.size) (fun u58 w59 ho60 hp61 hg62 hw63 => ?_))
 have hX64 := hX52.write hp61 hg62 ((lo_own ho53))
 have hb66 := hb54.keptA hg62 ha28.symm
 have ha68 : Apart (some c) u58.ownBlock := app_ne_box ha28.symm hw63 hb54.lt
 have hm69 : (ys ++ ([(vs.getD (z30).toNat default)])).length = ys.length + 1 := List.length_append
 refine qd rfl rfl rfl (r_assign (v := u58) rfl) (qe (s_blkN (s_then (c_reg ?_))))
 refine qd rfl rfl rfl (r_move (v := (.int .i64 (i : Int))) rfl) (qd rfl rfl rfl (r_add rfl rfl (by omega)) (qd rfl rfl rfl (r_assign (v := (.int .i64 ((i : Int) + 1))) rfl) (qe (s_lopN (⟨_, ?_, _, rfl, _, i + 1, u58, ys ++ ([(vs.getD (z30).toNat default)]), a32, s33, GL, (packS (x := 9) (packS (x := 8) (packS (x := 7) (packS (x := 6) (packS (x := 1) (pack1 (x := 0) rfl) rfl) rfl) rfl) rfl) rfl), rfl, hX64, hlek22, (by omega), (fun y hy => (List.mem_append.1 hy).elim (hys y) (fun h => by rw [List.mem_singleton.1 h]; exact getD_mem (by omega))), (by simp; omega), (by omega), (by omega), ho60, hb66, ha68.symm⟩)))))
 omega
 refine wp_exit (s_thenE (s_lopE (s_blkE (s_then (s_seq (c_reg ?_))))))
 refine qd rfl rfl rfl (r_move (v := ov) rfl) (qd rfl rfl rfl (r_assign (v := ov) rfl) (qe (s_then ?_)))
 exact wp_ret (s_ret (c_ret1 (v := ov) rfl rfl rfl (⟨_, _, _, _, _, rfl, hw26, hys, (by omega), hw27, (by omega), (by omega), hX25⟩)))

theorem someO_spec {w : World} {G : Pin} {c : Nat} {cv : Value} {code : List UInt8} {a s : Int} {l : Value} {vs : List Value} {m : Int} {e base : Nat} (hP : Pins G w) (hB : Bx G w c [cv, .int .i64 a, .int .u64 s]) (hc : RSl eByte G cv code) (ha : 0 ≤ a ∧ a + 6 ≤ 1000000) (hs : 0 ≤ s ∧ s < 18446744073709551616) (hl : Own eVal e G w base l vs) (hap : Apart (some c) l.ownBlock) (hn : 1 ≤ vs.length ∧ vs.length ≤ 1000) (hm2 : 0 ≤ m ∧ m ≤ 2) :
  Calls Try.prog 27 [(.pointer (some ⟨c, 0, none⟩)), l, (.int .i64 m)].toArray w fun e w' => ∃ (u : Value) (ys : List Value) (a' s' : Int), e = .returned u ∧ Own eVal 26 G w' w.heap.size u ys ∧ (∀ y ∈ ys, y ∈ vs) ∧ ys.length ≤ 2 ∧ Bx G w' c [cv, .int .i64 a', .int .u64 s'] ∧ (a ≤ a' ∧ a' ≤ a + 6) ∧ (0 ≤ s' ∧ s' < 18446744073709551616) ∧ Ext (inO (some c)) G w G w' := by
 have hb2 : Bx (Gadd G w l) w c [cv, .int .i64 a, .int .u64 s] := ⟨hB.heap, fun o u hu => hu.elim (hB.free o u) (fun h => hap c rfl h.1)⟩
 refine (some_spec (Gadd.pins hP l) hb2 (hc.mono (Gadd.le _ _ _)) ha hs hl.read hn hm2).mono fun e w' ⟨u, ys, a', s', G', e1, ho, hm, hy, hb, h1, h2, hx⟩ => ?_
 have hle : Pin.le G G' := Pin.le_trans (Gadd.le _ _ _) hx.le
 exact ⟨u, ys, a', s', e1, ownV_anti ho hle, hm, hy, hb.anti hle, h1, h2, ext_back (Gadd.le _ _ _) hx⟩

theorem dform_spec {w : World} {G : Pin} {c : Nat} {cv : Value} {code : List UInt8} {a s : Int} {n : Int} (hP : Pins G w) (hB : Bx G w c [cv, .int .i64 a, .int .u64 s]) (hc : RSl eByte G cv code) (ha : 0 ≤ a ∧ a + (12 * n + 4) ≤ 1000000) (hs : 0 ≤ s ∧ s < 18446744073709551616) (hn : 0 ≤ n ∧ n ≤ 6) :
  Calls Try.prog 14 [(.pointer (some ⟨c, 0, none⟩)), (.int .i64 n)].toArray w fun e w' => ∃ (u : Value) (g : Nat) (a' s' : Int) (G' : Pin), e = .returned (.agg [u].toArray) ∧ Own eNode 48 G' w' w.heap.size u (formG g) ∧ IsForm g (formG g) ∧ ((formG g).length : Int) ≤ 9 + n ∧ Bx G' w' c [cv, .int .i64 a', .int .u64 s'] ∧ (a ≤ a' ∧ a' ≤ a + (12 * n + 4)) ∧ (0 ≤ s' ∧ s' < 18446744073709551616) ∧ Ext (inO (some c)) G w G' w' := by
 refine s_enter (n := 40) Try.func14 Try.ntmps14 rfl rfl ?_
 have hX0 : Ext (inO (some c)) G w G w := Ext.refl hP
 have hm := hc.max
 refine s_seq (c_reg ?_)
 refine q1 rfl rfl rfl (o_alloc [(.slice none 0 0)] zr26 rfl hX0.pins (fun b1 w2 hk3 hb4 hp5 hl6 => ?_))
 have hX7 := hX0.step hp5 hl6
 have hb8 := hB.below hl6
 have ha9 : Apart (some b1) (some c) := new_ne_box (congrArg some hk3) hB.lt
 have hlo10 : w.heap.size ≤ b1 := by have := hX0.size; omega
 refine qe (s_then (s_seq (c_reg ?_)))
 refine q1 rfl rfl rfl (o_call (vs := []) Try.func26 nm26 rfl rfl rfl ?_)
 refine Calls.mono (l3Small_spec hX7.pins) ?_
 rintro _ w15 ⟨u11, vs12, Q13, G14, rfl, ho16, hfr17, hkq18, hvl19, hql20, hx21⟩
 refine ⟨_, rfl, ?_⟩
 have hX22 := hX7.tr hx21
 have hb23 := hb8.ext hx21
 have hb24 := hb4.ext hx21
 have ha25 : Apart u11.ownBlock (some c) := made_ne_box ho16.lt hb8.lt
 have ha26 : Apart u11.ownBlock (some b1) := made_ne_box ho16.lt hb4.lt
 have ho27 : Own eVal 26 G14 w15 w.heap.size u11 vs12 := ho16.weaken hX7.size
 have hfr28 := hfr17.wide hX7.size
 refine qd rfl rfl rfl (r_assign (v := u11) rfl) (qe (s_then (s_seq (s_seq (c_reg ?_)))))
 refine qd rfl rfl rfl (r_assign (v := (.int .i64 0)) rfl) (qe (s_then ?_))
 refine s_blk (s_loop (fun (k : Nat) (en : Nat → Value) (W : World) => ∃ (env1 : Nat → Value) (i : Nat) (lv : Value) (ls : List Value) (Q : List Nat) (a1 : Int) (s1 : Int) (GL : Pin), en = (upd (upd (upd (upd (upd env1 0 (.pointer (some ⟨c, 0, none⟩))) 1 (.int .i64 n)) 4 (.pointer (some ⟨b1, 0, none⟩))) 5 lv) 6 (.int .i64 (i : Int))) ∧ k = n.toNat - i ∧ Ext (inO (some c)) G w GL W ∧ Pin.le G14 GL ∧ (i : Int) ≤ n ∧ (Fr 48 w.heap.size GL W Q ls) ∧ (KQ Q) ∧ (ls.length = 9 + i) ∧ (Q.length = 9 + i) ∧ (a ≤ a1 ∧ a1 ≤ a + 12 * (i : Int)) ∧ (0 ≤ s1 ∧ s1 < 18446744073709551616) ∧ (Own eVal 26 GL W w.heap.size lv (ls)) ∧ (Bx GL W c [cv, (.int .i64 a1), (.int .u64 s1)]) ∧ (Bx GL W b1 [(.slice none 0 0)]) ∧ (Apart lv.ownBlock (some c)) ∧ (Apart lv.ownBlock (some b1))) _ ⟨_, 0, u11, vs12, Q13, a, s, G14, (packS (x := 6) (packS (x := 5) (packS (x := 4) (packS (x := 1) (pack1 (x := 0) rfl) rfl) rfl) rfl) rfl), rfl, hX22, Pin.le_refl _, (by omega), hfr28, hkq18, (by omega), (by omega), (by omega), (by omega), ho27, hb23, hb24, ha25, ha26⟩ ?_)
 rintro k29 _ w30 ⟨env1, i, lv, ls, Q, a1, s1, GL, rfl, hk31, hX32, hlek29, hi, hfl, hkl, hll, hQl, hda, hds, hw33, hw34, hw35, ha36, ha37⟩
 refine s_seq (s_seq (c_reg ?_))
 refine qd rfl rfl rfl (r_move (v := (.int .i64 (i : Int))) rfl) (qd rfl rfl rfl (r_move (v := (.int .i64 n)) rfl) (qd rfl rfl rfl (r_lss rfl rfl) (qe (s_then ?_))))
 refine c_ifd (p := ((i : Int) : Int) < n) rfl rfl (fun h38 => ?_) (fun h38 => ?_)
 refine wp_skip (s_then (s_seq ?_))
 refine s_blk (s_seq (c_reg ?_))
 refine qd rfl rfl rfl (r_move (v := (.pointer (some ⟨c, 0, none⟩))) rfl) (qd rfl rfl rfl (r_move (v := lv) rfl) (q1 rfl rfl rfl (o_call (vs := [(.pointer (some ⟨c, 0, none⟩)), lv, (.int .i64 2)]) Try.func27 nm27 rfl rfl rfl ?_)))
 refine Calls.mono (someO_spec hX32.pins hw34 (hc.mono (Pin.le_trans hx21.le hlek29)) (by omega) (by omega) hw33 ha36.symm (by omega) (by omega)) ?_
 rintro _ w43 ⟨u39, ys40, a41, s42, rfl, ho44, hmy45, hyl46, hb47, hda48, hds49, hx50⟩
 refine ⟨_, rfl, ?_⟩
 have hX51 := hX32.trans hx50 (fun i hi => lo_self i hi)
 have ho52 := hw33.extS hx50 (notO ha36)
 have hb53 := hw35.extS hx50 (notOb ha9)
 have hfr54 := hfl.turned hx50 (fun k hk o u => by cases hk; exact hw34.free o u)
 have ha55 : Apart u39.ownBlock lv.ownBlock := made_ne_own ho44.lt hw33.lt
 have ha56 : Apart u39.ownBlock (some c) := made_ne_box ho44.lt hw34.lt
 have ha57 : Apart u39.ownBlock (some b1) := made_ne_box ho44.lt hw35.lt
 have ho58 : Own eVal 26 GL w43 w.heap.size u39 ys40 := ho44.weaken hX32.size
 refine qd rfl rfl rfl (r_assign (v := u39) rfl) (qe (s_then (c_reg ?_)))
 refine qd rfl rfl rfl (r_move (v := lv) rfl) (qd rfl rfl rfl (r_move (v := u39) rfl) (qd rfl rfl rfl (r_move (v := (.pointer (some ⟨c, 0, none⟩))) rfl) (qd rfl rfl rfl (r_move (v := lv) rfl) (q1 rfl rfl rfl (o_call (vs := [(.pointer (some ⟨c, 0, none⟩)), lv, (.int .i64 2)]) Try.func27 nm27 rfl rfl rfl ?_)))))
 refine Calls.mono (someO_spec hX51.pins hb47 (hc.mono (Pin.le_trans hx21.le hlek29)) (by omega) (by omega) ho52 ha36.symm (by omega) (by omega)) ?_
 rintro _ w63 ⟨u59, ys60, a61, s62, rfl, ho64, hmy65, hyl66, hb67, hda68, hds69, hx70⟩
 refine ⟨_, rfl, ?_⟩
 have hX71 := hX51.trans hx70 (fun i hi => lo_self i hi)
 have ho72 := ho52.extS hx70 (notO ha36)
 have ho73 := ho58.extS hx70 (notO ha56)
 have hb74 := hb53.extS hx70 (notOb ha9)
 have hfr75 := hfr54.turned hx70 (fun k hk o u => by cases hk; exact hb47.free o u)
 have ha76 : Apart u59.ownBlock lv.ownBlock := made_ne_own ho64.lt ho52.lt
 have ha77 : Apart u59.ownBlock u39.ownBlock := made_ne_own ho64.lt ho58.lt
 have ha78 : Apart u59.ownBlock (some c) := made_ne_box ho64.lt hb47.lt
 have ha79 : Apart u59.ownBlock (some b1) := made_ne_box ho64.lt hb53.lt
 have ho80 : Own eVal 26 GL w63 w.heap.size u59 ys60 := ho64.weaken hX51.size
 obtain ⟨G81, hle84, hX83, hr82, hf85⟩ := ho73.sealed hX71
 have ho86 := ho72.moreO hle84 hf85 ha55.symm
 have ho87 := ho80.moreO hle84 hf85 ha77
 have hb88 := hb67.moreO hf85 ha56.symm
 have hb89 := hb74.moreO hf85 ha57.symm
 have hfr90 := hfr75.le hle84
 obtain ⟨G91, hle94, hX93, hr92, hf95⟩ := ho87.sealed hX83
 have ho96 := ho86.moreO hle94 hf95 ha76.symm
 have hb97 := hb88.moreO hf95 ha78.symm
 have hb98 := hb89.moreO hf95 ha79.symm
 have hfr99 := hfr90.le hle94
 refine q1 rfl rfl rfl (o_call (vs := [u39, u59]) Try.func28 nm28 rfl rfl rfl ?_)
 refine Calls.mono (l3MakeV_spec hX93.pins hfr99 hkl (by first | omega | (simp; done) | (simp; omega)) hX93.size (hr82.mono hle94) hr92 hmy45 hmy65 (by first | omega | simp) (by first | omega | simp)) ?_
 rintro _ w103 ⟨x100, g101, G102, rfl, hkq104, hfr105, hx106⟩
 refine ⟨_, rfl, ?_⟩
 have hX107 := hX93.tr hx106
 have ho108 := ho96.ext hx106
 have hb109 := hb97.ext hx106
 have hb110 := hb98.ext hx106
 have hone112 := hfr105.one List.mem_cons_self
 refine q1 rfl rfl rfl (o_build1 (E := eVal) (e := 26) [x100] x100 Try.underlying65 sz26 zr26 ⟨rfl, hone112⟩ rfl (by decide) hX107.pins (fun u113 w114 ho115 hp116 hl117 hk118 => ?_))
 have hX119 := hX107.step hp116 hl117
 have ho120 := ho108.below hl117
 have hb121 := hb109.below hl117
 have hb122 := hb110.below hl117
 have hfr123 := hfr105.below hl117
 have ho127 : Own eVal 26 G102 w114 w.heap.size u113 ([x100]) := ho115.weaken hX107.size
 refine q1 rfl rfl rfl (o_append (E := eVal) (v := lv) (u := u113) 24 Try.underlying65 ap26 (by decide) rfl rfl hX119.pins ho120 ho127.src (by first | omega | (rw [List.nil_append]; omega) | (rw [List.length_nil]; omega) | (rw [List.length_append]; omega) | (simp; done) | (simp; omega) | (simp only [List.length_append, List.length_cons, List.length_nil]; omega)) (by first | omega | (rw [List.nil_append]; omega) | (rw [List.length_nil]; omega) | (rw [List.length_append]; omega) | (simp; done) | (simp; omega) | (simp only [List.length_append, List.length_cons, List.length_nil]; omega)) (hX119.size) (fun u128 w129 ho130 hp131 hg132 hw133 => ?_))
 have hX134 := hX119.write hp131 hg132 ((lo_own ho120))
 have hb136 := hb121.keptA hg132 ha36.symm
 have hb137 := hb122.keptA hg132 ha37.symm
 have hfr138 := hfr123.kept hg132 ho120.free
 have ha140 : Apart (some c) u128.ownBlock := app_ne_box ha36.symm hw133 hb121.lt
 have ha141 : Apart (some b1) u128.ownBlock := app_ne_box ha37.symm hw133 hb122.lt
 have hm142 : (ls ++ ([x100])).length = ls.length + 1 := List.length_append
 refine qd rfl rfl rfl (r_assign (v := u128) rfl) (qe (s_blkN (s_then (c_reg ?_))))
 refine qd rfl rfl rfl (r_move (v := (.int .i64 (i : Int))) rfl) (qd rfl rfl rfl (r_add rfl rfl (by omega)) (qd rfl rfl rfl (r_assign (v := (.int .i64 ((i : Int) + 1))) rfl) (qe (s_lopN (⟨_, ?_, _, rfl, _, i + 1, u128, ls ++ ([x100]), (g101 :: Q), a61, s62, G102, (packS (x := 6) (packS (x := 5) (packS (x := 4) (packS (x := 1) (pack1 (x := 0) rfl) rfl) rfl) rfl) rfl), rfl, hX134, (Pin.le_trans (Pin.le_trans (Pin.le_trans hlek29 hle84) hle94) hx106.le), (by omega), (hfr138.mem snoc_mem), hkq104, (by simp; omega), (by simp; omega), (by omega), (by omega), ho130, hb136, hb137, ha140.symm, ha141.symm⟩)))))
 omega
 refine wp_exit (s_thenE (s_lopE (s_blkE (s_then (s_seq (s_seq (c_reg ?_)))))))
 refine qd rfl rfl rfl (r_move (v := (.pointer (some ⟨c, 0, none⟩))) rfl) (q1 rfl rfl rfl (o_call (vs := [(.pointer (some ⟨c, 0, none⟩)), (.int .i64 3)]) Try.func12 nm12 rfl rfl rfl ?_))
 refine Calls.mono (one_spec hX32.pins hw34 (hc.mono (Pin.le_trans hx21.le hlek29)) (by omega) (by omega) (n := 3) (by omega)) ?_
 rintro _ w146 ⟨z143, a144, s145, rfl, hb147, hda148, hds149, hx150⟩
 refine ⟨_, rfl, ?_⟩
 have hX151 := hX32.trans hx150 (fun i hi => lo_self i hi)
 have ho152 := hw33.extS hx150 (notO ha36)
 have hb153 := hw35.extS hx150 (notOb ha9)
 have hfr154 := hfl.turned hx150 (fun k hk o u => by cases hk; exact hw34.free o u)
 refine qe (s_then ?_)
 refine c_if rfl rfl (fun h155 => ?_) (fun h155 => ?_)
 refine s_seq (c_reg ?_)
 refine qd rfl rfl rfl (r_move (v := lv) rfl) (qd rfl rfl rfl (r_move (v := (.pointer (some ⟨c, 0, none⟩))) rfl) (qd rfl rfl rfl (r_move (v := lv) rfl) (qd rfl rfl rfl (run_len Try.underlying65 (v := lv) rfl ho152.read) (q1 rfl rfl rfl (o_call (vs := [(.pointer (some ⟨c, 0, none⟩)), (.int .i64 (ls.length : Int))]) Try.func23 nm23 rfl rfl rfl ?_)))))
 refine Calls.mono (pick_spec hX151.pins hb147 (hc.mono (Pin.le_trans hx21.le hlek29)) (by omega) (by omega) (n := (ls.length : Int)) (by omega)) ?_
 rintro _ w160 ⟨z156, a158, s159, rfl, hz157, hb161, hda162, hds163, hx164⟩
 refine ⟨_, rfl, ?_⟩
 have hX165 := hX151.trans hx164 (fun i hi => lo_self i hi)
 have ho166 := ho152.extS hx164 (notO ha36)
 have hb167 := hb153.extS hx164 (notOb ha9)
 have hfr168 := hfr154.turned hx164 (fun k hk o u => by cases hk; exact hb147.free o u)
 refine qd rfl rfl rfl (run_idx Try.underlying65 sz26 (v := lv) rfl rfl ho166.read (by omega) (by omega)) ?_
 obtain ⟨cs169, hrep170, hagg171, hcell172⟩ := nm_el (j := (z156).toNat) default (ho166.at (z := z156) (by omega) (by omega)) rfl
 obtain ⟨rfl, hone173⟩ := hrep170
 refine qd rfl rfl rfl (hagg171 ag26 sz26 rfl (Gadd.pins hX165.pins lv)) (q0 rfl rfl rfl (o_stp (cs' := [(ls.getD (z156).toNat default)]) (us := [(ls.getD (z156).toNat default)]) (v := (.agg [(ls.getD (z156).toNat default)].toArray)) sz26 rfl rfl rfl (ones1 hone173) hX165.pins hb167 (Nat.le_of_ble_eq_true rfl) rfl (fun w174 hb175 hp176 hg177 hz178 => ?_)))
 have hX179 := hX165.write hp176 hg177 ((lo_box hlo10))
 have hb181 := hb161.keptA hg177 ha9.symm
 have hfr182 := hfr168.kept hg177 (fun k hk o u => by cases hk; exact hb167.free o u)
 refine qe (s_then ?_)
 refine wp_ret (s_ret (c_retc (cs := [(ls.getD (z156).toNat default)]) rfl rfl rfl ag26 sz26 (fun j u hj => by rw [Nat.zero_add]; exact hb175.cell hj) ?_))
 obtain ⟨g, hgq, htk⟩ := hfr182 (ls.getD (z156).toNat default) (getD_mem (by omega))
 obtain ⟨G2, ho2, hx2, hle2⟩ := htk.give hP hX179
 have hw := hkl.w (by omega) hgq
 exact ⟨_, g, _, _, G2, rfl, ho2, hkl.is g hgq, (by omega), hb181.anti hle2, (by omega), (by omega), hx2⟩
 refine wp_skip (s_then (s_seq (c_reg ?_)))
 refine qd rfl rfl rfl (r_move (v := lv) rfl) (qd rfl rfl rfl (r_move (v := lv) rfl) (qd rfl rfl rfl (run_len Try.underlying65 (v := lv) rfl ho152.read) (qd rfl rfl rfl (r_sub rfl rfl (by omega)) (qd rfl rfl rfl (run_idx Try.underlying65 sz26 (v := lv) rfl rfl ho152.read (by omega) (by omega)) ?_))))
 obtain ⟨cs183, hrep184, hagg185, hcell186⟩ := nm_el (j := ((ls.length : Int) - 1).toNat) default (ho152.at (z := ((ls.length : Int) - 1)) (by omega) (by omega)) rfl
 obtain ⟨rfl, hone187⟩ := hrep184
 refine qd rfl rfl rfl (hagg185 ag26 sz26 rfl (Gadd.pins hX151.pins lv)) (q0 rfl rfl rfl (o_stp (cs' := [(ls.getD ((ls.length : Int) - 1).toNat default)]) (us := [(ls.getD ((ls.length : Int) - 1).toNat default)]) (v := (.agg [(ls.getD ((ls.length : Int) - 1).toNat default)].toArray)) sz26 rfl rfl rfl (ones1 hone187) hX151.pins hb153 (Nat.le_of_ble_eq_true rfl) rfl (fun w188 hb189 hp190 hg191 hz192 => ?_)))
 have hX193 := hX151.write hp190 hg191 ((lo_box hlo10))
 have hb195 := hb147.keptA hg191 ha9.symm
 have hfr196 := hfr154.kept hg191 (fun k hk o u => by cases hk; exact hb153.free o u)
 refine qe (s_then ?_)
 refine wp_ret (s_ret (c_retc (cs := [(ls.getD ((ls.length : Int) - 1).toNat default)]) rfl rfl rfl ag26 sz26 (fun j u hj => by rw [Nat.zero_add]; exact hb189.cell hj) ?_))
 obtain ⟨g, hgq, htk⟩ := hfr196 (ls.getD ((ls.length : Int) - 1).toNat default) (getD_mem (by omega))
 obtain ⟨G2, ho2, hx2, hle2⟩ := htk.give hP hX193
 have hw := hkl.w (by omega) hgq
 exact ⟨_, g, _, _, G2, rfl, ho2, hkl.is g hgq, (by omega), hb195.anti hle2, (by omega), (by omega), hx2⟩

end DR2
end Go.Proofs.Ytdongckiecjbaaa

set_option maxRecDepth 20000
set_option maxHeartbeats 2000000
namespace Go.Proofs.Ytdongckiecjbaaa
namespace DV1
open Go.RowKit Go.GL Go.Proofs
open B1 C1 D1 E1 MK1 DR1 DR2












theorem pl48 : (Try.prog.underlying 48).bind (placesD Try.prog) = some [(0, 1), (1, 1)] := by kernel_rfl








theorem l1Own_spec {w : World} {G : Pin} {v : Value} {xs : List Int} (hP : Pins G w) (hv : RSl eInt G v xs) (hs : xs.length ≤ 1048576) :
  Calls Try.prog 24 [v].toArray w fun e w' => ∃ (u : Value) (G' : Pin), e = .returned u ∧ Own eInt 3 G' w' w.heap.size u xs ∧ Ext noS G w G' w' := by
 refine s_enter (n := 6) Try.func24 Try.ntmps24 rfl rfl ?_
 have hX0 : Ext noS G w G w := Ext.refl hP
 refine s_seq (c_reg ?_)
 refine qd rfl rfl rfl (r_assign (v := (.slice none 0 0)) rfl) (qe (s_then (s_seq (c_reg ?_))))
 refine q1 rfl rfl rfl (o_build0 (E := eInt) (e := 3) Try.underlying46 sz3 hX0.pins (fun u1 w2 ho3 hp4 hl5 hk6 => ?_))
 have hX7 := hX0.step hp4 hl5
 have ho8 : Own eInt 3 G w2 w.heap.size u1 ([]) := ho3.weaken hX0.size
 refine qd rfl rfl rfl (r_move (v := v) rfl) (q1 rfl rfl rfl (o_append (E := eInt) (v := u1) (u := v) 8 Try.underlying46 ap3 (by decide) rfl rfl hX7.pins ho8 ((hv.mono (Pin.le_refl _)).src hX7.pins (by decide)) (by first | omega | (rw [List.nil_append]; omega) | (rw [List.length_nil]; omega) | (rw [List.length_append]; omega) | (simp; done) | (simp; omega) | (simp only [List.length_cons, List.length_nil]; omega) | (simp only [List.length_append, List.length_cons, List.length_nil]; omega)) (by first | omega | (rw [List.nil_append]; omega) | (rw [List.length_nil]; omega) | (rw [List.length_append]; omega) | (simp; done) | (simp; omega) | (simp only [List.length_cons, List.length_nil]; omega) | (simp only [List.length_append, List.length_cons, List.length_nil]; omega)) (hX7.size) (fun u9 w10 ho11 hp12 hg13 hw14 => ?_)))
 have hX15 := hX7.write hp12 hg13 ((lo_own ho8))
 have hm16 : (([]) ++ xs).length = ([]).length + xs.length := List.length_append
 refine qd rfl rfl rfl (r_assign (v := u9) rfl) (qe (s_then ?_))
 exact wp_ret (s_ret (c_ret1 (v := u9) rfl rfl rfl (⟨_, _, rfl, (by simpa using ho11), hX15⟩)))

theorem anyForm_spec {w : World} {G : Pin} {c : Nat} {cv : Value} {code : List UInt8} {a s : Int} {n : Int} (hP : Pins G w) (hB : Bx G w c [cv, .int .i64 a, .int .u64 s]) (hc : RSl eByte G cv code) (ha : 0 ≤ a ∧ a + (12 * n + 10) ≤ 1000000) (hs : 0 ≤ s ∧ s < 18446744073709551616) (hn : 0 ≤ n ∧ n ≤ 6) :
  Calls Try.prog 13 [(.pointer (some ⟨c, 0, none⟩)), (.int .i64 n)].toArray w fun e w' => ∃ (u : Value) (ns : List Nd) (a' s' : Int) (G' : Pin), e = .returned (.agg [u].toArray) ∧ RSl eNode G' u ns ∧ Bx G' w' c [cv, .int .i64 a', .int .u64 s'] ∧ (a ≤ a' ∧ a' ≤ a + (12 * n + 10)) ∧ (0 ≤ s' ∧ s' < 18446744073709551616) ∧ Ext (inO (some c)) G w G' w' := by
 refine s_enter (n := 77) Try.func13 Try.ntmps13 rfl rfl ?_
 have hX0 : Ext (inO (some c)) G w G w := Ext.refl hP
 have hm := hc.max
 refine s_seq (c_reg ?_)
 refine q1 rfl rfl rfl (o_alloc [(.slice none 0 0)] zr26 rfl hX0.pins (fun b1 w2 hk3 hb4 hp5 hl6 => ?_))
 have hX7 := hX0.step hp5 hl6
 have hb8 := hB.below hl6
 have ha9 : Apart (some b1) (some c) := new_ne_box (congrArg some hk3) hB.lt
 have hlo10 : w.heap.size ≤ b1 := by have := hX0.size; omega
 refine qe (s_then (s_seq (c_reg ?_)))
 refine qd rfl rfl rfl (r_move (v := (.pointer (some ⟨c, 0, none⟩))) rfl) (qd rfl rfl rfl (r_move (v := (.int .i64 n)) rfl) (q1 rfl rfl rfl (o_call (vs := [(.pointer (some ⟨c, 0, none⟩)), (.int .i64 n)]) Try.func14 nm14 rfl rfl rfl ?_)))
 refine Calls.mono (dform_spec (n := n) hX7.pins hb8 hc (by omega) (by omega) (by omega)) ?_
 rintro _ w16 ⟨u11, g12, a13, s14, G15, rfl, ho17, hif18, hfl19, hb20, hda21, hds22, hx23⟩
 refine ⟨_, rfl, ?_⟩
 have hX24 := hX7.trans hx23 (fun i hi => lo_self i hi)
 have hb25 := hb4.extS hx23 (notOb ha9)
 have ha26 : Apart u11.ownBlock (some c) := made_ne_box ho17.lt hb8.lt
 have ha27 : Apart u11.ownBlock (some b1) := made_ne_box ho17.lt hb4.lt
 have ho28 : Own eNode 48 G15 w16 w.heap.size u11 (formG g12) := ho17.weaken hX7.size
 have hfo29 := hif18.1.lo
 refine q1 rfl rfl rfl (o_alloc [(.slice none 0 0)] zr26 rfl hX24.pins (fun b30 w31 hk32 hb33 hp34 hl35 => ?_))
 have hX36 := hX24.step hp34 hl35
 have ho37 := ho28.below hl35
 have hb38 := hb20.below hl35
 have hb39 := hb25.below hl35
 have ha40 : Apart (some b30) u11.ownBlock := new_ne_own (congrArg some hk32) ho28.lt
 have ha41 : Apart (some b30) (some c) := new_ne_box (congrArg some hk32) hb20.lt
 have ha42 : Apart (some b30) (some b1) := new_ne_box (congrArg some hk32) hb25.lt
 have hlo43 : w.heap.size ≤ b30 := by have := hX24.size; omega
 refine q0 rfl rfl rfl (o_stp (cs' := [u11]) (us := [u11]) (v := (.agg [u11].toArray)) sz26 rfl rfl rfl (ones1 ho37.one) hX36.pins hb33 (Nat.le_of_ble_eq_true rfl) rfl (fun w44 hb45 hp46 hg47 hz48 => ?_))
 have hX49 := hX36.write hp46 hg47 ((lo_box hlo43))
 have ho50 := ho37.keptA hg47 ha40.symm
 have hb51 := hb38.keptA hg47 ha41.symm
 have hb52 := hb39.keptA hg47 ha42.symm
 refine qe (s_then (s_seq (c_reg ?_)))
 refine qd rfl rfl rfl (r_move (v := (.pointer (some ⟨c, 0, none⟩))) rfl) (qd rfl rfl rfl (r_fldp (k := 0) rfl Try.underlying26 rfl nz24 rfl) (qd rfl rfl rfl (r_ldp1 (u := u11) ag24 rfl (hb45.cell (o := 0) rfl)) (qd rfl rfl rfl (run_len Try.underlying24 (v := u11) rfl ho50.read) (q1 rfl rfl rfl (o_call (vs := [(.pointer (some ⟨c, 0, none⟩)), (.int .i64 ((formG g12).length : Int))]) Try.func23 nm23 rfl rfl rfl ?_)))))
 refine Calls.mono (pick_spec hX49.pins hb51 (hc.mono hx23.le) (by omega) (by omega) (n := ((formG g12).length : Int)) (by omega)) ?_
 rintro _ w57 ⟨z53, a55, s56, rfl, hz54, hb58, hda59, hds60, hx61⟩
 refine ⟨_, rfl, ?_⟩
 have hX62 := hX49.trans hx61 (fun i hi => lo_self i hi)
 have ho63 := ho50.extS hx61 (notO ha26)
 have hb64 := hb52.extS hx61 (notOb ha9)
 have hb65 := hb45.extS hx61 (notOb ha41)
 refine qd rfl rfl rfl (r_assign (v := (.int .i64 z53)) rfl) (qe (s_then (s_seq (s_seq (c_reg ?_)))))
 refine qd rfl rfl rfl (r_move (v := (.pointer (some ⟨c, 0, none⟩))) rfl) (q1 rfl rfl rfl (o_call (vs := [(.pointer (some ⟨c, 0, none⟩)), (.int .i64 24)]) Try.func23 nm23 rfl rfl rfl ?_))
 refine Calls.mono (pick_spec hX62.pins hb58 (hc.mono hx23.le) (by omega) (by omega) (n := 24) (by omega)) ?_
 rintro _ w70 ⟨z66, a68, s69, rfl, hz67, hb71, hda72, hds73, hx74⟩
 refine ⟨_, rfl, ?_⟩
 have hX75 := hX62.trans hx74 (fun i hi => lo_self i hi)
 have ho76 := ho63.extS hx74 (notO ha26)
 have hb77 := hb64.extS hx74 (notOb ha9)
 have hb78 := hb65.extS hx74 (notOb ha41)
 refine qe (s_then ?_)
 refine s_blk (s_seq (c_reg ?_))
 refine qd rfl rfl rfl (r_eql rfl rfl) (qd rfl rfl rfl (r_assign (v := (.bool (decide ((z66 : Int) = 0)))) rfl) (qe (s_then ?_)))
 refine c_ifd (p := (z66 : Int) = 0) rfl rfl (fun h79 => ?_) (fun h79 => ?_)
 have hlk := (isform_ok hif18 (by omega)).lens (z53).toNat (by omega)
 have hq80 := Gadd.pins hX75.pins u11
 have hr81 := ho76.read
 refine c_draw (S := fun wz => BxR wz b30 [u11] ∧ Pins (Gadd G15 w70 u11) wz) (last := 18) (by kernel_rfl) rfl ?_
 have hl82 : Below w70.heap.size w70 w70.drew := (Below.refl _ _).drew
 have hp83 := hX75.pins.below hl82
 have hX84 := hX75.step hp83 hl82
 have ho85 := ho76.below hl82
 have hb86 := hb71.below hl82
 have hb87 := hb77.below hl82
 have hb88 := hb78.below hl82
 have hq89 := hq80.below hl82
 refine dr_take (i := 0) rfl rfl rfl (want_none rfl _) (by kernel_rfl) (fun _ _ => r_fldp (k := 0) rfl Try.underlying26 rfl nz24 rfl) ⟨hb88.reads, hq89⟩ (dr_take (i := 1) rfl rfl rfl (want_none rfl _) (by kernel_rfl) (fun _ hS => r_ldp1 (u := u11) ag24 rfl (hS.1 0 _ rfl)) ⟨hb88.reads, hq89⟩ (dr_take (i := 2) rfl rfl rfl (want_none rfl _) (by kernel_rfl) (fun _ _ => r_move (v := (.int .i64 z53)) rfl) ⟨hb88.reads, hq89⟩ (dr_take (i := 3) rfl rfl rfl (want_none rfl _) (by kernel_rfl) (fun _ _ => r_fldp (k := 0) rfl Try.underlying26 rfl nz24 rfl) ⟨hb88.reads, hq89⟩ (dr_take (i := 4) rfl rfl rfl (want_none rfl _) (by kernel_rfl) (fun _ hS => r_ldp1 (u := u11) ag24 rfl (hS.1 0 _ rfl)) ⟨hb88.reads, hq89⟩ (dr_take (i := 5) rfl rfl rfl (want_none rfl _) (by kernel_rfl) (fun _ _ => r_move (v := (.int .i64 z53)) rfl) ⟨hb88.reads, hq89⟩ (dr_take (i := 6) rfl rfl rfl (want_none rfl _) (by kernel_rfl) (fun _ _ => run_idx Try.underlying24 sz48 (v := u11) rfl rfl hr81 (by omega) (by omega)) ⟨hb88.reads, hq89⟩ (dr_take (i := 7) rfl rfl rfl (want_none rfl _) (by kernel_rfl) (fun _ _ => run_fld (off := 0) Try.underlying48 rfl rfl nz46 (z := z53) (k := 0) rfl hr81 (by omega) (by omega)) ⟨hb88.reads, hq89⟩ ?_)))))))
 obtain ⟨u90, hr91, hl92⟩ := nm_nl (ho76.at (z := z53) (by omega) (by omega)) (j := (z53).toNat) rfl
 have hm93 := hr91.max
 refine dr_take (i := 8) rfl rfl rfl (want_none rfl _) (by kernel_rfl) (fun _ hS => hl92 ag46 rfl hS.2) ⟨hb88.reads, hq89⟩ (dr_take (i := 10) rfl rfl rfl (want_none rfl _) (by kernel_rfl) (fun _ _ => r_move (v := (.pointer (some ⟨c, 0, none⟩))) rfl) ⟨hb88.reads, hq89⟩ (dr_take (i := 11) rfl rfl rfl (want_none rfl _) (by kernel_rfl) (fun _ _ => r_move (v := (.int .i64 z53)) rfl) ⟨hb88.reads, hq89⟩ (dr_two (i := 9) (j := 12) (by kernel_rfl) ?_ ?_)))
 refine (drOp1 (i := 9) rfl rfl rfl (want_none rfl _) (o_call (vs := [u90]) Try.func24 nm24 rfl rfl rfl ?_))
 refine Calls.mono (l1Own_spec hX84.pins hr91 (by omega)) ?_
 rintro _ w96 ⟨u94, G95, rfl, ho97, hx98⟩
 refine ⟨_, rfl, ?_⟩
 have hX99 := hX84.tr hx98
 have ho100 := ho85.ext hx98
 have hb101 := hb86.ext hx98
 have hb102 := hb87.ext hx98
 have hb103 := hb88.ext hx98
 have ha104 : Apart u94.ownBlock u11.ownBlock := made_ne_own ho97.lt ho85.lt
 have ha105 : Apart u94.ownBlock (some c) := made_ne_box ho97.lt hb86.lt
 have ha106 : Apart u94.ownBlock (some b1) := made_ne_box ho97.lt hb87.lt
 have ha107 : Apart u94.ownBlock (some b30) := made_ne_box ho97.lt hb88.lt
 have ho108 : Own eInt 3 G95 w96 w.heap.size u94 (((formG g12).getD (z53).toNat default).l) := ho97.weaken hX84.size
 have hq109 := hq89.below hx98.below
 refine ⟨fun _ => ⟨hb103.reads, hq109⟩, ?_⟩
 refine dr_one (i := 12) (by kernel_rfl) (drOp1 (i := 12) rfl rfl rfl (want_none rfl _) (o_buildF (E := eInt) (e := 3) [(.int .i64 0), (.int .i64 z53), (.int .i64 (-1)), (.int .i64 1)] [0, z53, (-1), 1] Try.underlying46 sz3 zr3 (by exact reps4 (by rfl) (by rfl) (by rfl) (by rfl)) (ones4 (by rfl) (by rfl) (by rfl) (by rfl)) rfl rfl rfl rfl (by decide) hX99.pins (fun u110 w111 ho112 hp113 hl114 hk115 => ?_)))
 have hX116 := hX99.step hp113 hl114
 have ho117 := ho100.below hl114
 have ho118 := ho108.below hl114
 have hb119 := hb101.below hl114
 have hb120 := hb102.below hl114
 have hb121 := hb103.below hl114
 have ha122 : Apart u110.ownBlock u11.ownBlock := new_ne_own hk115 ho100.lt
 have ha123 : Apart u110.ownBlock u94.ownBlock := new_ne_own hk115 ho108.lt
 have ha124 : Apart u110.ownBlock (some c) := new_ne_box hk115 hb101.lt
 have ha125 : Apart u110.ownBlock (some b1) := new_ne_box hk115 hb102.lt
 have ha126 : Apart u110.ownBlock (some b30) := new_ne_box hk115 hb103.lt
 have ho127 : Own eInt 3 G95 w111 w.heap.size u110 ([0, z53, (-1), 1]) := ho112.weaken hX99.size
 have hq128 := hq109.below hl114
 refine ⟨fun _ => ⟨hb121.reads, hq128⟩, ?_⟩
 obtain ⟨G129, hle132, hX131, hr130, hf133⟩ := ho127.sealed hX116
 have ho134 := ho117.moreO hle132 hf133 ha122.symm
 have ho135 := ho118.moreO hle132 hf133 ha123.symm
 have hb136 := hb119.moreO hf133 ha124.symm
 have hb137 := hb120.moreO hf133 ha125.symm
 have hb138 := hb121.moreO hf133 ha126.symm
 refine dr_one (i := 13) (by kernel_rfl) (drOp1 (i := 13) rfl rfl rfl (want_none rfl _) (o_call (vs := [(.pointer (some ⟨c, 0, none⟩)), u110]) Try.func25 nm25 rfl rfl rfl ?_))
 refine Calls.mono (among_spec hX131.pins hb136 (hc.mono (Pin.le_trans (Pin.le_trans hx23.le hx98.le) hle132)) (by omega) (by omega) hr130 (by simp)) ?_
 rintro _ w143 ⟨z139, a141, s142, rfl, hz140, hb144, hda145, hds146, hx147⟩
 refine ⟨_, rfl, ?_⟩
 have hX148 := hX131.trans hx147 (fun i hi => lo_self i hi)
 have ho149 := ho134.extS hx147 (notO ha26)
 have ho150 := ho135.extS hx147 (notO ha105)
 have hb151 := hb137.extS hx147 (notOb ha9)
 have hb152 := hb138.extS hx147 (notOb ha41)
 have hq153 := Gadd.turn hq128 (Pins.of_le hX148.pins (Pin.le_trans hx98.le hle132)) hx147 (notO ha26)
 refine ⟨fun _ => ⟨hb152.reads, hq153⟩, ?_⟩
 refine dr_one (i := 14) (by kernel_rfl) (drOp1 (i := 14) rfl rfl rfl (want_none rfl _) (o_buildF (E := eInt) (e := 3) [(.int .i64 z139)] [z139] Try.underlying46 sz3 zr3 (by exact reps1 (by rfl)) (ones1 (by rfl)) rfl rfl rfl rfl (by decide) hX148.pins (fun u154 w155 ho156 hp157 hl158 hk159 => ?_)))
 have hX160 := hX148.step hp157 hl158
 have ho161 := ho149.below hl158
 have ho162 := ho150.below hl158
 have hb163 := hb144.below hl158
 have hb164 := hb151.below hl158
 have hb165 := hb152.below hl158
 have ho171 : Own eInt 3 G129 w155 w.heap.size u154 ([z139]) := ho156.weaken hX148.size
 have hq172 := hq153.below hl158
 refine ⟨fun _ => ⟨hb165.reads, hq172⟩, ?_⟩
 refine dr_one (i := 15) (by kernel_rfl) (drOp1 (i := 15) rfl rfl rfl (want_none rfl _) (o_append (E := eInt) (v := u94) (u := u154) 8 Try.underlying46 ap3 (by decide) rfl rfl hX160.pins ho162 ho171.src (by first | omega | (rw [List.nil_append]; omega) | (rw [List.length_nil]; omega) | (rw [List.length_append]; omega) | (simp; done) | (simp; omega) | (simp only [List.length_cons, List.length_nil]; omega) | (simp only [List.length_append, List.length_cons, List.length_nil]; omega)) (by first | omega | (rw [List.nil_append]; omega) | (rw [List.length_nil]; omega) | (rw [List.length_append]; omega) | (simp; done) | (simp; omega) | (simp only [List.length_cons, List.length_nil]; omega) | (simp only [List.length_append, List.length_cons, List.length_nil]; omega)) (hX160.size) (fun u173 w174 ho175 hp176 hg177 hw178 => ?_)))
 have hX179 := hX160.write hp176 hg177 ((lo_own ho162))
 have ho180 := ho161.keptA hg177 ha104.symm
 have hb182 := hb163.keptA hg177 ha105.symm
 have hb183 := hb164.keptA hg177 ha106.symm
 have hb184 := hb165.keptA hg177 ha107.symm
 have ha185 : Apart u11.ownBlock u173.ownBlock := app_ne_own ha104.symm hw178 ho161.lt
 have ha187 : Apart (some c) u173.ownBlock := app_ne_box ha105.symm hw178 hb163.lt
 have ha188 : Apart (some b1) u173.ownBlock := app_ne_box ha106.symm hw178 hb164.lt
 have ha189 : Apart (some b30) u173.ownBlock := app_ne_box ha107.symm hw178 hb165.lt
 have hm190 : ((((formG g12).getD (z53).toNat default).l) ++ ([z139])).length = (((formG g12).getD (z53).toNat default).l).length + 1 := List.length_append
 have hq191 := Gadd.turn hq172 (Pins.of_le hX179.pins (Pin.le_trans hx98.le hle132)) (Ext.one hp176 hg177) (notO ha104.symm)
 refine ⟨fun _ => ⟨hb184.reads, hq191⟩, ?_⟩
 refine dr_one (i := 16) (by kernel_rfl) (drOp1 (i := 16) rfl rfl rfl (want_none rfl _) (EO.run (run_idx Try.underlying24 sz48 (v := u11) rfl rfl hr81 (by omega) (by omega)) ⟨fun _ => ⟨hb184.reads, hq191⟩, ?_⟩))
 refine dr_take (i := 17) rfl rfl rfl (want_none rfl _) (by kernel_rfl) (fun _ _ => run_fld (off := 0) Try.underlying48 rfl rfl nz46 (z := z53) (k := 0) rfl hr81 (by omega) (by omega)) ⟨hb184.reads, hq191⟩ ?_
 obtain ⟨G192, hle195, hX194, hr193, hf196⟩ := ho175.sealed hX179
 have ho197 := ho180.moreO hle195 hf196 ha185
 have hb198 := hb182.moreO hf196 ha187
 have hb199 := hb183.moreO hf196 ha188
 have hb200 := hb184.moreO hf196 ha189
 refine dr_one (i := 18) (by kernel_rfl) (drOp0 (i := 18) rfl rfl rfl (want_none rfl _) (o_setNL (v := u11) (z := z53) (u := u173) sz46 rfl rfl hr193 hX194.pins ho197 (by omega) (by omega) (fun w201 ho202 hp203 hg204 hz205 => ?_)))
 have hX206 := hX194.write hp203 hg204 ((lo_own ho197))
 have hb207 := hb198.keptA hg204 ha26.symm
 have hb208 := hb199.keptA hg204 ha27.symm
 have hb209 := hb200.keptA hg204 ha40
 refine ⟨fun h => absurd rfl h, ?_⟩
 refine dr_end (by kernel_rfl) (s_blkN (s_then (s_seq (c_reg ?_))))
 refine qd rfl rfl rfl (r_ldpA (cs := [u11]) ag26 sz26 rfl (fun j u hj => hb209.cell (by simpa using hj))) (q0 rfl rfl rfl (o_stp (cs' := [u11]) (us := [u11]) (v := (.agg [u11].toArray)) sz26 rfl rfl rfl (ones1 ho202.one) hX206.pins hb208 (Nat.le_of_ble_eq_true rfl) rfl (fun w210 hb211 hp212 hg213 hz214 => ?_)))
 have hX215 := hX206.write hp212 hg213 ((lo_box hlo10))
 have ho216 := ho202.keptA hg213 ha27
 have hb217 := hb207.keptA hg213 ha9.symm
 refine qe (s_then ?_)
 refine wp_ret (s_ret (c_retc (cs := [u11]) rfl rfl rfl ag26 sz26 (fun j u hj => by rw [Nat.zero_add]; exact hb211.cell hj) ?_))
 obtain ⟨G219, hle222, hX221, hr220, hf223⟩ := ho216.sealed hX215
 have hb224 := hb217.moreO hf223 ha26.symm
 exact ⟨_, _, _, _, _, rfl, hr220, hb224, (by omega), (by omega), hX221⟩
 refine (drOp1 (i := 12) rfl rfl rfl (want_none rfl _) (o_buildF (E := eInt) (e := 3) [(.int .i64 0), (.int .i64 z53), (.int .i64 (-1)), (.int .i64 1)] [0, z53, (-1), 1] Try.underlying46 sz3 zr3 (by exact reps4 (by rfl) (by rfl) (by rfl) (by rfl)) (ones4 (by rfl) (by rfl) (by rfl) (by rfl)) rfl rfl rfl rfl (by decide) hX84.pins (fun u227 w228 ho229 hp230 hl231 hk232 => ?_)))
 have hX233 := hX84.step hp230 hl231
 have ho234 := ho85.below hl231
 have hb235 := hb86.below hl231
 have hb236 := hb87.below hl231
 have hb237 := hb88.below hl231
 have ha238 : Apart u227.ownBlock u11.ownBlock := new_ne_own hk232 ho85.lt
 have ha239 : Apart u227.ownBlock (some c) := new_ne_box hk232 hb86.lt
 have ha240 : Apart u227.ownBlock (some b1) := new_ne_box hk232 hb87.lt
 have ha241 : Apart u227.ownBlock (some b30) := new_ne_box hk232 hb88.lt
 have ho242 : Own eInt 3 G15 w228 w.heap.size u227 ([0, z53, (-1), 1]) := ho229.weaken hX84.size
 have hq243 := hq89.below hl231
 refine ⟨fun _ => ⟨hb237.reads, hq243⟩, ?_⟩
 refine dr_one (i := 9) (by kernel_rfl) (drOp1 (i := 9) rfl rfl rfl (want_none rfl _) (o_call (vs := [u90]) Try.func24 nm24 rfl rfl rfl ?_))
 refine Calls.mono (l1Own_spec hX233.pins hr91 (by omega)) ?_
 rintro _ w246 ⟨u244, G245, rfl, ho247, hx248⟩
 refine ⟨_, rfl, ?_⟩
 have hX249 := hX233.tr hx248
 have ho250 := ho234.ext hx248
 have ho251 := ho242.ext hx248
 have hb252 := hb235.ext hx248
 have hb253 := hb236.ext hx248
 have hb254 := hb237.ext hx248
 have ha255 : Apart u244.ownBlock u11.ownBlock := made_ne_own ho247.lt ho234.lt
 have ha256 : Apart u244.ownBlock u227.ownBlock := made_ne_own ho247.lt ho242.lt
 have ha257 : Apart u244.ownBlock (some c) := made_ne_box ho247.lt hb235.lt
 have ha258 : Apart u244.ownBlock (some b1) := made_ne_box ho247.lt hb236.lt
 have ha259 : Apart u244.ownBlock (some b30) := made_ne_box ho247.lt hb237.lt
 have ho260 : Own eInt 3 G245 w246 w.heap.size u244 (((formG g12).getD (z53).toNat default).l) := ho247.weaken hX233.size
 have hq261 := hq243.below hx248.below
 refine ⟨fun _ => ⟨hb254.reads, hq261⟩, ?_⟩
 obtain ⟨G262, hle265, hX264, hr263, hf266⟩ := ho251.sealed hX249
 have ho267 := ho250.moreO hle265 hf266 ha238.symm
 have ho268 := ho260.moreO hle265 hf266 ha256
 have hb269 := hb252.moreO hf266 ha239.symm
 have hb270 := hb253.moreO hf266 ha240.symm
 have hb271 := hb254.moreO hf266 ha241.symm
 refine dr_one (i := 13) (by kernel_rfl) (drOp1 (i := 13) rfl rfl rfl (want_none rfl _) (o_call (vs := [(.pointer (some ⟨c, 0, none⟩)), u227]) Try.func25 nm25 rfl rfl rfl ?_))
 refine Calls.mono (among_spec hX264.pins hb269 (hc.mono (Pin.le_trans (Pin.le_trans hx23.le hx248.le) hle265)) (by omega) (by omega) hr263 (by simp)) ?_
 rintro _ w276 ⟨z272, a274, s275, rfl, hz273, hb277, hda278, hds279, hx280⟩
 refine ⟨_, rfl, ?_⟩
 have hX281 := hX264.trans hx280 (fun i hi => lo_self i hi)
 have ho282 := ho267.extS hx280 (notO ha26)
 have ho283 := ho268.extS hx280 (notO ha257)
 have hb284 := hb270.extS hx280 (notOb ha9)
 have hb285 := hb271.extS hx280 (notOb ha41)
 have hq286 := Gadd.turn hq261 (Pins.of_le hX281.pins (Pin.le_trans hx248.le hle265)) hx280 (notO ha26)
 refine ⟨fun _ => ⟨hb285.reads, hq286⟩, ?_⟩
 refine dr_one (i := 14) (by kernel_rfl) (drOp1 (i := 14) rfl rfl rfl (want_none rfl _) (o_buildF (E := eInt) (e := 3) [(.int .i64 z272)] [z272] Try.underlying46 sz3 zr3 (by exact reps1 (by rfl)) (ones1 (by rfl)) rfl rfl rfl rfl (by decide) hX281.pins (fun u287 w288 ho289 hp290 hl291 hk292 => ?_)))
 have hX293 := hX281.step hp290 hl291
 have ho294 := ho282.below hl291
 have ho295 := ho283.below hl291
 have hb296 := hb277.below hl291
 have hb297 := hb284.below hl291
 have hb298 := hb285.below hl291
 have ho304 : Own eInt 3 G262 w288 w.heap.size u287 ([z272]) := ho289.weaken hX281.size
 have hq305 := hq286.below hl291
 refine ⟨fun _ => ⟨hb298.reads, hq305⟩, ?_⟩
 refine dr_one (i := 15) (by kernel_rfl) (drOp1 (i := 15) rfl rfl rfl (want_none rfl _) (o_append (E := eInt) (v := u244) (u := u287) 8 Try.underlying46 ap3 (by decide) rfl rfl hX293.pins ho295 ho304.src (by first | omega | (rw [List.nil_append]; omega) | (rw [List.length_nil]; omega) | (rw [List.length_append]; omega) | (simp; done) | (simp; omega) | (simp only [List.length_cons, List.length_nil]; omega) | (simp only [List.length_append, List.length_cons, List.length_nil]; omega)) (by first | omega | (rw [List.nil_append]; omega) | (rw [List.length_nil]; omega) | (rw [List.length_append]; omega) | (simp; done) | (simp; omega) | (simp only [List.length_cons, List.length_nil]; omega) | (simp only [List.length_append, List.length_cons, List.length_nil]; omega)) (hX293.size) (fun u306 w307 ho308 hp309 hg310 hw311 => ?_)))
 have hX312 := hX293.write hp309 hg310 ((lo_own ho295))
 have ho313 := ho294.keptA hg310 ha255.symm
 have hb315 := hb296.keptA hg310 ha257.symm
 have hb316 := hb297.keptA hg310 ha258.symm
 have hb317 := hb298.keptA hg310 ha259.symm
 have ha318 : Apart u11.ownBlock u306.ownBlock := app_ne_own ha255.symm hw311 ho294.lt
 have ha320 : Apart (some c) u306.ownBlock := app_ne_box ha257.symm hw311 hb296.lt
 have ha321 : Apart (some b1) u306.ownBlock := app_ne_box ha258.symm hw311 hb297.lt
 have ha322 : Apart (some b30) u306.ownBlock := app_ne_box ha259.symm hw311 hb298.lt
 have hm323 : ((((formG g12).getD (z53).toNat default).l) ++ ([z272])).length = (((formG g12).getD (z53).toNat default).l).length + 1 := List.length_append
 have hq324 := Gadd.turn hq305 (Pins.of_le hX312.pins (Pin.le_trans hx248.le hle265)) (Ext.one hp309 hg310) (notO ha255.symm)
 refine ⟨fun _ => ⟨hb317.reads, hq324⟩, ?_⟩
 refine dr_one (i := 16) (by kernel_rfl) (drOp1 (i := 16) rfl rfl rfl (want_none rfl _) (EO.run (run_idx Try.underlying24 sz48 (v := u11) rfl rfl hr81 (by omega) (by omega)) ⟨fun _ => ⟨hb317.reads, hq324⟩, ?_⟩))
 refine dr_take (i := 17) rfl rfl rfl (want_none rfl _) (by kernel_rfl) (fun _ _ => run_fld (off := 0) Try.underlying48 rfl rfl nz46 (z := z53) (k := 0) rfl hr81 (by omega) (by omega)) ⟨hb317.reads, hq324⟩ ?_
 obtain ⟨G325, hle328, hX327, hr326, hf329⟩ := ho308.sealed hX312
 have ho330 := ho313.moreO hle328 hf329 ha318
 have hb331 := hb315.moreO hf329 ha320
 have hb332 := hb316.moreO hf329 ha321
 have hb333 := hb317.moreO hf329 ha322
 refine dr_one (i := 18) (by kernel_rfl) (drOp0 (i := 18) rfl rfl rfl (want_none rfl _) (o_setNL (v := u11) (z := z53) (u := u306) sz46 rfl rfl hr326 hX327.pins ho330 (by omega) (by omega) (fun w334 ho335 hp336 hg337 hz338 => ?_)))
 have hX339 := hX327.write hp336 hg337 ((lo_own ho330))
 have hb340 := hb331.keptA hg337 ha26.symm
 have hb341 := hb332.keptA hg337 ha27.symm
 have hb342 := hb333.keptA hg337 ha40
 refine ⟨fun h => absurd rfl h, ?_⟩
 refine dr_end (by kernel_rfl) (s_blkN (s_then (s_seq (c_reg ?_))))
 refine qd rfl rfl rfl (r_ldpA (cs := [u11]) ag26 sz26 rfl (fun j u hj => hb342.cell (by simpa using hj))) (q0 rfl rfl rfl (o_stp (cs' := [u11]) (us := [u11]) (v := (.agg [u11].toArray)) sz26 rfl rfl rfl (ones1 ho335.one) hX339.pins hb341 (Nat.le_of_ble_eq_true rfl) rfl (fun w343 hb344 hp345 hg346 hz347 => ?_)))
 have hX348 := hX339.write hp345 hg346 ((lo_box hlo10))
 have ho349 := ho335.keptA hg346 ha27
 have hb350 := hb340.keptA hg346 ha9.symm
 refine qe (s_then ?_)
 refine wp_ret (s_ret (c_retc (cs := [u11]) rfl rfl rfl ag26 sz26 (fun j u hj => by rw [Nat.zero_add]; exact hb344.cell hj) ?_))
 obtain ⟨G352, hle355, hX354, hr353, hf356⟩ := ho349.sealed hX348
 have hb357 := hb350.moreO hf356 ha26.symm
 exact ⟨_, _, _, _, _, rfl, hr353, hb357, (by omega), (by omega), hX354⟩
 refine s_seq (c_reg ?_)
 refine qd rfl rfl rfl (r_eql rfl rfl) (qd rfl rfl rfl (r_assign (v := (.bool (decide ((z66 : Int) = 1)))) rfl) (qe (s_then ?_)))
 refine c_ifd (p := (z66 : Int) = 1) rfl rfl (fun h360 => ?_) (fun h360 => ?_)
 refine c_reg (qd rfl rfl rfl (r_fldp (k := 0) rfl Try.underlying26 rfl nz24 rfl) (qd rfl rfl rfl (r_ldp1 (u := u11) ag24 rfl (hb78.cell (o := 0) rfl)) (q1 rfl rfl rfl (o_buildF (E := eInt) (e := 3) [(.int .i64 0)] [0] Try.underlying46 sz3 zr3 (by exact reps1 (by rfl)) (ones1 (by rfl)) rfl rfl rfl rfl (by decide) hX75.pins (fun u361 w362 ho363 hp364 hl365 hk366 => ?_)))))
 have hX367 := hX75.step hp364 hl365
 have ho368 := ho76.below hl365
 have hb369 := hb71.below hl365
 have hb370 := hb77.below hl365
 have hb371 := hb78.below hl365
 have ha372 : Apart u361.ownBlock u11.ownBlock := new_ne_own hk366 ho76.lt
 have ha373 : Apart u361.ownBlock (some c) := new_ne_box hk366 hb71.lt
 have ha374 : Apart u361.ownBlock (some b1) := new_ne_box hk366 hb77.lt
 have ha375 : Apart u361.ownBlock (some b30) := new_ne_box hk366 hb78.lt
 have ho376 : Own eInt 3 G15 w362 w.heap.size u361 ([0]) := ho363.weaken hX75.size
 refine qd rfl rfl rfl (r_build [(.slice none 0 0), (.slice none 0 0)] [(.slice none 0 0), u361] [(1, u361, [u361])] Try.underlying48 zr48 rfl pl48 rfl (List.forall_mem_cons.2 ⟨(cells_one ho376.one), (fun _ h => by cases h)⟩) rfl) ?_
 obtain ⟨G377, hle380, hX379, hr378, hf381⟩ := ho376.sealed hX367
 have ho382 := ho368.moreO hle380 hf381 ha372.symm
 have hb383 := hb369.moreO hf381 ha373.symm
 have hb384 := hb370.moreO hf381 ha374.symm
 have hb385 := hb371.moreO hf381 ha375.symm
 refine q1 rfl rfl rfl (o_build1 (E := eNode) (e := 48) [(.slice none 0 0), u361] (⟨[], [0]⟩ : Nd) Try.underlying24 sz48 zr48 ⟨_, _, rfl, (nil_reads _ _), hr378⟩ rfl (by decide) hX379.pins (fun u386 w387 ho388 hp389 hl390 hk391 => ?_))
 have hX392 := hX379.step hp389 hl390
 have ho393 := ho382.below hl390
 have hb394 := hb383.below hl390
 have hb395 := hb384.below hl390
 have hb396 := hb385.below hl390
 have ho401 : Own eNode 48 G377 w387 w.heap.size u386 ([(⟨[], [0]⟩ : Nd)]) := ho388.weaken hX379.size
 refine q1 rfl rfl rfl (o_append (E := eNode) (v := u11) (u := u386) 48 Try.underlying24 ap48 (by decide) rfl rfl hX392.pins ho393 ho401.src (by first | omega | (rw [List.nil_append]; omega) | (rw [List.length_nil]; omega) | (rw [List.length_append]; omega) | (simp; done) | (simp; omega) | (simp only [List.length_cons, List.length_nil]; omega) | (simp only [List.length_append, List.length_cons, List.length_nil]; omega)) (by first | omega | (rw [List.nil_append]; omega) | (rw [List.length_nil]; omega) | (rw [List.length_append]; omega) | (simp; done) | (simp; omega) | (simp only [List.length_cons, List.length_nil]; omega) | (simp only [List.length_append, List.length_cons, List.length_nil]; omega)) (hX392.size) (fun u402 w403 ho404 hp405 hg406 hw407 => ?_))
 have hX408 := hX392.write hp405 hg406 ((lo_own ho393))
 have hb410 := hb394.keptA hg406 ha26.symm
 have hb411 := hb395.keptA hg406 ha27.symm
 have hb412 := hb396.keptA hg406 ha40
 have ha414 : Apart (some c) u402.ownBlock := app_ne_box ha26.symm hw407 hb394.lt
 have ha415 : Apart (some b1) u402.ownBlock := app_ne_box ha27.symm hw407 hb395.lt
 have ha416 : Apart (some b30) u402.ownBlock := app_ne_box ha40 hw407 hb396.lt
 have hm417 : ((formG g12) ++ ([(⟨[], [0]⟩ : Nd)])).length = (formG g12).length + 1 := List.length_append
 refine qd rfl rfl rfl (r_fldp (k := 0) rfl Try.underlying26 rfl nz24 rfl) (q0 rfl rfl rfl (o_stp (cs' := [u402]) (us := [u402]) (v := u402) sz24 rfl rfl (cells1 ho404.one) (ones1 ho404.one) hX408.pins hb412 (Nat.le_of_ble_eq_true rfl) rfl (fun w418 hb419 hp420 hg421 hz422 => ?_)))
 have hX423 := hX408.write hp420 hg421 ((lo_box hlo43))
 have ho424 := ho404.keptA hg421 ha416.symm
 have hb425 := hb410.keptA hg421 ha41.symm
 have hb426 := hb411.keptA hg421 ha42.symm
 refine qe (s_blkN (s_then (s_seq (c_reg ?_))))
 refine qd rfl rfl rfl (r_ldpA (cs := [u402]) ag26 sz26 rfl (fun j u hj => hb419.cell (by simpa using hj))) (q0 rfl rfl rfl (o_stp (cs' := [u402]) (us := [u402]) (v := (.agg [u402].toArray)) sz26 rfl rfl rfl (ones1 ho424.one) hX423.pins hb426 (Nat.le_of_ble_eq_true rfl) rfl (fun w427 hb428 hp429 hg430 hz431 => ?_)))
 have hX432 := hX423.write hp429 hg430 ((lo_box hlo10))
 have ho433 := ho424.keptA hg430 ha415.symm
 have hb434 := hb425.keptA hg430 ha9.symm
 refine qe (s_then ?_)
 refine wp_ret (s_ret (c_retc (cs := [u402]) rfl rfl rfl ag26 sz26 (fun j u hj => by rw [Nat.zero_add]; exact hb428.cell hj) ?_))
 obtain ⟨G436, hle439, hX438, hr437, hf440⟩ := ho433.sealed hX432
 have hb441 := hb434.moreO hf440 ha414
 exact ⟨_, _, _, _, _, rfl, hr437, hb441, (by omega), (by omega), hX438⟩
 refine s_seq (c_reg ?_)
 refine qd rfl rfl rfl (r_eql rfl rfl) (qd rfl rfl rfl (r_assign (v := (.bool (decide ((z66 : Int) = 2)))) rfl) (qe (s_then ?_)))
 refine c_ifd (p := (z66 : Int) = 2) rfl rfl (fun h444 => ?_) (fun h444 => ?_)
 refine c_reg (qd rfl rfl rfl (r_fldp (k := 0) rfl Try.underlying26 rfl nz24 rfl) (qd rfl rfl rfl (r_ldp1 (u := u11) ag24 rfl (hb78.cell (o := 0) rfl)) (qd rfl rfl rfl (r_fldp (k := 0) rfl Try.underlying26 rfl nz24 rfl) (qd rfl rfl rfl (r_ldp1 (u := u11) ag24 rfl (hb78.cell (o := 0) rfl)) (qd rfl rfl rfl (run_len Try.underlying24 (v := u11) rfl ho76.read) (qd rfl rfl rfl (r_sub rfl rfl (by omega)) ?_))))))
 obtain ⟨u445, ho446, hb447, hl448⟩ := own_cut ho76 ((((formG g12).length : Int) - 1).toNat) (((formG g12).length : Int) - 1) (by omega) rfl (by omega) (by omega)
 have ha449 : Apart u445.ownBlock (some c) := by rw [hb447]; exact ha26
 have ha450 : Apart u445.ownBlock (some b1) := by rw [hb447]; exact ha27
 have ha451 : Apart (some b30) u445.ownBlock := by rw [hb447]; exact ha40
 refine qd rfl rfl rfl (hl448 Try.underlying24 sz48 rfl rfl rfl) (qd rfl rfl rfl (r_fldp (k := 0) rfl Try.underlying26 rfl nz24 rfl) (q0 rfl rfl rfl (o_stp (cs' := [u445]) (us := [u445]) (v := u445) sz24 rfl rfl (cells1 ho446.one) (ones1 ho446.one) hX75.pins hb78 (Nat.le_of_ble_eq_true rfl) rfl (fun w452 hb453 hp454 hg455 hz456 => ?_))))
 have hX457 := hX75.write hp454 hg455 ((lo_box hlo43))
 have ho458 := ho446.keptA hg455 ha451.symm
 have hb459 := hb71.keptA hg455 ha41.symm
 have hb460 := hb77.keptA hg455 ha42.symm
 refine qe (s_blkN (s_then (s_seq (c_reg ?_))))
 refine qd rfl rfl rfl (r_ldpA (cs := [u445]) ag26 sz26 rfl (fun j u hj => hb453.cell (by simpa using hj))) (q0 rfl rfl rfl (o_stp (cs' := [u445]) (us := [u445]) (v := (.agg [u445].toArray)) sz26 rfl rfl rfl (ones1 ho458.one) hX457.pins hb460 (Nat.le_of_ble_eq_true rfl) rfl (fun w461 hb462 hp463 hg464 hz465 => ?_)))
 have hX466 := hX457.write hp463 hg464 ((lo_box hlo10))
 have ho467 := ho458.keptA hg464 ha450
 have hb468 := hb459.keptA hg464 ha9.symm
 refine qe (s_then ?_)
 refine wp_ret (s_ret (c_retc (cs := [u445]) rfl rfl rfl ag26 sz26 (fun j u hj => by rw [Nat.zero_add]; exact hb462.cell hj) ?_))
 obtain ⟨G470, hle473, hX472, hr471, hf474⟩ := ho467.sealed hX466
 have hb475 := hb468.moreO hf474 ha449.symm
 exact ⟨_, _, _, _, _, rfl, hr471, hb475, (by omega), (by omega), hX472⟩
 refine s_seq (c_reg ?_)
 refine qd rfl rfl rfl (r_eql rfl rfl) (qd rfl rfl rfl (r_assign (v := (.bool (decide ((z66 : Int) = 3)))) rfl) (qe (s_then ?_)))
 refine c_ifd (p := (z66 : Int) = 3) rfl rfl (fun h478 => ?_) (fun h478 => ?_)
 refine s_seq (c_reg ?_)
 refine qd rfl rfl rfl (r_fldp (k := 0) rfl Try.underlying26 rfl nz24 rfl) (qd rfl rfl rfl (r_ldp1 (u := u11) ag24 rfl (hb78.cell (o := 0) rfl)) (qd rfl rfl rfl (run_idx Try.underlying24 sz48 (v := u11) rfl rfl ho76.read (by omega) (by omega)) ?_))
 obtain ⟨u479, u480, hr481, hr482, hl483⟩ := nm_node (ho76.at (z := 0) (by omega) (by omega)) (j := 0) rfl
 have hm484 := hr481.max
 have hm485 := hr482.max
 refine qd rfl rfl rfl (hl483 ag48 sz48 rfl (Gadd.pins hX75.pins u11)) (q1 rfl rfl rfl (o_alloc [(.slice none 0 0), (.slice none 0 0)] zr48 rfl hX75.pins (fun b486 w487 hk488 hb489 hp490 hl491 => ?_)))
 have hX492 := hX75.step hp490 hl491
 have ho493 := ho76.below hl491
 have hb494 := hb71.below hl491
 have hb495 := hb77.below hl491
 have hb496 := hb78.below hl491
 have ha497 : Apart (some b486) u11.ownBlock := new_ne_own (congrArg some hk488) ho76.lt
 have ha498 : Apart (some b486) (some c) := new_ne_box (congrArg some hk488) hb71.lt
 have ha499 : Apart (some b486) (some b1) := new_ne_box (congrArg some hk488) hb77.lt
 have ha500 : Apart (some b486) (some b30) := new_ne_box (congrArg some hk488) hb78.lt
 have hlo501 : w.heap.size ≤ b486 := by have := hX75.size; omega
 refine q0 rfl rfl rfl (o_stp (cs' := [u479, u480]) (us := [u479, u480]) (v := (.agg [u479, u480].toArray)) sz48 rfl rfl rfl (ones2 hr481.one hr482.one) hX492.pins hb489 (Nat.le_of_ble_eq_true rfl) rfl (fun w502 hb503 hp504 hg505 hz506 => ?_))
 have hX507 := hX492.write hp504 hg505 ((lo_box hlo501))
 have ho508 := ho493.keptA hg505 ha497.symm
 have hb509 := hb494.keptA hg505 ha498.symm
 have hb510 := hb495.keptA hg505 ha499.symm
 have hb511 := hb496.keptA hg505 ha500.symm
 obtain ⟨G512, hle513, hX514, hbp515, hf516⟩ := hb503.shut hX507 hlo501
 have ho517 := ho508.moreA hle513 hf516 ha497.symm
 have hb518 := hb509.moreA hf516 ha498.symm
 have hb519 := hb510.moreA hf516 ha499.symm
 have hb520 := hb511.moreA hf516 ha500.symm
 refine qe (s_then (s_seq ?_))
 have hq521 := Gadd.pins hX514.pins u11
 have hr522 := ho517.read
 refine c_draw (S := fun wz => BxR wz b30 [u11] ∧ Pins (Gadd G512 w502 u11) wz) (last := 8) (by kernel_rfl) rfl ?_
 have hl523 : Below w502.heap.size w502 w502.drew := (Below.refl _ _).drew
 have hp524 := hX514.pins.below hl523
 have hX525 := hX514.step hp524 hl523
 have ho526 := ho517.below hl523
 have hb527 := hb518.below hl523
 have hb528 := hb519.below hl523
 have hb529 := hb520.below hl523
 have hq530 := hq521.below hl523
 refine dr_take (i := 0) rfl rfl rfl (want_none rfl _) (by kernel_rfl) (fun _ _ => r_fldp (k := 0) rfl Try.underlying26 rfl nz24 rfl) ⟨hb529.reads, hq530⟩ (dr_take (i := 1) rfl rfl rfl (want_none rfl _) (by kernel_rfl) (fun _ hS => r_ldp1 (u := u11) ag24 rfl (hS.1 0 _ rfl)) ⟨hb529.reads, hq530⟩ (dr_take (i := 2) rfl rfl rfl (want_none rfl _) (by kernel_rfl) (fun _ _ => r_fldp (k := 0) rfl Try.underlying26 rfl nz24 rfl) ⟨hb529.reads, hq530⟩ (dr_take (i := 3) rfl rfl rfl (want_none rfl _) (by kernel_rfl) (fun _ hS => r_ldp1 (u := u11) ag24 rfl (hS.1 0 _ rfl)) ⟨hb529.reads, hq530⟩ (dr_take (i := 4) rfl rfl rfl (want_none rfl _) (by kernel_rfl) (fun _ _ => r_move (v := (.int .i64 z53)) rfl) ⟨hb529.reads, hq530⟩ (dr_take (i := 5) rfl rfl rfl (want_none rfl _) (by kernel_rfl) (fun _ _ => run_idx Try.underlying24 sz48 (v := u11) rfl rfl hr522 (by omega) (by omega)) ⟨hb529.reads, hq530⟩ ?_)))))
 obtain ⟨u531, u532, hr533, hr534, hl535⟩ := nm_node (ho517.at (z := z53) (by omega) (by omega)) (j := (z53).toNat) rfl
 have hm536 := hr533.max
 have hm537 := hr534.max
 refine dr_take (i := 6) rfl rfl rfl (want_none rfl _) (by kernel_rfl) (fun _ hS => hl535 ag48 sz48 rfl hS.2) ⟨hb529.reads, hq530⟩ (dr_take (i := 7) rfl rfl rfl (want_none rfl _) (by kernel_rfl) (fun _ _ => run_idx Try.underlying24 sz48 (v := u11) rfl rfl hr522 (by omega) (by omega)) ⟨hb529.reads, hq530⟩ (dr_one (i := 8) (by kernel_rfl) (drOp0 (i := 8) rfl rfl rfl (want_none rfl _) (o_set (E := eNode) (v := u11) (u := (.agg [u531, u532].toArray)) (z := 0) ((⟨((formG g12).getD (z53).toNat default).l, ((formG g12).getD (z53).toNat default).r⟩ : Nd)) sz48 rfl rfl rfl ⟨_, _, rfl, hr533, hr534⟩ hX525.pins ho526 (by omega) (by omega) (fun w538 ho539 hp540 hg541 hz542 => ?_)))))
 have hX543 := hX525.write hp540 hg541 ((lo_own ho526))
 have hb544 := hb527.keptA hg541 ha26.symm
 have hb545 := hb528.keptA hg541 ha27.symm
 have hb546 := hb529.keptA hg541 ha40
 have ho547 : Own eNode 48 G512 w538 w.heap.size u11 ((formG g12).set 0 (⟨((formG g12).getD (z53).toNat default).l, ((formG g12).getD (z53).toNat default).r⟩ : Nd)) := ho539
 have hm548 : ((formG g12).set 0 (⟨((formG g12).getD (z53).toNat default).l, ((formG g12).getD (z53).toNat default).r⟩ : Nd)).length = (formG g12).length := List.length_set ..
 refine ⟨fun h => absurd rfl h, ?_⟩
 refine dr_end (by kernel_rfl) (s_then (c_reg ?_))
 refine qd rfl rfl rfl (r_fldp (k := 0) rfl Try.underlying26 rfl nz24 rfl) (qd rfl rfl rfl (r_ldp1 (u := u11) ag24 rfl (hb546.cell (o := 0) rfl)) (qd rfl rfl rfl (r_move (v := (.int .i64 z53)) rfl) (qd rfl rfl rfl (r_ldpA (cs := [u479, u480]) ag48 sz48 rfl (fun j u hj => hX543.pins _ _ _ (hbp515 _ _ (by simpa using hj)))) (qd rfl rfl rfl (run_idx Try.underlying24 sz48 (v := u11) rfl rfl ho547.read (by omega) (by omega)) (q0 rfl rfl rfl (o_set (E := eNode) (v := u11) (u := (.agg [u479, u480].toArray)) (z := z53) ((⟨((formG g12).getD 0 default).l, ((formG g12).getD 0 default).r⟩ : Nd)) sz48 rfl rfl rfl ⟨_, _, rfl, (hr481.mono hle513), (hr482.mono hle513)⟩ hX543.pins ho547 (by omega) (by omega) (fun w549 ho550 hp551 hg552 hz553 => ?_)))))))
 have hX554 := hX543.write hp551 hg552 ((lo_own ho547))
 have hb555 := hb544.keptA hg552 ha26.symm
 have hb556 := hb545.keptA hg552 ha27.symm
 have hb557 := hb546.keptA hg552 ha40
 have ho558 : Own eNode 48 G512 w549 w.heap.size u11 (((formG g12).set 0 (⟨((formG g12).getD (z53).toNat default).l, ((formG g12).getD (z53).toNat default).r⟩ : Nd)).set (z53).toNat (⟨((formG g12).getD 0 default).l, ((formG g12).getD 0 default).r⟩ : Nd)) := ho550
 have hm559 : (((formG g12).set 0 (⟨((formG g12).getD (z53).toNat default).l, ((formG g12).getD (z53).toNat default).r⟩ : Nd)).set (z53).toNat (⟨((formG g12).getD 0 default).l, ((formG g12).getD 0 default).r⟩ : Nd)).length = ((formG g12).set 0 (⟨((formG g12).getD (z53).toNat default).l, ((formG g12).getD (z53).toNat default).r⟩ : Nd)).length := List.length_set ..
 refine qe (s_blkN (s_then (s_seq (c_reg ?_))))
 refine qd rfl rfl rfl (r_ldpA (cs := [u11]) ag26 sz26 rfl (fun j u hj => hb557.cell (by simpa using hj))) (q0 rfl rfl rfl (o_stp (cs' := [u11]) (us := [u11]) (v := (.agg [u11].toArray)) sz26 rfl rfl rfl (ones1 ho558.one) hX554.pins hb556 (Nat.le_of_ble_eq_true rfl) rfl (fun w560 hb561 hp562 hg563 hz564 => ?_)))
 have hX565 := hX554.write hp562 hg563 ((lo_box hlo10))
 have ho566 := ho558.keptA hg563 ha27
 have hb567 := hb555.keptA hg563 ha9.symm
 refine qe (s_then ?_)
 refine wp_ret (s_ret (c_retc (cs := [u11]) rfl rfl rfl ag26 sz26 (fun j u hj => by rw [Nat.zero_add]; exact hb561.cell hj) ?_))
 obtain ⟨G569, hle572, hX571, hr570, hf573⟩ := ho566.sealed hX565
 have hb574 := hb567.moreO hf573 ha26.symm
 exact ⟨_, _, _, _, _, rfl, hr570, hb574, (by omega), (by omega), hX571⟩
 refine wp_skip (s_blkN (s_then (s_seq (c_reg ?_))))
 refine qd rfl rfl rfl (r_ldpA (cs := [u11]) ag26 sz26 rfl (fun j u hj => hb78.cell (by simpa using hj))) (q0 rfl rfl rfl (o_stp (cs' := [u11]) (us := [u11]) (v := (.agg [u11].toArray)) sz26 rfl rfl rfl (ones1 ho76.one) hX75.pins hb77 (Nat.le_of_ble_eq_true rfl) rfl (fun w577 hb578 hp579 hg580 hz581 => ?_)))
 have hX582 := hX75.write hp579 hg580 ((lo_box hlo10))
 have ho583 := ho76.keptA hg580 ha27
 have hb584 := hb71.keptA hg580 ha9.symm
 refine qe (s_then ?_)
 refine wp_ret (s_ret (c_retc (cs := [u11]) rfl rfl rfl ag26 sz26 (fun j u hj => by rw [Nat.zero_add]; exact hb578.cell hj) ?_))
 obtain ⟨G586, hle589, hX588, hr587, hf590⟩ := ho583.sealed hX582
 have hb591 := hb584.moreO hf590 ha26.symm
 exact ⟨_, _, _, _, _, rfl, hr587, hb591, (by omega), (by omega), hX588⟩

end DV1
end Go.Proofs.Ytdongckiecjbaaa

set_option maxRecDepth 20000
set_option maxHeartbeats 2000000
namespace Go.Proofs.Ytdongckiecjbaaa
namespace WN1
open Go.RowKit Go.GL Go.Proofs
open B1 C1 D1 E1




theorem mk4 : (Try.prog.info? 4).map (fun i => (i.size, i.bytes, i.zero)) = some (1, 1, some (.bool false)) := by kernel_rfl





theorem wins_spec {w : World} {G : Pin} {v : Value} {ns : List Nd} (hP : Pins G w) (hv : RSl eNode G v ns) (hg : GoodP ns) :
  Calls Try.prog 20 [v].toArray w fun e w' => ∃ (u x : Value) (ls rs : List Bool) (G' : Pin), e = .returned (.tuple #[u, x]) ∧ RSl eBool G' u ls ∧ RSl eBool G' x rs ∧ FwOk winL ns ns.length ls ∧ FwOk winR ns ns.length rs ∧ Ext noS G w G' w' := by
 refine s_enter (n := 72) Try.func20 Try.ntmps20 rfl rfl ?_
 have hX0 : Ext noS G w G w := Ext.refl hP
 have hm := hv.max
 have hlo := hg.lo
 have hhi := hg.hi
 have hoo := (good_form hg).opts
 refine s_seq (c_reg ?_)
 refine qd rfl rfl rfl (r_assign (v := (.slice none 0 0)) rfl) (qd rfl rfl rfl (r_assign (v := (.slice none 0 0)) rfl) (qe (s_then (s_seq ?_))))
 refine c_cut (fun (en : Nat → Value) (W : World) => ∃ (env1 : Nat → Value) (c1 : Value) (c2 : Value) (G3 : Pin), en = (upd (upd (upd (upd (upd env1 0 v) 2 (.slice none 0 0)) 3 (.slice none 0 0)) 4 c1) 5 c2) ∧ Ext noS G w G3 W ∧ Pin.le G G3 ∧ (Own eBool 4 G3 W w.heap.size c1 (List.replicate ns.length false)) ∧ (Own eBool 4 G3 W w.heap.size c2 (List.replicate ns.length false)) ∧ (Apart c1.ownBlock c2.ownBlock)) ?_ ?_
 ·rintro _ w4 ⟨env1, c1, c2, G3, rfl, hX8, hle9, ho5, ho6, ha7⟩
  refine s_then (s_seq (s_seq (c_reg ?_)))
  refine qd rfl rfl rfl (r_move (v := v) rfl) (qd rfl rfl rfl (run_len Try.underlying24 (v := v) rfl hv) (qd rfl rfl rfl (r_move (v := (.int .i64 0)) rfl) (qe (s_then ?_))))
  refine s_blk (s_loop (fun (k : Nat) (en : Nat → Value) (W : World) => ∃ (env1 : Nat → Value) (i : Nat) (ls : List Bool) (rs : List Bool) (GL1 : Pin), en = (upd (upd (upd (upd (upd (upd (upd env1 2 (.slice none 0 0)) 3 (.slice none 0 0)) 4 c1) 5 c2) 18 v) 19 (.int .i64 (ns.length : Int))) 20 (.int .i64 (i : Int))) ∧ k = ns.length - i ∧ Ext noS G w GL1 W ∧ Pin.le G3 GL1 ∧ (i ≤ ns.length) ∧ (FwOk winL ns i ls) ∧ (FwOk winR ns i rs) ∧ (Own eBool 4 GL1 W w.heap.size c1 (ls)) ∧ (Own eBool 4 GL1 W w.heap.size c2 (rs))) _ ⟨_, 0, List.replicate ns.length false, List.replicate ns.length false, G3, (packS (x := 20) (packS (x := 19) (packS (x := 18) (packS (x := 5) (packS (x := 4) (packS (x := 3) (pack1 (x := 2) rfl) rfl) rfl) rfl) rfl) rfl) rfl), rfl, hX8, Pin.le_refl _, Nat.zero_le _, (FwOk.start (by omega)), (FwOk.start (by omega)), ho5, ho6⟩ ?_)
  rintro k10 _ w11 ⟨env1, i, ls, rs, GL1, rfl, hk12, hX13, hlek10, hi, hla, hlb, hw14, hw15⟩
  have hll := hla.len
  have hlr := hlb.len
  refine s_seq (c_reg ?_)
  refine qd rfl rfl rfl (r_lss rfl rfl) (qe (s_then (s_seq ?_)))
  refine c_ifd (p := ((i : Int) : Int) < (ns.length : Int)) rfl rfl (fun h16 => ?_) (fun h16 => ?_)
  have hopt := optsAt hoo (show i < ns.length by omega)
  refine wp_skip (s_then (s_seq ?_))
  refine s_blk (s_seq (c_reg ?_))
  refine qd rfl rfl rfl (r_move (v := (.int .i64 (i : Int))) rfl) (qd rfl rfl rfl (run_idx Try.underlying24 sz48 (v := v) rfl rfl hv (by omega) (by omega)) ?_)
  obtain ⟨u17, u18, hr19, hr20, hl21⟩ := nm_node (hv.at (z := (i : Int)) (by omega) (by omega)) (j := i) rfl
  have hm22 := hr19.max
  have hm23 := hr20.max
  refine qd rfl rfl rfl (hl21 ag48 sz48 rfl (Pins.of_le hX13.pins (Pin.le_trans hle9 hlek10))) (q1 rfl rfl rfl (o_alloc [(.slice none 0 0), (.slice none 0 0)] zr48 rfl hX13.pins (fun b24 w25 hk26 hb27 hp28 hl29 => ?_)))
  have hX30 := hX13.step hp28 hl29
  have ho31 := hw14.below hl29
  have ho32 := hw15.below hl29
  have ha33 : Apart (some b24) c1.ownBlock := new_ne_own (congrArg some hk26) hw14.lt
  have ha34 : Apart (some b24) c2.ownBlock := new_ne_own (congrArg some hk26) hw15.lt
  have hlo35 : w.heap.size ≤ b24 := by have := hX13.size; omega
  refine qd rfl rfl rfl (r_assign (v := (.int .i64 (i : Int))) rfl) (q0 rfl rfl rfl (o_stp (cs' := [u17, u18]) (us := [u17, u18]) (v := (.agg [u17, u18].toArray)) sz48 rfl rfl rfl (ones2 hr19.one hr20.one) hX30.pins hb27 (Nat.le_of_ble_eq_true rfl) rfl (fun w36 hb37 hp38 hg39 hz40 => ?_)))
  have hX41 := hX30.write hp38 hg39 ((lo_box hlo35))
  have ho42 := ho31.keptA hg39 ha33.symm
  have ho43 := ho32.keptA hg39 ha34.symm
  obtain ⟨G44, hle45, hX46, hbp47, hf48⟩ := hb37.shut hX41 hlo35
  have ho49 := ho42.moreA hle45 hf48 ha33.symm
  have ho50 := ho43.moreA hle45 hf48 ha34.symm
  refine qe (s_then (s_seq (s_seq (c_reg ?_))))
  refine qd rfl rfl rfl (r_fldp (k := 0) rfl Try.underlying48 rfl nz46 rfl) (qd rfl rfl rfl (r_ldp1 (u := u17) ag46 rfl (hX46.pins _ _ _ (hbp47 0 _ rfl))) (qd rfl rfl rfl (run_len Try.underlying46 (v := u17) rfl hr19) (qd rfl rfl rfl (r_move (v := (.int .i64 0)) rfl) (qe (s_then ?_)))))
  refine s_blk ?_
  have hop0 : ∀ q, q < (ns.getD i default).l.length → 0 ≤ (ns.getD i default).l.getD q 0 ∧ (ns.getD i default).l.getD q 0 < i := fun q hq => hopt.1 _ (getD_mem hq)
  refine s_loop (fun (k : Nat) (en : Nat → Value) (W : World) => ∃ (env1 : Nat → Value) (j : Nat) (ls2 : List Bool), en = (upd (upd (upd (upd (upd (upd (upd (upd (upd (upd (upd (upd env1 2 (.slice none 0 0)) 3 (.slice none 0 0)) 4 c1) 5 c2) 6 (.int .i64 (i : Int))) 7 (.pointer (some ⟨b24, 0, none⟩))) 18 v) 19 (.int .i64 (ns.length : Int))) 20 (.int .i64 (i : Int))) 26 u17) 27 (.int .i64 (((ns.getD i default).l).length : Int))) 28 (.int .i64 (j : Int))) ∧ k = (ns.getD i default).l.length - j ∧ Ext noS G w G44 W ∧ (j ≤ (ns.getD i default).l.length) ∧ (ls2 = ls.set i (anyN rs ((ns.getD i default).l.take j))) ∧ (Own eBool 4 G44 W w.heap.size c1 (ls2)) ∧ (Own eBool 4 G44 W w.heap.size c2 (rs))) _ ⟨_, 0, ls, (packS (x := 28) (packS (x := 27) (packS (x := 26) (packS (x := 20) (packS (x := 19) (packS (x := 18) (packS (x := 7) (packS (x := 6) (packS (x := 5) (packS (x := 4) (packS (x := 3) (pack1 (x := 2) rfl) rfl) rfl) rfl) rfl) rfl) rfl) rfl) rfl) rfl) rfl) rfl), rfl, hX46, Nat.zero_le _, (fw_set hla (by omega)), ho49, ho50⟩ ?_
  rintro k51 _ w52 ⟨env1, j, ls2, rfl, hk53, hX54, hj0, hla2, hw55, hw56⟩
  have hls0 : ls2.length = ns.length := by rw [hla2, List.length_set]; omega
  refine s_seq (c_reg ?_)
  refine qd rfl rfl rfl (r_lss rfl rfl) (qe (s_then (s_seq ?_)))
  refine c_ifd (p := ((j : Int) : Int) < (((ns.getD i default).l).length : Int)) rfl rfl (fun h57 => ?_) (fun h57 => ?_)
  have hoq := hop0 j (by omega)
  refine wp_skip (s_then (s_seq ?_))
  refine s_blk (s_seq (c_reg ?_))
  refine qd rfl rfl rfl (run_idx Try.underlying46 sz3 (v := u17) rfl rfl hr19 (by omega) (by omega)) (qd rfl rfl rfl (run_load_int (r := ((ns.getD i default).l).getD j 0) rfl ag3 (z := (j : Int)) rfl hr19 (Pins.of_le hX54.pins (Pin.le_trans (Pin.le_trans hle9 hlek10) hle45)) (by omega) (by omega)) (qd rfl rfl rfl (r_assign (v := (.int .i64 (((ns.getD i default).l).getD j 0))) rfl) (qe (s_then (c_reg ?_)))))
  refine qd rfl rfl rfl (r_move (v := c1) rfl) (qd rfl rfl rfl (r_move (v := (.int .i64 (i : Int))) rfl) (qd rfl rfl rfl (r_move (v := c1) rfl) (qd rfl rfl rfl (r_move (v := (.int .i64 (i : Int))) rfl) (qd rfl rfl rfl (run_idx Try.underlying58 sz4 (v := c1) rfl rfl hw55.read (by omega) (by omega)) (qd rfl rfl rfl (run_load_bool (r := ls2.getD i false) rfl ag4 (z := (i : Int)) rfl hw55.read (Gadd.pins hX54.pins c1) (by omega) (by omega)) (qd rfl rfl rfl (r_move (v := (.bool (ls2.getD i false))) rfl) (qb (t := 38) rfl (fun h58 => ?_) (fun h58 => ?_))))))))
  refine qs rfl rfl rfl rfl rfl rfl (qs rfl rfl rfl rfl rfl rfl (qs rfl rfl rfl rfl rfl rfl (qs rfl rfl rfl rfl rfl rfl (qs rfl rfl rfl rfl rfl rfl (qd rfl rfl rfl (r_pickT (v := (.bool true)) rfl rfl) (qd rfl rfl rfl (run_idx Try.underlying58 sz4 (v := c1) rfl rfl hw55.read (by omega) (by omega)) (q0 rfl rfl rfl (o_set (E := eBool) (v := c1) (u := (.bool true)) (z := (i : Int)) (true) sz4 rfl rfl rfl rfl hX54.pins hw55 (by omega) (by omega) (fun w59 ho60 hp61 hg62 hz63 => ?_)))))))))
  have hX64 := hX54.write hp61 hg62 ((lo_own hw55))
  have ho65 := hw56.keptA hg62 ha7.symm
  refine qe (s_blkN (s_then (c_reg ?_)))
  refine qd rfl rfl rfl (r_add rfl rfl (by omega)) (qd rfl rfl rfl (r_move (v := (.int .i64 ((j : Int) + 1))) rfl) (qe (s_lopN (⟨_, ?_, _, rfl, _, j + 1, (ls2).set i true, (packS (x := 28) (packS (x := 27) (packS (x := 26) (packS (x := 20) (packS (x := 19) (packS (x := 18) (packS (x := 7) (packS (x := 6) (packS (x := 5) (packS (x := 4) (packS (x := 3) (pack1 (x := 2) rfl) rfl) rfl) rfl) rfl) rfl) rfl) rfl) rfl) rfl) rfl) rfl), rfl, hX64, (by omega), (fw_next hla2 (by omega) (by omega) (by rw [h58]; rfl)), ho60, ho65⟩))))
  omega
  refine qdg rfl rfl rfl rfl rfl rfl (r_move (v := c2) rfl) (qdg rfl rfl rfl rfl rfl rfl (r_move (v := (.int .i64 (((ns.getD i default).l).getD j 0))) rfl) (qdg rfl rfl rfl rfl rfl rfl (run_idx Try.underlying58 sz4 (v := c2) rfl rfl hw56.read (by omega) (by omega)) (qdg rfl rfl rfl rfl rfl rfl (run_load_bool (r := rs.getD (((ns.getD i default).l).getD j 0).toNat false) rfl ag4 (z := (((ns.getD i default).l).getD j 0)) rfl hw56.read (Gadd.pins hX54.pins c2) (by omega) (by omega)) (qdg rfl rfl rfl rfl rfl rfl (r_not rfl) (qd rfl rfl rfl (r_pickF (v := (.bool (!(rs.getD (((ns.getD i default).l).getD j 0).toNat false)))) rfl rfl) (qd rfl rfl rfl (run_idx Try.underlying58 sz4 (v := c1) rfl rfl hw55.read (by omega) (by omega)) (q0 rfl rfl rfl (o_set (E := eBool) (v := c1) (u := (.bool (!(rs.getD (((ns.getD i default).l).getD j 0).toNat false)))) (z := (i : Int)) (!(rs.getD (((ns.getD i default).l).getD j 0).toNat false)) sz4 rfl rfl rfl rfl hX54.pins hw55 (by omega) (by omega) (fun w66 ho67 hp68 hg69 hz70 => ?_)))))))))
  have hX71 := hX54.write hp68 hg69 ((lo_own hw55))
  have ho72 := hw56.keptA hg69 ha7.symm
  refine qe (s_blkN (s_then (c_reg ?_)))
  refine qd rfl rfl rfl (r_add rfl rfl (by omega)) (qd rfl rfl rfl (r_move (v := (.int .i64 ((j : Int) + 1))) rfl) (qe (s_lopN (⟨_, ?_, _, rfl, _, j + 1, (ls2).set i (!(rs.getD (((ns.getD i default).l).getD j 0).toNat false)), (packS (x := 28) (packS (x := 27) (packS (x := 26) (packS (x := 20) (packS (x := 19) (packS (x := 18) (packS (x := 7) (packS (x := 6) (packS (x := 5) (packS (x := 4) (packS (x := 3) (pack1 (x := 2) rfl) rfl) rfl) rfl) rfl) rfl) rfl) rfl) rfl) rfl) rfl) rfl), rfl, hX71, (by omega), (fw_next hla2 (by omega) (by omega) (by rw [h58]; rfl)), ho67, ho72⟩))))
  omega
  refine wp_exit (s_thenE (s_lopE (s_blkE (s_then (s_seq (c_reg ?_))))))
  refine qd rfl rfl rfl (r_fldp (k := 1) rfl Try.underlying48 rfl nz46 rfl) (qd rfl rfl rfl (r_ldp1 (u := u18) ag46 rfl (hX54.pins _ _ _ (hbp47 1 _ rfl))) (qd rfl rfl rfl (run_len Try.underlying46 (v := u18) rfl hr20) (qd rfl rfl rfl (r_move (v := (.int .i64 0)) rfl) (qe (s_then ?_)))))
  refine s_blk ?_
  have hop1 : ∀ q, q < (ns.getD i default).r.length → 0 ≤ (ns.getD i default).r.getD q 0 ∧ (ns.getD i default).r.getD q 0 < i := fun q hq => hopt.2 _ (getD_mem hq)
  refine s_loop (fun (k : Nat) (en : Nat → Value) (W : World) => ∃ (env1 : Nat → Value) (j3 : Nat) (rs2 : List Bool), en = (upd (upd (upd (upd (upd (upd (upd (upd (upd (upd (upd env1 2 (.slice none 0 0)) 3 (.slice none 0 0)) 4 c1) 5 c2) 6 (.int .i64 (i : Int))) 18 v) 19 (.int .i64 (ns.length : Int))) 20 (.int .i64 (i : Int))) 48 u18) 49 (.int .i64 (((ns.getD i default).r).length : Int))) 50 (.int .i64 (j3 : Int))) ∧ k = (ns.getD i default).r.length - j3 ∧ Ext noS G w G44 W ∧ (j3 ≤ (ns.getD i default).r.length) ∧ (rs2 = rs.set i (anyN ls2 ((ns.getD i default).r.take j3))) ∧ (Own eBool 4 G44 W w.heap.size c2 (rs2)) ∧ (Own eBool 4 G44 W w.heap.size c1 (ls2))) _ ⟨_, 0, rs, (packS (x := 50) (packS (x := 49) (packS (x := 48) (packS (x := 20) (packS (x := 19) (packS (x := 18) (packS (x := 6) (packS (x := 5) (packS (x := 4) (packS (x := 3) (pack1 (x := 2) rfl) rfl) rfl) rfl) rfl) rfl) rfl) rfl) rfl) rfl) rfl), rfl, hX54, Nat.zero_le _, (fw_set hlb (by omega)), hw56, hw55⟩ ?_
  rintro k73 _ w74 ⟨env1, j3, rs2, rfl, hk75, hX76, hj1, hlb2, hw77, hw78⟩
  have hls1 : rs2.length = ns.length := by rw [hlb2, List.length_set]; omega
  refine s_seq (c_reg ?_)
  refine qd rfl rfl rfl (r_lss rfl rfl) (qe (s_then (s_seq ?_)))
  refine c_ifd (p := ((j3 : Int) : Int) < (((ns.getD i default).r).length : Int)) rfl rfl (fun h79 => ?_) (fun h79 => ?_)
  have hoq := hop1 j3 (by omega)
  refine wp_skip (s_then (s_seq ?_))
  refine s_blk (s_seq (c_reg ?_))
  refine qd rfl rfl rfl (run_idx Try.underlying46 sz3 (v := u18) rfl rfl hr20 (by omega) (by omega)) (qd rfl rfl rfl (run_load_int (r := ((ns.getD i default).r).getD j3 0) rfl ag3 (z := (j3 : Int)) rfl hr20 (Pins.of_le hX76.pins (Pin.le_trans (Pin.le_trans hle9 hlek10) hle45)) (by omega) (by omega)) (qd rfl rfl rfl (r_assign (v := (.int .i64 (((ns.getD i default).r).getD j3 0))) rfl) (qe (s_then (c_reg ?_)))))
  refine qd rfl rfl rfl (r_move (v := c2) rfl) (qd rfl rfl rfl (r_move (v := (.int .i64 (i : Int))) rfl) (qd rfl rfl rfl (r_move (v := c2) rfl) (qd rfl rfl rfl (r_move (v := (.int .i64 (i : Int))) rfl) (qd rfl rfl rfl (run_idx Try.underlying58 sz4 (v := c2) rfl rfl hw77.read (by omega) (by omega)) (qd rfl rfl rfl (run_load_bool (r := rs2.getD i false) rfl ag4 (z := (i : Int)) rfl hw77.read (Gadd.pins hX76.pins c2) (by omega) (by omega)) (qd rfl rfl rfl (r_move (v := (.bool (rs2.getD i false))) rfl) (qb (t := 60) rfl (fun h80 => ?_) (fun h80 => ?_))))))))
  refine qs rfl rfl rfl rfl rfl rfl (qs rfl rfl rfl rfl rfl rfl (qs rfl rfl rfl rfl rfl rfl (qs rfl rfl rfl rfl rfl rfl (qs rfl rfl rfl rfl rfl rfl (qd rfl rfl rfl (r_pickT (v := (.bool true)) rfl rfl) (qd rfl rfl rfl (run_idx Try.underlying58 sz4 (v := c2) rfl rfl hw77.read (by omega) (by omega)) (q0 rfl rfl rfl (o_set (E := eBool) (v := c2) (u := (.bool true)) (z := (i : Int)) (true) sz4 rfl rfl rfl rfl hX76.pins hw77 (by omega) (by omega) (fun w81 ho82 hp83 hg84 hz85 => ?_)))))))))
  have hX86 := hX76.write hp83 hg84 ((lo_own hw77))
  have ho87 := hw78.keptA hg84 ha7
  refine qe (s_blkN (s_then (c_reg ?_)))
  refine qd rfl rfl rfl (r_add rfl rfl (by omega)) (qd rfl rfl rfl (r_move (v := (.int .i64 ((j3 : Int) + 1))) rfl) (qe (s_lopN (⟨_, ?_, _, rfl, _, j3 + 1, (rs2).set i true, (packS (x := 50) (packS (x := 49) (packS (x := 48) (packS (x := 20) (packS (x := 19) (packS (x := 18) (packS (x := 6) (packS (x := 5) (packS (x := 4) (packS (x := 3) (pack1 (x := 2) rfl) rfl) rfl) rfl) rfl) rfl) rfl) rfl) rfl) rfl) rfl), rfl, hX86, (by omega), (fw_next hlb2 (by omega) (by omega) (by rw [h80]; rfl)), ho82, ho87⟩))))
  omega
  refine qdg rfl rfl rfl rfl rfl rfl (r_move (v := c1) rfl) (qdg rfl rfl rfl rfl rfl rfl (r_move (v := (.int .i64 (((ns.getD i default).r).getD j3 0))) rfl) (qdg rfl rfl rfl rfl rfl rfl (run_idx Try.underlying58 sz4 (v := c1) rfl rfl hw78.read (by omega) (by omega)) (qdg rfl rfl rfl rfl rfl rfl (run_load_bool (r := ls2.getD (((ns.getD i default).r).getD j3 0).toNat false) rfl ag4 (z := (((ns.getD i default).r).getD j3 0)) rfl hw78.read (Gadd.pins hX76.pins c1) (by omega) (by omega)) (qdg rfl rfl rfl rfl rfl rfl (r_not rfl) (qd rfl rfl rfl (r_pickF (v := (.bool (!(ls2.getD (((ns.getD i default).r).getD j3 0).toNat false)))) rfl rfl) (qd rfl rfl rfl (run_idx Try.underlying58 sz4 (v := c2) rfl rfl hw77.read (by omega) (by omega)) (q0 rfl rfl rfl (o_set (E := eBool) (v := c2) (u := (.bool (!(ls2.getD (((ns.getD i default).r).getD j3 0).toNat false)))) (z := (i : Int)) (!(ls2.getD (((ns.getD i default).r).getD j3 0).toNat false)) sz4 rfl rfl rfl rfl hX76.pins hw77 (by omega) (by omega) (fun w88 ho89 hp90 hg91 hz92 => ?_)))))))))
  have hX93 := hX76.write hp90 hg91 ((lo_own hw77))
  have ho94 := hw78.keptA hg91 ha7
  refine qe (s_blkN (s_then (c_reg ?_)))
  refine qd rfl rfl rfl (r_add rfl rfl (by omega)) (qd rfl rfl rfl (r_move (v := (.int .i64 ((j3 : Int) + 1))) rfl) (qe (s_lopN (⟨_, ?_, _, rfl, _, j3 + 1, (rs2).set i (!(ls2.getD (((ns.getD i default).r).getD j3 0).toNat false)), (packS (x := 50) (packS (x := 49) (packS (x := 48) (packS (x := 20) (packS (x := 19) (packS (x := 18) (packS (x := 6) (packS (x := 5) (packS (x := 4) (packS (x := 3) (pack1 (x := 2) rfl) rfl) rfl) rfl) rfl) rfl) rfl) rfl) rfl) rfl) rfl), rfl, hX93, (by omega), (fw_next hlb2 (by omega) (by omega) (by rw [h80]; rfl)), ho89, ho94⟩))))
  omega
  refine wp_exit (s_thenE (s_lopE (s_blkE (s_blkN (s_then (c_reg ?_))))))
  refine qd rfl rfl rfl (r_add rfl rfl (by omega)) (qd rfl rfl rfl (r_move (v := (.int .i64 ((i : Int) + 1))) rfl) (qe (s_lopN ?_)))
  have hja := List.take_of_length_le (show (ns.getD i default).l.length ≤ j by omega)
  have hjb := List.take_of_length_le (show (ns.getD i default).r.length ≤ j3 by omega)
  refine ⟨_, ?_, _, rfl, _, i + 1, ls2, rs2, G44, (packS (x := 20) (packS (x := 19) (packS (x := 18) (packS (x := 5) (packS (x := 4) (packS (x := 3) (pack1 (x := 2) rfl) rfl) rfl) rfl) rfl) rfl) rfl), rfl, hX76, (Pin.le_trans hlek10 hle45), (by omega), (by rw [hla2, hja]; exact hla.put (by omega) (anyN_L hoo (by omega) (fun k hk => hlb.old k hk))), (by rw [hlb2, hjb]; exact hlb.put (by omega) (anyN_R hoo (by omega) (fun k hk => by rw [hla2]; exact hla.keep hk))), hw78, hw77⟩
  omega
  refine wp_exit (s_thenE (s_lopE (s_blkE (s_then (s_seq (c_reg ?_))))))
  refine qd rfl rfl rfl (r_move (v := c1) rfl) (qd rfl rfl rfl (r_move (v := c2) rfl) (qd rfl rfl rfl (r_assign (v := c1) rfl) (qd rfl rfl rfl (r_assign (v := c2) rfl) (qe (s_then ?_)))))
  refine wp_ret (s_ret (c_ret2 (v := c1) (u := c2) rfl rfl rfl rfl rfl ?_))
  obtain ⟨G95, hle98, hX97, hr96, hf99⟩ := hw14.sealed hX13
  have ho100 := hw15.moreO hle98 hf99 ha7.symm
  obtain ⟨G101, hle104, hX103, hr102, hf105⟩ := ho100.sealed hX97
  have hin : i = ns.length := by omega
  rw [hin] at hla hlb
  exact ⟨_, _, _, _, _, rfl, (hr96.mono hle104), hr102, hla, hlb, hX103⟩
 refine c_draw (S := fun wz => Pins G wz) (last := 8) (by kernel_rfl) rfl ?_
 have hl106 : Below w.heap.size w w.drew := (Below.refl _ _).drew
 have hp107 := hX0.pins.below hl106
 have hX108 := hX0.step hp107 hl106
 refine dr_take (i := 0) rfl rfl rfl (want_none rfl _) (by kernel_rfl) (fun _ _ => r_move (v := v) rfl) hX108.pins (dr_take (i := 1) rfl rfl rfl (want_none rfl _) (by kernel_rfl) (fun _ _ => run_len Try.underlying24 (v := v) rfl hv) hX108.pins (dr_take (i := 3) rfl rfl rfl (want_none rfl _) (by kernel_rfl) (fun _ _ => r_move (v := v) rfl) hX108.pins (dr_take (i := 4) rfl rfl rfl (want_none rfl _) (by kernel_rfl) (fun _ _ => run_len Try.underlying24 (v := v) rfl hv) hX108.pins (dr_two (i := 2) (j := 5) (by kernel_rfl) ?_ ?_))))
 refine (drOp1 (i := 2) rfl rfl rfl (want_none rfl _) (o_make (E := eBool) false 1 (.bool false) Try.underlying58 mk4 (fun _ => rfl) rfl rfl hX108.pins (by omega) (by omega) (by omega) (fun u109 w110 ho111 hp112 hl113 hk114 => ?_)))
 have hX115 := hX108.step hp112 hl113
 have ho116 : Own eBool 4 G w110 w.heap.size u109 (List.replicate ns.length false) := ho111.weaken hX108.size
 have hm117 : (List.replicate ns.length false).length = ns.length := List.length_replicate ..
 refine ⟨fun _ => hX115.pins, ?_⟩
 refine dr_take (i := 6) rfl rfl rfl (want_none rfl _) (by kernel_rfl) (fun _ _ => r_assign (v := u109) rfl) hX115.pins (dr_one (i := 5) (by kernel_rfl) (drOp1 (i := 5) rfl rfl rfl (want_none rfl _) (o_make (E := eBool) false 1 (.bool false) Try.underlying58 mk4 (fun _ => rfl) rfl rfl hX115.pins (by omega) (by omega) (by omega) (fun u118 w119 ho120 hp121 hl122 hk123 => ?_))))
 have hX124 := hX115.step hp121 hl122
 have ho125 := ho116.below hl122
 have ha126 : Apart u118.ownBlock u109.ownBlock := new_ne_own hk123 ho116.lt
 have ho127 : Own eBool 4 G w119 w.heap.size u118 (List.replicate ns.length false) := ho120.weaken hX115.size
 have hm128 : (List.replicate ns.length false).length = ns.length := List.length_replicate ..
 refine ⟨fun _ => hX124.pins, ?_⟩
 exact dr_take (i := 7) rfl rfl rfl (want_none rfl _) (by kernel_rfl) (fun _ _ => r_assign (v := u118) rfl) hX124.pins (dr_end (by kernel_rfl) (cut_in ⟨_, u109, u118, G, (packS (x := 5) (packS (x := 4) (packS (x := 3) (packS (x := 2) (pack1 (x := 0) rfl) rfl) rfl) rfl) rfl), hX124, (Pin.le_refl _), ho125, ho127, ha126.symm⟩))
 refine (drOp1 (i := 5) rfl rfl rfl (want_none rfl _) (o_make (E := eBool) false 1 (.bool false) Try.underlying58 mk4 (fun _ => rfl) rfl rfl hX108.pins (by omega) (by omega) (by omega) (fun u129 w130 ho131 hp132 hl133 hk134 => ?_)))
 have hX135 := hX108.step hp132 hl133
 have ho136 : Own eBool 4 G w130 w.heap.size u129 (List.replicate ns.length false) := ho131.weaken hX108.size
 have hm137 : (List.replicate ns.length false).length = ns.length := List.length_replicate ..
 refine ⟨fun _ => hX135.pins, ?_⟩
 refine dr_one (i := 2) (by kernel_rfl) (drOp1 (i := 2) rfl rfl rfl (want_none rfl _) (o_make (E := eBool) false 1 (.bool false) Try.underlying58 mk4 (fun _ => rfl) rfl rfl hX135.pins (by omega) (by omega) (by omega) (fun u138 w139 ho140 hp141 hl142 hk143 => ?_)))
 have hX144 := hX135.step hp141 hl142
 have ho145 := ho136.below hl142
 have ha146 : Apart u138.ownBlock u129.ownBlock := new_ne_own hk143 ho136.lt
 have ho147 : Own eBool 4 G w139 w.heap.size u138 (List.replicate ns.length false) := ho140.weaken hX135.size
 have hm148 : (List.replicate ns.length false).length = ns.length := List.length_replicate ..
 refine ⟨fun _ => hX144.pins, ?_⟩
 exact dr_take (i := 6) rfl rfl rfl (want_none rfl _) (by kernel_rfl) (fun _ _ => r_assign (v := u138) rfl) hX144.pins (dr_take (i := 7) rfl rfl rfl (want_none rfl _) (by kernel_rfl) (fun _ _ => r_assign (v := u129) rfl) hX144.pins (dr_end (by kernel_rfl) (cut_in ⟨_, u138, u129, G, (packS (x := 5) (packS (x := 4) (packS (x := 3) (packS (x := 2) (pack1 (x := 0) rfl) rfl) rfl) rfl) rfl), hX144, (Pin.le_refl _), ho147, ho145, ha146⟩)))

end WN1
end Go.Proofs.Ytdongckiecjbaaa

set_option maxRecDepth 20000
set_option maxHeartbeats 2000000
namespace Go.Proofs.Ytdongckiecjbaaa
namespace WN3
open Go.RowKit Go.GL Go.Proofs
open B1 C1 D1 E1 WN1








theorem iWinsMoving_spec {w : World} {G : Pin} {v : Value} {ns : List Nd} {lf : Bool} (hP : Pins G w) (hv : RSl eNode G v ns) :
  Calls Try.prog 10 [(.agg [v].toArray), (.bool lf)].toArray w fun e w' => ∃ G', e = .returned (.tuple #[.bool (wmB ns lf), .bool (goodB ns)]) ∧ Ext noS G w G' w' := by
 refine s_enter (n := 30) Try.func10 Try.ntmps10 rfl rfl ?_
 have hX0 : Ext noS G w G w := Ext.refl hP
 refine s_seq (c_reg ?_)
 refine q1 rfl rfl rfl (o_box [v] (v := (.agg [v].toArray)) rfl rfl hX0.pins (fun b1 w2 hk3 hb4 hp5 hl6 => ?_))
 have hX7 := hX0.step hp5 hl6
 have hlo8 : w.heap.size ≤ b1 := by have := hX0.size; omega
 obtain ⟨G9, hle10, hX11, hbp12, hf13⟩ := hb4.shut hX7 hlo8
 refine qd rfl rfl rfl (r_assign (v := (.bool false)) rfl) (qd rfl rfl rfl (r_assign (v := (.bool false)) rfl) (qe (s_then (s_seq (s_seq (c_reg ?_))))))
 refine qd rfl rfl rfl (r_ldpA (cs := [v]) ag26 sz26 rfl (fun j u hj => hX11.pins _ _ _ (hbp12 _ _ (by simpa using hj)))) (q1 rfl rfl rfl (o_call (vs := [(.agg [v].toArray)]) Try.func15 nm15 rfl rfl rfl ?_))
 refine Calls.mono (goodForm_spec hX11.pins (hv.mono hle10)) ?_
 rintro _ w15 ⟨G14, rfl, hx16⟩
 refine ⟨_, rfl, ?_⟩
 have hX17 := hX11.tr hx16
 refine qd rfl rfl rfl (r_not rfl) (qe (s_then ?_))
 refine c_ifn rfl rfl (fun h18 => ?_) (fun h18 => ?_)
 refine wp_skip (s_then (s_seq (c_reg ?_)))
 have hgb : goodB ns = true := h18
 have hg := goodB_true.1 hgb
 have hlo := hg.lo
 have hhi := hg.hi
 refine qd rfl rfl rfl (r_fldp (k := 0) rfl Try.underlying26 rfl nz24 rfl) (qd rfl rfl rfl (r_ldp1 (u := v) ag24 rfl ((Pins.of_le hX17.pins hx16.le) _ _ _ (hbp12 0 _ rfl))) (q1 rfl rfl rfl (o_call (vs := [v]) Try.func20 nm20 rfl rfl rfl ?_)))
 refine Calls.mono (wins_spec hX17.pins (hv.mono (Pin.le_trans hle10 hx16.le)) hg) ?_
 rintro _ w24 ⟨u19, x20, ls21, rs22, G23, rfl, hr25, hr26, hfa27, hfb28, hx29⟩
 refine ⟨_, rfl, ?_⟩
 have hX30 := hX17.tr hx29
 have hl31 := hfa27.len
 have hl32 := hfb28.len
 refine qd rfl rfl rfl (r_move (v := (.tuple #[u19, x20])) rfl) (qd rfl rfl rfl (r_extract (v := u19) rfl rfl) (qd rfl rfl rfl (r_extract (v := x20) rfl rfl) (qd rfl rfl rfl (r_assign (v := u19) rfl) (qd rfl rfl rfl (r_assign (v := x20) rfl) (qe (s_then (s_seq (s_seq (c_reg ?_)))))))))
 refine qd rfl rfl rfl (r_move (v := (.bool lf)) rfl) (qe (s_then ?_))
 refine c_if rfl rfl (fun h33 => ?_) (fun h33 => ?_)
 refine s_seq (c_reg ?_)
 refine qd rfl rfl rfl (r_move (v := u19) rfl) (qd rfl rfl rfl (r_move (v := u19) rfl) (qd rfl rfl rfl (run_len Try.underlying58 (v := u19) rfl hr25) (qd rfl rfl rfl (r_sub rfl rfl (by omega)) (qd rfl rfl rfl (run_idx Try.underlying58 sz4 (v := u19) rfl rfl hr25 (by omega) (by omega)) (qd rfl rfl rfl (run_load_bool (r := ls21.getD ((ls21.length : Int) - 1).toNat false) rfl ag4 (z := ((ls21.length : Int) - 1)) rfl hr25 hX30.pins (by omega) (by omega)) (qd rfl rfl rfl (r_assign (v := (.bool (ls21.getD ((ls21.length : Int) - 1).toNat false))) rfl) (qd rfl rfl rfl (r_assign (v := (.bool true)) rfl) (qe (s_then ?_)))))))))
 refine wp_ret (s_ret (c_ret2 (v := (.bool (ls21.getD ((ls21.length : Int) - 1).toNat false))) (u := (.bool true)) rfl rfl rfl rfl rfl ?_))
 rw [h33, wm_l hgb, hgb, ← hfa27.last hlo (z := (ns.length : Int) - 1) rfl]
 exact ⟨_, by rw [hfa27.len], hX30⟩
 refine wp_skip (s_then (s_seq (c_reg ?_)))
 refine qd rfl rfl rfl (r_move (v := x20) rfl) (qd rfl rfl rfl (r_move (v := x20) rfl) (qd rfl rfl rfl (run_len Try.underlying58 (v := x20) rfl hr26) (qd rfl rfl rfl (r_sub rfl rfl (by omega)) (qd rfl rfl rfl (run_idx Try.underlying58 sz4 (v := x20) rfl rfl hr26 (by omega) (by omega)) (qd rfl rfl rfl (run_load_bool (r := rs22.getD ((rs22.length : Int) - 1).toNat false) rfl ag4 (z := ((rs22.length : Int) - 1)) rfl hr26 hX30.pins (by omega) (by omega)) (qd rfl rfl rfl (r_assign (v := (.bool (rs22.getD ((rs22.length : Int) - 1).toNat false))) rfl) (qd rfl rfl rfl (r_assign (v := (.bool true)) rfl) (qe (s_then ?_)))))))))
 refine wp_ret (s_ret (c_ret2 (v := (.bool (rs22.getD ((rs22.length : Int) - 1).toNat false))) (u := (.bool true)) rfl rfl rfl rfl rfl ?_))
 rw [h33, wm_r hgb, hgb, ← hfb28.last hlo (z := (ns.length : Int) - 1) rfl]
 exact ⟨_, by rw [hfb28.len], hX30⟩
 refine s_seq (c_reg ?_)
 refine qd rfl rfl rfl (r_assign (v := (.bool false)) rfl) (qd rfl rfl rfl (r_assign (v := (.bool false)) rfl) (qe (s_then ?_)))
 refine wp_ret (s_ret (c_ret2 (v := (.bool false)) (u := (.bool false)) rfl rfl rfl rfl rfl ?_))
 rw [wm_no h18, h18]
 exact ⟨_, rfl, hX17⟩

end WN3
end Go.Proofs.Ytdongckiecjbaaa

set_option maxRecDepth 20000
set_option maxHeartbeats 2000000
namespace Go.Proofs.Ytdongckiecjbaaa
namespace AR1
open Go.RowKit Go.GL Go.Proofs
open B1








theorem pl57 : (Try.prog.underlying 57).bind (placesD Try.prog) = some [(0, 1), (1, 1)] := by kernel_rfl




theorem decided_spec {w : World} {G : Pin} {u v : Value} {N : List (List Int)} {rs : List (Int × Int)} {s : Nat} {t : Int} (hP : Pins G w) (hu : RSl (eSl eInt) G u N) (hv : RSl eP2 G v rs) (hok : ArOk N) (hl : rs.length = N.length) (hs : s < N.length) :
  Calls Try.prog 60 [(.agg [u, v].toArray), (.int .i64 (s : Int)), (.int .i64 t)].toArray w fun e w' => ∃ G', e = .returned (.tuple #[.agg #[.int .i64 (decW N rs t s), .int .i64 t], .bool (decB N rs t s)]) ∧ Ext noS G w G' w' := by
 refine s_enter (n := 64) Try.func60 Try.ntmps60 rfl rfl ?_
 have hX0 : Ext noS G w G w := Ext.refl hP
 have hmu := hu.max
 have hmv := hv.max
 have hmd : mvA s = 1 + (s : Int) % 2 := by unfold mvA; omega
 refine s_seq (c_reg ?_)
 refine q1 rfl rfl rfl (o_box [u, v] (v := (.agg [u, v].toArray)) rfl rfl hX0.pins (fun b1 w2 hk3 hb4 hp5 hl6 => ?_))
 have hX7 := hX0.step hp5 hl6
 have hlo8 : w.heap.size ≤ b1 := by have := hX0.size; omega
 obtain ⟨G9, hle10, hX11, hbp12, hf13⟩ := hb4.shut hX7 hlo8
 refine q1 rfl rfl rfl (o_alloc [(.int .i64 0), (.int .i64 0)] zr57 rfl hX11.pins (fun b14 w15 hk16 hb17 hp18 hl19 => ?_))
 have hX20 := hX11.step hp18 hl19
 have hlo21 : w.heap.size ≤ b14 := by have := hX11.size; omega
 refine qd rfl rfl rfl (r_assign (v := (.bool false)) rfl) (qe (s_then (s_seq (c_reg ?_))))
 refine qd rfl rfl rfl (r_move (v := (.int .i64 (s : Int))) rfl) (qd rfl rfl rfl (r_rem rfl rfl (by omega) (by omega)) (qd rfl rfl rfl (r_add rfl rfl (by omega)) (qd rfl rfl rfl (r_assign (v := (.int .i64 (1 + ((s : Int) % 2)))) rfl) (qe (s_then (s_seq (c_reg ?_)))))))
 refine qd rfl rfl rfl (r_assign (v := (.bool true)) rfl) (qe (s_then (s_seq (s_seq (c_reg ?_)))))
 refine qd rfl rfl rfl (r_fldp (k := 0) rfl Try.underlying53 rfl nz28 rfl) (qd rfl rfl rfl (r_ldp1 (u := u) ag28 rfl (hX20.pins _ _ _ (hbp12 0 _ rfl))) (qd rfl rfl rfl (r_move (v := (.int .i64 (s : Int))) rfl) (qd rfl rfl rfl (run_idx Try.underlying28 sz46 (v := u) rfl rfl hu (by omega) (by omega)) ?_)))
 obtain ⟨u22, hr23, hl24⟩ := nm_sl (hu.at (z := (s : Int)) (by omega) (by omega)) (j := s) rfl
 have hm25 := hr23.max
 refine qd rfl rfl rfl (hl24 ag46 rfl (Pins.of_le hX20.pins hle10)) (qd rfl rfl rfl (run_len Try.underlying46 (v := u22) rfl hr23) (qd rfl rfl rfl (r_move (v := (.int .i64 0)) rfl) (qe (s_then ?_))))
 refine s_blk (s_loop (fun (k : Nat) (en : Nat → Value) (W : World) => ∃ (env1 : Nat → Value) (j : Nat) (ls : Bool) (GL1 : Pin), en = (upd (upd (upd (upd (upd (upd (upd (upd env1 2 (.int .i64 t)) 3 (.pointer (some ⟨b1, 0, none⟩))) 6 (.pointer (some ⟨b14, 0, none⟩))) 8 (.int .i64 (1 + ((s : Int) % 2)))) 9 (.bool ls)) 20 u22) 21 (.int .i64 ((N.getD s []).length : Int))) 22 (.int .i64 (j : Int))) ∧ k = (N.getD s []).length - j ∧ Ext noS G w GL1 W ∧ Pin.le G9 GL1 ∧ (j ≤ (N.getD s []).length) ∧ ((N.getD s []).take j).any (fun k => decide (hitP rs t (mvA s) k)) = false ∧ (ls = ((N.getD s []).take j).all (fun k => decide (hitP rs t (3 - mvA s) k))) ∧ (Bx GL1 W b14 [(.int .i64 0), (.int .i64 0)])) _ ⟨_, 0, true, G9, (packS (x := 22) (packS (x := 21) (packS (x := 20) (packS (x := 9) (packS (x := 8) (packS (x := 6) (packS (x := 3) (pack1 (x := 2) rfl) rfl) rfl) rfl) rfl) rfl) rfl) rfl), rfl, hX20, Pin.le_refl _, Nat.zero_le _, rfl, rfl, hb17⟩ ?_)
 rintro k26 _ w27 ⟨env1, j, ls, GL1, rfl, hk28, hX29, hlek26, hj, hno, hls, hw30⟩
 refine s_seq (c_reg ?_)
 refine qd rfl rfl rfl (r_lss rfl rfl) (qe (s_then (s_seq ?_)))
 refine c_ifd (p := ((j : Int) : Int) < ((N.getD s []).length : Int)) rfl rfl (fun h31 => ?_) (fun h31 => ?_)
 have hki := hok s hs _ (getD_mem (d := (0 : Int)) (show j < (N.getD s []).length by omega))
 refine wp_skip (s_then (s_seq ?_))
 refine s_blk (s_seq (c_reg ?_))
 refine qd rfl rfl rfl (run_idx Try.underlying46 sz3 (v := u22) rfl rfl hr23 (by omega) (by omega)) (qd rfl rfl rfl (run_load_int (r := (N.getD s []).getD j 0) rfl ag3 (z := (j : Int)) rfl hr23 (Pins.of_le hX29.pins (Pin.le_trans hle10 hlek26)) (by omega) (by omega)) (qd rfl rfl rfl (r_assign (v := (.int .i64 ((N.getD s []).getD j 0))) rfl) (qe (s_then (s_seq (c_reg ?_))))))
 refine qd rfl rfl rfl (r_fldp (k := 1) rfl Try.underlying53 rfl nz51 rfl) (qd rfl rfl rfl (r_ldp1 (u := v) ag51 rfl ((Pins.of_le hX29.pins hlek26) _ _ _ (hbp12 1 _ rfl))) (qd rfl rfl rfl (r_move (v := (.int .i64 ((N.getD s []).getD j 0))) rfl) (qd rfl rfl rfl (run_idx Try.underlying51 sz57 (v := v) rfl rfl hv (by omega) (by omega)) ?_)))
 obtain ⟨cs32, hrep33, hagg34, hcell35⟩ := nm_el (j := ((N.getD s []).getD j 0).toNat) default (hv.at (z := ((N.getD s []).getD j 0)) (by omega) (by omega)) rfl
 obtain rfl := hrep33
 refine qd rfl rfl rfl (hagg34 ag57 sz57 rfl (Pins.of_le hX29.pins (Pin.le_trans hle10 hlek26))) (q1 rfl rfl rfl (o_alloc [(.int .i64 0), (.int .i64 0)] zr57 rfl hX29.pins (fun b36 w37 hk38 hb39 hp40 hl41 => ?_)))
 have hX42 := hX29.step hp40 hl41
 have hb43 := hw30.below hl41
 have ha44 : Apart (some b36) (some b14) := new_ne_box (congrArg some hk38) hw30.lt
 have hlo45 : w.heap.size ≤ b36 := by have := hX29.size; omega
 refine q0 rfl rfl rfl (o_stp (cs' := [(.int .i64 ((rs.getD ((N.getD s []).getD j 0).toNat default).1)), (.int .i64 ((rs.getD ((N.getD s []).getD j 0).toNat default).2))]) (us := [(.int .i64 ((rs.getD ((N.getD s []).getD j 0).toNat default).1)), (.int .i64 ((rs.getD ((N.getD s []).getD j 0).toNat default).2))]) (v := (.agg [(.int .i64 ((rs.getD ((N.getD s []).getD j 0).toNat default).1)), (.int .i64 ((rs.getD ((N.getD s []).getD j 0).toNat default).2))].toArray)) sz57 rfl rfl rfl (ones2 (by rfl) (by rfl)) hX42.pins hb39 (Nat.le_of_ble_eq_true rfl) rfl (fun w46 hb47 hp48 hg49 hz50 => ?_))
 have hX51 := hX42.write hp48 hg49 ((lo_box hlo45))
 have hb52 := hb43.keptA hg49 ha44.symm
 obtain ⟨G53, hle54, hX55, hbp56, hf57⟩ := hb47.shut hX51 hlo45
 have hb58 := hb52.moreA hf57 ha44.symm
 refine qe (s_then (s_seq (s_seq (c_reg ?_))))
 refine qd rfl rfl rfl (r_fldp (k := 0) rfl Try.underlying57 rfl nz3 rfl) (qd rfl rfl rfl (r_ldp1 (u := (.int .i64 ((rs.getD ((N.getD s []).getD j 0).toNat default).1))) ag3 rfl (hX55.pins _ _ _ (hbp56 0 _ rfl))) (qd rfl rfl rfl (r_move (v := (.int .i64 (1 + ((s : Int) % 2)))) rfl) (qd rfl rfl rfl (r_eql rfl rfl) (qd rfl rfl rfl (r_move (v := (.bool (decide (((rs.getD ((N.getD s []).getD j 0).toNat default).1 : Int) = (1 + ((s : Int) % 2)))))) rfl) (qbd (p := ((rs.getD ((N.getD s []).getD j 0).toNat default).1 : Int) = (1 + ((s : Int) % 2))) (t := 35) rfl (fun h59 => ?_) (fun h59 => ?_))))))
 refine qdg rfl rfl rfl rfl rfl rfl (r_fldp (k := 1) rfl Try.underlying57 rfl nz3 rfl) (qdg rfl rfl rfl rfl rfl rfl (r_ldp1 (u := (.int .i64 ((rs.getD ((N.getD s []).getD j 0).toNat default).2))) ag3 rfl (hX55.pins _ _ _ (hbp56 1 _ rfl))) (qdg rfl rfl rfl rfl rfl rfl (r_move (v := (.int .i64 t)) rfl) (qdg rfl rfl rfl rfl rfl rfl (r_lss rfl rfl) (qd rfl rfl rfl (r_pickT (v := (.bool (decide (((rs.getD ((N.getD s []).getD j 0).toNat default).2 : Int) < t)))) rfl rfl) (qe (s_then ?_))))))
 refine c_ifd (p := ((rs.getD ((N.getD s []).getD j 0).toNat default).2 : Int) < t) rfl rfl (fun h60 => ?_) (fun h60 => ?_)
 refine s_seq (c_reg ?_)
 refine qd rfl rfl rfl (r_move (v := (.int .i64 (1 + ((s : Int) % 2)))) rfl) (qd rfl rfl rfl (r_move (v := (.int .i64 t)) rfl) (qd rfl rfl rfl (r_build [(.int .i64 0), (.int .i64 0)] [(.int .i64 (1 + ((s : Int) % 2))), (.int .i64 t)] [(0, (.int .i64 (1 + ((s : Int) % 2))), [(.int .i64 (1 + ((s : Int) % 2)))]), (1, (.int .i64 t), [(.int .i64 t)])] Try.underlying57 zr57 rfl pl57 rfl (List.forall_mem_cons.2 ⟨rfl, (List.forall_mem_cons.2 ⟨rfl, (fun _ h => by cases h)⟩)⟩) rfl) (q0 rfl rfl rfl (o_stp (cs' := [(.int .i64 (1 + ((s : Int) % 2))), (.int .i64 t)]) (us := [(.int .i64 (1 + ((s : Int) % 2))), (.int .i64 t)]) (v := (.agg [(.int .i64 (1 + ((s : Int) % 2))), (.int .i64 t)].toArray)) sz57 rfl rfl rfl (ones2 (by rfl) (by rfl)) hX55.pins hb58 (Nat.le_of_ble_eq_true rfl) rfl (fun w61 hb62 hp63 hg64 hz65 => ?_)))))
 have hX66 := hX55.write hp63 hg64 ((lo_box hlo21))
 refine qd rfl rfl rfl (r_assign (v := (.bool true)) rfl) (qe (s_then ?_))
 refine wp_ret (s_ret (c_retct (cs := [(.int .i64 (1 + ((s : Int) % 2))), (.int .i64 t)]) (v := (.bool true)) rfl rfl rfl rfl rfl ag57 sz57 (fun j u hj => by rw [Nat.zero_add]; exact hb62.cell hj) ?_))
 obtain ⟨e1, e2⟩ := dec_hit (N := N) (rs := rs) (t := t) (s := s) (j := j) (by omega) ⟨by omega, by omega⟩
 rw [e1, e2, hmd]
 exact ⟨_, rfl, hX66⟩
 refine wp_skip (s_then (c_reg ?_))
 refine qd rfl rfl rfl (r_move (v := (.bool ls)) rfl) (qd rfl rfl rfl (r_move (v := (.bool ls)) rfl) (qb (t := 45) rfl (fun h67 => ?_) (fun h67 => ?_)))
 refine qdg rfl rfl rfl rfl rfl rfl (r_fldp (k := 0) rfl Try.underlying57 rfl nz3 rfl) (qdg rfl rfl rfl rfl rfl rfl (r_ldp1 (u := (.int .i64 ((rs.getD ((N.getD s []).getD j 0).toNat default).1))) ag3 rfl (hX55.pins _ _ _ (hbp56 0 _ rfl))) (qdg rfl rfl rfl rfl rfl rfl (r_move (v := (.int .i64 (1 + ((s : Int) % 2)))) rfl) (qdg rfl rfl rfl rfl rfl rfl (r_sub rfl rfl (by omega)) (qdg rfl rfl rfl rfl rfl rfl (r_eql rfl rfl) (qd rfl rfl rfl (r_pickT (v := (.bool (decide (((rs.getD ((N.getD s []).getD j 0).toNat default).1 : Int) = (3 - (1 + ((s : Int) % 2))))))) rfl rfl) (qd rfl rfl rfl (r_move (v := (.bool (decide (((rs.getD ((N.getD s []).getD j 0).toNat default).1 : Int) = (3 - (1 + ((s : Int) % 2))))))) rfl) (qbd (p := ((rs.getD ((N.getD s []).getD j 0).toNat default).1 : Int) = (3 - (1 + ((s : Int) % 2)))) (t := 52) rfl (fun h68 => ?_) (fun h68 => ?_))))))))
 refine qdg rfl rfl rfl rfl rfl rfl (r_fldp (k := 1) rfl Try.underlying57 rfl nz3 rfl) (qdg rfl rfl rfl rfl rfl rfl (r_ldp1 (u := (.int .i64 ((rs.getD ((N.getD s []).getD j 0).toNat default).2))) ag3 rfl (hX55.pins _ _ _ (hbp56 1 _ rfl))) (qdg rfl rfl rfl rfl rfl rfl (r_move (v := (.int .i64 t)) rfl) (qdg rfl rfl rfl rfl rfl rfl (r_lss rfl rfl) (qd rfl rfl rfl (r_pickT (v := (.bool (decide (((rs.getD ((N.getD s []).getD j 0).toNat default).2 : Int) < t)))) rfl rfl) (qd rfl rfl rfl (r_assign (v := (.bool (decide (((rs.getD ((N.getD s []).getD j 0).toNat default).2 : Int) < t)))) rfl) (qe (s_blkN (s_then (c_reg ?_)))))))))
 refine qd rfl rfl rfl (r_add rfl rfl (by omega)) (qd rfl rfl rfl (r_move (v := (.int .i64 ((j : Int) + 1))) rfl) (qe (s_lopN (⟨_, ?_, _, rfl, _, j + 1, decide (((rs.getD ((N.getD s []).getD j 0).toNat default).2 : Int) < t), G53, (packS (x := 22) (packS (x := 21) (packS (x := 20) (packS (x := 9) (packS (x := 8) (packS (x := 6) (packS (x := 3) (pack1 (x := 2) rfl) rfl) rfl) rfl) rfl) rfl) rfl) rfl), rfl, hX55, (Pin.le_trans hlek26 hle54), (by omega), (any_no (by omega) hno (fun h => by have h1 := h.1; have h2 := h.2; omega)), (all_d (by omega) hls h67 ⟨fun h => ⟨by omega, h⟩, fun h => h.2⟩), hb58⟩))))
 omega
 refine qs rfl rfl rfl rfl rfl rfl (qs rfl rfl rfl rfl rfl rfl (qs rfl rfl rfl rfl rfl rfl (qs rfl rfl rfl rfl rfl rfl (qd rfl rfl rfl (r_pickF (v := (.bool false)) rfl rfl) (qd rfl rfl rfl (r_assign (v := (.bool false)) rfl) (qe (s_blkN (s_then (c_reg ?_)))))))))
 refine qd rfl rfl rfl (r_add rfl rfl (by omega)) (qd rfl rfl rfl (r_move (v := (.int .i64 ((j : Int) + 1))) rfl) (qe (s_lopN (⟨_, ?_, _, rfl, _, j + 1, false, G53, (packS (x := 22) (packS (x := 21) (packS (x := 20) (packS (x := 9) (packS (x := 8) (packS (x := 6) (packS (x := 3) (pack1 (x := 2) rfl) rfl) rfl) rfl) rfl) rfl) rfl) rfl), rfl, hX55, (Pin.le_trans hlek26 hle54), (by omega), (any_no (by omega) hno (fun h => by have h1 := h.1; have h2 := h.2; omega)), (all_n (by omega) (fun h => by have h1 := h.1; have h2 := h.2; omega)), hb58⟩))))
 omega
 refine qs rfl rfl rfl rfl rfl rfl (qs rfl rfl rfl rfl rfl rfl (qs rfl rfl rfl rfl rfl rfl (qs rfl rfl rfl rfl rfl rfl (qs rfl rfl rfl rfl rfl rfl (qd rfl rfl rfl (r_pickF (v := (.bool false)) rfl rfl) (qd rfl rfl rfl (r_move (v := (.bool false)) rfl) (qs rfl rfl rfl rfl rfl rfl (qs rfl rfl rfl rfl rfl rfl (qs rfl rfl rfl rfl rfl rfl (qs rfl rfl rfl rfl rfl rfl (qd rfl rfl rfl (r_pickF (v := (.bool false)) rfl rfl) (qd rfl rfl rfl (r_assign (v := (.bool false)) rfl) (qe (s_blkN (s_then (c_reg ?_))))))))))))))))
 refine qd rfl rfl rfl (r_add rfl rfl (by omega)) (qd rfl rfl rfl (r_move (v := (.int .i64 ((j : Int) + 1))) rfl) (qe (s_lopN (⟨_, ?_, _, rfl, _, j + 1, false, G53, (packS (x := 22) (packS (x := 21) (packS (x := 20) (packS (x := 9) (packS (x := 8) (packS (x := 6) (packS (x := 3) (pack1 (x := 2) rfl) rfl) rfl) rfl) rfl) rfl) rfl) rfl), rfl, hX55, (Pin.le_trans hlek26 hle54), (by omega), (any_no (by omega) hno (fun h => by have h1 := h.1; have h2 := h.2; omega)), (all_f (by omega) hls h67), hb58⟩))))
 omega
 refine qs rfl rfl rfl rfl rfl rfl (qs rfl rfl rfl rfl rfl rfl (qs rfl rfl rfl rfl rfl rfl (qs rfl rfl rfl rfl rfl rfl (qd rfl rfl rfl (r_pickF (v := (.bool false)) rfl rfl) (qe (s_then ?_))))))
 refine c_ifF rfl rfl (wp_skip (s_then (c_reg ?_)))
 refine qd rfl rfl rfl (r_move (v := (.bool ls)) rfl) (qd rfl rfl rfl (r_move (v := (.bool ls)) rfl) (qb (t := 45) rfl (fun h69 => ?_) (fun h69 => ?_)))
 refine qdg rfl rfl rfl rfl rfl rfl (r_fldp (k := 0) rfl Try.underlying57 rfl nz3 rfl) (qdg rfl rfl rfl rfl rfl rfl (r_ldp1 (u := (.int .i64 ((rs.getD ((N.getD s []).getD j 0).toNat default).1))) ag3 rfl (hX55.pins _ _ _ (hbp56 0 _ rfl))) (qdg rfl rfl rfl rfl rfl rfl (r_move (v := (.int .i64 (1 + ((s : Int) % 2)))) rfl) (qdg rfl rfl rfl rfl rfl rfl (r_sub rfl rfl (by omega)) (qdg rfl rfl rfl rfl rfl rfl (r_eql rfl rfl) (qd rfl rfl rfl (r_pickT (v := (.bool (decide (((rs.getD ((N.getD s []).getD j 0).toNat default).1 : Int) = (3 - (1 + ((s : Int) % 2))))))) rfl rfl) (qd rfl rfl rfl (r_move (v := (.bool (decide (((rs.getD ((N.getD s []).getD j 0).toNat default).1 : Int) = (3 - (1 + ((s : Int) % 2))))))) rfl) (qbd (p := ((rs.getD ((N.getD s []).getD j 0).toNat default).1 : Int) = (3 - (1 + ((s : Int) % 2)))) (t := 52) rfl (fun h70 => ?_) (fun h70 => ?_))))))))
 refine qdg rfl rfl rfl rfl rfl rfl (r_fldp (k := 1) rfl Try.underlying57 rfl nz3 rfl) (qdg rfl rfl rfl rfl rfl rfl (r_ldp1 (u := (.int .i64 ((rs.getD ((N.getD s []).getD j 0).toNat default).2))) ag3 rfl (hX55.pins _ _ _ (hbp56 1 _ rfl))) (qdg rfl rfl rfl rfl rfl rfl (r_move (v := (.int .i64 t)) rfl) (qdg rfl rfl rfl rfl rfl rfl (r_lss rfl rfl) (qd rfl rfl rfl (r_pickT (v := (.bool (decide (((rs.getD ((N.getD s []).getD j 0).toNat default).2 : Int) < t)))) rfl rfl) (qd rfl rfl rfl (r_assign (v := (.bool (decide (((rs.getD ((N.getD s []).getD j 0).toNat default).2 : Int) < t)))) rfl) (qe (s_blkN (s_then (c_reg ?_)))))))))
 refine qd rfl rfl rfl (r_add rfl rfl (by omega)) (qd rfl rfl rfl (r_move (v := (.int .i64 ((j : Int) + 1))) rfl) (qe (s_lopN (⟨_, ?_, _, rfl, _, j + 1, decide (((rs.getD ((N.getD s []).getD j 0).toNat default).2 : Int) < t), G53, (packS (x := 22) (packS (x := 21) (packS (x := 20) (packS (x := 9) (packS (x := 8) (packS (x := 6) (packS (x := 3) (pack1 (x := 2) rfl) rfl) rfl) rfl) rfl) rfl) rfl) rfl), rfl, hX55, (Pin.le_trans hlek26 hle54), (by omega), (any_no (by omega) hno (fun h => by have h1 := h.1; have h2 := h.2; omega)), (all_d (by omega) hls h69 ⟨fun h => ⟨by omega, h⟩, fun h => h.2⟩), hb58⟩))))
 omega
 refine qs rfl rfl rfl rfl rfl rfl (qs rfl rfl rfl rfl rfl rfl (qs rfl rfl rfl rfl rfl rfl (qs rfl rfl rfl rfl rfl rfl (qd rfl rfl rfl (r_pickF (v := (.bool false)) rfl rfl) (qd rfl rfl rfl (r_assign (v := (.bool false)) rfl) (qe (s_blkN (s_then (c_reg ?_)))))))))
 refine qd rfl rfl rfl (r_add rfl rfl (by omega)) (qd rfl rfl rfl (r_move (v := (.int .i64 ((j : Int) + 1))) rfl) (qe (s_lopN (⟨_, ?_, _, rfl, _, j + 1, false, G53, (packS (x := 22) (packS (x := 21) (packS (x := 20) (packS (x := 9) (packS (x := 8) (packS (x := 6) (packS (x := 3) (pack1 (x := 2) rfl) rfl) rfl) rfl) rfl) rfl) rfl) rfl), rfl, hX55, (Pin.le_trans hlek26 hle54), (by omega), (any_no (by omega) hno (fun h => by have h1 := h.1; have h2 := h.2; omega)), (all_n (by omega) (fun h => by have h1 := h.1; have h2 := h.2; omega)), hb58⟩))))
 omega
 refine qs rfl rfl rfl rfl rfl rfl (qs rfl rfl rfl rfl rfl rfl (qs rfl rfl rfl rfl rfl rfl (qs rfl rfl rfl rfl rfl rfl (qs rfl rfl rfl rfl rfl rfl (qd rfl rfl rfl (r_pickF (v := (.bool false)) rfl rfl) (qd rfl rfl rfl (r_move (v := (.bool false)) rfl) (qs rfl rfl rfl rfl rfl rfl (qs rfl rfl rfl rfl rfl rfl (qs rfl rfl rfl rfl rfl rfl (qs rfl rfl rfl rfl rfl rfl (qd rfl rfl rfl (r_pickF (v := (.bool false)) rfl rfl) (qd rfl rfl rfl (r_assign (v := (.bool false)) rfl) (qe (s_blkN (s_then (c_reg ?_))))))))))))))))
 refine qd rfl rfl rfl (r_add rfl rfl (by omega)) (qd rfl rfl rfl (r_move (v := (.int .i64 ((j : Int) + 1))) rfl) (qe (s_lopN (⟨_, ?_, _, rfl, _, j + 1, false, G53, (packS (x := 22) (packS (x := 21) (packS (x := 20) (packS (x := 9) (packS (x := 8) (packS (x := 6) (packS (x := 3) (pack1 (x := 2) rfl) rfl) rfl) rfl) rfl) rfl) rfl) rfl), rfl, hX55, (Pin.le_trans hlek26 hle54), (by omega), (any_no (by omega) hno (fun h => by have h1 := h.1; have h2 := h.2; omega)), (all_f (by omega) hls h69), hb58⟩))))
 omega
 refine wp_exit (s_thenE (s_lopE (s_blkE (s_then (s_seq (c_reg ?_))))))
 refine qd rfl rfl rfl (r_move (v := (.int .i64 (1 + ((s : Int) % 2)))) rfl) (qd rfl rfl rfl (r_sub rfl rfl (by omega)) (qd rfl rfl rfl (r_move (v := (.int .i64 t)) rfl) (qd rfl rfl rfl (r_build [(.int .i64 0), (.int .i64 0)] [(.int .i64 (3 - (1 + ((s : Int) % 2)))), (.int .i64 t)] [(0, (.int .i64 (3 - (1 + ((s : Int) % 2)))), [(.int .i64 (3 - (1 + ((s : Int) % 2))))]), (1, (.int .i64 t), [(.int .i64 t)])] Try.underlying57 zr57 rfl pl57 rfl (List.forall_mem_cons.2 ⟨rfl, (List.forall_mem_cons.2 ⟨rfl, (fun _ h => by cases h)⟩)⟩) rfl) (qd rfl rfl rfl (r_move (v := (.bool ls)) rfl) (q0 rfl rfl rfl (o_stp (cs' := [(.int .i64 (3 - (1 + ((s : Int) % 2)))), (.int .i64 t)]) (us := [(.int .i64 (3 - (1 + ((s : Int) % 2)))), (.int .i64 t)]) (v := (.agg [(.int .i64 (3 - (1 + ((s : Int) % 2)))), (.int .i64 t)].toArray)) sz57 rfl rfl rfl (ones2 (by rfl) (by rfl)) hX29.pins hw30 (Nat.le_of_ble_eq_true rfl) rfl (fun w71 hb72 hp73 hg74 hz75 => ?_)))))))
 have hX76 := hX29.write hp73 hg74 ((lo_box hlo21))
 refine qd rfl rfl rfl (r_assign (v := (.bool ls)) rfl) (qe (s_then ?_))
 refine wp_ret (s_ret (c_retct (cs := [(.int .i64 (3 - (1 + ((s : Int) % 2)))), (.int .i64 t)]) (v := (.bool ls)) rfl rfl rfl rfl rfl ag57 sz57 (fun j u hj => by rw [Nat.zero_add]; exact hb72.cell hj) ?_))
 obtain ⟨e1, e2⟩ := dec_miss (by omega) hno hls
 rw [e1, e2, hmd]
 exact ⟨_, rfl, hX76⟩

end AR1
end Go.Proofs.Ytdongckiecjbaaa

set_option maxRecDepth 20000
set_option maxHeartbeats 2000000
namespace Go.Proofs.Ytdongckiecjbaaa
namespace AR2
open Go.RowKit Go.GL Go.Proofs
open B1 AR1














theorem round_spec {w : World} {G : Pin} {u v : Value} {N : List (List Int)} {rs : List (Int × Int)} {t : Int} (hP : Pins G w) (hu : RSl (eSl eInt) G u N) (ho : Own eP2 57 G w 0 v rs) (hok : ArOk N) (hi : ArI N t rs) (hl : rs.length = N.length) (hsz : rs.length ≤ 1048576) :
  Calls Try.prog 50 [(.agg [u, v].toArray), (.int .i64 t)].toArray w fun e w' => ∃ (rs2 : List (Int × Int)) (b : Bool) (G' : Pin), e = .returned (.bool b) ∧ Own eP2 57 G' w' 0 v rs2 ∧ (b = false → ∀ s, s < N.length → (rs2.getD s default).1 = wnA N s) ∧ (b = true → ArI N (t + 1) rs2 ∧ zc rs2 < zc rs) ∧ rs2.length = rs.length ∧ Ext (inO v.ownBlock) G w G' w' := by
 refine s_enter (n := 63) Try.func50 Try.ntmps50 rfl rfl ?_
 have hX0 : Ext (inO v.ownBlock) G w G w := Ext.refl hP
 have hmu := hu.max
 have hmo := ho.max
 have hlo0 : Lo w (inO v.ownBlock) v.ownBlock := fun k hk => Or.inr hk
 refine s_seq (c_reg ?_)
 refine q1 rfl rfl rfl (o_box [u, v] (v := (.agg [u, v].toArray)) rfl rfl hX0.pins (fun b1 w2 hk3 hb4 hp5 hl6 => ?_))
 have hX7 := hX0.step hp5 hl6
 have ho8 := ho.below hl6
 have ha9 : Apart (some b1) v.ownBlock := new_ne_own (congrArg some hk3) ho.lt
 have hlo10 : w.heap.size ≤ b1 := by have := hX0.size; omega
 obtain ⟨G11, hle12, hX13, hbp14, hf15⟩ := hb4.shut hX7 hlo10
 have ho16 := ho8.moreA hle12 hf15 ha9.symm
 refine qd rfl rfl rfl (r_assign (v := (.bool false)) rfl) (qe (s_then (s_seq (c_reg ?_))))
 refine q1 rfl rfl rfl (o_build0 (E := eInt) (e := 3) Try.underlying46 sz3 hX13.pins (fun u17 w18 ho19 hp20 hl21 hk22 => ?_))
 have hX23 := hX13.step hp20 hl21
 have ho24 := ho16.below hl21
 have ha25 : Apart u17.ownBlock v.ownBlock := new_ne_own hk22 ho16.lt
 have ho26 : Own eInt 3 G11 w18 w.heap.size u17 ([]) := ho19.weaken hX13.size
 refine qd rfl rfl rfl (r_assign (v := u17) rfl) (qe (s_then (s_seq (c_reg ?_))))
 refine q1 rfl rfl rfl (o_build0 (E := eP2) (e := 57) Try.underlying51 sz57 hX23.pins (fun u27 w28 ho29 hp30 hl31 hk32 => ?_))
 have hX33 := hX23.step hp30 hl31
 have ho34 := ho24.below hl31
 have ho35 := ho26.below hl31
 have ha36 : Apart u27.ownBlock v.ownBlock := new_ne_own hk32 ho24.lt
 have ha37 : Apart u27.ownBlock u17.ownBlock := new_ne_own hk32 ho26.lt
 have ho38 : Own eP2 57 G11 w28 w.heap.size u27 ([]) := ho29.weaken hX23.size
 refine qd rfl rfl rfl (r_assign (v := u27) rfl) (qe (s_then (s_seq (s_seq (c_reg ?_)))))
 refine qd rfl rfl rfl (r_fldp (k := 1) rfl Try.underlying53 rfl nz51 rfl) (qd rfl rfl rfl (r_ldp1 (u := v) ag51 rfl (hX33.pins _ _ _ (hbp14 1 _ rfl))) (qd rfl rfl rfl (run_len Try.underlying51 (v := v) rfl ho34.read) (qd rfl rfl rfl (r_move (v := (.int .i64 0)) rfl) (qe (s_then ?_)))))
 refine s_blk (s_loop (fun (k : Nat) (en : Nat → Value) (W : World) => ∃ (env1 : Nat → Value) (j : Nat) (fv : Value) (fs : List Int) (tv : Value) (ts : List (Int × Int)) (GL1 : Pin), en = (upd (upd (upd (upd (upd (upd (upd env1 1 (.int .i64 t)) 2 (.pointer (some ⟨b1, 0, none⟩))) 4 (.bool false)) 5 fv) 6 tv) 16 (.int .i64 (rs.length : Int))) 17 (.int .i64 (j : Int))) ∧ k = rs.length - j ∧ Ext (inO v.ownBlock) G w GL1 W ∧ Pin.le G11 GL1 ∧ (j ≤ rs.length) ∧ (FdI N rs t j fs ts) ∧ (Own eInt 3 GL1 W w.heap.size fv (fs)) ∧ (Own eP2 57 GL1 W w.heap.size tv (ts)) ∧ (Own eP2 57 GL1 W 0 v (rs)) ∧ (Apart fv.ownBlock tv.ownBlock) ∧ (Apart fv.ownBlock v.ownBlock) ∧ (Apart tv.ownBlock v.ownBlock)) _ ⟨_, 0, u17, [], u27, [], G11, (packS (x := 17) (packS (x := 16) (packS (x := 6) (packS (x := 5) (packS (x := 4) (packS (x := 2) (pack1 (x := 1) rfl) rfl) rfl) rfl) rfl) rfl) rfl), rfl, hX33, Pin.le_refl _, Nat.zero_le _, FdI.start, ho35, ho38, ho34, ha37.symm, ha25, ha36⟩ ?_)
 rintro k39 _ w40 ⟨env1, j, fv, fs, tv, ts, GL1, rfl, hk41, hX42, hlek39, hj, hF, hw43, hw44, hw45, ha46, ha47, ha48⟩
 have hfl := hF.le
 have htl := hF.len
 refine s_seq (c_reg ?_)
 refine qd rfl rfl rfl (r_lss rfl rfl) (qe (s_then (s_seq ?_)))
 refine c_ifd (p := ((j : Int) : Int) < (rs.length : Int)) rfl rfl (fun h49 => ?_) (fun h49 => ?_)
 refine wp_skip (s_then (s_seq ?_))
 refine s_blk (s_seq (c_reg ?_))
 refine qd rfl rfl rfl (r_move (v := (.int .i64 (j : Int))) rfl) (qd rfl rfl rfl (r_assign (v := (.int .i64 (j : Int))) rfl) (qe (s_then (s_seq (s_seq (c_reg ?_))))))
 refine qd rfl rfl rfl (r_fldp (k := 1) rfl Try.underlying53 rfl nz51 rfl) (qd rfl rfl rfl (r_ldp1 (u := v) ag51 rfl ((Pins.of_le hX42.pins hlek39) _ _ _ (hbp14 1 _ rfl))) (qd rfl rfl rfl (r_move (v := (.int .i64 (j : Int))) rfl) (qd rfl rfl rfl (run_idx Try.underlying51 sz57 (v := v) rfl rfl hw45.read (by omega) (by omega)) (qd rfl rfl rfl (run_fld (off := 0) Try.underlying57 rfl rfl nz3 (z := (j : Int)) (k := 0) rfl hw45.read (by omega) (by omega)) ?_))))
 obtain ⟨cs50, hrep51, hagg52, hcell53⟩ := nm_el (j := j) default (hw45.at (z := (j : Int)) (by omega) (by omega)) rfl
 obtain rfl := hrep51
 refine qd rfl rfl rfl (hcell53 0 _ rfl ag3 rfl (Gadd.pins hX42.pins v)) (qd rfl rfl rfl (r_neq rfl rfl) (qe (s_then ?_)))
 refine c_ifd (p := ((rs.getD j default).1 : Int) ≠ 0) rfl rfl (fun h54 => ?_) (fun h54 => ?_)
 refine wp_exit (s_thenE (s_blkE (s_then (c_reg ?_))))
 refine qd rfl rfl rfl (r_add rfl rfl (by omega)) (qd rfl rfl rfl (r_move (v := (.int .i64 ((j : Int) + 1))) rfl) (qe (s_lopN (⟨_, ?_, _, rfl, _, j + 1, fv, fs, tv, ts, GL1, (packS (x := 17) (packS (x := 16) (packS (x := 6) (packS (x := 5) (packS (x := 4) (packS (x := 2) (pack1 (x := 1) rfl) rfl) rfl) rfl) rfl) rfl) rfl), rfl, hX42, hlek39, (by omega), (hF.no (Or.inl h54)), hw43, hw44, hw45, ha46, ha47, ha48⟩))))
 omega
 refine wp_skip (s_then (s_seq (c_reg ?_)))
 refine qd rfl rfl rfl (r_ldpA (cs := [u, v]) ag53 sz53 rfl (fun j u hj => (Pins.of_le hX42.pins hlek39) _ _ _ (hbp14 _ _ (by simpa using hj)))) (qd rfl rfl rfl (r_move (v := (.int .i64 (j : Int))) rfl) (qd rfl rfl rfl (r_move (v := (.int .i64 t)) rfl) (q1 rfl rfl rfl (o_call (vs := [(.agg [u, v].toArray), (.int .i64 (j : Int)), (.int .i64 t)]) Try.func60 nm60 rfl rfl rfl ?_))))
 refine Calls.mono (decided_spec (Gadd.pins hX42.pins v) ((hu.mono (Pin.le_trans hle12 hlek39)).mono (Gadd.le _ _ _)) hw45.read hok (by omega) (by omega)) ?_
 rintro _ w56 ⟨G55, rfl, hx57⟩
 refine ⟨_, rfl, ?_⟩
 have hx58 := deep_back hX42.pins hx57
 have hX59 := hX42.step hx58.pins hx58.below
 have ho60 := hw43.below hx58.below
 have ho61 := hw44.below hx58.below
 have ho62 := hw45.below hx58.below
 refine qd rfl rfl rfl (r_move (v := (.tuple #[(.agg [(.int .i64 (decW N rs t j)), (.int .i64 t)].toArray), (.bool (decB N rs t j))])) rfl) (qd rfl rfl rfl (r_extract (v := (.agg [(.int .i64 (decW N rs t j)), (.int .i64 t)].toArray)) rfl rfl) (qd rfl rfl rfl (r_extract (v := (.bool (decB N rs t j))) rfl rfl) (q1 rfl rfl rfl (o_alloc [(.int .i64 0), (.int .i64 0)] zr57 rfl hX59.pins (fun b63 w64 hk65 hb66 hp67 hl68 => ?_)))))
 have hX69 := hX59.step hp67 hl68
 have ho70 := ho60.below hl68
 have ho71 := ho61.below hl68
 have ho72 := ho62.below hl68
 have ha73 : Apart (some b63) fv.ownBlock := new_ne_own (congrArg some hk65) ho60.lt
 have ha74 : Apart (some b63) tv.ownBlock := new_ne_own (congrArg some hk65) ho61.lt
 have ha75 : Apart (some b63) v.ownBlock := new_ne_own (congrArg some hk65) ho62.lt
 have hlo76 : w.heap.size ≤ b63 := by have := hX59.size; omega
 refine q0 rfl rfl rfl (o_stp (cs' := [(.int .i64 (decW N rs t j)), (.int .i64 t)]) (us := [(.int .i64 (decW N rs t j)), (.int .i64 t)]) (v := (.agg [(.int .i64 (decW N rs t j)), (.int .i64 t)].toArray)) sz57 rfl rfl rfl (ones2 (by rfl) (by rfl)) hX69.pins hb66 (Nat.le_of_ble_eq_true rfl) rfl (fun w77 hb78 hp79 hg80 hz81 => ?_))
 have hX82 := hX69.write hp79 hg80 ((lo_box hlo76))
 have ho83 := ho70.keptA hg80 ha73.symm
 have ho84 := ho71.keptA hg80 ha74.symm
 have ho85 := ho72.keptA hg80 ha75.symm
 obtain ⟨G86, hle87, hX88, hbp89, hf90⟩ := hb78.shut hX82 hlo76
 have ho91 := ho83.moreA hle87 hf90 ha73.symm
 have ho92 := ho84.moreA hle87 hf90 ha74.symm
 have ho93 := ho85.moreA hle87 hf90 ha75.symm
 refine qd rfl rfl rfl (r_assign (v := (.bool (decB N rs t j))) rfl) (qe (s_then (s_seq (c_reg ?_))))
 refine qd rfl rfl rfl (r_move (v := (.bool (decB N rs t j))) rfl) (qe (s_then ?_))
 refine c_if rfl rfl (fun h94 => ?_) (fun h94 => ?_)
 refine s_seq (c_reg ?_)
 refine qd rfl rfl rfl (r_move (v := fv) rfl) (qd rfl rfl rfl (r_move (v := (.int .i64 (j : Int))) rfl) (q1 rfl rfl rfl (o_buildF (E := eInt) (e := 3) [(.int .i64 (j : Int))] [(j : Int)] Try.underlying46 sz3 zr3 (by exact reps1 (by rfl)) (ones1 (by rfl)) rfl rfl rfl rfl (by decide) hX88.pins (fun u95 w96 ho97 hp98 hl99 hk100 => ?_))))
 have hX101 := hX88.step hp98 hl99
 have ho102 := ho91.below hl99
 have ho103 := ho92.below hl99
 have ho104 := ho93.below hl99
 have ho108 : Own eInt 3 G86 w96 w.heap.size u95 ([(j : Int)]) := ho97.weaken hX88.size
 refine q1 rfl rfl rfl (o_append (E := eInt) (v := fv) (u := u95) 8 Try.underlying46 ap3 (by decide) rfl rfl hX101.pins ho102 ho108.src (by first | omega | (rw [List.nil_append]; omega) | (rw [List.length_nil]; omega) | (rw [List.length_append]; omega) | (simp; done) | (simp; omega) | (simp only [List.length_cons, List.length_nil]; omega) | (simp only [List.length_append, List.length_cons, List.length_nil]; omega)) (by first | omega | (rw [List.nil_append]; omega) | (rw [List.length_nil]; omega) | (rw [List.length_append]; omega) | (simp; done) | (simp; omega) | (simp only [List.length_cons, List.length_nil]; omega) | (simp only [List.length_append, List.length_cons, List.length_nil]; omega)) (hX101.size) (fun u109 w110 ho111 hp112 hg113 hw114 => ?_))
 have hX115 := hX101.write hp112 hg113 ((lo_own ho102))
 have ho116 := ho103.keptA hg113 ha46.symm
 have ho117 := ho104.keptA hg113 ha47.symm
 have ha119 : Apart tv.ownBlock u109.ownBlock := app_ne_own ha46.symm hw114 ho103.lt
 have ha120 : Apart v.ownBlock u109.ownBlock := app_ne_own ha47.symm hw114 ho104.lt
 have hm122 : (fs ++ ([(j : Int)])).length = fs.length + 1 := List.length_append
 refine qd rfl rfl rfl (r_assign (v := u109) rfl) (qe (s_then (c_reg ?_)))
 refine qd rfl rfl rfl (r_move (v := tv) rfl) (qd rfl rfl rfl (r_ldpA (cs := [(.int .i64 (decW N rs t j)), (.int .i64 t)]) ag57 sz57 rfl (fun j u hj => hX115.pins _ _ _ (hbp89 _ _ (by simpa using hj)))) (q1 rfl rfl rfl (o_build1 (E := eP2) (e := 57) [(.int .i64 (decW N rs t j)), (.int .i64 t)] (decW N rs t j, t) Try.underlying51 sz57 zr57 rfl rfl (by decide) hX115.pins (fun u123 w124 ho125 hp126 hl127 hk128 => ?_))))
 have hX129 := hX115.step hp126 hl127
 have ho130 := ho116.below hl127
 have ho131 := ho117.below hl127
 have ho132 := ho111.below hl127
 have ho136 : Own eP2 57 G86 w124 w.heap.size u123 ([(decW N rs t j, t)]) := ho125.weaken hX115.size
 refine q1 rfl rfl rfl (o_append (E := eP2) (v := tv) (u := u123) 16 Try.underlying51 ap57 (by decide) rfl rfl hX129.pins ho130 ho136.src (by first | omega | (rw [List.nil_append]; omega) | (rw [List.length_nil]; omega) | (rw [List.length_append]; omega) | (simp; done) | (simp; omega) | (simp only [List.length_cons, List.length_nil]; omega) | (simp only [List.length_append, List.length_cons, List.length_nil]; omega)) (by first | omega | (rw [List.nil_append]; omega) | (rw [List.length_nil]; omega) | (rw [List.length_append]; omega) | (simp; done) | (simp; omega) | (simp only [List.length_cons, List.length_nil]; omega) | (simp only [List.length_append, List.length_cons, List.length_nil]; omega)) (hX129.size) (fun u137 w138 ho139 hp140 hg141 hw142 => ?_))
 have hX143 := hX129.write hp140 hg141 ((lo_own ho130))
 have ho144 := ho131.keptA hg141 ha48.symm
 have ho145 := ho132.keptA hg141 ha119.symm
 have ha147 : Apart v.ownBlock u137.ownBlock := app_ne_own ha48.symm hw142 ho131.lt
 have ha148 : Apart u109.ownBlock u137.ownBlock := app_ne_own ha119.symm hw142 ho132.lt
 have hm150 : (ts ++ ([(decW N rs t j, t)])).length = ts.length + 1 := List.length_append
 refine qd rfl rfl rfl (r_assign (v := u137) rfl) (qe (s_blkN (s_then (c_reg ?_))))
 refine qd rfl rfl rfl (r_add rfl rfl (by omega)) (qd rfl rfl rfl (r_move (v := (.int .i64 ((j : Int) + 1))) rfl) (qe (s_lopN (⟨_, ?_, _, rfl, _, j + 1, u109, fs ++ ([(j : Int)]), u137, ts ++ ([(decW N rs t j, t)]), G86, (packS (x := 17) (packS (x := 16) (packS (x := 6) (packS (x := 5) (packS (x := 4) (packS (x := 2) (pack1 (x := 1) rfl) rfl) rfl) rfl) rfl) rfl) rfl), rfl, hX143, (Pin.le_trans hlek39 hle87), (by omega), (hF.yes (by omega) h94), ho145, ho139, ho144, ha148, ha120.symm, ha147.symm⟩))))
 omega
 refine wp_skip (s_blkN (s_then (c_reg ?_)))
 refine qd rfl rfl rfl (r_add rfl rfl (by omega)) (qd rfl rfl rfl (r_move (v := (.int .i64 ((j : Int) + 1))) rfl) (qe (s_lopN (⟨_, ?_, _, rfl, _, j + 1, fv, fs, tv, ts, G86, (packS (x := 17) (packS (x := 16) (packS (x := 6) (packS (x := 5) (packS (x := 4) (packS (x := 2) (pack1 (x := 1) rfl) rfl) rfl) rfl) rfl) rfl) rfl), rfl, hX88, (Pin.le_trans hlek39 hle87), (by omega), (hF.no (Or.inr h94)), ho91, ho92, ho93, ha46, ha47, ha48⟩))))
 omega
 refine wp_exit (s_thenE (s_lopE (s_blkE (s_then (s_seq (s_seq (c_reg ?_)))))))
 refine qd rfl rfl rfl (r_move (v := fv) rfl) (qd rfl rfl rfl (run_len Try.underlying46 (v := fv) rfl hw43.read) (qd rfl rfl rfl (r_move (v := (.int .i64 0)) rfl) (qe (s_then ?_))))
 refine s_blk (s_loop (fun (k : Nat) (en : Nat → Value) (W : World) => ∃ (env1 : Nat → Value) (q : Nat) (rs2 : List (Int × Int)) (GL2 : Pin), en = (upd (upd (upd (upd (upd (upd (upd env1 2 (.pointer (some ⟨b1, 0, none⟩))) 4 (.bool false)) 5 fv) 6 tv) 44 fv) 45 (.int .i64 (fs.length : Int))) 46 (.int .i64 (q : Int))) ∧ k = fs.length - q ∧ Ext (inO v.ownBlock) G w GL2 W ∧ Pin.le GL1 GL2 ∧ (q ≤ fs.length) ∧ (TdI N rs t q rs2) ∧ (Own eP2 57 GL2 W 0 v (rs2)) ∧ (Own eInt 3 GL2 W w.heap.size fv (fs)) ∧ (Own eP2 57 GL2 W w.heap.size tv (ts))) _ ⟨_, 0, rs, GL1, (packS (x := 46) (packS (x := 45) (packS (x := 44) (packS (x := 6) (packS (x := 5) (packS (x := 4) (pack1 (x := 2) rfl) rfl) rfl) rfl) rfl) rfl) rfl), rfl, hX42, Pin.le_refl _, Nat.zero_le _, TdI.start, hw45, hw43, hw44⟩ ?_)
 rintro k151 _ w152 ⟨env1, q, rs2, GL2, rfl, hk153, hX154, hlek151, hq, hT, hw155, hw156, hw157⟩
 have hr2 := hT.len
 refine s_seq (c_reg ?_)
 refine qd rfl rfl rfl (r_lss rfl rfl) (qe (s_then (s_seq ?_)))
 refine c_ifd (p := ((q : Int) : Int) < (fs.length : Int)) rfl rfl (fun h158 => ?_) (fun h158 => ?_)
 have hfo := hF.ok q (by omega)
 refine wp_skip (s_then (s_seq ?_))
 refine s_blk (s_seq (c_reg ?_))
 refine qd rfl rfl rfl (r_move (v := (.int .i64 (q : Int))) rfl) (qd rfl rfl rfl (run_idx Try.underlying46 sz3 (v := fv) rfl rfl hw156.read (by omega) (by omega)) (qd rfl rfl rfl (run_load_int (r := fs.getD q 0) rfl ag3 (z := (q : Int)) rfl hw156.read (Gadd.pins hX154.pins fv) (by omega) (by omega)) (qd rfl rfl rfl (r_assign (v := (.int .i64 (q : Int))) rfl) (qd rfl rfl rfl (r_assign (v := (.int .i64 (fs.getD q 0))) rfl) (qe (s_then ?_))))))
 have hq159 := Gadd.pins hX154.pins tv
 have hq160 := Gadd.pins hX154.pins v
 have hr161 := hw157.read
 have hr162 := hw155.read
 refine c_draw (S := fun wz => Pins GL2 wz ∧ Pins (Gadd GL2 w152 tv) wz ∧ Pins (Gadd GL2 w152 v) wz) (last := 8) (by kernel_rfl) rfl ?_
 have hl163 : Below w152.heap.size w152 w152.drew := (Below.refl _ _).drew
 have hp164 := hX154.pins.below hl163
 have hX165 := hX154.step hp164 hl163
 have ho166 := hw155.below hl163
 have ho167 := hw156.below hl163
 have ho168 := hw157.below hl163
 have hq169 := hq159.below hl163
 have hq170 := hq160.below hl163
 refine dr_take (i := 0) rfl rfl rfl (want_none rfl _) (by kernel_rfl) (fun _ _ => r_fldp (k := 1) rfl Try.underlying53 rfl nz51 rfl) ⟨hX165.pins, hq169, hq170⟩ (dr_take (i := 1) rfl rfl rfl (want_none rfl _) (by kernel_rfl) (fun _ hS => r_ldp1 (u := v) ag51 rfl ((Pins.of_le hS.1 (Pin.le_trans hlek39 hlek151)) _ _ _ (hbp14 1 _ rfl))) ⟨hX165.pins, hq169, hq170⟩ (dr_take (i := 2) rfl rfl rfl (want_none rfl _) (by kernel_rfl) (fun _ _ => r_move (v := (.int .i64 (fs.getD q 0))) rfl) ⟨hX165.pins, hq169, hq170⟩ (dr_take (i := 3) rfl rfl rfl (want_none rfl _) (by kernel_rfl) (fun _ _ => r_move (v := tv) rfl) ⟨hX165.pins, hq169, hq170⟩ (dr_take (i := 4) rfl rfl rfl (want_none rfl _) (by kernel_rfl) (fun _ _ => r_move (v := (.int .i64 (q : Int))) rfl) ⟨hX165.pins, hq169, hq170⟩ (dr_take (i := 5) rfl rfl rfl (want_none rfl _) (by kernel_rfl) (fun _ _ => run_idx Try.underlying51 sz57 (v := tv) rfl rfl hr161 (by omega) (by omega)) ⟨hX165.pins, hq169, hq170⟩ ?_)))))
 obtain ⟨cs171, hrep172, hagg173, hcell174⟩ := nm_el (j := q) default (hw157.at (z := (q : Int)) (by omega) (by omega)) rfl
 obtain rfl := hrep172
 refine dr_take (i := 6) rfl rfl rfl (want_none rfl _) (by kernel_rfl) (fun _ hS => hagg173 ag57 sz57 rfl hS.2.1) ⟨hX165.pins, hq169, hq170⟩ (dr_take (i := 7) rfl rfl rfl (want_none rfl _) (by kernel_rfl) (fun _ _ => run_idx Try.underlying51 sz57 (v := v) rfl rfl hr162 (by omega) (by omega)) ⟨hX165.pins, hq169, hq170⟩ (dr_one (i := 8) (by kernel_rfl) (drOp0 (i := 8) rfl rfl rfl (want_none rfl _) (o_set (E := eP2) (v := v) (u := (.agg [(.int .i64 ((ts.getD q default).1)), (.int .i64 ((ts.getD q default).2))].toArray)) (cs := [(.int .i64 ((ts.getD q default).1)), (.int .i64 ((ts.getD q default).2))]) (z := (fs.getD q 0)) (((ts.getD q default).1, (ts.getD q default).2)) sz57 rfl rfl rfl rfl hX165.pins ho166 (by omega) (by omega) (fun w175 ho176 hp177 hg178 hz179 => ?_)))))
 have hX180 := hX165.write hp177 hg178 (hlo0)
 have ho181 := ho167.keptA hg178 ha47
 have ho182 := ho168.keptA hg178 ha48
 have ho183 : Own eP2 57 GL2 w175 0 v ((rs2).set (fs.getD q 0).toNat ((ts.getD q default).1, (ts.getD q default).2)) := ho176
 have hm184 : ((rs2).set (fs.getD q 0).toNat ((ts.getD q default).1, (ts.getD q default).2)).length = rs2.length := List.length_set ..
 refine ⟨fun h => absurd rfl h, ?_⟩
 refine dr_end (by kernel_rfl) (s_blkN (s_then (c_reg ?_)))
 refine qd rfl rfl rfl (r_add rfl rfl (by omega)) (qd rfl rfl rfl (r_move (v := (.int .i64 ((q : Int) + 1))) rfl) (qe (s_lopN (⟨_, ?_, _, rfl, _, q + 1, (rs2).set (fs.getD q 0).toNat ((ts.getD q default).1, (ts.getD q default).2), GL2, (packS (x := 46) (packS (x := 45) (packS (x := 44) (packS (x := 6) (packS (x := 5) (packS (x := 4) (pack1 (x := 2) rfl) rfl) rfl) rfl) rfl) rfl) rfl), rfl, hX180, hlek151, (by omega), (hT.next hF (by omega) (by omega)), ho183, ho181, ho182⟩))))
 omega
 refine wp_exit (s_thenE (s_lopE (s_blkE (s_then (s_seq (c_reg ?_))))))
 refine qd rfl rfl rfl (r_move (v := fv) rfl) (qd rfl rfl rfl (run_len Try.underlying46 (v := fv) rfl hw156.read) (qd rfl rfl rfl (r_gtr rfl rfl) (qd rfl rfl rfl (r_assign (v := (.bool (decide ((0 : Int) < (fs.length : Int))))) rfl) (qe (s_then ?_)))))
 refine wp_ret (s_ret (c_ret1 (v := (.bool (decide ((0 : Int) < (fs.length : Int))))) rfl rfl rfl ?_))
 have hjn : j = N.length := by omega
 rw [hjn] at hF
 have hqn : q = fs.length := by omega
 exact ⟨rs2, _, _, rfl, hw155, (fun hb => by
  have hf0 : fs = [] := List.eq_nil_of_length_eq_zero (by have := of_decide_eq_false hb; omega)
  have hr0 := hT.z0 (by rw [hqn, hf0]; rfl)
  rw [hr0]; exact hF.done hok hi hf0), (fun hb => ⟨hT.done hok hi, hT.zlt (by have := of_decide_eq_true hb; omega)⟩), hT.len, hX154⟩

end AR2
end Go.Proofs.Ytdongckiecjbaaa

set_option maxRecDepth 20000
set_option maxHeartbeats 2000000
namespace Go.Proofs.Ytdongckiecjbaaa
namespace AR3
open Go.RowKit Go.GL Go.Proofs
open B1 AR1 AR2






theorem mk57 : (Try.prog.info? 57).map (fun i => (i.size, i.bytes, i.zero)) = some (2, 16, some (.agg #[(.int .i64 0), (.int .i64 0)])) := by kernel_rfl


theorem pl53 : (Try.prog.underlying 53).bind (placesD Try.prog) = some [(0, 1), (1, 1)] := by kernel_rfl







theorem newArena_spec {w : World} {G : Pin} {u v : Value} {L R : List (List Int)} (hP : Pins G w) (hu : RSl (eSl eInt) G u L) (hv : RSl (eSl eInt) G v R) (hlr : L.length = R.length) (hL : AcL L) (hR : AcL R) (hsz : L.length ≤ 500000) (hln : ∀ i, i < L.length → (L.getD i []).length ≤ 500000 ∧ (R.getD i []).length ≤ 500000) :
  Calls Try.prog 37 [u, v].toArray w fun e w' => ∃ (x y : Value) (rs : List (Int × Int)) (G' : Pin), e = .returned (.agg [x, y].toArray) ∧ RSl (eSl eInt) G' x (arN L R) ∧ RSl eP2 G' y rs ∧ rs.length = 2 * L.length ∧ (∀ s, s < (arN L R).length → (rs.getD s default).1 = wnA (arN L R) s) ∧ Ext noS G w G' w' := by
 refine s_enter (n := 71) Try.func37 Try.ntmps37 rfl rfl ?_
 have hX0 : Ext noS G w G w := Ext.refl hP
 have hmu := hu.max
 have hmv := hv.max
 have hbL := fun (i : Nat) (hi : i < L.length) (k : Int) (hk : k ∈ L.getD i []) => (show 0 ≤ k ∧ k < 500000 by have := hL i hi k hk; omega)
 have hbR := fun (i : Nat) (hi : i < L.length) (k : Int) (hk : k ∈ R.getD i []) => (show 0 ≤ k ∧ k < 500000 by have := hR i (by omega) k hk; omega)
 refine s_seq (c_reg ?_)
 refine q1 rfl rfl rfl (o_alloc [(.slice none 0 0), (.slice none 0 0)] zr53 rfl hX0.pins (fun b1 w2 hk3 hb4 hp5 hl6 => ?_))
 have hX7 := hX0.step hp5 hl6
 have hlo8 : w.heap.size ≤ b1 := by have := hX0.size; omega
 refine qe (s_then (s_seq (c_reg ?_)))
 refine qd rfl rfl rfl (r_move (v := u) rfl) (qd rfl rfl rfl (run_len Try.underlying28 (v := u) rfl hu) (qd rfl rfl rfl (r_mul rfl rfl (by omega)) (q1 rfl rfl rfl (o_make (E := eP2) ((0, 0) : Int × Int) 16 (.agg #[(.int .i64 0), (.int .i64 0)]) Try.underlying51 mk57 (fun _ => rfl) rfl rfl hX7.pins (by omega) (by omega) (by omega) (fun u9 w10 ho11 hp12 hl13 hk14 => ?_)))))
 have hX15 := hX7.step hp12 hl13
 have hb16 := hb4.below hl13
 have ha17 : Apart u9.ownBlock (some b1) := new_ne_box hk14 hb4.lt
 have ho18 : Own eP2 57 G w10 w.heap.size u9 (List.replicate (2 * (L.length : Int)).toNat ((0, 0) : Int × Int)) := ho11.weaken hX7.size
 have hm19 : (List.replicate (2 * (L.length : Int)).toNat ((0, 0) : Int × Int)).length = (2 * (L.length : Int)).toNat := List.length_replicate ..
 refine qd rfl rfl rfl (r_build [(.slice none 0 0), (.slice none 0 0)] [(.slice none 0 0), u9] [(1, u9, [u9])] Try.underlying53 zr53 rfl pl53 rfl (List.forall_mem_cons.2 ⟨(cells_one ho18.one), (fun _ h => by cases h)⟩) rfl) (q1 rfl rfl rfl (o_alloc [(.slice none 0 0), (.slice none 0 0)] zr53 rfl hX15.pins (fun b20 w21 hk22 hb23 hp24 hl25 => ?_)))
 have hX26 := hX15.step hp24 hl25
 have ho27 := ho18.below hl25
 have hb28 := hb16.below hl25
 have ha29 : Apart (some b20) u9.ownBlock := new_ne_own (congrArg some hk22) ho18.lt
 have ha30 : Apart (some b20) (some b1) := new_ne_box (congrArg some hk22) hb16.lt
 have hlo31 : w.heap.size ≤ b20 := by have := hX15.size; omega
 refine q0 rfl rfl rfl (o_stp (cs' := [(.slice none 0 0), u9]) (us := [(.slice none 0 0), u9]) (v := (.agg [(.slice none 0 0), u9].toArray)) sz53 rfl rfl rfl (ones2 (by rfl) ho27.one) hX26.pins hb23 (Nat.le_of_ble_eq_true rfl) rfl (fun w32 hb33 hp34 hg35 hz36 => ?_))
 have hX37 := hX26.write hp34 hg35 ((lo_box hlo31))
 have ho38 := ho27.keptA hg35 ha29.symm
 have hb39 := hb28.keptA hg35 ha30.symm
 refine qe (s_then (s_seq (s_seq (c_reg ?_))))
 refine qd rfl rfl rfl (r_move (v := u) rfl) (qd rfl rfl rfl (run_len Try.underlying28 (v := u) rfl hu) (qd rfl rfl rfl (r_move (v := (.int .i64 0)) rfl) (qe (s_then ?_))))
 refine s_blk (s_loop (fun (k : Nat) (en : Nat → Value) (W : World) => ∃ (env1 : Nat → Value) (j : Nat) (nv : Value) (N2 : List (List Int)) (GL1 : Pin), en = (upd (upd (upd (upd (upd (upd env1 0 u) 1 v) 4 (.pointer (some ⟨b1, 0, none⟩))) 5 (.pointer (some ⟨b20, 0, none⟩))) 20 (.int .i64 (L.length : Int))) 21 (.int .i64 (j : Int))) ∧ k = L.length - j ∧ Ext noS G w GL1 W ∧ Pin.le G GL1 ∧ (j ≤ L.length) ∧ (N2 = arN (L.take j) (R.take j)) ∧ (N2.length = 2 * j) ∧ (Own (eSl eInt) 46 GL1 W w.heap.size nv (N2)) ∧ (Own eP2 57 GL1 W w.heap.size u9 (List.replicate (2 * (L.length : Int)).toNat ((0, 0) : Int × Int))) ∧ (Bx GL1 W b1 [(.slice none 0 0), (.slice none 0 0)]) ∧ (Bx GL1 W b20 [nv, u9]) ∧ (Apart nv.ownBlock u9.ownBlock) ∧ (Apart nv.ownBlock (some b1)) ∧ (Apart nv.ownBlock (some b20))) _ ⟨_, 0, (.slice none 0 0), [], G, (packS (x := 21) (packS (x := 20) (packS (x := 5) (packS (x := 4) (packS (x := 1) (pack1 (x := 0) rfl) rfl) rfl) rfl) rfl) rfl), rfl, hX37, Pin.le_refl _, Nat.zero_le _, rfl, rfl, (Own.nil _ _ _ _ _), ho38, hb39, hb33, apart_none, apart_none, apart_none⟩ ?_)
 rintro k40 _ w41 ⟨env1, j, nv, N2, GL1, rfl, hk42, hX43, hlek40, hj, hN2, hNl, hw44, hw45, hw46, hw47, ha48, ha49, ha50⟩
 refine s_seq (c_reg ?_)
 refine qd rfl rfl rfl (r_lss rfl rfl) (qe (s_then (s_seq ?_)))
 refine c_ifd (p := ((j : Int) : Int) < (L.length : Int)) rfl rfl (fun h51 => ?_) (fun h51 => ?_)
 have hlj := hln j (by omega)
 refine wp_skip (s_then (s_seq ?_))
 refine s_blk (s_seq (c_reg ?_))
 refine qd rfl rfl rfl (r_move (v := (.int .i64 (j : Int))) rfl) (qd rfl rfl rfl (r_assign (v := (.int .i64 (j : Int))) rfl) (qe (s_then (s_seq (c_reg ?_)))))
 refine q1 rfl rfl rfl (o_build0 (E := eInt) (e := 3) Try.underlying46 sz3 hX43.pins (fun u52 w53 ho54 hp55 hl56 hk57 => ?_))
 have hX58 := hX43.step hp55 hl56
 have ho59 := hw44.below hl56
 have ho60 := hw45.below hl56
 have hb61 := hw46.below hl56
 have hb62 := hw47.below hl56
 have ha63 : Apart u52.ownBlock nv.ownBlock := new_ne_own hk57 hw44.lt
 have ha64 : Apart u52.ownBlock u9.ownBlock := new_ne_own hk57 hw45.lt
 have ha65 : Apart u52.ownBlock (some b1) := new_ne_box hk57 hw46.lt
 have ha66 : Apart u52.ownBlock (some b20) := new_ne_box hk57 hw47.lt
 have ho67 : Own eInt 3 GL1 w53 w.heap.size u52 ([]) := ho54.weaken hX43.size
 refine q1 rfl rfl rfl (o_build0 (E := eInt) (e := 3) Try.underlying46 sz3 hX58.pins (fun u68 w69 ho70 hp71 hl72 hk73 => ?_))
 have hX74 := hX58.step hp71 hl72
 have ho75 := ho59.below hl72
 have ho76 := ho60.below hl72
 have ho77 := ho67.below hl72
 have hb78 := hb61.below hl72
 have hb79 := hb62.below hl72
 have ha80 : Apart u68.ownBlock nv.ownBlock := new_ne_own hk73 ho59.lt
 have ha81 : Apart u68.ownBlock u9.ownBlock := new_ne_own hk73 ho60.lt
 have ha82 : Apart u68.ownBlock u52.ownBlock := new_ne_own hk73 ho67.lt
 have ha83 : Apart u68.ownBlock (some b1) := new_ne_box hk73 hb61.lt
 have ha84 : Apart u68.ownBlock (some b20) := new_ne_box hk73 hb62.lt
 have ho85 : Own eInt 3 GL1 w69 w.heap.size u68 ([]) := ho70.weaken hX58.size
 refine qd rfl rfl rfl (r_assign (v := u52) rfl) (qd rfl rfl rfl (r_assign (v := u68) rfl) (qe (s_then (s_seq (s_seq (c_reg ?_))))))
 refine qd rfl rfl rfl (r_move (v := u) rfl) (qd rfl rfl rfl (r_move (v := (.int .i64 (j : Int))) rfl) (qd rfl rfl rfl (run_idx Try.underlying28 sz46 (v := u) rfl rfl hu (by omega) (by omega)) ?_))
 obtain ⟨u86, hr87, hl88⟩ := nm_sl (hu.at (z := (j : Int)) (by omega) (by omega)) (j := j) rfl
 have hm89 := hr87.max
 refine qd rfl rfl rfl (hl88 ag46 rfl (Pins.of_le hX74.pins hlek40)) (qd rfl rfl rfl (run_len Try.underlying46 (v := u86) rfl hr87) (qd rfl rfl rfl (r_move (v := (.int .i64 0)) rfl) (qe (s_then ?_))))
 refine s_blk (s_loop (fun (k : Nat) (en : Nat → Value) (W : World) => ∃ (env1 : Nat → Value) (qa : Nat) (ov1 : Value) (os1 : List Int) (Gqa : Pin), en = (upd (upd (upd (upd (upd (upd (upd (upd (upd (upd (upd (upd env1 0 u) 1 v) 4 (.pointer (some ⟨b1, 0, none⟩))) 5 (.pointer (some ⟨b20, 0, none⟩))) 6 (.int .i64 (j : Int))) 7 ov1) 8 u68) 20 (.int .i64 (L.length : Int))) 21 (.int .i64 (j : Int))) 29 u86) 30 (.int .i64 ((L.getD j []).length : Int))) 31 (.int .i64 (qa : Int))) ∧ k = (L.getD j []).length - qa ∧ Ext noS G w Gqa W ∧ Pin.le GL1 Gqa ∧ (qa ≤ (L.getD j []).length) ∧ (os1 = arS 1 ((L.getD j []).take qa)) ∧ (Own eInt 3 Gqa W w.heap.size ov1 (os1)) ∧ (Own (eSl eInt) 46 Gqa W w.heap.size nv (N2)) ∧ (Own eP2 57 Gqa W w.heap.size u9 (List.replicate (2 * (L.length : Int)).toNat ((0, 0) : Int × Int))) ∧ (Own eInt 3 Gqa W w.heap.size u68 ([])) ∧ (Bx Gqa W b1 [(.slice none 0 0), (.slice none 0 0)]) ∧ (Bx Gqa W b20 [nv, u9]) ∧ (Apart ov1.ownBlock nv.ownBlock) ∧ (Apart ov1.ownBlock u9.ownBlock) ∧ (Apart ov1.ownBlock u68.ownBlock) ∧ (Apart ov1.ownBlock (some b1)) ∧ (Apart ov1.ownBlock (some b20))) _ ⟨_, 0, u52, [], GL1, (packS (x := 31) (packS (x := 30) (packS (x := 29) (packS (x := 21) (packS (x := 20) (packS (x := 8) (packS (x := 7) (packS (x := 6) (packS (x := 5) (packS (x := 4) (packS (x := 1) (pack1 (x := 0) rfl) rfl) rfl) rfl) rfl) rfl) rfl) rfl) rfl) rfl) rfl) rfl), rfl, hX74, Pin.le_refl _, Nat.zero_le _, rfl, ho77, ho75, ho76, ho85, hb78, hb79, ha63, ha64, ha82.symm, ha65, ha66⟩ ?_)
 rintro k90 _ w91 ⟨env1, qa, ov1, os1, Gqa, rfl, hk92, hX93, hlek90, hqa, hos1, hw94, hw95, hw96, hw97, hw98, hw99, ha100, ha101, ha102, ha103, ha104⟩
 have hos1l : os1.length ≤ (L.getD j []).length := by rw [hos1]; unfold arS; rw [List.length_map, List.length_take]; omega
 refine s_seq (c_reg ?_)
 refine qd rfl rfl rfl (r_lss rfl rfl) (qe (s_then (s_seq ?_)))
 refine c_ifd (p := ((qa : Int) : Int) < ((L.getD j []).length : Int)) rfl rfl (fun h105 => ?_) (fun h105 => ?_)
 have hkqa := hbL j (by omega) _ (getD_mem (d := (0 : Int)) (show qa < (L.getD j []).length by omega))
 refine wp_skip (s_then (s_seq ?_))
 refine s_blk (s_seq (c_reg ?_))
 refine qd rfl rfl rfl (run_idx Try.underlying46 sz3 (v := u86) rfl rfl hr87 (by omega) (by omega)) (qd rfl rfl rfl (run_load_int (r := (L.getD j []).getD qa 0) rfl ag3 (z := (qa : Int)) rfl hr87 (Pins.of_le hX93.pins (Pin.le_trans hlek40 hlek90)) (by omega) (by omega)) (qd rfl rfl rfl (r_assign (v := (.int .i64 ((L.getD j []).getD qa 0))) rfl) (qe (s_then (c_reg ?_)))))
 refine qd rfl rfl rfl (r_move (v := ov1) rfl) (qd rfl rfl rfl (r_move (v := (.int .i64 ((L.getD j []).getD qa 0))) rfl) (qd rfl rfl rfl (r_mul rfl rfl (by omega)) (qd rfl rfl rfl (r_add rfl rfl (by omega)) (q1 rfl rfl rfl (o_buildF (E := eInt) (e := 3) [(.int .i64 ((2 * ((L.getD j []).getD qa 0)) + 1))] [(2 * ((L.getD j []).getD qa 0)) + 1] Try.underlying46 sz3 zr3 (by exact reps1 (by rfl)) (ones1 (by rfl)) rfl rfl rfl rfl (by decide) hX93.pins (fun u106 w107 ho108 hp109 hl110 hk111 => ?_))))))
 have hX112 := hX93.step hp109 hl110
 have ho113 := hw94.below hl110
 have ho114 := hw95.below hl110
 have ho115 := hw96.below hl110
 have ho116 := hw97.below hl110
 have hb117 := hw98.below hl110
 have hb118 := hw99.below hl110
 have ho125 : Own eInt 3 Gqa w107 w.heap.size u106 ([(2 * ((L.getD j []).getD qa 0)) + 1]) := ho108.weaken hX93.size
 refine q1 rfl rfl rfl (o_append (E := eInt) (v := ov1) (u := u106) 8 Try.underlying46 ap3 (by decide) rfl rfl hX112.pins ho113 ho125.src (by first | omega | (rw [List.nil_append]; omega) | (rw [List.length_nil]; omega) | (rw [List.length_append]; omega) | (simp; done) | (simp; omega) | (simp only [List.length_cons, List.length_nil]; omega) | (simp only [List.length_append, List.length_cons, List.length_nil]; omega)) (by first | omega | (rw [List.nil_append]; omega) | (rw [List.length_nil]; omega) | (rw [List.length_append]; omega) | (simp; done) | (simp; omega) | (simp only [List.length_cons, List.length_nil]; omega) | (simp only [List.length_append, List.length_cons, List.length_nil]; omega)) (hX112.size) (fun u126 w127 ho128 hp129 hg130 hw131 => ?_))
 have hX132 := hX112.write hp129 hg130 ((lo_own ho113))
 have ho133 := ho114.keptA hg130 ha100.symm
 have ho134 := ho115.keptA hg130 ha101.symm
 have ho135 := ho116.keptA hg130 ha102.symm
 have hb137 := hb117.keptA hg130 ha103.symm
 have hb138 := hb118.keptA hg130 ha104.symm
 have ha139 : Apart nv.ownBlock u126.ownBlock := app_ne_own ha100.symm hw131 ho114.lt
 have ha140 : Apart u9.ownBlock u126.ownBlock := app_ne_own ha101.symm hw131 ho115.lt
 have ha141 : Apart u68.ownBlock u126.ownBlock := app_ne_own ha102.symm hw131 ho116.lt
 have ha143 : Apart (some b1) u126.ownBlock := app_ne_box ha103.symm hw131 hb117.lt
 have ha144 : Apart (some b20) u126.ownBlock := app_ne_box ha104.symm hw131 hb118.lt
 have hm145 : (os1 ++ ([(2 * ((L.getD j []).getD qa 0)) + 1])).length = os1.length + 1 := List.length_append
 refine qd rfl rfl rfl (r_assign (v := u126) rfl) (qe (s_blkN (s_then (c_reg ?_))))
 refine qd rfl rfl rfl (r_add rfl rfl (by omega)) (qd rfl rfl rfl (r_move (v := (.int .i64 ((qa : Int) + 1))) rfl) (qe (s_lopN (⟨_, ?_, _, rfl, _, qa + 1, u126, os1 ++ ([(2 * ((L.getD j []).getD qa 0)) + 1]), Gqa, (packS (x := 31) (packS (x := 30) (packS (x := 29) (packS (x := 21) (packS (x := 20) (packS (x := 8) (packS (x := 7) (packS (x := 6) (packS (x := 5) (packS (x := 4) (packS (x := 1) (pack1 (x := 0) rfl) rfl) rfl) rfl) rfl) rfl) rfl) rfl) rfl) rfl) rfl) rfl), rfl, hX132, hlek90, (by omega), (by rw [hos1]; exact arS_next (by omega)), ho128, ho133, ho134, ho135, hb137, hb138, ha139.symm, ha140.symm, ha141.symm, ha143.symm, ha144.symm⟩))))
 omega
 refine wp_exit (s_thenE (s_lopE (s_blkE (s_then (s_seq (s_seq (c_reg ?_)))))))
 refine qd rfl rfl rfl (r_move (v := v) rfl) (qd rfl rfl rfl (r_move (v := (.int .i64 (j : Int))) rfl) (qd rfl rfl rfl (run_idx Try.underlying28 sz46 (v := v) rfl rfl hv (by omega) (by omega)) ?_))
 obtain ⟨u146, hr147, hl148⟩ := nm_sl (hv.at (z := (j : Int)) (by omega) (by omega)) (j := j) rfl
 have hm149 := hr147.max
 refine qd rfl rfl rfl (hl148 ag46 rfl (Pins.of_le hX93.pins (Pin.le_trans hlek40 hlek90))) (qd rfl rfl rfl (run_len Try.underlying46 (v := u146) rfl hr147) (qd rfl rfl rfl (r_move (v := (.int .i64 0)) rfl) (qe (s_then ?_))))
 refine s_blk (s_loop (fun (k : Nat) (en : Nat → Value) (W : World) => ∃ (env1 : Nat → Value) (qb : Nat) (ov2 : Value) (os2 : List Int) (Gqb : Pin), en = (upd (upd (upd (upd (upd (upd (upd (upd (upd (upd (upd env1 0 u) 1 v) 4 (.pointer (some ⟨b1, 0, none⟩))) 5 (.pointer (some ⟨b20, 0, none⟩))) 7 ov1) 8 ov2) 20 (.int .i64 (L.length : Int))) 21 (.int .i64 (j : Int))) 45 u146) 46 (.int .i64 ((R.getD j []).length : Int))) 47 (.int .i64 (qb : Int))) ∧ k = (R.getD j []).length - qb ∧ Ext noS G w Gqb W ∧ Pin.le Gqa Gqb ∧ (qb ≤ (R.getD j []).length) ∧ (os2 = arS 0 ((R.getD j []).take qb)) ∧ (Own eInt 3 Gqb W w.heap.size ov2 (os2)) ∧ (Own eInt 3 Gqb W w.heap.size ov1 (os1)) ∧ (Own (eSl eInt) 46 Gqb W w.heap.size nv (N2)) ∧ (Own eP2 57 Gqb W w.heap.size u9 (List.replicate (2 * (L.length : Int)).toNat ((0, 0) : Int × Int))) ∧ (Bx Gqb W b1 [(.slice none 0 0), (.slice none 0 0)]) ∧ (Bx Gqb W b20 [nv, u9]) ∧ (Apart ov2.ownBlock ov1.ownBlock) ∧ (Apart ov2.ownBlock nv.ownBlock) ∧ (Apart ov2.ownBlock u9.ownBlock) ∧ (Apart ov2.ownBlock (some b1)) ∧ (Apart ov2.ownBlock (some b20))) _ ⟨_, 0, u68, [], Gqa, (packS (x := 47) (packS (x := 46) (packS (x := 45) (packS (x := 21) (packS (x := 20) (packS (x := 8) (packS (x := 7) (packS (x := 5) (packS (x := 4) (packS (x := 1) (pack1 (x := 0) rfl) rfl) rfl) rfl) rfl) rfl) rfl) rfl) rfl) rfl) rfl), rfl, hX93, Pin.le_refl _, Nat.zero_le _, rfl, hw97, hw94, hw95, hw96, hw98, hw99, ha102.symm, ha80, ha81, ha83, ha84⟩ ?_)
 rintro k150 _ w151 ⟨env1, qb, ov2, os2, Gqb, rfl, hk152, hX153, hlek150, hqb, hos2, hw154, hw155, hw156, hw157, hw158, hw159, ha160, ha161, ha162, ha163, ha164⟩
 have hos2l : os2.length ≤ (R.getD j []).length := by rw [hos2]; unfold arS; rw [List.length_map, List.length_take]; omega
 refine s_seq (c_reg ?_)
 refine qd rfl rfl rfl (r_lss rfl rfl) (qe (s_then (s_seq ?_)))
 refine c_ifd (p := ((qb : Int) : Int) < ((R.getD j []).length : Int)) rfl rfl (fun h165 => ?_) (fun h165 => ?_)
 have hkqb := hbR j (by omega) _ (getD_mem (d := (0 : Int)) (show qb < (R.getD j []).length by omega))
 refine wp_skip (s_then (s_seq ?_))
 refine s_blk (s_seq (c_reg ?_))
 refine qd rfl rfl rfl (run_idx Try.underlying46 sz3 (v := u146) rfl rfl hr147 (by omega) (by omega)) (qd rfl rfl rfl (run_load_int (r := (R.getD j []).getD qb 0) rfl ag3 (z := (qb : Int)) rfl hr147 (Pins.of_le hX153.pins (Pin.le_trans (Pin.le_trans hlek40 hlek90) hlek150)) (by omega) (by omega)) (qd rfl rfl rfl (r_assign (v := (.int .i64 ((R.getD j []).getD qb 0))) rfl) (qe (s_then (c_reg ?_)))))
 refine qd rfl rfl rfl (r_move (v := ov2) rfl) (qd rfl rfl rfl (r_move (v := (.int .i64 ((R.getD j []).getD qb 0))) rfl) (qd rfl rfl rfl (r_mul rfl rfl (by omega)) (q1 rfl rfl rfl (o_buildF (E := eInt) (e := 3) [(.int .i64 (2 * ((R.getD j []).getD qb 0)))] [2 * ((R.getD j []).getD qb 0)] Try.underlying46 sz3 zr3 (by exact reps1 (by rfl)) (ones1 (by rfl)) rfl rfl rfl rfl (by decide) hX153.pins (fun u166 w167 ho168 hp169 hl170 hk171 => ?_)))))
 have hX172 := hX153.step hp169 hl170
 have ho173 := hw154.below hl170
 have ho174 := hw155.below hl170
 have ho175 := hw156.below hl170
 have ho176 := hw157.below hl170
 have hb177 := hw158.below hl170
 have hb178 := hw159.below hl170
 have ho185 : Own eInt 3 Gqb w167 w.heap.size u166 ([2 * ((R.getD j []).getD qb 0)]) := ho168.weaken hX153.size
 refine q1 rfl rfl rfl (o_append (E := eInt) (v := ov2) (u := u166) 8 Try.underlying46 ap3 (by decide) rfl rfl hX172.pins ho173 ho185.src (by first | omega | (rw [List.nil_append]; omega) | (rw [List.length_nil]; omega) | (rw [List.length_append]; omega) | (simp; done) | (simp; omega) | (simp only [List.length_cons, List.length_nil]; omega) | (simp only [List.length_append, List.length_cons, List.length_nil]; omega)) (by first | omega | (rw [List.nil_append]; omega) | (rw [List.length_nil]; omega) | (rw [List.length_append]; omega) | (simp; done) | (simp; omega) | (simp only [List.length_cons, List.length_nil]; omega) | (simp only [List.length_append, List.length_cons, List.length_nil]; omega)) (hX172.size) (fun u186 w187 ho188 hp189 hg190 hw191 => ?_))
 have hX192 := hX172.write hp189 hg190 ((lo_own ho173))
 have ho193 := ho174.keptA hg190 ha160.symm
 have ho194 := ho175.keptA hg190 ha161.symm
 have ho195 := ho176.keptA hg190 ha162.symm
 have hb197 := hb177.keptA hg190 ha163.symm
 have hb198 := hb178.keptA hg190 ha164.symm
 have ha199 : Apart ov1.ownBlock u186.ownBlock := app_ne_own ha160.symm hw191 ho174.lt
 have ha200 : Apart nv.ownBlock u186.ownBlock := app_ne_own ha161.symm hw191 ho175.lt
 have ha201 : Apart u9.ownBlock u186.ownBlock := app_ne_own ha162.symm hw191 ho176.lt
 have ha203 : Apart (some b1) u186.ownBlock := app_ne_box ha163.symm hw191 hb177.lt
 have ha204 : Apart (some b20) u186.ownBlock := app_ne_box ha164.symm hw191 hb178.lt
 have hm205 : (os2 ++ ([2 * ((R.getD j []).getD qb 0)])).length = os2.length + 1 := List.length_append
 refine qd rfl rfl rfl (r_assign (v := u186) rfl) (qe (s_blkN (s_then (c_reg ?_))))
 refine qd rfl rfl rfl (r_add rfl rfl (by omega)) (qd rfl rfl rfl (r_move (v := (.int .i64 ((qb : Int) + 1))) rfl) (qe (s_lopN (⟨_, ?_, _, rfl, _, qb + 1, u186, os2 ++ ([2 * ((R.getD j []).getD qb 0)]), Gqb, (packS (x := 47) (packS (x := 46) (packS (x := 45) (packS (x := 21) (packS (x := 20) (packS (x := 8) (packS (x := 7) (packS (x := 5) (packS (x := 4) (packS (x := 1) (pack1 (x := 0) rfl) rfl) rfl) rfl) rfl) rfl) rfl) rfl) rfl) rfl) rfl), rfl, hX192, hlek150, (by omega), (by rw [hos2]; exact arS_next0 (by omega)), ho188, ho193, ho194, ho195, hb197, hb198, ha199.symm, ha200.symm, ha201.symm, ha203.symm, ha204.symm⟩))))
 omega
 refine wp_exit (s_thenE (s_lopE (s_blkE (s_then (c_reg ?_)))))
 refine qd rfl rfl rfl (r_fldp (k := 0) rfl Try.underlying53 rfl nz28 rfl) (qd rfl rfl rfl (r_ldp1 (u := nv) ag28 rfl (hw159.cell (o := 0) rfl)) (qd rfl rfl rfl (r_move (v := ov1) rfl) (qd rfl rfl rfl (r_move (v := ov2) rfl) ?_)))
 obtain ⟨G206, hle209, hX208, hr207, hf210⟩ := hw155.sealed hX153
 have ho211 := hw154.moreO hle209 hf210 ha160
 have ho212 := hw156.moreO hle209 hf210 ha100.symm
 have ho213 := hw157.moreO hle209 hf210 ha101.symm
 have hb214 := hw158.moreO hf210 ha103.symm
 have hb215 := hw159.moreO hf210 ha104.symm
 obtain ⟨G216, hle219, hX218, hr217, hf220⟩ := ho211.sealed hX208
 have ho221 := ho212.moreO hle219 hf220 ha161.symm
 have ho222 := ho213.moreO hle219 hf220 ha162.symm
 have hb223 := hb214.moreO hf220 ha163.symm
 have hb224 := hb215.moreO hf220 ha164.symm
 refine q1 rfl rfl rfl (o_buildF (E := (eSl eInt)) (e := 46) [ov1, ov2] [os1, os2] Try.underlying28 sz46 zr46 (by exact reps2 (⟨_, rfl, (hr207.mono hle219)⟩) (⟨_, rfl, hr217⟩)) (ones2 hr207.one hr217.one) rfl rfl rfl rfl (by decide) hX218.pins (fun u225 w226 ho227 hp228 hl229 hk230 => ?_))
 have hX231 := hX218.step hp228 hl229
 have ho232 := ho221.below hl229
 have ho233 := ho222.below hl229
 have hb234 := hb223.below hl229
 have hb235 := hb224.below hl229
 have ho240 : Own (eSl eInt) 46 G216 w226 w.heap.size u225 ([os1, os2]) := ho227.weaken hX218.size
 refine q1 rfl rfl rfl (o_append (E := (eSl eInt)) (v := nv) (u := u225) 24 Try.underlying28 ap46 (by decide) rfl rfl hX231.pins ho232 ho240.src (by first | omega | (rw [List.nil_append]; omega) | (rw [List.length_nil]; omega) | (rw [List.length_append]; omega) | (simp; done) | (simp; omega) | (simp only [List.length_cons, List.length_nil]; omega) | (simp only [List.length_append, List.length_cons, List.length_nil]; omega)) (by first | omega | (rw [List.nil_append]; omega) | (rw [List.length_nil]; omega) | (rw [List.length_append]; omega) | (simp; done) | (simp; omega) | (simp only [List.length_cons, List.length_nil]; omega) | (simp only [List.length_append, List.length_cons, List.length_nil]; omega)) (hX231.size) (fun u241 w242 ho243 hp244 hg245 hw246 => ?_))
 have hX247 := hX231.write hp244 hg245 ((lo_own ho232))
 have ho248 := ho233.keptA hg245 ha48.symm
 have hb250 := hb234.keptA hg245 ha49.symm
 have hb251 := hb235.keptA hg245 ha50.symm
 have ha252 : Apart u9.ownBlock u241.ownBlock := app_ne_own ha48.symm hw246 ho233.lt
 have ha254 : Apart (some b1) u241.ownBlock := app_ne_box ha49.symm hw246 hb234.lt
 have ha255 : Apart (some b20) u241.ownBlock := app_ne_box ha50.symm hw246 hb235.lt
 have hm256 : (N2 ++ ([os1, os2])).length = N2.length + 2 := List.length_append
 refine qd rfl rfl rfl (r_fldp (k := 0) rfl Try.underlying53 rfl nz28 rfl) (q0 rfl rfl rfl (o_stp (cs' := [u241, u9]) (us := [u241]) (v := u241) sz28 rfl rfl (cells1 ho243.one) (ones1 ho243.one) hX247.pins hb251 (Nat.le_of_ble_eq_true rfl) rfl (fun w257 hb258 hp259 hg260 hz261 => ?_)))
 have hX262 := hX247.write hp259 hg260 ((lo_box hlo31))
 have ho263 := ho248.keptA hg260 ha29.symm
 have ho264 := ho243.keptA hg260 ha255.symm
 have hb265 := hb250.keptA hg260 ha30.symm
 refine qe (s_blkN (s_then (c_reg ?_)))
 refine qd rfl rfl rfl (r_add rfl rfl (by omega)) (qd rfl rfl rfl (r_move (v := (.int .i64 ((j : Int) + 1))) rfl) (qe (s_lopN (⟨_, ?_, _, rfl, _, j + 1, u241, N2 ++ ([os1, os2]), G216, (packS (x := 21) (packS (x := 20) (packS (x := 5) (packS (x := 4) (packS (x := 1) (pack1 (x := 0) rfl) rfl) rfl) rfl) rfl) rfl), rfl, hX262, (Pin.le_trans (Pin.le_trans (Pin.le_trans (Pin.le_trans hlek40 hlek90) hlek150) hle209) hle219), (by omega), (by rw [hos1, hos2, take_all (by omega), take_all (by omega), hN2]; exact arN_next hlr (by omega)), (by simp only [List.length_append, List.length_cons, List.length_nil]; omega), ho264, ho263, hb265, hb258, ha252.symm, ha254.symm, ha255.symm⟩))))
 omega
 refine wp_exit (s_thenE (s_lopE (s_blkE (s_then (s_seq (s_seq (c_reg ?_)))))))
 have htn : (2 * (L.length : Int)).toNat = 2 * L.length := by omega
 have hjn : j = L.length := by omega
 rw [hjn, List.take_length, hlr, List.take_length] at hN2
 obtain ⟨G266, hle269, hX268, hr267, hf270⟩ := hw44.sealed hX43
 have ho271 := hw45.moreO hle269 hf270 ha48.symm
 have hb272 := hw46.moreO hf270 ha49.symm
 have hb273 := hw47.moreO hf270 ha50.symm
 have hok := arN_ok hlr hL hR
 have hal := arN_length hlr
 have hr274 : RSl (eSl eInt) G266 nv (arN L R) := by rw [← hN2]; exact hr267
 refine qd rfl rfl rfl (r_assign (v := (.int .i64 0)) rfl) (qe (s_then ?_))
 refine s_blk (s_loop (fun (k : Nat) (en : Nat → Value) (W : World) => ∃ (env1 : Nat → Value) (tn : Nat) (rs : List (Int × Int)) (GL4 : Pin), en = (upd (upd (upd env1 4 (.pointer (some ⟨b1, 0, none⟩))) 5 (.pointer (some ⟨b20, 0, none⟩))) 13 (.int .i64 (tn : Int))) ∧ k = zc rs ∧ Ext noS G w GL4 W ∧ Pin.le G266 GL4 ∧ (ArI (arN L R) (tn : Int) rs) ∧ (rs.length = (arN L R).length) ∧ (zc rs + tn ≤ 2 * L.length) ∧ (Own eP2 57 GL4 W w.heap.size u9 (rs)) ∧ (Bx GL4 W b1 [(.slice none 0 0), (.slice none 0 0)]) ∧ (Bx GL4 W b20 [nv, u9])) _ ⟨_, 0, List.replicate (2 * (L.length : Int)).toNat ((0, 0) : Int × Int), G266, (packS (x := 13) (packS (x := 5) (pack1 (x := 4) rfl) rfl) rfl), rfl, hX268, Pin.le_refl _, (by have h := ArI.start (arN L R); rw [hal] at h; rw [htn]; exact h), (by rw [hal, htn]; simp), (by rw [htn]; exact zc_start _), ho271, hb272, hb273⟩ ?_)
 rintro k275 _ w276 ⟨env1, tn, rs, GL4, rfl, hk277, hX278, hlek275, hi, hrl, hz, hw279, hw280, hw281⟩
 refine s_seq (s_seq (c_reg ?_))
 refine qd rfl rfl rfl (r_ldpA (cs := [nv, u9]) ag53 sz53 rfl (fun j u hj => hw281.cell (by simpa using hj))) (qd rfl rfl rfl (r_move (v := (.int .i64 (tn : Int))) rfl) (q1 rfl rfl rfl (o_call (vs := [(.agg [nv, u9].toArray), (.int .i64 (tn : Int))]) Try.func50 nm50 rfl rfl rfl ?_)))
 refine Calls.mono (round_spec hX278.pins (hr274.mono hlek275) (hw279.weaken (Nat.zero_le _)) hok hi hrl (by omega)) ?_
 rintro _ w285 ⟨rsn282, bv283, G284, rfl, ho286, hz287, hz288, hrn289, hx290⟩
 refine ⟨_, rfl, ?_⟩
 have hX292 := hX278.trans hx290 (fun i hi => (lo_own hw279) i hi)
 have hb293 := hw280.extS hx290 (notOb ha17.symm)
 have hb294 := hw281.extS hx290 (notOb ha29)
 have ho291 := ho286.up (lo := w.heap.size) (fun k hk => (hw279.lt k hk).1)
 refine qe (s_then ?_)
 refine c_if rfl rfl (fun h295 => ?_) (fun h295 => ?_)
 refine wp_skip (s_then (s_seq ?_))
 refine s_blk (wp_skip (s_blkN (s_then (c_reg ?_))))
 refine qd rfl rfl rfl (r_move (v := (.int .i64 (tn : Int))) rfl) (qd rfl rfl rfl (r_add rfl rfl (by omega)) (qd rfl rfl rfl (r_assign (v := (.int .i64 ((tn : Int) + 1))) rfl) (qe (s_lopN (⟨_, ?_, _, rfl, _, tn + 1, rsn282, G284, (packS (x := 13) (packS (x := 5) (pack1 (x := 4) rfl) rfl) rfl), rfl, hX292, (Pin.le_trans hlek275 hx290.le), (hz288 h295).1, (hz288 h295).1.len, (by have h := (hz288 h295).2; omega), ho291, hb293, hb294⟩)))))
 have h := (hz288 h295).2; omega
 refine wp_exit (s_thenE (s_lopE (s_blkE (s_then (s_seq (c_reg ?_))))))
 refine qd rfl rfl rfl (r_ldpA (cs := [nv, u9]) ag53 sz53 rfl (fun j u hj => hb294.cell (by simpa using hj))) (q0 rfl rfl rfl (o_stp (cs' := [nv, u9]) (us := [nv, u9]) (v := (.agg [nv, u9].toArray)) sz53 rfl rfl rfl (ones2 hr274.one ho291.one) hX292.pins hb293 (Nat.le_of_ble_eq_true rfl) rfl (fun w296 hb297 hp298 hg299 hz300 => ?_)))
 have hX301 := hX292.write hp298 hg299 ((lo_box hlo8))
 have ho302 := ho291.keptA hg299 ha17
 refine qe (s_then ?_)
 refine wp_ret (s_ret (c_retc (cs := [nv, u9]) rfl rfl rfl ag53 sz53 (fun j u hj => by rw [Nat.zero_add]; exact hb297.cell hj) ?_))
 obtain ⟨G304, hle307, hX306, hr305, hf308⟩ := ho302.sealed hX301
 exact ⟨_, _, rsn282, _, rfl, (hr274.mono (Pin.le_trans (Pin.le_trans hlek275 hx290.le) hle307)), hr305, (by omega), hz287 h295, hX306⟩

end AR3
end Go.Proofs.Ytdongckiecjbaaa

set_option maxRecDepth 20000
set_option maxHeartbeats 2000000
namespace Go.Proofs.Ytdongckiecjbaaa
namespace AR4
open Go.RowKit Go.GL Go.Proofs
open B1 AR3














theorem pl53 : (Try.prog.underlying 53).bind (placesD Try.prog) = some [(0, 1), (1, 1)] := by kernel_rfl






theorem goodTargets_spec {w : World} {G : Pin} {v : Value} {xs : List Int} {b : Int} (hP : Pins G w) (hv : RSl eInt G v xs) :
  Calls Try.prog 39 [v, (.int .i64 b)].toArray w fun e w' => e = .returned (.bool (goodOpts xs b)) ∧ w' = w := by
 refine s_enter (n := 27) Try.func39 Try.ntmps39 rfl rfl ?_
 have hX0 : Ext noS G w G w := Ext.refl hP
 have hm := hv.max
 refine s_seq (c_reg ?_)
 refine qd rfl rfl rfl (r_assign (v := (.bool false)) rfl) (qe (s_then (s_seq (s_seq (c_reg ?_)))))
 refine qd rfl rfl rfl (r_move (v := v) rfl) (qd rfl rfl rfl (run_len Try.underlying46 (v := v) rfl hv) (qd rfl rfl rfl (r_gtr rfl rfl) (qe (s_then ?_))))
 refine c_ifd (p := (24 : Int) < (xs.length : Int)) rfl rfl (fun h1 => ?_) (fun h1 => ?_)
 refine s_seq (c_reg ?_)
 refine qd rfl rfl rfl (r_assign (v := (.bool false)) rfl) (qe (s_then ?_))
 exact wp_ret (s_ret (c_ret1 (v := (.bool false)) rfl rfl rfl (⟨congrArg (fun z => Ending.returned (Value.bool z)) (by unfold goodOpts; rw [if_pos h1]), rfl⟩)))
 refine wp_skip (s_then (s_seq (c_reg ?_)))
 refine qd rfl rfl rfl (r_assign (v := (.int .i64 (-1))) rfl) (qe (s_then (s_seq (s_seq (c_reg ?_)))))
 refine qd rfl rfl rfl (r_move (v := v) rfl) (qd rfl rfl rfl (run_len Try.underlying46 (v := v) rfl hv) (qd rfl rfl rfl (r_move (v := (.int .i64 0)) rfl) (qe (s_then ?_))))
 refine s_blk (s_loop (fun (k : Nat) (en : Nat → Value) (W : World) => ∃ (env1 : Nat → Value) (j : Nat) (last : Int), en = (upd (upd (upd (upd (upd env1 1 (.int .i64 b)) 5 (.int .i64 last)) 11 v) 12 (.int .i64 (xs.length : Int))) 13 (.int .i64 (j : Int))) ∧ k = xs.length - j ∧ Ext noS G w G W ∧ (j ≤ xs.length) ∧ (W = w) ∧ (goodOpts xs b = goodFrom last b (xs.drop j))) _ ⟨_, 0, (-1), (packS (x := 13) (packS (x := 12) (packS (x := 11) (packS (x := 5) (pack1 (x := 1) rfl) rfl) rfl) rfl) rfl), rfl, hX0, Nat.zero_le _, rfl, (by unfold goodOpts; rw [if_neg h1]; rfl)⟩ ?_)
 rintro k2 _ w3 ⟨env1, j, last, rfl, hk4, hX5, hj, hw, hr⟩
 subst hw
 refine s_seq (c_reg ?_)
 refine qd rfl rfl rfl (r_lss rfl rfl) (qe (s_then (s_seq ?_)))
 refine c_ifd (p := ((j : Int) : Int) < (xs.length : Int)) rfl rfl (fun h6 => ?_) (fun h6 => ?_)
 refine wp_skip (s_then (s_seq ?_))
 refine s_blk (s_seq (c_reg ?_))
 refine qd rfl rfl rfl (run_idx Try.underlying46 sz3 (v := v) rfl rfl hv (by omega) (by omega)) (qd rfl rfl rfl (run_load_int (r := xs.getD j 0) rfl ag3 (z := (j : Int)) rfl hv hX5.pins (by omega) (by omega)) (qd rfl rfl rfl (r_assign (v := (.int .i64 (xs.getD j 0))) rfl) (qe (s_then (s_seq (s_seq (c_reg ?_)))))))
 refine qd rfl rfl rfl (r_move (v := (.int .i64 (xs.getD j 0))) rfl) (qd rfl rfl rfl (r_move (v := (.int .i64 last)) rfl) (qd rfl rfl rfl (r_leq rfl rfl) (qd rfl rfl rfl (r_move (v := (.bool (decide ((xs.getD j 0 : Int) ≤ last)))) rfl) (qbd (p := (xs.getD j 0 : Int) ≤ last) (t := 20) rfl (fun h7 => ?_) (fun h7 => ?_)))))
 refine qs rfl rfl rfl rfl rfl rfl (qs rfl rfl rfl rfl rfl rfl (qs rfl rfl rfl rfl rfl rfl (qd rfl rfl rfl (r_pickT (v := (.bool true)) rfl rfl) (qe (s_then ?_)))))
 refine c_ifT rfl rfl (s_seq (c_reg ?_))
 refine qd rfl rfl rfl (r_assign (v := (.bool false)) rfl) (qe (s_then ?_))
 exact wp_ret (s_ret (c_ret1 (v := (.bool false)) rfl rfl rfl (⟨congrArg (fun z => Ending.returned (Value.bool z)) ((hr.trans (goodFrom_bad (by omega) (Or.inl h7))).symm), rfl⟩)))
 refine qdg rfl rfl rfl rfl rfl rfl (r_move (v := (.int .i64 (xs.getD j 0))) rfl) (qdg rfl rfl rfl rfl rfl rfl (r_move (v := (.int .i64 b)) rfl) (qdg rfl rfl rfl rfl rfl rfl (r_geq rfl rfl) (qd rfl rfl rfl (r_pickF (v := (.bool (decide ((b : Int) ≤ (xs.getD j 0))))) rfl rfl) (qe (s_then ?_)))))
 refine c_ifd (p := (b : Int) ≤ (xs.getD j 0)) rfl rfl (fun h8 => ?_) (fun h8 => ?_)
 refine s_seq (c_reg ?_)
 refine qd rfl rfl rfl (r_assign (v := (.bool false)) rfl) (qe (s_then ?_))
 exact wp_ret (s_ret (c_ret1 (v := (.bool false)) rfl rfl rfl (⟨congrArg (fun z => Ending.returned (Value.bool z)) ((hr.trans (goodFrom_bad (by omega) (Or.inr h8))).symm), rfl⟩)))
 refine wp_skip (s_then (c_reg ?_))
 refine qd rfl rfl rfl (r_move (v := (.int .i64 (xs.getD j 0))) rfl) (qd rfl rfl rfl (r_assign (v := (.int .i64 (xs.getD j 0))) rfl) (qe (s_blkN (s_then (c_reg ?_)))))
 refine qd rfl rfl rfl (r_add rfl rfl (by omega)) (qd rfl rfl rfl (r_move (v := (.int .i64 ((j : Int) + 1))) rfl) (qe (s_lopN (⟨_, ?_, _, rfl, _, j + 1, xs.getD j 0, (packS (x := 13) (packS (x := 12) (packS (x := 11) (packS (x := 5) (pack1 (x := 1) rfl) rfl) rfl) rfl) rfl), rfl, hX5, (by omega), rfl, (hr.trans (goodFrom_next (by omega) h7 h8))⟩))))
 omega
 refine wp_exit (s_thenE (s_lopE (s_blkE (s_then (s_seq (c_reg ?_))))))
 refine qd rfl rfl rfl (r_assign (v := (.bool true)) rfl) (qe (s_then ?_))
 exact wp_ret (s_ret (c_ret1 (v := (.bool true)) rfl rfl rfl (⟨congrArg (fun z => Ending.returned (Value.bool z)) ((hr.trans (goodFrom_end (by omega))).symm), rfl⟩)))

theorem GoodLoop_spec {w : World} {G : Pin} {u v : Value} {L R : List (List Int)} (hP : Pins G w) (hu : RSl (eSl eInt) G u L) (hv : RSl (eSl eInt) G v R) (hg : LgP L R) :
  Calls Try.prog 21 [(.agg [u, v].toArray)].toArray w fun e w' => ∃ G', e = .returned (.bool true) ∧ Ext noS G w G' w' := by
 refine s_enter (n := 44) Try.func21 Try.ntmps21 rfl rfl ?_
 have hX0 : Ext noS G w G w := Ext.refl hP
 have hmu := hu.max
 have hmv := hv.max
 have hglo := hg.lo
 have hghi := hg.hi
 have hgle := hg.len
 refine s_seq (c_reg ?_)
 refine q1 rfl rfl rfl (o_box [u, v] (v := (.agg [u, v].toArray)) rfl rfl hX0.pins (fun b1 w2 hk3 hb4 hp5 hl6 => ?_))
 have hX7 := hX0.step hp5 hl6
 have hlo8 : w.heap.size ≤ b1 := by have := hX0.size; omega
 obtain ⟨G9, hle10, hX11, hbp12, hf13⟩ := hb4.shut hX7 hlo8
 refine qd rfl rfl rfl (r_assign (v := (.bool false)) rfl) (qe (s_then (s_seq (c_reg ?_))))
 refine qd rfl rfl rfl (r_fldp (k := 0) rfl Try.underlying30 rfl nz28 rfl) (qd rfl rfl rfl (r_ldp1 (u := u) ag28 rfl (hX11.pins _ _ _ (hbp12 0 _ rfl))) (qd rfl rfl rfl (run_len Try.underlying28 (v := u) rfl hu) (qd rfl rfl rfl (r_assign (v := (.int .i64 (L.length : Int))) rfl) (qe (s_then (s_seq (s_seq (c_reg ?_))))))))
 refine qd rfl rfl rfl (r_move (v := (.int .i64 (L.length : Int))) rfl) (qd rfl rfl rfl (r_lss rfl rfl) (qd rfl rfl rfl (r_move (v := (.bool (decide (((L.length : Int) : Int) < 1)))) rfl) (qbd (p := ((L.length : Int) : Int) < 1) (t := 10) rfl (fun h14 => ?_) (fun h14 => ?_))))
 refine qs rfl rfl rfl rfl rfl rfl (qs rfl rfl rfl rfl rfl rfl (qd rfl rfl rfl (r_pickT (v := (.bool true)) rfl rfl) (qd rfl rfl rfl (r_move (v := (.bool true)) rfl) (qs rfl rfl rfl rfl rfl rfl (qs rfl rfl rfl rfl rfl rfl (qs rfl rfl rfl rfl rfl rfl (qs rfl rfl rfl rfl rfl rfl (qs rfl rfl rfl rfl rfl rfl (qd rfl rfl rfl (r_pickT (v := (.bool true)) rfl rfl) (qe (s_then ?_)))))))))))
 refine c_ifT rfl rfl (s_seq (c_reg ?_))
 refine qd rfl rfl rfl (r_assign (v := (.bool false)) rfl) (qe (s_then ?_))
 refine wp_ret (s_ret (c_ret1 (v := (.bool false)) rfl rfl rfl ?_))
 exfalso; omega
 refine qdg rfl rfl rfl rfl rfl rfl (r_move (v := (.int .i64 (L.length : Int))) rfl) (qdg rfl rfl rfl rfl rfl rfl (r_gtr rfl rfl) (qd rfl rfl rfl (r_pickF (v := (.bool (decide ((36 : Int) < (L.length : Int))))) rfl rfl) (qd rfl rfl rfl (r_move (v := (.bool (decide ((36 : Int) < (L.length : Int))))) rfl) (qbd (p := (36 : Int) < (L.length : Int)) (t := 14) rfl (fun h15 => ?_) (fun h15 => ?_)))))
 refine qs rfl rfl rfl rfl rfl rfl (qs rfl rfl rfl rfl rfl rfl (qs rfl rfl rfl rfl rfl rfl (qs rfl rfl rfl rfl rfl rfl (qs rfl rfl rfl rfl rfl rfl (qd rfl rfl rfl (r_pickT (v := (.bool true)) rfl rfl) (qe (s_then ?_)))))))
 refine c_ifT rfl rfl (s_seq (c_reg ?_))
 refine qd rfl rfl rfl (r_assign (v := (.bool false)) rfl) (qe (s_then ?_))
 refine wp_ret (s_ret (c_ret1 (v := (.bool false)) rfl rfl rfl ?_))
 exfalso; omega
 refine qdg rfl rfl rfl rfl rfl rfl (r_fldp (k := 1) rfl Try.underlying30 rfl nz28 rfl) (qdg rfl rfl rfl rfl rfl rfl (r_ldp1 (u := v) ag28 rfl (hX11.pins _ _ _ (hbp12 1 _ rfl))) (qdg rfl rfl rfl rfl rfl rfl (run_len Try.underlying28 (v := v) rfl hv) (qdg rfl rfl rfl rfl rfl rfl (r_move (v := (.int .i64 (L.length : Int))) rfl) (qdg rfl rfl rfl rfl rfl rfl (r_neq rfl rfl) (qd rfl rfl rfl (r_pickF (v := (.bool (decide (((R.length : Int) : Int) ≠ (L.length : Int))))) rfl rfl) (qe (s_then ?_)))))))
 refine c_ifd (p := ((R.length : Int) : Int) ≠ (L.length : Int)) rfl rfl (fun h16 => ?_) (fun h16 => ?_)
 refine s_seq (c_reg ?_)
 refine qd rfl rfl rfl (r_assign (v := (.bool false)) rfl) (qe (s_then ?_))
 refine wp_ret (s_ret (c_ret1 (v := (.bool false)) rfl rfl rfl ?_))
 exfalso; omega
 refine wp_skip (s_then (s_seq (s_seq (c_reg ?_))))
 refine qd rfl rfl rfl (r_move (v := (.int .i64 (L.length : Int))) rfl) (qd rfl rfl rfl (r_move (v := (.int .i64 0)) rfl) (qe (s_then ?_)))
 refine s_blk (s_loop (fun (k : Nat) (en : Nat → Value) (W : World) => ∃ (env1 : Nat → Value) (j : Nat) (GL1 : Pin), en = (upd (upd (upd (upd env1 1 (.pointer (some ⟨b1, 0, none⟩))) 3 (.int .i64 (L.length : Int))) 21 (.int .i64 (L.length : Int))) 22 (.int .i64 (j : Int))) ∧ k = L.length - j ∧ Ext noS G w GL1 W ∧ Pin.le G9 GL1 ∧ (j ≤ L.length)) _ ⟨_, 0, G9, (packS (x := 22) (packS (x := 21) (packS (x := 3) (pack1 (x := 1) rfl) rfl) rfl) rfl), rfl, hX11, Pin.le_refl _, Nat.zero_le _⟩ ?_)
 rintro k17 _ w18 ⟨env1, j, GL1, rfl, hk19, hX20, hlek17, hj⟩
 refine s_seq (c_reg ?_)
 refine qd rfl rfl rfl (r_lss rfl rfl) (qe (s_then (s_seq ?_)))
 refine c_ifd (p := ((j : Int) : Int) < (L.length : Int)) rfl rfl (fun h21 => ?_) (fun h21 => ?_)
 refine wp_skip (s_then (s_seq ?_))
 refine s_blk (s_seq (c_reg ?_))
 refine qd rfl rfl rfl (r_move (v := (.int .i64 (j : Int))) rfl) (qd rfl rfl rfl (r_assign (v := (.int .i64 (j : Int))) rfl) (qe (s_then (s_seq (c_reg ?_)))))
 refine qd rfl rfl rfl (r_fldp (k := 0) rfl Try.underlying30 rfl nz28 rfl) (qd rfl rfl rfl (r_ldp1 (u := u) ag28 rfl ((Pins.of_le hX20.pins hlek17) _ _ _ (hbp12 0 _ rfl))) (qd rfl rfl rfl (r_move (v := (.int .i64 (j : Int))) rfl) (qd rfl rfl rfl (run_idx Try.underlying28 sz46 (v := u) rfl rfl hu (by omega) (by omega)) ?_)))
 obtain ⟨u22, hr23, hl24⟩ := nm_sl (hu.at (z := (j : Int)) (by omega) (by omega)) (j := j) rfl
 have hm25 := hr23.max
 refine qd rfl rfl rfl (hl24 ag46 rfl (Pins.of_le hX20.pins (Pin.le_trans hle10 hlek17))) (qd rfl rfl rfl (r_move (v := (.int .i64 (L.length : Int))) rfl) (q1 rfl rfl rfl (o_call (vs := [u22, (.int .i64 (L.length : Int))]) Try.func39 nm39 rfl rfl rfl ?_)))
 refine Calls.mono (goodTargets_spec hX20.pins (hr23.mono (Pin.le_trans hle10 hlek17))) ?_
 rintro _ _ ⟨rfl, rfl⟩
 refine ⟨_, rfl, ?_⟩
 refine qd rfl rfl rfl (r_not rfl) (qd rfl rfl rfl (r_move (v := (.bool (!(goodOpts (L.getD j []) (L.length : Int))))) rfl) (qbn (t := 33) rfl (fun h26 => ?_) (fun h26 => ?_)))
 refine qdg rfl rfl rfl rfl rfl rfl (r_fldp (k := 1) rfl Try.underlying30 rfl nz28 rfl) (qdg rfl rfl rfl rfl rfl rfl (r_ldp1 (u := v) ag28 rfl ((Pins.of_le hX20.pins hlek17) _ _ _ (hbp12 1 _ rfl))) (qdg rfl rfl rfl rfl rfl rfl (r_move (v := (.int .i64 (j : Int))) rfl) (qdg rfl rfl rfl rfl rfl rfl (run_idx Try.underlying28 sz46 (v := v) rfl rfl hv (by omega) (by omega)) ?_)))
 obtain ⟨u27, hr28, hl29⟩ := nm_sl (hv.at (z := (j : Int)) (by omega) (by omega)) (j := j) rfl
 have hm30 := hr28.max
 refine qdg rfl rfl rfl rfl rfl rfl (hl29 ag46 rfl (Pins.of_le hX20.pins (Pin.le_trans hle10 hlek17))) (qdg rfl rfl rfl rfl rfl rfl (r_move (v := (.int .i64 (L.length : Int))) rfl) (q1g rfl rfl rfl rfl rfl rfl (o_call (vs := [u27, (.int .i64 (L.length : Int))]) Try.func39 nm39 rfl rfl rfl ?_)))
 refine Calls.mono (goodTargets_spec hX20.pins (hr28.mono (Pin.le_trans hle10 hlek17))) ?_
 rintro _ _ ⟨rfl, rfl⟩
 refine ⟨_, rfl, ?_⟩
 refine qdg rfl rfl rfl rfl rfl rfl (r_not rfl) (qd rfl rfl rfl (r_pickF (v := (.bool (!(goodOpts (R.getD j []) (L.length : Int))))) rfl rfl) (qe (s_then ?_)))
 refine c_ifn rfl rfl (fun h31 => ?_) (fun h31 => ?_)
 refine wp_skip (s_blkN (s_then (c_reg ?_)))
 refine qd rfl rfl rfl (r_add rfl rfl (by omega)) (qd rfl rfl rfl (r_move (v := (.int .i64 ((j : Int) + 1))) rfl) (qe (s_lopN (⟨_, ?_, _, rfl, _, j + 1, GL1, (packS (x := 22) (packS (x := 21) (packS (x := 3) (pack1 (x := 1) rfl) rfl) rfl) rfl), rfl, hX20, hlek17, (by omega)⟩))))
 omega
 refine s_seq (c_reg ?_)
 refine qd rfl rfl rfl (r_assign (v := (.bool false)) rfl) (qe (s_then ?_))
 refine wp_ret (s_ret (c_ret1 (v := (.bool false)) rfl rfl rfl ?_))
 have hgk := hg.ok j (by omega)
 first | (rw [hgk.1] at h31; cases h31) | (rw [hgk.2] at h31; cases h31)
 refine qs rfl rfl rfl rfl rfl rfl (qs rfl rfl rfl rfl rfl rfl (qs rfl rfl rfl rfl rfl rfl (qs rfl rfl rfl rfl rfl rfl (qs rfl rfl rfl rfl rfl rfl (qs rfl rfl rfl rfl rfl rfl (qs rfl rfl rfl rfl rfl rfl (qs rfl rfl rfl rfl rfl rfl (qd rfl rfl rfl (r_pickT (v := (.bool true)) rfl rfl) (qe (s_then ?_))))))))))
 refine c_ifT rfl rfl (s_seq (c_reg ?_))
 refine qd rfl rfl rfl (r_assign (v := (.bool false)) rfl) (qe (s_then ?_))
 refine wp_ret (s_ret (c_ret1 (v := (.bool false)) rfl rfl rfl ?_))
 have hgk := hg.ok j (by omega)
 first | (rw [hgk.1] at h26; cases h26) | (rw [hgk.2] at h26; cases h26)
 refine wp_exit (s_thenE (s_lopE (s_blkE (s_then (s_seq (c_reg ?_))))))
 refine qd rfl rfl rfl (r_assign (v := (.bool true)) rfl) (qe (s_then ?_))
 exact wp_ret (s_ret (c_ret1 (v := (.bool true)) rfl rfl rfl (⟨_, rfl, hX20⟩)))

theorem stateOf_spec {w : World} {G : Pin} {z : Int} {lf : Bool} (hP : Pins G w) (hz : 0 ≤ z ∧ z ≤ 1048576) :
  Calls Try.prog 38 [(.int .i64 z), (.bool lf)].toArray w fun e w' => e = .returned (.int .i64 (stZ z lf)) ∧ w' = w := by
 refine s_enter (n := 11) Try.func38 Try.ntmps38 rfl rfl ?_
 have hX0 : Ext noS G w G w := Ext.refl hP
 refine s_seq (c_reg ?_)
 refine qd rfl rfl rfl (r_assign (v := (.int .i64 0)) rfl) (qe (s_then (s_seq (s_seq (c_reg ?_)))))
 refine qd rfl rfl rfl (r_move (v := (.bool lf)) rfl) (qe (s_then ?_))
 refine c_if rfl rfl (fun h1 => ?_) (fun h1 => ?_)
 refine s_seq (c_reg ?_)
 refine qd rfl rfl rfl (r_move (v := (.int .i64 z)) rfl) (qd rfl rfl rfl (r_mul rfl rfl (by omega)) (qd rfl rfl rfl (r_assign (v := (.int .i64 (2 * z))) rfl) (qe (s_then ?_))))
 refine wp_ret (s_ret (c_ret1 (v := (.int .i64 (2 * z))) rfl rfl rfl ?_))
 unfold stZ
 rw [h1]
 exact ⟨rfl, rfl⟩
 refine wp_skip (s_then (s_seq (c_reg ?_)))
 refine qd rfl rfl rfl (r_move (v := (.int .i64 z)) rfl) (qd rfl rfl rfl (r_mul rfl rfl (by omega)) (qd rfl rfl rfl (r_add rfl rfl (by omega)) (qd rfl rfl rfl (r_assign (v := (.int .i64 ((2 * z) + 1))) rfl) (qe (s_then ?_)))))
 refine wp_ret (s_ret (c_ret1 (v := (.int .i64 ((2 * z) + 1))) rfl rfl rfl ?_))
 unfold stZ
 rw [h1]
 exact ⟨rfl, rfl⟩

theorem solvedLoop_spec {w : World} {G : Pin} {u v : Value} {L R : List (List Int)} {z : Int} {lf : Bool} (hP : Pins G w) (hu : RSl (eSl eInt) G u L) (hv : RSl (eSl eInt) G v R) (hg : LgP L R) (hL : AcL L) (hR : AcL R) (hz : 0 ≤ z ∧ z < L.length) :
  Calls Try.prog 19 [(.agg [u, v].toArray), (.int .i64 z), (.bool lf)].toArray w fun e w' => ∃ (x y : Value) (rs : List (Int × Int)) (G' : Pin), e = .returned (.tuple #[.agg [x, y].toArray, .int .i64 (stZ z lf), .bool true]) ∧ RSl (eSl eInt) G' x (arN L R) ∧ RSl eP2 G' y rs ∧ rs.length = 2 * L.length ∧ (∀ s, s < (arN L R).length → (rs.getD s default).1 = wnA (arN L R) s) ∧ Ext noS G w G' w' := by
 refine s_enter (n := 32) Try.func19 Try.ntmps19 rfl rfl ?_
 have hX0 : Ext noS G w G w := Ext.refl hP
 have hmu := hu.max
 have hmv := hv.max
 have hglo := hg.lo
 have hghi := hg.hi
 have hgle := hg.len
 refine s_seq (c_reg ?_)
 refine q1 rfl rfl rfl (o_box [u, v] (v := (.agg [u, v].toArray)) rfl rfl hX0.pins (fun b1 w2 hk3 hb4 hp5 hl6 => ?_))
 have hX7 := hX0.step hp5 hl6
 have hlo8 : w.heap.size ≤ b1 := by have := hX0.size; omega
 obtain ⟨G9, hle10, hX11, hbp12, hf13⟩ := hb4.shut hX7 hlo8
 refine q1 rfl rfl rfl (o_alloc [(.slice none 0 0), (.slice none 0 0)] zr53 rfl hX11.pins (fun b14 w15 hk16 hb17 hp18 hl19 => ?_))
 have hX20 := hX11.step hp18 hl19
 have hlo21 : w.heap.size ≤ b14 := by have := hX11.size; omega
 refine qd rfl rfl rfl (r_assign (v := (.int .i64 0)) rfl) (qd rfl rfl rfl (r_assign (v := (.bool false)) rfl) (qe (s_then (s_seq (s_seq (c_reg ?_))))))
 refine qd rfl rfl rfl (r_ldpA (cs := [u, v]) ag30 sz30 rfl (fun j u hj => hX20.pins _ _ _ (hbp12 _ _ (by simpa using hj)))) (q1 rfl rfl rfl (o_call (vs := [(.agg [u, v].toArray)]) Try.func21 nm21 rfl rfl rfl ?_))
 refine Calls.mono (GoodLoop_spec hX20.pins (hu.mono hle10) (hv.mono hle10) hg) ?_
 rintro _ w23 ⟨G22, rfl, hx24⟩
 refine ⟨_, rfl, ?_⟩
 have hX25 := hX20.tr hx24
 have hb26 := hb17.ext hx24
 refine qd rfl rfl rfl (r_not rfl) (qd rfl rfl rfl (r_move (v := (.bool false)) rfl) (qdg rfl rfl rfl rfl rfl rfl (r_move (v := (.int .i64 z)) rfl) (qdg rfl rfl rfl rfl rfl rfl (r_lss rfl rfl) (qd rfl rfl rfl (r_pickF (v := (.bool (decide ((z : Int) < 0)))) rfl rfl) (qd rfl rfl rfl (r_move (v := (.bool (decide ((z : Int) < 0)))) rfl) (qbd (p := (z : Int) < 0) (t := 16) rfl (fun h27 => ?_) (fun h27 => ?_)))))))
 refine qs rfl rfl rfl rfl rfl rfl (qs rfl rfl rfl rfl rfl rfl (qs rfl rfl rfl rfl rfl rfl (qs rfl rfl rfl rfl rfl rfl (qs rfl rfl rfl rfl rfl rfl (qd rfl rfl rfl (r_pickT (v := (.bool true)) rfl rfl) (qe (s_then ?_)))))))
 refine c_ifT rfl rfl (s_seq (c_reg ?_))
 refine qd rfl rfl rfl (r_build [(.slice none 0 0), (.slice none 0 0)] [(.slice none 0 0), (.slice none 0 0)] [] Try.underlying53 zr53 rfl pl53 rfl (fun _ h => by cases h) rfl) (q0 rfl rfl rfl (o_stp (cs' := [(.slice none 0 0), (.slice none 0 0)]) (us := [(.slice none 0 0), (.slice none 0 0)]) (v := (.agg [(.slice none 0 0), (.slice none 0 0)].toArray)) sz53 rfl rfl rfl (ones2 (by rfl) (by rfl)) hX25.pins hb26 (Nat.le_of_ble_eq_true rfl) rfl (fun w28 hb29 hp30 hg31 hz32 => ?_)))
 refine qd rfl rfl rfl (r_assign (v := (.int .i64 0)) rfl) (qd rfl rfl rfl (r_assign (v := (.bool false)) rfl) (qe (s_then ?_)))
 refine wp_ret (s_ret (c_retctt (cs := [(.slice none 0 0), (.slice none 0 0)]) (v := (.int .i64 0)) (v2 := (.bool false)) rfl rfl rfl rfl rfl rfl rfl ag53 sz53 (fun j u hj => by rw [Nat.zero_add]; exact hb29.cell hj) ?_))
 exfalso; omega
 refine qdg rfl rfl rfl rfl rfl rfl (r_move (v := (.int .i64 z)) rfl) (qdg rfl rfl rfl rfl rfl rfl (r_fldp (k := 0) rfl Try.underlying30 rfl nz28 rfl) (qdg rfl rfl rfl rfl rfl rfl (r_ldp1 (u := u) ag28 rfl ((Pins.of_le hX25.pins hx24.le) _ _ _ (hbp12 0 _ rfl))) (qdg rfl rfl rfl rfl rfl rfl (run_len Try.underlying28 (v := u) rfl hu) (qdg rfl rfl rfl rfl rfl rfl (r_geq rfl rfl) (qd rfl rfl rfl (r_pickF (v := (.bool (decide (((L.length : Int) : Int) ≤ z)))) rfl rfl) (qe (s_then ?_)))))))
 refine c_ifd (p := ((L.length : Int) : Int) ≤ z) rfl rfl (fun h34 => ?_) (fun h34 => ?_)
 refine s_seq (c_reg ?_)
 refine qd rfl rfl rfl (r_build [(.slice none 0 0), (.slice none 0 0)] [(.slice none 0 0), (.slice none 0 0)] [] Try.underlying53 zr53 rfl pl53 rfl (fun _ h => by cases h) rfl) (q0 rfl rfl rfl (o_stp (cs' := [(.slice none 0 0), (.slice none 0 0)]) (us := [(.slice none 0 0), (.slice none 0 0)]) (v := (.agg [(.slice none 0 0), (.slice none 0 0)].toArray)) sz53 rfl rfl rfl (ones2 (by rfl) (by rfl)) hX25.pins hb26 (Nat.le_of_ble_eq_true rfl) rfl (fun w35 hb36 hp37 hg38 hz39 => ?_)))
 refine qd rfl rfl rfl (r_assign (v := (.int .i64 0)) rfl) (qd rfl rfl rfl (r_assign (v := (.bool false)) rfl) (qe (s_then ?_)))
 refine wp_ret (s_ret (c_retctt (cs := [(.slice none 0 0), (.slice none 0 0)]) (v := (.int .i64 0)) (v2 := (.bool false)) rfl rfl rfl rfl rfl rfl rfl ag53 sz53 (fun j u hj => by rw [Nat.zero_add]; exact hb36.cell hj) ?_))
 exfalso; omega
 refine wp_skip (s_then (s_seq (c_reg ?_)))
 refine qd rfl rfl rfl (r_fldp (k := 0) rfl Try.underlying30 rfl nz28 rfl) (qd rfl rfl rfl (r_ldp1 (u := u) ag28 rfl ((Pins.of_le hX25.pins hx24.le) _ _ _ (hbp12 0 _ rfl))) (qd rfl rfl rfl (r_fldp (k := 1) rfl Try.underlying30 rfl nz28 rfl) (qd rfl rfl rfl (r_ldp1 (u := v) ag28 rfl ((Pins.of_le hX25.pins hx24.le) _ _ _ (hbp12 1 _ rfl))) (q1 rfl rfl rfl (o_call (vs := [u, v]) Try.func37 nm37 rfl rfl rfl ?_)))))
 refine Calls.mono (newArena_spec hX25.pins (hu.mono (Pin.le_trans hle10 hx24.le)) (hv.mono (Pin.le_trans hle10 hx24.le)) hg.len.symm hL hR (by omega) hg.lens) ?_
 rintro _ w45 ⟨x41, y42, rs43, G44, rfl, hr46, hr47, hrl48, hrw49, hx50⟩
 refine ⟨_, rfl, ?_⟩
 have hX51 := hX25.tr hx50
 have hb52 := hb26.ext hx50
 refine qd rfl rfl rfl (r_move (v := (.int .i64 z)) rfl) (qd rfl rfl rfl (r_move (v := (.bool lf)) rfl) (q1 rfl rfl rfl (o_call (vs := [(.int .i64 z), (.bool lf)]) Try.func38 nm38 rfl rfl rfl ?_)))
 refine Calls.mono (stateOf_spec hX51.pins (by omega)) ?_
 rintro _ _ ⟨rfl, rfl⟩
 refine ⟨_, rfl, ?_⟩
 refine q0 rfl rfl rfl (o_stp (cs' := [x41, y42]) (us := [x41, y42]) (v := (.agg [x41, y42].toArray)) sz53 rfl rfl rfl (ones2 hr46.one hr47.one) hX51.pins hb52 (Nat.le_of_ble_eq_true rfl) rfl (fun w53 hb54 hp55 hg56 hz57 => ?_))
 have hX58 := hX51.write hp55 hg56 ((lo_box hlo21))
 refine qd rfl rfl rfl (r_assign (v := (.int .i64 (stZ z lf))) rfl) (qd rfl rfl rfl (r_assign (v := (.bool true)) rfl) (qe (s_then ?_)))
 exact wp_ret (s_ret (c_retctt (cs := [x41, y42]) (v := (.int .i64 (stZ z lf))) (v2 := (.bool true)) rfl rfl rfl rfl rfl rfl rfl ag53 sz53 (fun j u hj => by rw [Nat.zero_add]; exact hb54.cell hj) (⟨_, _, _, _, rfl, hr46, hr47, hrl48, hrw49, hX58⟩)))

theorem LoopOutcome_spec {w : World} {G : Pin} {u v : Value} {L R : List (List Int)} {z : Int} {lf : Bool} (hP : Pins G w) (hu : RSl (eSl eInt) G u L) (hv : RSl (eSl eInt) G v R) (hg : LgP L R) (hL : AcL L) (hR : AcL R) (hz : 0 ≤ z ∧ z < L.length) :
  Calls Try.prog 9 [(.agg [u, v].toArray), (.int .i64 z), (.bool lf)].toArray w fun e w' => ∃ G', e = .returned (.tuple #[.int .i64 (wnA (arN L R) (stZ z lf).toNat), .bool true]) ∧ Ext noS G w G' w' := by
 refine s_enter (n := 27) Try.func9 Try.ntmps9 rfl rfl ?_
 have hX0 : Ext noS G w G w := Ext.refl hP
 have hmu := hu.max
 have hmv := hv.max
 have hglo := hg.lo
 have hghi := hg.hi
 have hgle := hg.len
 refine s_seq (c_reg ?_)
 refine q1 rfl rfl rfl (o_box [u, v] (v := (.agg [u, v].toArray)) rfl rfl hX0.pins (fun b1 w2 hk3 hb4 hp5 hl6 => ?_))
 have hX7 := hX0.step hp5 hl6
 have hlo8 : w.heap.size ≤ b1 := by have := hX0.size; omega
 obtain ⟨G9, hle10, hX11, hbp12, hf13⟩ := hb4.shut hX7 hlo8
 refine qd rfl rfl rfl (r_assign (v := (.int .i64 0)) rfl) (qd rfl rfl rfl (r_assign (v := (.bool false)) rfl) (qe (s_then (s_seq (c_reg ?_)))))
 refine qd rfl rfl rfl (r_ldpA (cs := [u, v]) ag30 sz30 rfl (fun j u hj => hX11.pins _ _ _ (hbp12 _ _ (by simpa using hj)))) (qd rfl rfl rfl (r_move (v := (.int .i64 z)) rfl) (qd rfl rfl rfl (r_move (v := (.bool lf)) rfl) (q1 rfl rfl rfl (o_call (vs := [(.agg [u, v].toArray), (.int .i64 z), (.bool lf)]) Try.func19 nm19 rfl rfl rfl ?_))))
 refine Calls.mono (solvedLoop_spec hX11.pins (hu.mono hle10) (hv.mono hle10) hg hL hR hz) ?_
 rintro _ w18 ⟨x14, y15, rs16, G17, rfl, hr19, hr20, hrl21, hrw22, hx23⟩
 refine ⟨_, rfl, ?_⟩
 have hX24 := hX11.tr hx23
 have hzb := stZ_bd (lf := lf) hz
 refine qd rfl rfl rfl (r_move (v := (.tuple #[(.agg [x14, y15].toArray), (.int .i64 (stZ z lf)), (.bool true)])) rfl) (qd rfl rfl rfl (r_extract (v := (.agg [x14, y15].toArray)) rfl rfl) (qd rfl rfl rfl (r_extract (v := (.int .i64 (stZ z lf))) rfl rfl) (qd rfl rfl rfl (r_extract (v := (.bool true)) rfl rfl) (q1 rfl rfl rfl (o_alloc [(.slice none 0 0), (.slice none 0 0)] zr53 rfl hX24.pins (fun b25 w26 hk27 hb28 hp29 hl30 => ?_))))))
 have hX31 := hX24.step hp29 hl30
 have hlo32 : w.heap.size ≤ b25 := by have := hX24.size; omega
 refine q0 rfl rfl rfl (o_stp (cs' := [x14, y15]) (us := [x14, y15]) (v := (.agg [x14, y15].toArray)) sz53 rfl rfl rfl (ones2 hr19.one hr20.one) hX31.pins hb28 (Nat.le_of_ble_eq_true rfl) rfl (fun w33 hb34 hp35 hg36 hz37 => ?_))
 have hX38 := hX31.write hp35 hg36 ((lo_box hlo32))
 obtain ⟨G39, hle40, hX41, hbp42, hf43⟩ := hb34.shut hX38 hlo32
 refine qd rfl rfl rfl (r_assign (v := (.int .i64 (stZ z lf))) rfl) (qd rfl rfl rfl (r_assign (v := (.bool true)) rfl) (qe (s_then (s_seq (s_seq (c_reg ?_))))))
 refine qd rfl rfl rfl (r_move (v := (.bool true)) rfl) (qd rfl rfl rfl (r_not rfl) (qe (s_then ?_)))
 refine c_ifF rfl rfl (wp_skip (s_then (s_seq (c_reg ?_))))
 refine qd rfl rfl rfl (r_fldp (k := 1) rfl Try.underlying53 rfl nz51 rfl) (qd rfl rfl rfl (r_ldp1 (u := y15) ag51 rfl (hX41.pins _ _ _ (hbp42 1 _ rfl))) (qd rfl rfl rfl (r_move (v := (.int .i64 (stZ z lf))) rfl) (qd rfl rfl rfl (run_idx Try.underlying51 sz57 (v := y15) rfl rfl hr20 (by omega) (by omega)) (qd rfl rfl rfl (run_fld (off := 0) Try.underlying57 rfl rfl nz3 (z := (stZ z lf)) (k := 0) rfl hr20 (by omega) (by omega)) ?_))))
 obtain ⟨cs44, hrep45, hagg46, hcell47⟩ := nm_el (j := (stZ z lf).toNat) default (hr20.at (z := (stZ z lf)) (by omega) (by omega)) rfl
 obtain rfl := hrep45
 refine qd rfl rfl rfl (hcell47 0 _ rfl ag3 rfl (Pins.of_le hX41.pins hle40)) (qd rfl rfl rfl (r_assign (v := (.int .i64 ((rs16.getD (stZ z lf).toNat default).1))) rfl) (qd rfl rfl rfl (r_assign (v := (.bool true)) rfl) (qe (s_then ?_))))
 refine wp_ret (s_ret (c_ret2 (v := (.int .i64 ((rs16.getD (stZ z lf).toNat default).1))) (u := (.bool true)) rfl rfl rfl rfl rfl ?_))
 have hal := arN_length hg.len.symm
 exact ⟨_, by rw [hrw22 _ (by omega)], hX41⟩

end AR4
end Go.Proofs.Ytdongckiecjbaaa

set_option maxRecDepth 20000
set_option maxHeartbeats 2000000
namespace Go.Proofs.Ytdongckiecjbaaa
namespace AR5
open Go.RowKit Go.GL Go.Proofs
open B1







def VisC (m : Nat) (N : List (List Int)) (bp bn bv bt : Nat) (pv nv tv : Value) : Prop := ∀ {w : World} {G : Pin} {s : Nat} {z : Int} {ps ts : List Int}, z = (s : Int) → Pins G w → RSl (eSl eInt) G nv N → PinB G bp [pv] → PinB G bn [nv] → PinB G bv [(.func (.func 40) #[] #[.pointer (some ⟨bp, 0, none⟩), .pointer (some ⟨bn, 0, none⟩), .pointer (some ⟨bv, 0, none⟩), .pointer (some ⟨bt, 0, none⟩)])] → PinB G bt [tv] → Own eInt 3 G w 0 pv ps → Own eInt 3 G w 0 tv ts → Apart pv.ownBlock tv.ownBlock → ArOk N → ps.length = N.length → ts.length = N.length → N.length ≤ 1048576 → s < N.length → PhV ps → TuV ts → PhB ps (s / 2) → s / 2 < m → Calls Try.prog 40 [(.int .i64 z), (.pointer (some ⟨bp, 0, none⟩)), (.pointer (some ⟨bn, 0, none⟩)), (.pointer (some ⟨bv, 0, none⟩)), (.pointer (some ⟨bt, 0, none⟩))].toArray w fun e w' => ∃ (ps' ts' : List Int) (G' : Pin), e = .returned (.bool true) ∧ Own eInt 3 G' w' 0 pv ps' ∧ Own eInt 3 G' w' 0 tv ts' ∧ PhV ps' ∧ TuV ts' ∧ PhLe ps ps' ∧ ts'.length = ts.length ∧ Ext (inV [pv, tv]) G w G' w'

theorem visit_step {w : World} {G : Pin} {m s : Nat} {bp bn bv bt : Nat} {pv nv tv : Value} {ps ts : List Int} {N : List (List Int)} (hP : Pins G w) (hu : RSl (eSl eInt) G nv N) (hbp : PinB G bp [pv]) (hbn : PinB G bn [nv]) (hbv : PinB G bv [(.func (.func 40) #[] #[.pointer (some ⟨bp, 0, none⟩), .pointer (some ⟨bn, 0, none⟩), .pointer (some ⟨bv, 0, none⟩), .pointer (some ⟨bt, 0, none⟩)])]) (hbt : PinB G bt [tv]) (hp : Own eInt 3 G w 0 pv ps) (ht : Own eInt 3 G w 0 tv ts) (hap : Apart pv.ownBlock tv.ownBlock) (hok : ArOk N) (hpl : ps.length = N.length) (htl : ts.length = N.length) (hNl : N.length ≤ 1048576) (hs : s < N.length) (hpv : PhV ps) (htv : TuV ts) (hpb : PhB ps (s / 2)) (ih : VisC m N bp bn bv bt pv nv tv) (hm : s / 2 < m + 1) :
  Calls Try.prog 40 [(.int .i64 (s : Int)), (.pointer (some ⟨bp, 0, none⟩)), (.pointer (some ⟨bn, 0, none⟩)), (.pointer (some ⟨bv, 0, none⟩)), (.pointer (some ⟨bt, 0, none⟩))].toArray w fun e w' => ∃ (ps' ts' : List Int) (G' : Pin), e = .returned (.bool true) ∧ Own eInt 3 G' w' 0 pv ps' ∧ Own eInt 3 G' w' 0 tv ts' ∧ PhV ps' ∧ TuV ts' ∧ PhLe ps ps' ∧ ts'.length = ts.length ∧ Ext (inV [pv, tv]) G w G' w' := by
 refine s_enter (n := 56) Try.func40 Try.ntmps40 rfl rfl ?_
 have hX0 : Ext (inV [pv, tv]) G w G w := Ext.refl hP
 have hlopv : Lo w (inV [pv, tv]) pv.ownBlock := fun k hk => Or.inr ⟨pv, by simp, hk⟩
 have hlotv : Lo w (inV [pv, tv]) tv.ownBlock := fun k hk => Or.inr ⟨tv, by simp, hk⟩
 have hmu := hu.max
 refine s_seq (c_reg ?_)
 refine qd rfl rfl rfl (r_assign (v := (.bool false)) rfl) (qe (s_then (s_seq (c_reg ?_))))
 refine qd rfl rfl rfl (r_ldp1 (u := pv) ag46 rfl (hX0.pins _ _ _ (hbp 0 _ rfl))) (qd rfl rfl rfl (r_move (v := (.int .i64 (s : Int))) rfl) (qd rfl rfl rfl (run_idx Try.underlying46 sz3 (v := pv) rfl rfl hp.read (by omega) (by omega)) (q0 rfl rfl rfl (o_set (E := eInt) (v := pv) (u := (.int .i64 1)) (z := (s : Int)) (1) sz3 rfl rfl rfl rfl hX0.pins hp (by omega) (by omega) (fun w1 ho2 hp3 hg4 hz5 => ?_)))))
 have hX6 := hX0.write hp3 hg4 (hlopv)
 have ho7 := ht.keptA hg4 hap.symm
 have ho8 : Own eInt 3 G w1 0 pv ((ps).set s 1) := ho2
 have hm9 : ((ps).set s 1).length = ps.length := List.length_set ..
 refine qe (s_then (s_seq (s_seq (c_reg ?_))))
 refine qd rfl rfl rfl (r_ldp1 (u := nv) ag28 rfl (hX6.pins _ _ _ (hbn 0 _ rfl))) (qd rfl rfl rfl (r_move (v := (.int .i64 (s : Int))) rfl) (qd rfl rfl rfl (run_idx Try.underlying28 sz46 (v := nv) rfl rfl hu (by omega) (by omega)) ?_))
 obtain ⟨u10, hr11, hl12⟩ := nm_sl (hu.at (z := (s : Int)) (by omega) (by omega)) (j := s) rfl
 have hm13 := hr11.max
 refine qd rfl rfl rfl (hl12 ag46 rfl hX6.pins) (qd rfl rfl rfl (run_len Try.underlying46 (v := u10) rfl hr11) (qd rfl rfl rfl (r_move (v := (.int .i64 0)) rfl) (qe (s_then ?_))))
 refine s_blk (s_loop (fun (k : Nat) (en : Nat → Value) (W : World) => ∃ (env1 : Nat → Value) (j : Nat) (ps2 : List Int) (ts2 : List Int) (GL1 : Pin), en = (upd (upd (upd (upd (upd (upd (upd env1 0 (.int .i64 (s : Int))) 1 (.pointer (some ⟨bp, 0, none⟩))) 3 (.pointer (some ⟨bv, 0, none⟩))) 4 (.pointer (some ⟨bt, 0, none⟩))) 15 u10) 16 (.int .i64 ((N.getD s []).length : Int))) 17 (.int .i64 (j : Int))) ∧ k = (N.getD s []).length - j ∧ Ext (inV [pv, tv]) G w GL1 W ∧ Pin.le G GL1 ∧ (j ≤ (N.getD s []).length) ∧ (PhV ps2) ∧ (PhX ps2 s) ∧ (PhLe (ps.set s 1) ps2) ∧ (TuV ts2) ∧ (ps2.length = N.length) ∧ (ts2.length = N.length) ∧ (Own eInt 3 GL1 W 0 pv (ps2)) ∧ (Own eInt 3 GL1 W 0 tv (ts2))) _ ⟨_, 0, (ps).set s 1, ts, G, (packS (x := 17) (packS (x := 16) (packS (x := 15) (packS (x := 4) (packS (x := 3) (packS (x := 1) (pack1 (x := 0) rfl) rfl) rfl) rfl) rfl) rfl) rfl), rfl, hX6, Pin.le_refl _, Nat.zero_le _, (hpv.set (Or.inl rfl) (by omega)), (hpb.mark (by omega)), (PhLe.refl _), htv, (by rw [List.length_set]; exact hpl), htl, ho8, ho7⟩ ?_)
 rintro k14 _ w15 ⟨env1, j, ps2, ts2, GL1, rfl, hk16, hX17, hlek14, hj, hV, hX, hL, hT, hp2, ht2, hw18, hw19⟩
 refine s_seq (c_reg ?_)
 refine qd rfl rfl rfl (r_lss rfl rfl) (qe (s_then (s_seq ?_)))
 refine c_ifd (p := ((j : Int) : Int) < ((N.getD s []).length : Int)) rfl rfl (fun h20 => ?_) (fun h20 => ?_)
 have hki := hok s hs _ (getD_mem (d := (0 : Int)) (show j < (N.getD s []).length by omega))
 have hvk := hV ((N.getD s []).getD j 0).toNat (by omega)
 refine wp_skip (s_then (s_seq ?_))
 refine s_blk (s_seq (c_reg ?_))
 refine qd rfl rfl rfl (run_idx Try.underlying46 sz3 (v := u10) rfl rfl hr11 (by omega) (by omega)) (qd rfl rfl rfl (run_load_int (r := (N.getD s []).getD j 0) rfl ag3 (z := (j : Int)) rfl hr11 (Pins.of_le hX17.pins hlek14) (by omega) (by omega)) (qd rfl rfl rfl (r_assign (v := (.int .i64 ((N.getD s []).getD j 0))) rfl) (qe (s_then (s_seq (s_seq (c_reg ?_)))))))
 refine qd rfl rfl rfl (r_ldp1 (u := pv) ag46 rfl ((Pins.of_le hX17.pins hlek14) _ _ _ (hbp 0 _ rfl))) (qd rfl rfl rfl (r_move (v := (.int .i64 ((N.getD s []).getD j 0))) rfl) (qd rfl rfl rfl (run_idx Try.underlying46 sz3 (v := pv) rfl rfl hw18.read (by omega) (by omega)) (qd rfl rfl rfl (run_load_int (r := ps2.getD ((N.getD s []).getD j 0).toNat 0) rfl ag3 (z := ((N.getD s []).getD j 0)) rfl hw18.read (Gadd.pins hX17.pins pv) (by omega) (by omega)) (qd rfl rfl rfl (r_eql rfl rfl) (qd rfl rfl rfl (r_move (v := (.bool (decide ((ps2.getD ((N.getD s []).getD j 0).toNat 0 : Int) = 1)))) rfl) (qbd (p := (ps2.getD ((N.getD s []).getD j 0).toNat 0 : Int) = 1) (t := 26) rfl (fun h21 => ?_) (fun h21 => ?_)))))))
 refine qs rfl rfl rfl rfl rfl rfl (qs rfl rfl rfl rfl rfl rfl (qs rfl rfl rfl rfl rfl rfl (qs rfl rfl rfl rfl rfl rfl (qs rfl rfl rfl rfl rfl rfl (qs rfl rfl rfl rfl rfl rfl (qsu rfl rfl rfl rfl rfl (qsu rfl rfl rfl rfl rfl (qsu rfl rfl rfl rfl rfl (qsu rfl rfl rfl rfl rfl (qs rfl rfl rfl rfl rfl rfl (qd rfl rfl rfl (r_pickT (v := (.bool true)) rfl rfl) (qe (s_then ?_)))))))))))))
 refine c_ifT rfl rfl (s_seq (c_reg ?_))
 refine qd rfl rfl rfl (r_assign (v := (.bool false)) rfl) (qe (s_then ?_))
 refine wp_ret (s_ret (c_ret1 (v := (.bool false)) rfl rfl rfl ?_))
 exfalso
 have hx9 := hX _ (by omega) h21
 omega
 refine qdg rfl rfl rfl rfl rfl rfl (r_ldp1 (u := pv) ag46 rfl ((Pins.of_le hX17.pins hlek14) _ _ _ (hbp 0 _ rfl))) (qdg rfl rfl rfl rfl rfl rfl (r_move (v := (.int .i64 ((N.getD s []).getD j 0))) rfl) (qdg rfl rfl rfl rfl rfl rfl (run_idx Try.underlying46 sz3 (v := pv) rfl rfl hw18.read (by omega) (by omega)) (qdg rfl rfl rfl rfl rfl rfl (run_load_int (r := ps2.getD ((N.getD s []).getD j 0).toNat 0) rfl ag3 (z := ((N.getD s []).getD j 0)) rfl hw18.read (Gadd.pins hX17.pins pv) (by omega) (by omega)) (qdg rfl rfl rfl rfl rfl rfl (r_eql rfl rfl) (qdg rfl rfl rfl rfl rfl rfl (r_move (v := (.bool (decide ((ps2.getD ((N.getD s []).getD j 0).toNat 0 : Int) = 0)))) rfl) (qbd (p := (ps2.getD ((N.getD s []).getD j 0).toNat 0 : Int) = 0) (t := 32) rfl (fun h22 => ?_) (fun h22 => ?_)))))))
 refine qdg rfl rfl rfl rfl rfl rfl (r_ldp1 (u := (.func (.func 40) #[] #[(.pointer (some ⟨bp, 0, none⟩)), (.pointer (some ⟨bn, 0, none⟩)), (.pointer (some ⟨bv, 0, none⟩)), (.pointer (some ⟨bt, 0, none⟩))])) ag43 rfl ((Pins.of_le hX17.pins hlek14) _ _ _ (hbv 0 _ rfl))) (qdg rfl rfl rfl rfl rfl rfl (r_move (v := (.int .i64 ((N.getD s []).getD j 0))) rfl) (q1g rfl rfl rfl rfl rfl rfl (o_callc (cs := [(.pointer (some ⟨bp, 0, none⟩)), (.pointer (some ⟨bn, 0, none⟩)), (.pointer (some ⟨bv, 0, none⟩)), (.pointer (some ⟨bt, 0, none⟩))]) (vs := [(.int .i64 ((N.getD s []).getD j 0))]) Try.func40 nm40 rfl rfl rfl ?_)))
 refine Calls.mono (ih (s := ((N.getD s []).getD j 0).toNat) (z := ((N.getD s []).getD j 0)) (by omega) hX17.pins (hu.mono hlek14) (PinB.mono hbp hlek14) (PinB.mono hbn hlek14) (PinB.mono hbv hlek14) (PinB.mono hbt hlek14) hw18 hw19 hap hok (by omega) (by omega) hNl (by omega) hV hT (hX.next (by omega)) (by omega)) ?_
 rintro _ w26 ⟨psn23, tsn24, G25, rfl, ho27, ho28, hv29, hv30, hv31, hv32, hx33⟩
 refine ⟨_, rfl, ?_⟩
 have hX34 := hX17.trans hx33 (fun k hk => Or.inr hk)
 refine qdg rfl rfl rfl rfl rfl rfl (r_not rfl) (qdg rfl rfl rfl rfl rfl rfl (r_pickT (v := (.bool false)) rfl rfl) (qd rfl rfl rfl (r_pickF (v := (.bool false)) rfl rfl) (qe (s_then ?_))))
 refine c_ifF rfl rfl (wp_skip (s_then ?_))
 have htk := hv30 ((N.getD s []).getD j 0).toNat (by omega)
 have hq35 := Gadd.pins hX34.pins tv
 have hr36 := ho28.read
 refine c_draw (S := fun wz => Pins G25 wz ∧ Pins (Gadd G25 w26 tv) wz) (last := 13) (by kernel_rfl) rfl ?_
 have hl37 : Below w26.heap.size w26 w26.drew := (Below.refl _ _).drew
 have hp38 := hX34.pins.below hl37
 have hX39 := hX34.step hp38 hl37
 have ho40 := ho27.below hl37
 have ho41 := ho28.below hl37
 have hq42 := hq35.below hl37
 refine dr_take (i := 0) rfl rfl rfl (want_none rfl _) (by kernel_rfl) (fun _ hS => r_ldp1 (u := tv) ag46 rfl ((Pins.of_le hS.1 (Pin.le_trans hlek14 hx33.le)) _ _ _ (hbt 0 _ rfl))) ⟨hX39.pins, hq42⟩ (dr_take (i := 1) rfl rfl rfl (want_none rfl _) (by kernel_rfl) (fun _ _ => r_move (v := (.int .i64 (s : Int))) rfl) ⟨hX39.pins, hq42⟩ (dr_take (i := 2) rfl rfl rfl (want_none rfl _) (by kernel_rfl) (fun _ hS => r_ldp1 (u := tv) ag46 rfl ((Pins.of_le hS.1 (Pin.le_trans hlek14 hx33.le)) _ _ _ (hbt 0 _ rfl))) ⟨hX39.pins, hq42⟩ (dr_take (i := 3) rfl rfl rfl (want_none rfl _) (by kernel_rfl) (fun _ _ => r_move (v := (.int .i64 (s : Int))) rfl) ⟨hX39.pins, hq42⟩ (dr_take (i := 4) rfl rfl rfl (want_none rfl _) (by kernel_rfl) (fun _ _ => run_idx Try.underlying46 sz3 (v := tv) rfl rfl hr36 (by omega) (by omega)) ⟨hX39.pins, hq42⟩ (dr_take (i := 5) rfl rfl rfl (want_none rfl _) (by kernel_rfl) (fun _ hS => run_load_int (r := tsn24.getD s 0) rfl ag3 (z := (s : Int)) rfl hr36 hS.2 (by omega) (by omega)) ⟨hX39.pins, hq42⟩ (dr_take (i := 6) rfl rfl rfl (want_none rfl _) (by kernel_rfl) (fun _ hS => r_ldp1 (u := tv) ag46 rfl ((Pins.of_le hS.1 (Pin.le_trans hlek14 hx33.le)) _ _ _ (hbt 0 _ rfl))) ⟨hX39.pins, hq42⟩ (dr_take (i := 7) rfl rfl rfl (want_none rfl _) (by kernel_rfl) (fun _ _ => r_move (v := (.int .i64 ((N.getD s []).getD j 0))) rfl) ⟨hX39.pins, hq42⟩ (dr_take (i := 8) rfl rfl rfl (want_none rfl _) (by kernel_rfl) (fun _ _ => run_idx Try.underlying46 sz3 (v := tv) rfl rfl hr36 (by omega) (by omega)) ⟨hX39.pins, hq42⟩ (dr_take (i := 9) rfl rfl rfl (want_none rfl _) (by kernel_rfl) (fun _ hS => run_load_int (r := tsn24.getD ((N.getD s []).getD j 0).toNat 0) rfl ag3 (z := ((N.getD s []).getD j 0)) rfl hr36 hS.2 (by omega) (by omega)) ⟨hX39.pins, hq42⟩ (dr_take (i := 10) rfl rfl rfl (want_none rfl _) (by kernel_rfl) (fun _ _ => r_add rfl rfl (by omega)) ⟨hX39.pins, hq42⟩ (dr_take (i := 11) rfl rfl rfl (want_none rfl _) (by kernel_rfl) (fun _ _ => r_max rfl rfl) ⟨hX39.pins, hq42⟩ (dr_take (i := 12) rfl rfl rfl (want_none rfl _) (by kernel_rfl) (fun _ _ => run_idx Try.underlying46 sz3 (v := tv) rfl rfl hr36 (by omega) (by omega)) ⟨hX39.pins, hq42⟩ (dr_one (i := 13) (by kernel_rfl) (drOp0 (i := 13) rfl rfl rfl (want_none rfl _) (o_set (E := eInt) (v := tv) (u := (.int .i64 (max (tsn24.getD s 0) ((tsn24.getD ((N.getD s []).getD j 0).toNat 0) + 1)))) (z := (s : Int)) (max (tsn24.getD s 0) ((tsn24.getD ((N.getD s []).getD j 0).toNat 0) + 1)) sz3 rfl rfl rfl rfl hX39.pins ho41 (by omega) (by omega) (fun w43 ho44 hp45 hg46 hz47 => ?_))))))))))))))))
 have hX48 := hX39.write hp45 hg46 (hlotv)
 have ho49 := ho40.keptA hg46 hap
 have ho50 : Own eInt 3 G25 w43 0 tv ((tsn24).set s (max (tsn24.getD s 0) ((tsn24.getD ((N.getD s []).getD j 0).toNat 0) + 1))) := ho44
 have hm51 : ((tsn24).set s (max (tsn24.getD s 0) ((tsn24.getD ((N.getD s []).getD j 0).toNat 0) + 1))).length = tsn24.length := List.length_set ..
 refine ⟨fun h => absurd rfl h, ?_⟩
 refine dr_end (by kernel_rfl) (s_blkN (s_then (c_reg ?_)))
 refine qd rfl rfl rfl (r_add rfl rfl (by omega)) (qd rfl rfl rfl (r_move (v := (.int .i64 ((j : Int) + 1))) rfl) (qe (s_lopN (⟨_, ?_, _, rfl, _, j + 1, psn23, (tsn24).set s (max (tsn24.getD s 0) ((tsn24.getD ((N.getD s []).getD j 0).toNat 0) + 1)), G25, (packS (x := 17) (packS (x := 16) (packS (x := 15) (packS (x := 4) (packS (x := 3) (packS (x := 1) (pack1 (x := 0) rfl) rfl) rfl) rfl) rfl) rfl) rfl), rfl, hX48, (Pin.le_trans hlek14 hx33.le), (by omega), hv29, (hX.le hv31), (hL.trans hv31), (TuV.set hv30 (by omega) (by omega) (by omega)), (hv31.1.trans hp2), (by rw [List.length_set]; omega), ho49, ho50⟩))))
 omega
 refine qs rfl rfl rfl rfl rfl rfl (qs rfl rfl rfl rfl rfl rfl (qs rfl rfl rfl rfl rfl rfl (qs rfl rfl rfl rfl rfl rfl (qdg rfl rfl rfl rfl rfl rfl (r_pickF (v := (.bool false)) rfl rfl) (qd rfl rfl rfl (r_pickF (v := (.bool false)) rfl rfl) (qe (s_then ?_)))))))
 refine c_ifF rfl rfl (wp_skip (s_then ?_))
 have htk := hT ((N.getD s []).getD j 0).toNat (by omega)
 have hq52 := Gadd.pins hX17.pins tv
 have hr53 := hw19.read
 refine c_draw (S := fun wz => Pins GL1 wz ∧ Pins (Gadd GL1 w15 tv) wz) (last := 13) (by kernel_rfl) rfl ?_
 have hl54 : Below w15.heap.size w15 w15.drew := (Below.refl _ _).drew
 have hp55 := hX17.pins.below hl54
 have hX56 := hX17.step hp55 hl54
 have ho57 := hw18.below hl54
 have ho58 := hw19.below hl54
 have hq59 := hq52.below hl54
 refine dr_take (i := 0) rfl rfl rfl (want_none rfl _) (by kernel_rfl) (fun _ hS => r_ldp1 (u := tv) ag46 rfl ((Pins.of_le hS.1 hlek14) _ _ _ (hbt 0 _ rfl))) ⟨hX56.pins, hq59⟩ (dr_take (i := 1) rfl rfl rfl (want_none rfl _) (by kernel_rfl) (fun _ _ => r_move (v := (.int .i64 (s : Int))) rfl) ⟨hX56.pins, hq59⟩ (dr_take (i := 2) rfl rfl rfl (want_none rfl _) (by kernel_rfl) (fun _ hS => r_ldp1 (u := tv) ag46 rfl ((Pins.of_le hS.1 hlek14) _ _ _ (hbt 0 _ rfl))) ⟨hX56.pins, hq59⟩ (dr_take (i := 3) rfl rfl rfl (want_none rfl _) (by kernel_rfl) (fun _ _ => r_move (v := (.int .i64 (s : Int))) rfl) ⟨hX56.pins, hq59⟩ (dr_take (i := 4) rfl rfl rfl (want_none rfl _) (by kernel_rfl) (fun _ _ => run_idx Try.underlying46 sz3 (v := tv) rfl rfl hr53 (by omega) (by omega)) ⟨hX56.pins, hq59⟩ (dr_take (i := 5) rfl rfl rfl (want_none rfl _) (by kernel_rfl) (fun _ hS => run_load_int (r := ts2.getD s 0) rfl ag3 (z := (s : Int)) rfl hr53 hS.2 (by omega) (by omega)) ⟨hX56.pins, hq59⟩ (dr_take (i := 6) rfl rfl rfl (want_none rfl _) (by kernel_rfl) (fun _ hS => r_ldp1 (u := tv) ag46 rfl ((Pins.of_le hS.1 hlek14) _ _ _ (hbt 0 _ rfl))) ⟨hX56.pins, hq59⟩ (dr_take (i := 7) rfl rfl rfl (want_none rfl _) (by kernel_rfl) (fun _ _ => r_move (v := (.int .i64 ((N.getD s []).getD j 0))) rfl) ⟨hX56.pins, hq59⟩ (dr_take (i := 8) rfl rfl rfl (want_none rfl _) (by kernel_rfl) (fun _ _ => run_idx Try.underlying46 sz3 (v := tv) rfl rfl hr53 (by omega) (by omega)) ⟨hX56.pins, hq59⟩ (dr_take (i := 9) rfl rfl rfl (want_none rfl _) (by kernel_rfl) (fun _ hS => run_load_int (r := ts2.getD ((N.getD s []).getD j 0).toNat 0) rfl ag3 (z := ((N.getD s []).getD j 0)) rfl hr53 hS.2 (by omega) (by omega)) ⟨hX56.pins, hq59⟩ (dr_take (i := 10) rfl rfl rfl (want_none rfl _) (by kernel_rfl) (fun _ _ => r_add rfl rfl (by omega)) ⟨hX56.pins, hq59⟩ (dr_take (i := 11) rfl rfl rfl (want_none rfl _) (by kernel_rfl) (fun _ _ => r_max rfl rfl) ⟨hX56.pins, hq59⟩ (dr_take (i := 12) rfl rfl rfl (want_none rfl _) (by kernel_rfl) (fun _ _ => run_idx Try.underlying46 sz3 (v := tv) rfl rfl hr53 (by omega) (by omega)) ⟨hX56.pins, hq59⟩ (dr_one (i := 13) (by kernel_rfl) (drOp0 (i := 13) rfl rfl rfl (want_none rfl _) (o_set (E := eInt) (v := tv) (u := (.int .i64 (max (ts2.getD s 0) ((ts2.getD ((N.getD s []).getD j 0).toNat 0) + 1)))) (z := (s : Int)) (max (ts2.getD s 0) ((ts2.getD ((N.getD s []).getD j 0).toNat 0) + 1)) sz3 rfl rfl rfl rfl hX56.pins ho58 (by omega) (by omega) (fun w60 ho61 hp62 hg63 hz64 => ?_))))))))))))))))
 have hX65 := hX56.write hp62 hg63 (hlotv)
 have ho66 := ho57.keptA hg63 hap
 have ho67 : Own eInt 3 GL1 w60 0 tv ((ts2).set s (max (ts2.getD s 0) ((ts2.getD ((N.getD s []).getD j 0).toNat 0) + 1))) := ho61
 have hm68 : ((ts2).set s (max (ts2.getD s 0) ((ts2.getD ((N.getD s []).getD j 0).toNat 0) + 1))).length = ts2.length := List.length_set ..
 refine ⟨fun h => absurd rfl h, ?_⟩
 refine dr_end (by kernel_rfl) (s_blkN (s_then (c_reg ?_)))
 refine qd rfl rfl rfl (r_add rfl rfl (by omega)) (qd rfl rfl rfl (r_move (v := (.int .i64 ((j : Int) + 1))) rfl) (qe (s_lopN (⟨_, ?_, _, rfl, _, j + 1, ps2, (ts2).set s (max (ts2.getD s 0) ((ts2.getD ((N.getD s []).getD j 0).toNat 0) + 1)), GL1, (packS (x := 17) (packS (x := 16) (packS (x := 15) (packS (x := 4) (packS (x := 3) (packS (x := 1) (pack1 (x := 0) rfl) rfl) rfl) rfl) rfl) rfl) rfl), rfl, hX65, hlek14, (by omega), hV, hX, hL, (hT.set (by omega) (by omega) (by omega)), hp2, (by rw [List.length_set]; exact ht2), ho66, ho67⟩))))
 omega
 refine wp_exit (s_thenE (s_lopE (s_blkE (s_then (s_seq (c_reg ?_))))))
 refine qd rfl rfl rfl (r_ldp1 (u := pv) ag46 rfl ((Pins.of_le hX17.pins hlek14) _ _ _ (hbp 0 _ rfl))) (qd rfl rfl rfl (r_move (v := (.int .i64 (s : Int))) rfl) (qd rfl rfl rfl (run_idx Try.underlying46 sz3 (v := pv) rfl rfl hw18.read (by omega) (by omega)) (q0 rfl rfl rfl (o_set (E := eInt) (v := pv) (u := (.int .i64 2)) (z := (s : Int)) (2) sz3 rfl rfl rfl rfl hX17.pins hw18 (by omega) (by omega) (fun w69 ho70 hp71 hg72 hz73 => ?_)))))
 have hX74 := hX17.write hp71 hg72 (hlopv)
 have ho75 := hw19.keptA hg72 hap.symm
 have ho76 : Own eInt 3 GL1 w69 0 pv ((ps2).set s 2) := ho70
 have hm77 : ((ps2).set s 2).length = ps2.length := List.length_set ..
 refine qe (s_then (s_seq (c_reg ?_)))
 refine qd rfl rfl rfl (r_assign (v := (.bool true)) rfl) (qe (s_then ?_))
 exact wp_ret (s_ret (c_ret1 (v := (.bool true)) rfl rfl rfl (⟨_, _, _, rfl, ho76, ho75, hV.set (Or.inr rfl) (by omega), hT, PhLe.done (by omega) hL, (by omega), hX74⟩)))

theorem visit_all {N : List (List Int)} {bp bn bv bt : Nat} {pv nv tv : Value} : ∀ m, VisC m N bp bn bv bt pv nv tv
 | 0 => fun _ _ _ _ _ _ _ _ _ _ _ _ _ _ _ _ _ _ h => absurd h (Nat.not_lt_zero _)
 | m + 1 => fun e a1 a2 a3 a4 a5 a6 a7 a8 a9 a10 a11 a12 a13 a14 a15 a16 a17 h => by
  subst e
  exact visit_step a1 a2 a3 a4 a5 a6 a7 a8 a9 a10 a11 a12 a13 a14 a15 a16 a17 (visit_all m) h

end AR5
end Go.Proofs.Ytdongckiecjbaaa

set_option maxRecDepth 20000
set_option maxHeartbeats 2000000
namespace Go.Proofs.Ytdongckiecjbaaa
namespace AR6
open Go.RowKit Go.GL Go.Proofs
open B1 AR4 AR5







theorem mk3 : (Try.prog.info? 3).map (fun i => (i.size, i.bytes, i.zero)) = some (1, 8, some (.int .i64 0)) := by kernel_rfl













theorem turnsFrom_spec {w : World} {G : Pin} {u v : Value} {L R : List (List Int)} (hP : Pins G w) (hu : RSl (eSl eInt) G u L) (hv : RSl (eSl eInt) G v R) (hg : LgP L R) (hL : AcL L) (hR : AcL R) :
  Calls Try.prog 22 [(.agg [u, v].toArray)].toArray w fun e w' => ∃ (x : Value) (G' : Pin), e = .returned (.tuple #[x, .bool true]) ∧ Ext noS G w G' w' := by
 refine s_enter (n := 89) Try.func22 Try.ntmps22 rfl rfl ?_
 have hX0 : Ext noS G w G w := Ext.refl hP
 have hmu := hu.max
 have hmv := hv.max
 have hglo := hg.lo
 have hghi := hg.hi
 have hgle := hg.len
 have hlr := hg.len.symm
 have hln := hg.lens
 have hbL := fun (i : Nat) (hi : i < L.length) (k : Int) (hk : k ∈ L.getD i []) => (show 0 ≤ k ∧ k < 500000 by have := hL i hi k hk; omega)
 have hbR := fun (i : Nat) (hi : i < L.length) (k : Int) (hk : k ∈ R.getD i []) => (show 0 ≤ k ∧ k < 500000 by have := hR i (by omega) k hk; omega)
 refine s_seq (c_reg ?_)
 refine q1 rfl rfl rfl (o_box [u, v] (v := (.agg [u, v].toArray)) rfl rfl hX0.pins (fun b1 w2 hk3 hb4 hp5 hl6 => ?_))
 have hX7 := hX0.step hp5 hl6
 have hlo8 : w.heap.size ≤ b1 := by have := hX0.size; omega
 obtain ⟨G9, hle10, hX11, hbp12, hf13⟩ := hb4.shut hX7 hlo8
 refine qd rfl rfl rfl (r_assign (v := (.slice none 0 0)) rfl) (qd rfl rfl rfl (r_assign (v := (.bool false)) rfl) (qe (s_then (s_seq (c_reg ?_)))))
 refine q1 rfl rfl rfl (o_build0 (E := (eSl eInt)) (e := 46) Try.underlying28 sz46 hX11.pins (fun u14 w15 ho16 hp17 hl18 hk19 => ?_))
 have hX20 := hX11.step hp17 hl18
 have ho21 : Own (eSl eInt) 46 G9 w15 w.heap.size u14 ([]) := ho16.weaken hX11.size
 refine q1 rfl rfl rfl (o_alloc [(.slice none 0 0)] zr28 rfl hX20.pins (fun b22 w23 hk24 hb25 hp26 hl27 => ?_))
 have hX28 := hX20.step hp26 hl27
 have ho29 := ho21.below hl27
 have ha30 : Apart (some b22) u14.ownBlock := new_ne_own (congrArg some hk24) ho21.lt
 have hlo31 : w.heap.size ≤ b22 := by have := hX20.size; omega
 refine q0 rfl rfl rfl (o_stp (cs' := [u14]) (us := [u14]) (v := u14) sz28 rfl rfl (cells1 ho29.one) (ones1 ho29.one) hX28.pins hb25 (Nat.le_of_ble_eq_true rfl) rfl (fun w32 hb33 hp34 hg35 hz36 => ?_))
 have hX37 := hX28.write hp34 hg35 ((lo_box hlo31))
 have ho38 := ho29.keptA hg35 ha30.symm
 refine qe (s_then (s_seq (s_seq (c_reg ?_))))
 refine qd rfl rfl rfl (r_fldp (k := 0) rfl Try.underlying30 rfl nz28 rfl) (qd rfl rfl rfl (r_ldp1 (u := u) ag28 rfl (hX37.pins _ _ _ (hbp12 0 _ rfl))) (qd rfl rfl rfl (run_len Try.underlying28 (v := u) rfl hu) (qd rfl rfl rfl (r_move (v := (.int .i64 0)) rfl) (qe (s_then ?_)))))
 refine s_blk (s_loop (fun (k : Nat) (en : Nat → Value) (W : World) => ∃ (env1 : Nat → Value) (j : Nat) (nv : Value) (N2 : List (List Int)) (GL1 : Pin), en = (upd (upd (upd (upd (upd (upd env1 1 (.pointer (some ⟨b1, 0, none⟩))) 2 (.slice none 0 0)) 3 (.bool false)) 4 (.pointer (some ⟨b22, 0, none⟩))) 19 (.int .i64 (L.length : Int))) 20 (.int .i64 (j : Int))) ∧ k = L.length - j ∧ Ext noS G w GL1 W ∧ Pin.le G9 GL1 ∧ (j ≤ L.length) ∧ (N2 = arN (L.take j) (R.take j)) ∧ (N2.length = 2 * j) ∧ (Own (eSl eInt) 46 GL1 W w.heap.size nv (N2)) ∧ (Bx GL1 W b22 [nv]) ∧ (Apart nv.ownBlock (some b22))) _ ⟨_, 0, u14, [], G9, (packS (x := 20) (packS (x := 19) (packS (x := 4) (packS (x := 3) (packS (x := 2) (pack1 (x := 1) rfl) rfl) rfl) rfl) rfl) rfl), rfl, hX37, Pin.le_refl _, Nat.zero_le _, rfl, rfl, ho38, hb33, ha30.symm⟩ ?_)
 rintro k39 _ w40 ⟨env1, j, nv, N2, GL1, rfl, hk41, hX42, hlek39, hj, hN2, hNl, hw43, hw44, ha45⟩
 refine s_seq (c_reg ?_)
 refine qd rfl rfl rfl (r_lss rfl rfl) (qe (s_then (s_seq ?_)))
 refine c_ifd (p := ((j : Int) : Int) < (L.length : Int)) rfl rfl (fun h46 => ?_) (fun h46 => ?_)
 have hlj := hln j (by omega)
 refine wp_skip (s_then (s_seq ?_))
 refine s_blk (s_seq (c_reg ?_))
 refine qd rfl rfl rfl (r_move (v := (.int .i64 (j : Int))) rfl) (qd rfl rfl rfl (r_assign (v := (.int .i64 (j : Int))) rfl) (qe (s_then (s_seq (c_reg ?_)))))
 refine q1 rfl rfl rfl (o_build0 (E := eInt) (e := 3) Try.underlying46 sz3 hX42.pins (fun u47 w48 ho49 hp50 hl51 hk52 => ?_))
 have hX53 := hX42.step hp50 hl51
 have ho54 := hw43.below hl51
 have hb55 := hw44.below hl51
 have ha56 : Apart u47.ownBlock nv.ownBlock := new_ne_own hk52 hw43.lt
 have ha57 : Apart u47.ownBlock (some b22) := new_ne_box hk52 hw44.lt
 have ho58 : Own eInt 3 GL1 w48 w.heap.size u47 ([]) := ho49.weaken hX42.size
 refine q1 rfl rfl rfl (o_build0 (E := eInt) (e := 3) Try.underlying46 sz3 hX53.pins (fun u59 w60 ho61 hp62 hl63 hk64 => ?_))
 have hX65 := hX53.step hp62 hl63
 have ho66 := ho54.below hl63
 have ho67 := ho58.below hl63
 have hb68 := hb55.below hl63
 have ha69 : Apart u59.ownBlock nv.ownBlock := new_ne_own hk64 ho54.lt
 have ha70 : Apart u59.ownBlock u47.ownBlock := new_ne_own hk64 ho58.lt
 have ha71 : Apart u59.ownBlock (some b22) := new_ne_box hk64 hb55.lt
 have ho72 : Own eInt 3 GL1 w60 w.heap.size u59 ([]) := ho61.weaken hX53.size
 refine qd rfl rfl rfl (r_assign (v := u47) rfl) (qd rfl rfl rfl (r_assign (v := u59) rfl) (qe (s_then (s_seq (s_seq (c_reg ?_))))))
 refine qd rfl rfl rfl (r_fldp (k := 0) rfl Try.underlying30 rfl nz28 rfl) (qd rfl rfl rfl (r_ldp1 (u := u) ag28 rfl ((Pins.of_le hX65.pins hlek39) _ _ _ (hbp12 0 _ rfl))) (qd rfl rfl rfl (r_move (v := (.int .i64 (j : Int))) rfl) (qd rfl rfl rfl (run_idx Try.underlying28 sz46 (v := u) rfl rfl hu (by omega) (by omega)) ?_)))
 obtain ⟨u73, hr74, hl75⟩ := nm_sl (hu.at (z := (j : Int)) (by omega) (by omega)) (j := j) rfl
 have hm76 := hr74.max
 refine qd rfl rfl rfl (hl75 ag46 rfl (Pins.of_le hX65.pins (Pin.le_trans hle10 hlek39))) (qd rfl rfl rfl (run_len Try.underlying46 (v := u73) rfl hr74) (qd rfl rfl rfl (r_move (v := (.int .i64 0)) rfl) (qe (s_then ?_))))
 refine s_blk (s_loop (fun (k : Nat) (en : Nat → Value) (W : World) => ∃ (env1 : Nat → Value) (qa : Nat) (ov1 : Value) (os1 : List Int) (Gqa : Pin), en = (upd (upd (upd (upd (upd (upd (upd (upd (upd (upd (upd (upd env1 1 (.pointer (some ⟨b1, 0, none⟩))) 2 (.slice none 0 0)) 3 (.bool false)) 4 (.pointer (some ⟨b22, 0, none⟩))) 5 (.int .i64 (j : Int))) 6 ov1) 7 u59) 19 (.int .i64 (L.length : Int))) 20 (.int .i64 (j : Int))) 29 u73) 30 (.int .i64 ((L.getD j []).length : Int))) 31 (.int .i64 (qa : Int))) ∧ k = (L.getD j []).length - qa ∧ Ext noS G w Gqa W ∧ Pin.le GL1 Gqa ∧ (qa ≤ (L.getD j []).length) ∧ (os1 = arS 1 ((L.getD j []).take qa)) ∧ (Own eInt 3 Gqa W w.heap.size ov1 (os1)) ∧ (Own (eSl eInt) 46 Gqa W w.heap.size nv (N2)) ∧ (Own eInt 3 Gqa W w.heap.size u59 ([])) ∧ (Bx Gqa W b22 [nv]) ∧ (Apart ov1.ownBlock nv.ownBlock) ∧ (Apart ov1.ownBlock u59.ownBlock) ∧ (Apart ov1.ownBlock (some b22))) _ ⟨_, 0, u47, [], GL1, (packS (x := 31) (packS (x := 30) (packS (x := 29) (packS (x := 20) (packS (x := 19) (packS (x := 7) (packS (x := 6) (packS (x := 5) (packS (x := 4) (packS (x := 3) (packS (x := 2) (pack1 (x := 1) rfl) rfl) rfl) rfl) rfl) rfl) rfl) rfl) rfl) rfl) rfl) rfl), rfl, hX65, Pin.le_refl _, Nat.zero_le _, rfl, ho67, ho66, ho72, hb68, ha56, ha70.symm, ha57⟩ ?_)
 rintro k77 _ w78 ⟨env1, qa, ov1, os1, Gqa, rfl, hk79, hX80, hlek77, hqa, hos1, hw81, hw82, hw83, hw84, ha85, ha86, ha87⟩
 have hos1l : os1.length ≤ (L.getD j []).length := by rw [hos1]; unfold arS; rw [List.length_map, List.length_take]; omega
 refine s_seq (c_reg ?_)
 refine qd rfl rfl rfl (r_lss rfl rfl) (qe (s_then (s_seq ?_)))
 refine c_ifd (p := ((qa : Int) : Int) < ((L.getD j []).length : Int)) rfl rfl (fun h88 => ?_) (fun h88 => ?_)
 have hkqa := hbL j (by omega) _ (getD_mem (d := (0 : Int)) (show qa < (L.getD j []).length by omega))
 refine wp_skip (s_then (s_seq ?_))
 refine s_blk (s_seq (c_reg ?_))
 refine qd rfl rfl rfl (run_idx Try.underlying46 sz3 (v := u73) rfl rfl hr74 (by omega) (by omega)) (qd rfl rfl rfl (run_load_int (r := (L.getD j []).getD qa 0) rfl ag3 (z := (qa : Int)) rfl hr74 (Pins.of_le hX80.pins (Pin.le_trans (Pin.le_trans hle10 hlek39) hlek77)) (by omega) (by omega)) (qd rfl rfl rfl (r_assign (v := (.int .i64 ((L.getD j []).getD qa 0))) rfl) (qe (s_then (c_reg ?_)))))
 refine qd rfl rfl rfl (r_move (v := ov1) rfl) (qd rfl rfl rfl (r_move (v := (.int .i64 ((L.getD j []).getD qa 0))) rfl) (qd rfl rfl rfl (r_mul rfl rfl (by omega)) (qd rfl rfl rfl (r_add rfl rfl (by omega)) (q1 rfl rfl rfl (o_buildF (E := eInt) (e := 3) [(.int .i64 ((2 * ((L.getD j []).getD qa 0)) + 1))] [(2 * ((L.getD j []).getD qa 0)) + 1] Try.underlying46 sz3 zr3 (by exact reps1 (by rfl)) (ones1 (by rfl)) rfl rfl rfl rfl (by decide) hX80.pins (fun u89 w90 ho91 hp92 hl93 hk94 => ?_))))))
 have hX95 := hX80.step hp92 hl93
 have ho96 := hw81.below hl93
 have ho97 := hw82.below hl93
 have ho98 := hw83.below hl93
 have hb99 := hw84.below hl93
 have ho104 : Own eInt 3 Gqa w90 w.heap.size u89 ([(2 * ((L.getD j []).getD qa 0)) + 1]) := ho91.weaken hX80.size
 refine q1 rfl rfl rfl (o_append (E := eInt) (v := ov1) (u := u89) 8 Try.underlying46 ap3 (by decide) rfl rfl hX95.pins ho96 ho104.src (by first | omega | (rw [List.nil_append]; omega) | (rw [List.length_nil]; omega) | (rw [List.length_append]; omega) | (simp; done) | (simp; omega) | (simp only [List.length_cons, List.length_nil]; omega) | (simp only [List.length_append, List.length_cons, List.length_nil]; omega)) (by first | omega | (rw [List.nil_append]; omega) | (rw [List.length_nil]; omega) | (rw [List.length_append]; omega) | (simp; done) | (simp; omega) | (simp only [List.length_cons, List.length_nil]; omega) | (simp only [List.length_append, List.length_cons, List.length_nil]; omega)) (hX95.size) (fun u105 w106 ho107 hp108 hg109 hw110 => ?_))
 have hX111 := hX95.write hp108 hg109 ((lo_own ho96))
 have ho112 := ho97.keptA hg109 ha85.symm
 have ho113 := ho98.keptA hg109 ha86.symm
 have hb115 := hb99.keptA hg109 ha87.symm
 have ha116 : Apart nv.ownBlock u105.ownBlock := app_ne_own ha85.symm hw110 ho97.lt
 have ha117 : Apart u59.ownBlock u105.ownBlock := app_ne_own ha86.symm hw110 ho98.lt
 have ha119 : Apart (some b22) u105.ownBlock := app_ne_box ha87.symm hw110 hb99.lt
 have hm120 : (os1 ++ ([(2 * ((L.getD j []).getD qa 0)) + 1])).length = os1.length + 1 := List.length_append
 refine qd rfl rfl rfl (r_assign (v := u105) rfl) (qe (s_blkN (s_then (c_reg ?_))))
 refine qd rfl rfl rfl (r_add rfl rfl (by omega)) (qd rfl rfl rfl (r_move (v := (.int .i64 ((qa : Int) + 1))) rfl) (qe (s_lopN (⟨_, ?_, _, rfl, _, qa + 1, u105, os1 ++ ([(2 * ((L.getD j []).getD qa 0)) + 1]), Gqa, (packS (x := 31) (packS (x := 30) (packS (x := 29) (packS (x := 20) (packS (x := 19) (packS (x := 7) (packS (x := 6) (packS (x := 5) (packS (x := 4) (packS (x := 3) (packS (x := 2) (pack1 (x := 1) rfl) rfl) rfl) rfl) rfl) rfl) rfl) rfl) rfl) rfl) rfl) rfl), rfl, hX111, hlek77, (by omega), (by rw [hos1]; exact arS_next (by omega)), ho107, ho112, ho113, hb115, ha116.symm, ha117.symm, ha119.symm⟩))))
 omega
 refine wp_exit (s_thenE (s_lopE (s_blkE (s_then (s_seq (s_seq (c_reg ?_)))))))
 refine qd rfl rfl rfl (r_fldp (k := 1) rfl Try.underlying30 rfl nz28 rfl) (qd rfl rfl rfl (r_ldp1 (u := v) ag28 rfl ((Pins.of_le hX80.pins (Pin.le_trans hlek39 hlek77)) _ _ _ (hbp12 1 _ rfl))) (qd rfl rfl rfl (r_move (v := (.int .i64 (j : Int))) rfl) (qd rfl rfl rfl (run_idx Try.underlying28 sz46 (v := v) rfl rfl hv (by omega) (by omega)) ?_)))
 obtain ⟨u121, hr122, hl123⟩ := nm_sl (hv.at (z := (j : Int)) (by omega) (by omega)) (j := j) rfl
 have hm124 := hr122.max
 refine qd rfl rfl rfl (hl123 ag46 rfl (Pins.of_le hX80.pins (Pin.le_trans (Pin.le_trans hle10 hlek39) hlek77))) (qd rfl rfl rfl (run_len Try.underlying46 (v := u121) rfl hr122) (qd rfl rfl rfl (r_move (v := (.int .i64 0)) rfl) (qe (s_then ?_))))
 refine s_blk (s_loop (fun (k : Nat) (en : Nat → Value) (W : World) => ∃ (env1 : Nat → Value) (qb : Nat) (ov2 : Value) (os2 : List Int) (Gqb : Pin), en = (upd (upd (upd (upd (upd (upd (upd (upd (upd (upd (upd env1 1 (.pointer (some ⟨b1, 0, none⟩))) 2 (.slice none 0 0)) 3 (.bool false)) 4 (.pointer (some ⟨b22, 0, none⟩))) 6 ov1) 7 ov2) 19 (.int .i64 (L.length : Int))) 20 (.int .i64 (j : Int))) 46 u121) 47 (.int .i64 ((R.getD j []).length : Int))) 48 (.int .i64 (qb : Int))) ∧ k = (R.getD j []).length - qb ∧ Ext noS G w Gqb W ∧ Pin.le Gqa Gqb ∧ (qb ≤ (R.getD j []).length) ∧ (os2 = arS 0 ((R.getD j []).take qb)) ∧ (Own eInt 3 Gqb W w.heap.size ov2 (os2)) ∧ (Own eInt 3 Gqb W w.heap.size ov1 (os1)) ∧ (Own (eSl eInt) 46 Gqb W w.heap.size nv (N2)) ∧ (Bx Gqb W b22 [nv]) ∧ (Apart ov2.ownBlock ov1.ownBlock) ∧ (Apart ov2.ownBlock nv.ownBlock) ∧ (Apart ov2.ownBlock (some b22))) _ ⟨_, 0, u59, [], Gqa, (packS (x := 48) (packS (x := 47) (packS (x := 46) (packS (x := 20) (packS (x := 19) (packS (x := 7) (packS (x := 6) (packS (x := 4) (packS (x := 3) (packS (x := 2) (pack1 (x := 1) rfl) rfl) rfl) rfl) rfl) rfl) rfl) rfl) rfl) rfl) rfl), rfl, hX80, Pin.le_refl _, Nat.zero_le _, rfl, hw83, hw81, hw82, hw84, ha86.symm, ha69, ha71⟩ ?_)
 rintro k125 _ w126 ⟨env1, qb, ov2, os2, Gqb, rfl, hk127, hX128, hlek125, hqb, hos2, hw129, hw130, hw131, hw132, ha133, ha134, ha135⟩
 have hos2l : os2.length ≤ (R.getD j []).length := by rw [hos2]; unfold arS; rw [List.length_map, List.length_take]; omega
 refine s_seq (c_reg ?_)
 refine qd rfl rfl rfl (r_lss rfl rfl) (qe (s_then (s_seq ?_)))
 refine c_ifd (p := ((qb : Int) : Int) < ((R.getD j []).length : Int)) rfl rfl (fun h136 => ?_) (fun h136 => ?_)
 have hkqb := hbR j (by omega) _ (getD_mem (d := (0 : Int)) (show qb < (R.getD j []).length by omega))
 refine wp_skip (s_then (s_seq ?_))
 refine s_blk (s_seq (c_reg ?_))
 refine qd rfl rfl rfl (run_idx Try.underlying46 sz3 (v := u121) rfl rfl hr122 (by omega) (by omega)) (qd rfl rfl rfl (run_load_int (r := (R.getD j []).getD qb 0) rfl ag3 (z := (qb : Int)) rfl hr122 (Pins.of_le hX128.pins (Pin.le_trans (Pin.le_trans (Pin.le_trans hle10 hlek39) hlek77) hlek125)) (by omega) (by omega)) (qd rfl rfl rfl (r_assign (v := (.int .i64 ((R.getD j []).getD qb 0))) rfl) (qe (s_then (c_reg ?_)))))
 refine qd rfl rfl rfl (r_move (v := ov2) rfl) (qd rfl rfl rfl (r_move (v := (.int .i64 ((R.getD j []).getD qb 0))) rfl) (qd rfl rfl rfl (r_mul rfl rfl (by omega)) (q1 rfl rfl rfl (o_buildF (E := eInt) (e := 3) [(.int .i64 (2 * ((R.getD j []).getD qb 0)))] [2 * ((R.getD j []).getD qb 0)] Try.underlying46 sz3 zr3 (by exact reps1 (by rfl)) (ones1 (by rfl)) rfl rfl rfl rfl (by decide) hX128.pins (fun u137 w138 ho139 hp140 hl141 hk142 => ?_)))))
 have hX143 := hX128.step hp140 hl141
 have ho144 := hw129.below hl141
 have ho145 := hw130.below hl141
 have ho146 := hw131.below hl141
 have hb147 := hw132.below hl141
 have ho152 : Own eInt 3 Gqb w138 w.heap.size u137 ([2 * ((R.getD j []).getD qb 0)]) := ho139.weaken hX128.size
 refine q1 rfl rfl rfl (o_append (E := eInt) (v := ov2) (u := u137) 8 Try.underlying46 ap3 (by decide) rfl rfl hX143.pins ho144 ho152.src (by first | omega | (rw [List.nil_append]; omega) | (rw [List.length_nil]; omega) | (rw [List.length_append]; omega) | (simp; done) | (simp; omega) | (simp only [List.length_cons, List.length_nil]; omega) | (simp only [List.length_append, List.length_cons, List.length_nil]; omega)) (by first | omega | (rw [List.nil_append]; omega) | (rw [List.length_nil]; omega) | (rw [List.length_append]; omega) | (simp; done) | (simp; omega) | (simp only [List.length_cons, List.length_nil]; omega) | (simp only [List.length_append, List.length_cons, List.length_nil]; omega)) (hX143.size) (fun u153 w154 ho155 hp156 hg157 hw158 => ?_))
 have hX159 := hX143.write hp156 hg157 ((lo_own ho144))
 have ho160 := ho145.keptA hg157 ha133.symm
 have ho161 := ho146.keptA hg157 ha134.symm
 have hb163 := hb147.keptA hg157 ha135.symm
 have ha164 : Apart ov1.ownBlock u153.ownBlock := app_ne_own ha133.symm hw158 ho145.lt
 have ha165 : Apart nv.ownBlock u153.ownBlock := app_ne_own ha134.symm hw158 ho146.lt
 have ha167 : Apart (some b22) u153.ownBlock := app_ne_box ha135.symm hw158 hb147.lt
 have hm168 : (os2 ++ ([2 * ((R.getD j []).getD qb 0)])).length = os2.length + 1 := List.length_append
 refine qd rfl rfl rfl (r_assign (v := u153) rfl) (qe (s_blkN (s_then (c_reg ?_))))
 refine qd rfl rfl rfl (r_add rfl rfl (by omega)) (qd rfl rfl rfl (r_move (v := (.int .i64 ((qb : Int) + 1))) rfl) (qe (s_lopN (⟨_, ?_, _, rfl, _, qb + 1, u153, os2 ++ ([2 * ((R.getD j []).getD qb 0)]), Gqb, (packS (x := 48) (packS (x := 47) (packS (x := 46) (packS (x := 20) (packS (x := 19) (packS (x := 7) (packS (x := 6) (packS (x := 4) (packS (x := 3) (packS (x := 2) (pack1 (x := 1) rfl) rfl) rfl) rfl) rfl) rfl) rfl) rfl) rfl) rfl) rfl), rfl, hX159, hlek125, (by omega), (by rw [hos2]; exact arS_next0 (by omega)), ho155, ho160, ho161, hb163, ha164.symm, ha165.symm, ha167.symm⟩))))
 omega
 refine wp_exit (s_thenE (s_lopE (s_blkE (s_then (c_reg ?_)))))
 refine qd rfl rfl rfl (r_ldp1 (u := nv) ag28 rfl (hw132.cell (o := 0) rfl)) (qd rfl rfl rfl (r_move (v := ov1) rfl) (qd rfl rfl rfl (r_move (v := ov2) rfl) ?_))
 obtain ⟨G169, hle172, hX171, hr170, hf173⟩ := hw130.sealed hX128
 have ho174 := hw129.moreO hle172 hf173 ha133
 have ho175 := hw131.moreO hle172 hf173 ha85.symm
 have hb176 := hw132.moreO hf173 ha87.symm
 obtain ⟨G177, hle180, hX179, hr178, hf181⟩ := ho174.sealed hX171
 have ho182 := ho175.moreO hle180 hf181 ha134.symm
 have hb183 := hb176.moreO hf181 ha135.symm
 refine q1 rfl rfl rfl (o_buildF (E := (eSl eInt)) (e := 46) [ov1, ov2] [os1, os2] Try.underlying28 sz46 zr46 (by exact reps2 (⟨_, rfl, (hr170.mono hle180)⟩) (⟨_, rfl, hr178⟩)) (ones2 hr170.one hr178.one) rfl rfl rfl rfl (by decide) hX179.pins (fun u184 w185 ho186 hp187 hl188 hk189 => ?_))
 have hX190 := hX179.step hp187 hl188
 have ho191 := ho182.below hl188
 have hb192 := hb183.below hl188
 have ho195 : Own (eSl eInt) 46 G177 w185 w.heap.size u184 ([os1, os2]) := ho186.weaken hX179.size
 refine q1 rfl rfl rfl (o_append (E := (eSl eInt)) (v := nv) (u := u184) 24 Try.underlying28 ap46 (by decide) rfl rfl hX190.pins ho191 ho195.src (by first | omega | (rw [List.nil_append]; omega) | (rw [List.length_nil]; omega) | (rw [List.length_append]; omega) | (simp; done) | (simp; omega) | (simp only [List.length_cons, List.length_nil]; omega) | (simp only [List.length_append, List.length_cons, List.length_nil]; omega)) (by first | omega | (rw [List.nil_append]; omega) | (rw [List.length_nil]; omega) | (rw [List.length_append]; omega) | (simp; done) | (simp; omega) | (simp only [List.length_cons, List.length_nil]; omega) | (simp only [List.length_append, List.length_cons, List.length_nil]; omega)) (hX190.size) (fun u196 w197 ho198 hp199 hg200 hw201 => ?_))
 have hX202 := hX190.write hp199 hg200 ((lo_own ho191))
 have hb204 := hb192.keptA hg200 ha45.symm
 have ha206 : Apart (some b22) u196.ownBlock := app_ne_box ha45.symm hw201 hb192.lt
 have hm207 : (N2 ++ ([os1, os2])).length = N2.length + 2 := List.length_append
 refine q0 rfl rfl rfl (o_stp (cs' := [u196]) (us := [u196]) (v := u196) sz28 rfl rfl (cells1 ho198.one) (ones1 ho198.one) hX202.pins hb204 (Nat.le_of_ble_eq_true rfl) rfl (fun w208 hb209 hp210 hg211 hz212 => ?_))
 have hX213 := hX202.write hp210 hg211 ((lo_box hlo31))
 have ho214 := ho198.keptA hg211 ha206.symm
 refine qe (s_blkN (s_then (c_reg ?_)))
 refine qd rfl rfl rfl (r_add rfl rfl (by omega)) (qd rfl rfl rfl (r_move (v := (.int .i64 ((j : Int) + 1))) rfl) (qe (s_lopN (⟨_, ?_, _, rfl, _, j + 1, u196, N2 ++ ([os1, os2]), G177, (packS (x := 20) (packS (x := 19) (packS (x := 4) (packS (x := 3) (packS (x := 2) (pack1 (x := 1) rfl) rfl) rfl) rfl) rfl) rfl), rfl, hX213, (Pin.le_trans (Pin.le_trans (Pin.le_trans (Pin.le_trans hlek39 hlek77) hlek125) hle172) hle180), (by omega), (by rw [hos1, hos2, take_all (by omega), take_all (by omega), hN2]; exact arN_next hlr (by omega)), (by simp only [List.length_append, List.length_cons, List.length_nil]; omega), ho214, hb209, ha206.symm⟩))))
 omega
 refine wp_exit (s_thenE (s_lopE (s_blkE (s_then (s_seq (c_reg ?_))))))
 have hjn : j = L.length := by omega
 rw [hjn, List.take_length, hlr, List.take_length] at hN2
 obtain ⟨G215, hle218, hX217, hr216, hf219⟩ := hw43.sealed hX42
 have hb220 := hw44.moreO hf219 ha45.symm
 have hok := arN_ok hlr hL hR
 have hal := arN_length hlr
 have hr221 : RSl (eSl eInt) G215 nv (arN L R) := by rw [← hN2]; exact hr216
 obtain ⟨G222, hle223, hX224, hbp225, hf226⟩ := hb220.shut hX217 hlo31
 refine qd rfl rfl rfl (r_ldp1 (u := nv) ag28 rfl (hX224.pins _ _ _ (hbp225 0 _ rfl))) (qd rfl rfl rfl (run_len Try.underlying28 (v := nv) rfl hr221) (q1 rfl rfl rfl (o_make (E := eInt) 0 8 (.int .i64 0) Try.underlying46 mk3 (fun _ => rfl) rfl rfl hX224.pins (by omega) (by omega) (by omega) (fun u227 w228 ho229 hp230 hl231 hk232 => ?_))))
 have hX233 := hX224.step hp230 hl231
 have ho234 : Own eInt 3 G222 w228 w.heap.size u227 (List.replicate ((arN L R).length) 0) := ho229.weaken hX224.size
 have hm235 : (List.replicate ((arN L R).length) 0).length = ((arN L R).length) := List.length_replicate ..
 refine q1 rfl rfl rfl (o_alloc [(.slice none 0 0)] zr46 rfl hX233.pins (fun b236 w237 hk238 hb239 hp240 hl241 => ?_))
 have hX242 := hX233.step hp240 hl241
 have ho243 := ho234.below hl241
 have ha244 : Apart (some b236) u227.ownBlock := new_ne_own (congrArg some hk238) ho234.lt
 have hlo245 : w.heap.size ≤ b236 := by have := hX233.size; omega
 refine q0 rfl rfl rfl (o_stp (cs' := [u227]) (us := [u227]) (v := u227) sz46 rfl rfl (cells1 ho243.one) (ones1 ho243.one) hX242.pins hb239 (Nat.le_of_ble_eq_true rfl) rfl (fun w246 hb247 hp248 hg249 hz250 => ?_))
 have hX251 := hX242.write hp248 hg249 ((lo_box hlo245))
 have ho252 := ho243.keptA hg249 ha244.symm
 obtain ⟨G253, hle254, hX255, hbp256, hf257⟩ := hb247.shut hX251 hlo245
 have ho258 := ho252.moreA hle254 hf257 ha244.symm
 refine qe (s_then (s_seq (c_reg ?_)))
 refine qd rfl rfl rfl (r_ldp1 (u := nv) ag28 rfl ((Pins.of_le hX255.pins hle254) _ _ _ (hbp225 0 _ rfl))) (qd rfl rfl rfl (run_len Try.underlying28 (v := nv) rfl hr221) (q1 rfl rfl rfl (o_make (E := eInt) 0 8 (.int .i64 0) Try.underlying46 mk3 (fun _ => rfl) rfl rfl hX255.pins (by omega) (by omega) (by omega) (fun u259 w260 ho261 hp262 hl263 hk264 => ?_))))
 have hX265 := hX255.step hp262 hl263
 have ho266 := ho258.below hl263
 have ha267 : Apart u259.ownBlock u227.ownBlock := new_ne_own hk264 ho258.lt
 have ho268 : Own eInt 3 G253 w260 w.heap.size u259 (List.replicate ((arN L R).length) 0) := ho261.weaken hX255.size
 have hm269 : (List.replicate ((arN L R).length) 0).length = ((arN L R).length) := List.length_replicate ..
 refine q1 rfl rfl rfl (o_alloc [(.slice none 0 0)] zr46 rfl hX265.pins (fun b270 w271 hk272 hb273 hp274 hl275 => ?_))
 have hX276 := hX265.step hp274 hl275
 have ho277 := ho266.below hl275
 have ho278 := ho268.below hl275
 have ha279 : Apart (some b270) u227.ownBlock := new_ne_own (congrArg some hk272) ho266.lt
 have ha280 : Apart (some b270) u259.ownBlock := new_ne_own (congrArg some hk272) ho268.lt
 have hlo281 : w.heap.size ≤ b270 := by have := hX265.size; omega
 refine q0 rfl rfl rfl (o_stp (cs' := [u259]) (us := [u259]) (v := u259) sz46 rfl rfl (cells1 ho278.one) (ones1 ho278.one) hX276.pins hb273 (Nat.le_of_ble_eq_true rfl) rfl (fun w282 hb283 hp284 hg285 hz286 => ?_))
 have hX287 := hX276.write hp284 hg285 ((lo_box hlo281))
 have ho288 := ho277.keptA hg285 ha279.symm
 have ho289 := ho278.keptA hg285 ha280.symm
 obtain ⟨G290, hle291, hX292, hbp293, hf294⟩ := hb283.shut hX287 hlo281
 have ho295 := ho288.moreA hle291 hf294 ha279.symm
 have ho296 := ho289.moreA hle291 hf294 ha280.symm
 refine qe (s_then (s_seq (c_reg ?_)))
 refine q1 rfl rfl rfl (o_alloc [(.nilFunc)] zr43 rfl hX292.pins (fun b297 w298 hk299 hb300 hp301 hl302 => ?_))
 have hX303 := hX292.step hp301 hl302
 have ho304 := ho295.below hl302
 have ho305 := ho296.below hl302
 have ha306 : Apart (some b297) u227.ownBlock := new_ne_own (congrArg some hk299) ho295.lt
 have ha307 : Apart (some b297) u259.ownBlock := new_ne_own (congrArg some hk299) ho296.lt
 have hlo308 : w.heap.size ≤ b297 := by have := hX292.size; omega
 refine qe (s_then (s_seq (c_reg ?_)))
 refine qd rfl rfl rfl (r_makeFunc [(.pointer (some ⟨b270, 0, none⟩)), (.pointer (some ⟨b22, 0, none⟩)), (.pointer (some ⟨b297, 0, none⟩)), (.pointer (some ⟨b236, 0, none⟩))] rfl) (q0 rfl rfl rfl (o_stp (cs' := [(.func (.func 40) #[] #[(.pointer (some ⟨b270, 0, none⟩)), (.pointer (some ⟨b22, 0, none⟩)), (.pointer (some ⟨b297, 0, none⟩)), (.pointer (some ⟨b236, 0, none⟩))])]) (us := [(.func (.func 40) #[] #[(.pointer (some ⟨b270, 0, none⟩)), (.pointer (some ⟨b22, 0, none⟩)), (.pointer (some ⟨b297, 0, none⟩)), (.pointer (some ⟨b236, 0, none⟩))])]) (v := (.func (.func 40) #[] #[(.pointer (some ⟨b270, 0, none⟩)), (.pointer (some ⟨b22, 0, none⟩)), (.pointer (some ⟨b297, 0, none⟩)), (.pointer (some ⟨b236, 0, none⟩))])) sz43 rfl rfl rfl (ones1 (by rfl)) hX303.pins hb300 (Nat.le_of_ble_eq_true rfl) rfl (fun w309 hb310 hp311 hg312 hz313 => ?_)))
 have hX314 := hX303.write hp311 hg312 ((lo_box hlo308))
 have ho315 := ho304.keptA hg312 ha306.symm
 have ho316 := ho305.keptA hg312 ha307.symm
 obtain ⟨G317, hle318, hX319, hbp320, hf321⟩ := hb310.shut hX314 hlo308
 have ho322 := ho315.moreA hle318 hf321 ha306.symm
 have ho323 := ho316.moreA hle318 hf321 ha307.symm
 refine qe (s_then (s_seq (s_seq (c_reg ?_))))
 refine qd rfl rfl rfl (r_ldp1 (u := nv) ag28 rfl ((Pins.of_le hX319.pins (Pin.le_trans (Pin.le_trans hle254 hle291) hle318)) _ _ _ (hbp225 0 _ rfl))) (qd rfl rfl rfl (run_len Try.underlying28 (v := nv) rfl hr221) (qd rfl rfl rfl (r_move (v := (.int .i64 0)) rfl) (qe (s_then ?_))))
 refine s_blk (s_loop (fun (k : Nat) (en : Nat → Value) (W : World) => ∃ (env1 : Nat → Value) (x : Nat) (ps2 : List Int) (ts2 : List Int) (GL4 : Pin), en = (upd (upd (upd (upd (upd env1 12 (.pointer (some ⟨b236, 0, none⟩))) 13 (.pointer (some ⟨b270, 0, none⟩))) 14 (.pointer (some ⟨b297, 0, none⟩))) 72 (.int .i64 ((arN L R).length : Int))) 73 (.int .i64 (x : Int))) ∧ k = (arN L R).length - x ∧ Ext noS G w GL4 W ∧ Pin.le G317 GL4 ∧ (x ≤ (arN L R).length) ∧ (PhV ps2) ∧ (TuV ts2) ∧ (PhLe (List.replicate (arN L R).length 0) ps2) ∧ (ps2.length = (arN L R).length) ∧ (ts2.length = (arN L R).length) ∧ (Own eInt 3 GL4 W w.heap.size u259 (ps2)) ∧ (Own eInt 3 GL4 W w.heap.size u227 (ts2))) _ ⟨_, 0, List.replicate ((arN L R).length) 0, List.replicate ((arN L R).length) 0, G317, (packS (x := 73) (packS (x := 72) (packS (x := 14) (packS (x := 13) (pack1 (x := 12) rfl) rfl) rfl) rfl) rfl), rfl, hX319, Pin.le_refl _, Nat.zero_le _, (PhV.zero _), (TuV.zero _), (PhLe.refl _), (by simp), (by simp), ho323, ho322⟩ ?_)
 rintro k324 _ w325 ⟨env1, x, ps2, ts2, GL4, rfl, hk326, hX327, hlek324, hx9, hV, hT, hPL, hp2, ht2, hw328, hw329⟩
 refine s_seq (c_reg ?_)
 refine qd rfl rfl rfl (r_lss rfl rfl) (qe (s_then (s_seq ?_)))
 refine c_ifd (p := ((x : Int) : Int) < ((arN L R).length : Int)) rfl rfl (fun h330 => ?_) (fun h330 => ?_)
 refine wp_skip (s_then (s_seq ?_))
 refine s_blk (s_seq (c_reg ?_))
 refine qd rfl rfl rfl (r_move (v := (.int .i64 (x : Int))) rfl) (qd rfl rfl rfl (r_assign (v := (.int .i64 (x : Int))) rfl) (qe (s_then (s_seq (c_reg ?_)))))
 refine qd rfl rfl rfl (r_ldp1 (u := u259) ag46 rfl ((Pins.of_le hX327.pins (Pin.le_trans hle318 hlek324)) _ _ _ (hbp293 0 _ rfl))) (qd rfl rfl rfl (r_move (v := (.int .i64 (x : Int))) rfl) (qd rfl rfl rfl (run_idx Try.underlying46 sz3 (v := u259) rfl rfl hw328.read (by omega) (by omega)) (qd rfl rfl rfl (run_load_int (r := ps2.getD x 0) rfl ag3 (z := (x : Int)) rfl hw328.read (Gadd.pins hX327.pins u259) (by omega) (by omega)) (qd rfl rfl rfl (r_eql rfl rfl) (qd rfl rfl rfl (r_move (v := (.bool (decide ((ps2.getD x 0 : Int) = 0)))) rfl) (qbd (p := (ps2.getD x 0 : Int) = 0) (t := 81) rfl (fun h331 => ?_) (fun h331 => ?_)))))))
 refine qdg rfl rfl rfl rfl rfl rfl (r_ldp1 (u := (.func (.func 40) #[] #[(.pointer (some ⟨b270, 0, none⟩)), (.pointer (some ⟨b22, 0, none⟩)), (.pointer (some ⟨b297, 0, none⟩)), (.pointer (some ⟨b236, 0, none⟩))])) ag43 rfl ((Pins.of_le hX327.pins hlek324) _ _ _ (hbp320 0 _ rfl))) (qdg rfl rfl rfl rfl rfl rfl (r_move (v := (.int .i64 (x : Int))) rfl) (q1g rfl rfl rfl rfl rfl rfl (o_callc (cs := [(.pointer (some ⟨b270, 0, none⟩)), (.pointer (some ⟨b22, 0, none⟩)), (.pointer (some ⟨b297, 0, none⟩)), (.pointer (some ⟨b236, 0, none⟩))]) (vs := [(.int .i64 (x : Int))]) Try.func40 nm40 rfl rfl rfl ?_)))
 refine Calls.mono (visit_all (x / 2 + 1) (s := x) (z := (x : Int)) (by omega) hX327.pins (hr221.mono (Pin.le_trans (Pin.le_trans (Pin.le_trans (Pin.le_trans hle223 hle254) hle291) hle318) hlek324)) (PinB.mono hbp293 (Pin.le_trans hle318 hlek324)) (PinB.mono hbp225 (Pin.le_trans (Pin.le_trans (Pin.le_trans hle254 hle291) hle318) hlek324)) (PinB.mono hbp320 hlek324) (PinB.mono hbp256 (Pin.le_trans (Pin.le_trans hle291 hle318) hlek324)) (hw328.weaken (Nat.zero_le _)) (hw329.weaken (Nat.zero_le _)) ha267 hok (by omega) (by omega) (by omega) (by omega) hV hT (hPL.all _) (by omega)) ?_
 rintro _ w335 ⟨psn332, tsn333, G334, rfl, ho336, ho337, hv338, hv339, hv340, hv341, hx342⟩
 refine ⟨_, rfl, ?_⟩
 have hX343 := hX327.trans hx342 (lo_two hw328 hw329)
 have ho344 := ho336.up (lo := w.heap.size) (fun k hk => (hw328.lt k hk).1)
 have ho345 := ho337.up (lo := w.heap.size) (fun k hk => (hw329.lt k hk).1)
 refine qdg rfl rfl rfl rfl rfl rfl (r_not rfl) (qd rfl rfl rfl (r_pickT (v := (.bool false)) rfl rfl) (qe (s_then ?_)))
 refine c_ifF rfl rfl (wp_skip (s_blkN (s_then (c_reg ?_))))
 refine qd rfl rfl rfl (r_add rfl rfl (by omega)) (qd rfl rfl rfl (r_move (v := (.int .i64 ((x : Int) + 1))) rfl) (qe (s_lopN (⟨_, ?_, _, rfl, _, x + 1, psn332, tsn333, G334, (packS (x := 73) (packS (x := 72) (packS (x := 14) (packS (x := 13) (pack1 (x := 12) rfl) rfl) rfl) rfl) rfl), rfl, hX343, (Pin.le_trans hlek324 hx342.le), (by omega), hv338, hv339, (hPL.trans hv340), (hv340.1.trans hp2), (hv341.trans ht2), ho344, ho345⟩))))
 omega
 refine qs rfl rfl rfl rfl rfl rfl (qs rfl rfl rfl rfl rfl rfl (qs rfl rfl rfl rfl rfl rfl (qs rfl rfl rfl rfl rfl rfl (qd rfl rfl rfl (r_pickF (v := (.bool false)) rfl rfl) (qe (s_then ?_))))))
 refine c_ifF rfl rfl (wp_skip (s_blkN (s_then (c_reg ?_))))
 refine qd rfl rfl rfl (r_add rfl rfl (by omega)) (qd rfl rfl rfl (r_move (v := (.int .i64 ((x : Int) + 1))) rfl) (qe (s_lopN (⟨_, ?_, _, rfl, _, x + 1, ps2, ts2, GL4, (packS (x := 73) (packS (x := 72) (packS (x := 14) (packS (x := 13) (pack1 (x := 12) rfl) rfl) rfl) rfl) rfl), rfl, hX327, hlek324, (by omega), hV, hT, hPL, hp2, ht2, hw328, hw329⟩))))
 omega
 refine wp_exit (s_thenE (s_lopE (s_blkE (s_then (s_seq (c_reg ?_))))))
 refine qd rfl rfl rfl (r_ldp1 (u := u227) ag46 rfl ((Pins.of_le hX327.pins (Pin.le_trans (Pin.le_trans hle291 hle318) hlek324)) _ _ _ (hbp256 0 _ rfl))) (qd rfl rfl rfl (r_assign (v := u227) rfl) (qd rfl rfl rfl (r_assign (v := (.bool true)) rfl) (qe (s_then ?_))))
 exact wp_ret (s_ret (c_ret2 (v := u227) (u := (.bool true)) rfl rfl rfl rfl rfl (⟨_, _, rfl, hX327⟩)))

theorem IsStopper_spec {w : World} {G : Pin} {u v : Value} {L R : List (List Int)} (hP : Pins G w) (hu : RSl (eSl eInt) G u L) (hv : RSl (eSl eInt) G v R) (hg : LgP L R) (hL : AcL L) (hR : AcL R) :
  Calls Try.prog 11 [(.agg [u, v].toArray)].toArray w fun e w' => ∃ G', e = .returned (.bool true) ∧ Ext noS G w G' w' := by
 refine s_enter (n := 14) Try.func11 Try.ntmps11 rfl rfl ?_
 have hX0 : Ext noS G w G w := Ext.refl hP
 have hmu := hu.max
 have hmv := hv.max
 have hglo := hg.lo
 have hghi := hg.hi
 have hgle := hg.len
 refine s_seq (c_reg ?_)
 refine q1 rfl rfl rfl (o_box [u, v] (v := (.agg [u, v].toArray)) rfl rfl hX0.pins (fun b1 w2 hk3 hb4 hp5 hl6 => ?_))
 have hX7 := hX0.step hp5 hl6
 have hlo8 : w.heap.size ≤ b1 := by have := hX0.size; omega
 obtain ⟨G9, hle10, hX11, hbp12, hf13⟩ := hb4.shut hX7 hlo8
 refine qd rfl rfl rfl (r_assign (v := (.bool false)) rfl) (qe (s_then (s_seq (s_seq (c_reg ?_)))))
 refine qd rfl rfl rfl (r_ldpA (cs := [u, v]) ag30 sz30 rfl (fun j u hj => hX11.pins _ _ _ (hbp12 _ _ (by simpa using hj)))) (q1 rfl rfl rfl (o_call (vs := [(.agg [u, v].toArray)]) Try.func21 nm21 rfl rfl rfl ?_))
 refine Calls.mono (GoodLoop_spec hX11.pins (hu.mono hle10) (hv.mono hle10) hg) ?_
 rintro _ w15 ⟨G14, rfl, hx16⟩
 refine ⟨_, rfl, ?_⟩
 have hX17 := hX11.tr hx16
 refine qd rfl rfl rfl (r_not rfl) (qe (s_then ?_))
 refine c_ifF rfl rfl (wp_skip (s_then (s_seq (c_reg ?_))))
 refine qd rfl rfl rfl (r_ldpA (cs := [u, v]) ag30 sz30 rfl (fun j u hj => (Pins.of_le hX17.pins hx16.le) _ _ _ (hbp12 _ _ (by simpa using hj)))) (q1 rfl rfl rfl (o_call (vs := [(.agg [u, v].toArray)]) Try.func22 nm22 rfl rfl rfl ?_))
 refine Calls.mono (turnsFrom_spec hX17.pins (hu.mono (Pin.le_trans hle10 hx16.le)) (hv.mono (Pin.le_trans hle10 hx16.le)) hg hL hR) ?_
 rintro _ w20 ⟨x18, G19, rfl, hx21⟩
 refine ⟨_, rfl, ?_⟩
 have hX22 := hX17.tr hx21
 refine qd rfl rfl rfl (r_move (v := (.tuple #[x18, (.bool true)])) rfl) (qd rfl rfl rfl (r_extract (v := x18) rfl rfl) (qd rfl rfl rfl (r_extract (v := (.bool true)) rfl rfl) (qd rfl rfl rfl (r_assign (v := x18) rfl) (qd rfl rfl rfl (r_assign (v := (.bool true)) rfl) (qe (s_then (s_seq (c_reg ?_))))))))
 refine qd rfl rfl rfl (r_move (v := (.bool true)) rfl) (qd rfl rfl rfl (r_assign (v := (.bool true)) rfl) (qe (s_then ?_)))
 exact wp_ret (s_ret (c_ret1 (v := (.bool true)) rfl rfl rfl (⟨_, rfl, hX22⟩)))

end AR6
end Go.Proofs.Ytdongckiecjbaaa
