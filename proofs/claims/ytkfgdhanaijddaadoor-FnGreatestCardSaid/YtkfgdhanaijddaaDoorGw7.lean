/- Texts of this claim in one file: DR2, DV1, DV2, GW1, LWG. -/
import Derived.Test.YtkfgdhanaijddaaDoorGw6
import Derived.Test.YtkfgdhanaijddaaDoorChecked
set_option maxRecDepth 20000
set_option maxHeartbeats 2000000
namespace Go.Proofs.YtkfgdhanaijddaaDoor
namespace DR2
open Go.RowKit Go.GL Go.Proofs
open Go.Proofs.YtkfgdhanaijddaaDoor.B1
open Go.Proofs.YtkfgdhanaijddaaDoor.C1
open Go.Proofs.YtkfgdhanaijddaaDoor.D1
open Go.Proofs.YtkfgdhanaijddaaDoor.E1
open Go.Proofs.YtkfgdhanaijddaaDoor.MK1
open Go.Proofs.YtkfgdhanaijddaaDoor.DR1









theorem l3MakeV_spec {w : World} {G : Pin} {base : Nat} {Q : List Nat} {vs us ws : List Value} {u v : Value} (hP : Pins G w) (hF : Fr 60 base G w Q vs) (hq : KQ Q) (hl : Q.length ≤ 60) (hb : base ≤ w.heap.size)
  (hu : RSl eVal G u us) (hv : RSl eVal G v ws) (hmu : ∀ x ∈ us, x ∈ vs) (hmv : ∀ x ∈ ws, x ∈ vs) (hlu : us.length ≤ 100) (hlv : ws.length ≤ 100) :
  Calls Tryd.prog 40 [u, v].toArray w fun e w' => ∃ (x : Value) (g : Nat) (G' : Pin), e = .returned (.agg [x].toArray) ∧ KQ (g :: Q) ∧ Fr 60 base G' w' (g :: Q) (x :: vs) ∧ Ext noS G w G' w' := by
 obtain ⟨gs, g1, g2, g3⟩ := (hF.mem hmu).games
 obtain ⟨hs, h1, h2, h3⟩ := (hF.mem hmv).games
 have ru := vals_read hu (by rw [List.length_map]; exact g1) g3
 have rv := vals_read hv (by rw [List.length_map]; exact h1) h3
 have wu := hq.allW (by omega) g2 (by omega)
 have wv := hq.allW (by omega) h2 (by omega)
 refine (l3Make_own hP ru rv wu wv).mono fun e w' ⟨x, G', e1, hr, hx, Gi, ho, hle⟩ => ?_
 have hk := hq.add (by omega) g2 h2 (by omega) (by omega)
 have hm := hk.is _ List.mem_cons_self
 exact ⟨x, _, G', e1, hk, (hF.ext hx).cons ⟨⟨Gi, ho.weaken hb, hle⟩, hr, hm.1.lo⟩, hx⟩

theorem l3Small_spec {w : World} {G : Pin} (hP : Pins G w) :
  Calls Tryd.prog 61 [].toArray w fun e w' => ∃ (u : Value) (vs : List Value) (Q : List Nat) (G' : Pin), e = .returned u ∧ Own eVal 26 G' w' w.heap.size u vs ∧ Fr 60 w.heap.size G' w' Q vs ∧ KQ Q ∧ vs.length = 9 ∧ Q.length = 9 ∧ Ext noS G w G' w' := by
 refine s_enter (n := 59) Tryd.func61 Tryd.ntmps61 rfl rfl ?_
 have hX0 : Ext noS G w G w := Ext.refl hP
 have hfr0 : Fr 60 w.heap.size G w [] [] := Fr.nil
 refine s_seq (c_reg ?_)
 refine qd rfl rfl rfl (r_assign (v := (.slice none 0 0)) rfl) ?_
 refine qe (s_then (s_seq (c_reg ?_)))
 refine q1 rfl rfl rfl (o_call (vs := [(.slice none 0 0), (.slice none 0 0)]) Tryd.func40 nm40 rfl rfl rfl ?_)
 refine Calls.mono (l3MakeV_spec hX0.pins hfr0 KQ.nil (by first | omega | (simp; done) | (simp; omega)) hX0.size (nil_reads _ _) (nil_reads _ _) (by simp) (by simp) (by first | omega | simp) (by first | omega | simp)) ?_
 rintro _ w4 ⟨x1, g2, G3, rfl, hkq5, hfr6, hx7⟩
 refine ⟨_, rfl, ?_⟩
 have hX8 := hX0.tr hx7
 have hone10 := hfr6.one List.mem_cons_self
 refine q1 rfl rfl rfl (o_alloc [(.slice none 0 0)] zr26 rfl hX8.pins (fun b11 w12 hk13 hb14 hp15 hl16 => ?_))
 have hX17 := hX8.step hp15 hl16
 have hfr18 := hfr6.below hl16
 have hlo19 : w.heap.size ≤ b11 := by have := hX8.size; omega
 refine q0 rfl rfl rfl (o_stp (cs' := [x1]) (us := [x1]) (v := (.agg [x1].toArray)) sz26 rfl rfl rfl (ones1 hone10) hX17.pins hb14 (Nat.le_of_ble_eq_true rfl) rfl (fun w20 hb21 hp22 hg23 hz24 => ?_))
 have hX25 := hX17.write hp22 hg23 ((lo_box hlo19))
 have hfr26 := hfr18.kept hg23 (fun k hk o u => by cases hk; exact hb14.free o u)
 obtain ⟨G27, hle28, hX29, hbp30, hf31⟩ := hb21.shut hX25 hlo19
 have hfr32 := hfr26.le hle28
 refine qe (s_then (s_seq (c_reg ?_)))
 refine qd rfl rfl rfl (r_ldpA (cs := [x1]) ag26 sz26 rfl (fun j u hj => hX29.pins _ _ _ (hbp30 _ _ (by simpa using hj)))) ?_
 refine q1 rfl rfl rfl (o_build1 (E := eVal) (e := 26) [x1] x1 Tryd.underlying38 sz26 zr26 ⟨rfl, hone10⟩ rfl (by decide) hX29.pins (fun u33 w34 ho35 hp36 hl37 hk38 => ?_))
 have hX39 := hX29.step hp36 hl37
 have hfr40 := hfr32.below hl37
 have ho41 : Own eVal 26 G27 w34 w.heap.size u33 ([x1]) := ho35.weaken hX29.size
 obtain ⟨G42, hle45, hX44, hr43, hf46⟩ := ho41.sealed hX39
 have hfr47 := hfr40.le hle45
 refine q1 rfl rfl rfl (o_call (vs := [u33, (.slice none 0 0)]) Tryd.func40 nm40 rfl rfl rfl ?_)
 refine Calls.mono (l3MakeV_spec hX44.pins hfr47 hkq5 (by first | omega | (simp; done) | (simp; omega)) hX44.size hr43 (nil_reads _ _) (by simp) (by simp) (by first | omega | simp) (by first | omega | simp)) ?_
 rintro _ w51 ⟨x48, g49, G50, rfl, hkq52, hfr53, hx54⟩
 refine ⟨_, rfl, ?_⟩
 have hX55 := hX44.tr hx54
 have hone57 := hfr53.one List.mem_cons_self
 refine q1 rfl rfl rfl (o_alloc [(.slice none 0 0)] zr26 rfl hX55.pins (fun b58 w59 hk60 hb61 hp62 hl63 => ?_))
 have hX64 := hX55.step hp62 hl63
 have hfr65 := hfr53.below hl63
 have hlo66 : w.heap.size ≤ b58 := by have := hX55.size; omega
 refine q0 rfl rfl rfl (o_stp (cs' := [x48]) (us := [x48]) (v := (.agg [x48].toArray)) sz26 rfl rfl rfl (ones1 hone57) hX64.pins hb61 (Nat.le_of_ble_eq_true rfl) rfl (fun w67 hb68 hp69 hg70 hz71 => ?_))
 have hX72 := hX64.write hp69 hg70 ((lo_box hlo66))
 have hfr73 := hfr65.kept hg70 (fun k hk o u => by cases hk; exact hb61.free o u)
 obtain ⟨G74, hle75, hX76, hbp77, hf78⟩ := hb68.shut hX72 hlo66
 have hfr79 := hfr73.le hle75
 refine qe (s_then (s_seq (c_reg ?_)))
 refine qd rfl rfl rfl (r_ldpA (cs := [x1]) ag26 sz26 rfl (fun j u hj => (Pins.of_le hX76.pins (Pin.le_trans (Pin.le_trans hle45 hx54.le) hle75)) _ _ _ (hbp30 _ _ (by simpa using hj)))) ?_
 refine q1 rfl rfl rfl (o_build1 (E := eVal) (e := 26) [x1] x1 Tryd.underlying38 sz26 zr26 ⟨rfl, hone10⟩ rfl (by decide) hX76.pins (fun u80 w81 ho82 hp83 hl84 hk85 => ?_))
 have hX86 := hX76.step hp83 hl84
 have hfr87 := hfr79.below hl84
 have ho88 : Own eVal 26 G74 w81 w.heap.size u80 ([x1]) := ho82.weaken hX76.size
 obtain ⟨G89, hle92, hX91, hr90, hf93⟩ := ho88.sealed hX86
 have hfr94 := hfr87.le hle92
 refine q1 rfl rfl rfl (o_call (vs := [(.slice none 0 0), u80]) Tryd.func40 nm40 rfl rfl rfl ?_)
 refine Calls.mono (l3MakeV_spec hX91.pins hfr94 hkq52 (by first | omega | (simp; done) | (simp; omega)) hX91.size (nil_reads _ _) hr90 (by simp) (by simp) (by first | omega | simp) (by first | omega | simp)) ?_
 rintro _ w98 ⟨x95, g96, G97, rfl, hkq99, hfr100, hx101⟩
 refine ⟨_, rfl, ?_⟩
 have hX102 := hX91.tr hx101
 have hone104 := hfr100.one List.mem_cons_self
 refine q1 rfl rfl rfl (o_alloc [(.slice none 0 0)] zr26 rfl hX102.pins (fun b105 w106 hk107 hb108 hp109 hl110 => ?_))
 have hX111 := hX102.step hp109 hl110
 have hfr112 := hfr100.below hl110
 have hlo113 : w.heap.size ≤ b105 := by have := hX102.size; omega
 refine q0 rfl rfl rfl (o_stp (cs' := [x95]) (us := [x95]) (v := (.agg [x95].toArray)) sz26 rfl rfl rfl (ones1 hone104) hX111.pins hb108 (Nat.le_of_ble_eq_true rfl) rfl (fun w114 hb115 hp116 hg117 hz118 => ?_))
 have hX119 := hX111.write hp116 hg117 ((lo_box hlo113))
 have hfr120 := hfr112.kept hg117 (fun k hk o u => by cases hk; exact hb108.free o u)
 obtain ⟨G121, hle122, hX123, hbp124, hf125⟩ := hb115.shut hX119 hlo113
 have hfr126 := hfr120.le hle122
 refine qe (s_then (s_seq (c_reg ?_)))
 refine qd rfl rfl rfl (r_ldpA (cs := [x1]) ag26 sz26 rfl (fun j u hj => (Pins.of_le hX123.pins (Pin.le_trans (Pin.le_trans (Pin.le_trans (Pin.le_trans (Pin.le_trans hle45 hx54.le) hle75) hle92) hx101.le) hle122)) _ _ _ (hbp30 _ _ (by simpa using hj)))) ?_
 refine q1 rfl rfl rfl (o_build1 (E := eVal) (e := 26) [x1] x1 Tryd.underlying38 sz26 zr26 ⟨rfl, hone10⟩ rfl (by decide) hX123.pins (fun u127 w128 ho129 hp130 hl131 hk132 => ?_))
 have hX133 := hX123.step hp130 hl131
 have hfr134 := hfr126.below hl131
 have ho135 : Own eVal 26 G121 w128 w.heap.size u127 ([x1]) := ho129.weaken hX123.size
 refine qd rfl rfl rfl (r_ldpA (cs := [x1]) ag26 sz26 rfl (fun j u hj => (Pins.of_le hX133.pins (Pin.le_trans (Pin.le_trans (Pin.le_trans (Pin.le_trans (Pin.le_trans hle45 hx54.le) hle75) hle92) hx101.le) hle122)) _ _ _ (hbp30 _ _ (by simpa using hj)))) ?_
 refine q1 rfl rfl rfl (o_build1 (E := eVal) (e := 26) [x1] x1 Tryd.underlying38 sz26 zr26 ⟨rfl, hone10⟩ rfl (by decide) hX133.pins (fun u136 w137 ho138 hp139 hl140 hk141 => ?_))
 have hX142 := hX133.step hp139 hl140
 have ho143 := ho135.below hl140
 have hfr144 := hfr134.below hl140
 have ha145 : Apart u136.ownBlock u127.ownBlock := new_ne_own hk141 ho135.lt
 have ho146 : Own eVal 26 G121 w137 w.heap.size u136 ([x1]) := ho138.weaken hX133.size
 obtain ⟨G147, hle150, hX149, hr148, hf151⟩ := ho143.sealed hX142
 have ho152 := ho146.moreO hle150 hf151 ha145
 have hfr153 := hfr144.le hle150
 obtain ⟨G154, hle157, hX156, hr155, hf158⟩ := ho152.sealed hX149
 have hfr159 := hfr153.le hle157
 refine q1 rfl rfl rfl (o_call (vs := [u127, u136]) Tryd.func40 nm40 rfl rfl rfl ?_)
 refine Calls.mono (l3MakeV_spec hX156.pins hfr159 hkq99 (by first | omega | (simp; done) | (simp; omega)) hX156.size (hr148.mono hle157) hr155 (by simp) (by simp) (by first | omega | simp) (by first | omega | simp)) ?_
 rintro _ w163 ⟨x160, g161, G162, rfl, hkq164, hfr165, hx166⟩
 refine ⟨_, rfl, ?_⟩
 have hX167 := hX156.tr hx166
 have hone169 := hfr165.one List.mem_cons_self
 refine q1 rfl rfl rfl (o_alloc [(.slice none 0 0)] zr26 rfl hX167.pins (fun b170 w171 hk172 hb173 hp174 hl175 => ?_))
 have hX176 := hX167.step hp174 hl175
 have hfr177 := hfr165.below hl175
 have hlo178 : w.heap.size ≤ b170 := by have := hX167.size; omega
 refine q0 rfl rfl rfl (o_stp (cs' := [x160]) (us := [x160]) (v := (.agg [x160].toArray)) sz26 rfl rfl rfl (ones1 hone169) hX176.pins hb173 (Nat.le_of_ble_eq_true rfl) rfl (fun w179 hb180 hp181 hg182 hz183 => ?_))
 have hX184 := hX176.write hp181 hg182 ((lo_box hlo178))
 have hfr185 := hfr177.kept hg182 (fun k hk o u => by cases hk; exact hb173.free o u)
 obtain ⟨G186, hle187, hX188, hbp189, hf190⟩ := hb180.shut hX184 hlo178
 have hfr191 := hfr185.le hle187
 refine qe (s_then (s_seq (c_reg ?_)))
 refine qd rfl rfl rfl (r_ldpA (cs := [x1]) ag26 sz26 rfl (fun j u hj => (Pins.of_le hX188.pins (Pin.le_trans (Pin.le_trans (Pin.le_trans (Pin.le_trans (Pin.le_trans (Pin.le_trans (Pin.le_trans (Pin.le_trans (Pin.le_trans hle45 hx54.le) hle75) hle92) hx101.le) hle122) hle150) hle157) hx166.le) hle187)) _ _ _ (hbp30 _ _ (by simpa using hj)))) ?_
 refine q1 rfl rfl rfl (o_build1 (E := eVal) (e := 26) [x1] x1 Tryd.underlying38 sz26 zr26 ⟨rfl, hone10⟩ rfl (by decide) hX188.pins (fun u192 w193 ho194 hp195 hl196 hk197 => ?_))
 have hX198 := hX188.step hp195 hl196
 have hfr199 := hfr191.below hl196
 have ho200 : Own eVal 26 G186 w193 w.heap.size u192 ([x1]) := ho194.weaken hX188.size
 refine qd rfl rfl rfl (r_ldpA (cs := [x160]) ag26 sz26 rfl (fun j u hj => hX198.pins _ _ _ (hbp189 _ _ (by simpa using hj)))) ?_
 refine q1 rfl rfl rfl (o_build1 (E := eVal) (e := 26) [x160] x160 Tryd.underlying38 sz26 zr26 ⟨rfl, hone169⟩ rfl (by decide) hX198.pins (fun u201 w202 ho203 hp204 hl205 hk206 => ?_))
 have hX207 := hX198.step hp204 hl205
 have ho208 := ho200.below hl205
 have hfr209 := hfr199.below hl205
 have ha210 : Apart u201.ownBlock u192.ownBlock := new_ne_own hk206 ho200.lt
 have ho211 : Own eVal 26 G186 w202 w.heap.size u201 ([x160]) := ho203.weaken hX198.size
 obtain ⟨G212, hle215, hX214, hr213, hf216⟩ := ho208.sealed hX207
 have ho217 := ho211.moreO hle215 hf216 ha210
 have hfr218 := hfr209.le hle215
 obtain ⟨G219, hle222, hX221, hr220, hf223⟩ := ho217.sealed hX214
 have hfr224 := hfr218.le hle222
 refine q1 rfl rfl rfl (o_call (vs := [u192, u201]) Tryd.func40 nm40 rfl rfl rfl ?_)
 refine Calls.mono (l3MakeV_spec hX221.pins hfr224 hkq164 (by first | omega | (simp; done) | (simp; omega)) hX221.size (hr213.mono hle222) hr220 (by simp) (by simp) (by first | omega | simp) (by first | omega | simp)) ?_
 rintro _ w228 ⟨x225, g226, G227, rfl, hkq229, hfr230, hx231⟩
 refine ⟨_, rfl, ?_⟩
 have hX232 := hX221.tr hx231
 have hone234 := hfr230.one List.mem_cons_self
 refine q1 rfl rfl rfl (o_alloc [(.slice none 0 0)] zr26 rfl hX232.pins (fun b235 w236 hk237 hb238 hp239 hl240 => ?_))
 have hX241 := hX232.step hp239 hl240
 have hfr242 := hfr230.below hl240
 have hlo243 : w.heap.size ≤ b235 := by have := hX232.size; omega
 refine q0 rfl rfl rfl (o_stp (cs' := [x225]) (us := [x225]) (v := (.agg [x225].toArray)) sz26 rfl rfl rfl (ones1 hone234) hX241.pins hb238 (Nat.le_of_ble_eq_true rfl) rfl (fun w244 hb245 hp246 hg247 hz248 => ?_))
 have hX249 := hX241.write hp246 hg247 ((lo_box hlo243))
 have hfr250 := hfr242.kept hg247 (fun k hk o u => by cases hk; exact hb238.free o u)
 obtain ⟨G251, hle252, hX253, hbp254, hf255⟩ := hb245.shut hX249 hlo243
 have hfr256 := hfr250.le hle252
 refine qe (s_then (s_seq (c_reg ?_)))
 refine qd rfl rfl rfl (r_ldpA (cs := [x1]) ag26 sz26 rfl (fun j u hj => (Pins.of_le hX253.pins (Pin.le_trans (Pin.le_trans (Pin.le_trans (Pin.le_trans (Pin.le_trans (Pin.le_trans (Pin.le_trans (Pin.le_trans (Pin.le_trans (Pin.le_trans (Pin.le_trans (Pin.le_trans (Pin.le_trans hle45 hx54.le) hle75) hle92) hx101.le) hle122) hle150) hle157) hx166.le) hle187) hle215) hle222) hx231.le) hle252)) _ _ _ (hbp30 _ _ (by simpa using hj)))) ?_
 refine q1 rfl rfl rfl (o_build1 (E := eVal) (e := 26) [x1] x1 Tryd.underlying38 sz26 zr26 ⟨rfl, hone10⟩ rfl (by decide) hX253.pins (fun u257 w258 ho259 hp260 hl261 hk262 => ?_))
 have hX263 := hX253.step hp260 hl261
 have hfr264 := hfr256.below hl261
 have ho265 : Own eVal 26 G251 w258 w.heap.size u257 ([x1]) := ho259.weaken hX253.size
 refine qd rfl rfl rfl (r_ldpA (cs := [x48]) ag26 sz26 rfl (fun j u hj => (Pins.of_le hX263.pins (Pin.le_trans (Pin.le_trans (Pin.le_trans (Pin.le_trans (Pin.le_trans (Pin.le_trans (Pin.le_trans (Pin.le_trans (Pin.le_trans (Pin.le_trans hle92 hx101.le) hle122) hle150) hle157) hx166.le) hle187) hle215) hle222) hx231.le) hle252)) _ _ _ (hbp77 _ _ (by simpa using hj)))) ?_
 refine q1 rfl rfl rfl (o_build1 (E := eVal) (e := 26) [x48] x48 Tryd.underlying38 sz26 zr26 ⟨rfl, hone57⟩ rfl (by decide) hX263.pins (fun u266 w267 ho268 hp269 hl270 hk271 => ?_))
 have hX272 := hX263.step hp269 hl270
 have ho273 := ho265.below hl270
 have hfr274 := hfr264.below hl270
 have ha275 : Apart u266.ownBlock u257.ownBlock := new_ne_own hk271 ho265.lt
 have ho276 : Own eVal 26 G251 w267 w.heap.size u266 ([x48]) := ho268.weaken hX263.size
 obtain ⟨G277, hle280, hX279, hr278, hf281⟩ := ho273.sealed hX272
 have ho282 := ho276.moreO hle280 hf281 ha275
 have hfr283 := hfr274.le hle280
 obtain ⟨G284, hle287, hX286, hr285, hf288⟩ := ho282.sealed hX279
 have hfr289 := hfr283.le hle287
 refine q1 rfl rfl rfl (o_call (vs := [u257, u266]) Tryd.func40 nm40 rfl rfl rfl ?_)
 refine Calls.mono (l3MakeV_spec hX286.pins hfr289 hkq229 (by first | omega | (simp; done) | (simp; omega)) hX286.size (hr278.mono hle287) hr285 (by simp) (by simp) (by first | omega | simp) (by first | omega | simp)) ?_
 rintro _ w293 ⟨x290, g291, G292, rfl, hkq294, hfr295, hx296⟩
 refine ⟨_, rfl, ?_⟩
 have hX297 := hX286.tr hx296
 have hone299 := hfr295.one List.mem_cons_self
 refine q1 rfl rfl rfl (o_alloc [(.slice none 0 0)] zr26 rfl hX297.pins (fun b300 w301 hk302 hb303 hp304 hl305 => ?_))
 have hX306 := hX297.step hp304 hl305
 have hfr307 := hfr295.below hl305
 have hlo308 : w.heap.size ≤ b300 := by have := hX297.size; omega
 refine q0 rfl rfl rfl (o_stp (cs' := [x290]) (us := [x290]) (v := (.agg [x290].toArray)) sz26 rfl rfl rfl (ones1 hone299) hX306.pins hb303 (Nat.le_of_ble_eq_true rfl) rfl (fun w309 hb310 hp311 hg312 hz313 => ?_))
 have hX314 := hX306.write hp311 hg312 ((lo_box hlo308))
 have hfr315 := hfr307.kept hg312 (fun k hk o u => by cases hk; exact hb303.free o u)
 obtain ⟨G316, hle317, hX318, hbp319, hf320⟩ := hb310.shut hX314 hlo308
 have hfr321 := hfr315.le hle317
 refine qe (s_then (s_seq (c_reg ?_)))
 refine qd rfl rfl rfl (r_ldpA (cs := [x48]) ag26 sz26 rfl (fun j u hj => (Pins.of_le hX318.pins (Pin.le_trans (Pin.le_trans (Pin.le_trans (Pin.le_trans (Pin.le_trans (Pin.le_trans (Pin.le_trans (Pin.le_trans (Pin.le_trans (Pin.le_trans (Pin.le_trans (Pin.le_trans (Pin.le_trans (Pin.le_trans hle92 hx101.le) hle122) hle150) hle157) hx166.le) hle187) hle215) hle222) hx231.le) hle252) hle280) hle287) hx296.le) hle317)) _ _ _ (hbp77 _ _ (by simpa using hj)))) ?_
 refine q1 rfl rfl rfl (o_build1 (E := eVal) (e := 26) [x48] x48 Tryd.underlying38 sz26 zr26 ⟨rfl, hone57⟩ rfl (by decide) hX318.pins (fun u322 w323 ho324 hp325 hl326 hk327 => ?_))
 have hX328 := hX318.step hp325 hl326
 have hfr329 := hfr321.below hl326
 have ho330 : Own eVal 26 G316 w323 w.heap.size u322 ([x48]) := ho324.weaken hX318.size
 refine qd rfl rfl rfl (r_ldpA (cs := [x95]) ag26 sz26 rfl (fun j u hj => (Pins.of_le hX328.pins (Pin.le_trans (Pin.le_trans (Pin.le_trans (Pin.le_trans (Pin.le_trans (Pin.le_trans (Pin.le_trans (Pin.le_trans (Pin.le_trans (Pin.le_trans (Pin.le_trans hle150 hle157) hx166.le) hle187) hle215) hle222) hx231.le) hle252) hle280) hle287) hx296.le) hle317)) _ _ _ (hbp124 _ _ (by simpa using hj)))) ?_
 refine q1 rfl rfl rfl (o_build1 (E := eVal) (e := 26) [x95] x95 Tryd.underlying38 sz26 zr26 ⟨rfl, hone104⟩ rfl (by decide) hX328.pins (fun u331 w332 ho333 hp334 hl335 hk336 => ?_))
 have hX337 := hX328.step hp334 hl335
 have ho338 := ho330.below hl335
 have hfr339 := hfr329.below hl335
 have ha340 : Apart u331.ownBlock u322.ownBlock := new_ne_own hk336 ho330.lt
 have ho341 : Own eVal 26 G316 w332 w.heap.size u331 ([x95]) := ho333.weaken hX328.size
 obtain ⟨G342, hle345, hX344, hr343, hf346⟩ := ho338.sealed hX337
 have ho347 := ho341.moreO hle345 hf346 ha340
 have hfr348 := hfr339.le hle345
 obtain ⟨G349, hle352, hX351, hr350, hf353⟩ := ho347.sealed hX344
 have hfr354 := hfr348.le hle352
 refine q1 rfl rfl rfl (o_call (vs := [u322, u331]) Tryd.func40 nm40 rfl rfl rfl ?_)
 refine Calls.mono (l3MakeV_spec hX351.pins hfr354 hkq294 (by first | omega | (simp; done) | (simp; omega)) hX351.size (hr343.mono hle352) hr350 (by simp) (by simp) (by first | omega | simp) (by first | omega | simp)) ?_
 rintro _ w358 ⟨x355, g356, G357, rfl, hkq359, hfr360, hx361⟩
 refine ⟨_, rfl, ?_⟩
 have hX362 := hX351.tr hx361
 have hone364 := hfr360.one List.mem_cons_self
 refine q1 rfl rfl rfl (o_alloc [(.slice none 0 0)] zr26 rfl hX362.pins (fun b365 w366 hk367 hb368 hp369 hl370 => ?_))
 have hX371 := hX362.step hp369 hl370
 have hfr372 := hfr360.below hl370
 have hlo373 : w.heap.size ≤ b365 := by have := hX362.size; omega
 refine q0 rfl rfl rfl (o_stp (cs' := [x355]) (us := [x355]) (v := (.agg [x355].toArray)) sz26 rfl rfl rfl (ones1 hone364) hX371.pins hb368 (Nat.le_of_ble_eq_true rfl) rfl (fun w374 hb375 hp376 hg377 hz378 => ?_))
 have hX379 := hX371.write hp376 hg377 ((lo_box hlo373))
 have hfr380 := hfr372.kept hg377 (fun k hk o u => by cases hk; exact hb368.free o u)
 obtain ⟨G381, hle382, hX383, hbp384, hf385⟩ := hb375.shut hX379 hlo373
 have hfr386 := hfr380.le hle382
 refine qe (s_then (s_seq (c_reg ?_)))
 refine qd rfl rfl rfl (r_ldpA (cs := [x1]) ag26 sz26 rfl (fun j u hj => (Pins.of_le hX383.pins (Pin.le_trans (Pin.le_trans (Pin.le_trans (Pin.le_trans (Pin.le_trans (Pin.le_trans (Pin.le_trans (Pin.le_trans (Pin.le_trans (Pin.le_trans (Pin.le_trans (Pin.le_trans (Pin.le_trans (Pin.le_trans (Pin.le_trans (Pin.le_trans (Pin.le_trans (Pin.le_trans (Pin.le_trans (Pin.le_trans (Pin.le_trans hle45 hx54.le) hle75) hle92) hx101.le) hle122) hle150) hle157) hx166.le) hle187) hle215) hle222) hx231.le) hle252) hle280) hle287) hx296.le) hle317) hle345) hle352) hx361.le) hle382)) _ _ _ (hbp30 _ _ (by simpa using hj)))) ?_
 refine qd rfl rfl rfl (r_ldpA (cs := [x160]) ag26 sz26 rfl (fun j u hj => (Pins.of_le hX383.pins (Pin.le_trans (Pin.le_trans (Pin.le_trans (Pin.le_trans (Pin.le_trans (Pin.le_trans (Pin.le_trans (Pin.le_trans (Pin.le_trans (Pin.le_trans (Pin.le_trans hle215 hle222) hx231.le) hle252) hle280) hle287) hx296.le) hle317) hle345) hle352) hx361.le) hle382)) _ _ _ (hbp189 _ _ (by simpa using hj)))) ?_
 refine q1 rfl rfl rfl (o_buildA (E := eVal) (e := 26) [x1, x160] [x1, x160] Tryd.underlying38 sz26 zr26 (by exact reps2 (⟨rfl, hone10⟩) (⟨rfl, hone169⟩)) (ones2 hone10 hone169) rfl rfl rfl rfl (by decide) hX383.pins (fun u387 w388 ho389 hp390 hl391 hk392 => ?_))
 have hX393 := hX383.step hp390 hl391
 have hfr394 := hfr386.below hl391
 have ho395 : Own eVal 26 G381 w388 w.heap.size u387 ([x1, x160]) := ho389.weaken hX383.size
 refine qd rfl rfl rfl (r_ldpA (cs := [x1]) ag26 sz26 rfl (fun j u hj => (Pins.of_le hX393.pins (Pin.le_trans (Pin.le_trans (Pin.le_trans (Pin.le_trans (Pin.le_trans (Pin.le_trans (Pin.le_trans (Pin.le_trans (Pin.le_trans (Pin.le_trans (Pin.le_trans (Pin.le_trans (Pin.le_trans (Pin.le_trans (Pin.le_trans (Pin.le_trans (Pin.le_trans (Pin.le_trans (Pin.le_trans (Pin.le_trans (Pin.le_trans hle45 hx54.le) hle75) hle92) hx101.le) hle122) hle150) hle157) hx166.le) hle187) hle215) hle222) hx231.le) hle252) hle280) hle287) hx296.le) hle317) hle345) hle352) hx361.le) hle382)) _ _ _ (hbp30 _ _ (by simpa using hj)))) ?_
 refine qd rfl rfl rfl (r_ldpA (cs := [x160]) ag26 sz26 rfl (fun j u hj => (Pins.of_le hX393.pins (Pin.le_trans (Pin.le_trans (Pin.le_trans (Pin.le_trans (Pin.le_trans (Pin.le_trans (Pin.le_trans (Pin.le_trans (Pin.le_trans (Pin.le_trans (Pin.le_trans hle215 hle222) hx231.le) hle252) hle280) hle287) hx296.le) hle317) hle345) hle352) hx361.le) hle382)) _ _ _ (hbp189 _ _ (by simpa using hj)))) ?_
 refine q1 rfl rfl rfl (o_buildA (E := eVal) (e := 26) [x1, x160] [x1, x160] Tryd.underlying38 sz26 zr26 (by exact reps2 (⟨rfl, hone10⟩) (⟨rfl, hone169⟩)) (ones2 hone10 hone169) rfl rfl rfl rfl (by decide) hX393.pins (fun u396 w397 ho398 hp399 hl400 hk401 => ?_))
 have hX402 := hX393.step hp399 hl400
 have ho403 := ho395.below hl400
 have hfr404 := hfr394.below hl400
 have ha405 : Apart u396.ownBlock u387.ownBlock := new_ne_own hk401 ho395.lt
 have ho406 : Own eVal 26 G381 w397 w.heap.size u396 ([x1, x160]) := ho398.weaken hX393.size
 obtain ⟨G407, hle410, hX409, hr408, hf411⟩ := ho403.sealed hX402
 have ho412 := ho406.moreO hle410 hf411 ha405
 have hfr413 := hfr404.le hle410
 obtain ⟨G414, hle417, hX416, hr415, hf418⟩ := ho412.sealed hX409
 have hfr419 := hfr413.le hle417
 refine q1 rfl rfl rfl (o_call (vs := [u387, u396]) Tryd.func40 nm40 rfl rfl rfl ?_)
 refine Calls.mono (l3MakeV_spec hX416.pins hfr419 hkq359 (by first | omega | (simp; done) | (simp; omega)) hX416.size (hr408.mono hle417) hr415 (by simp) (by simp) (by first | omega | simp) (by first | omega | simp)) ?_
 rintro _ w423 ⟨x420, g421, G422, rfl, hkq424, hfr425, hx426⟩
 refine ⟨_, rfl, ?_⟩
 have hX427 := hX416.tr hx426
 have hone429 := hfr425.one List.mem_cons_self
 refine q1 rfl rfl rfl (o_alloc [(.slice none 0 0)] zr26 rfl hX427.pins (fun b430 w431 hk432 hb433 hp434 hl435 => ?_))
 have hX436 := hX427.step hp434 hl435
 have hfr437 := hfr425.below hl435
 have hlo438 : w.heap.size ≤ b430 := by have := hX427.size; omega
 refine q0 rfl rfl rfl (o_stp (cs' := [x420]) (us := [x420]) (v := (.agg [x420].toArray)) sz26 rfl rfl rfl (ones1 hone429) hX436.pins hb433 (Nat.le_of_ble_eq_true rfl) rfl (fun w439 hb440 hp441 hg442 hz443 => ?_))
 have hX444 := hX436.write hp441 hg442 ((lo_box hlo438))
 have hfr445 := hfr437.kept hg442 (fun k hk o u => by cases hk; exact hb433.free o u)
 obtain ⟨G446, hle447, hX448, hbp449, hf450⟩ := hb440.shut hX444 hlo438
 have hfr451 := hfr445.le hle447
 refine qe (s_then (s_seq (c_reg ?_)))
 refine qd rfl rfl rfl (r_ldpA (cs := [x160]) ag26 sz26 rfl (fun j u hj => (Pins.of_le hX448.pins (Pin.le_trans (Pin.le_trans (Pin.le_trans (Pin.le_trans (Pin.le_trans (Pin.le_trans (Pin.le_trans (Pin.le_trans (Pin.le_trans (Pin.le_trans (Pin.le_trans (Pin.le_trans (Pin.le_trans (Pin.le_trans (Pin.le_trans hle215 hle222) hx231.le) hle252) hle280) hle287) hx296.le) hle317) hle345) hle352) hx361.le) hle382) hle410) hle417) hx426.le) hle447)) _ _ _ (hbp189 _ _ (by simpa using hj)))) ?_
 refine q1 rfl rfl rfl (o_build1 (E := eVal) (e := 26) [x160] x160 Tryd.underlying38 sz26 zr26 ⟨rfl, hone169⟩ rfl (by decide) hX448.pins (fun u452 w453 ho454 hp455 hl456 hk457 => ?_))
 have hX458 := hX448.step hp455 hl456
 have hfr459 := hfr451.below hl456
 have ho460 : Own eVal 26 G446 w453 w.heap.size u452 ([x160]) := ho454.weaken hX448.size
 refine qd rfl rfl rfl (r_ldpA (cs := [x1]) ag26 sz26 rfl (fun j u hj => (Pins.of_le hX458.pins (Pin.le_trans (Pin.le_trans (Pin.le_trans (Pin.le_trans (Pin.le_trans (Pin.le_trans (Pin.le_trans (Pin.le_trans (Pin.le_trans (Pin.le_trans (Pin.le_trans (Pin.le_trans (Pin.le_trans (Pin.le_trans (Pin.le_trans (Pin.le_trans (Pin.le_trans (Pin.le_trans (Pin.le_trans (Pin.le_trans (Pin.le_trans (Pin.le_trans (Pin.le_trans (Pin.le_trans (Pin.le_trans hle45 hx54.le) hle75) hle92) hx101.le) hle122) hle150) hle157) hx166.le) hle187) hle215) hle222) hx231.le) hle252) hle280) hle287) hx296.le) hle317) hle345) hle352) hx361.le) hle382) hle410) hle417) hx426.le) hle447)) _ _ _ (hbp30 _ _ (by simpa using hj)))) ?_
 refine q1 rfl rfl rfl (o_build1 (E := eVal) (e := 26) [x1] x1 Tryd.underlying38 sz26 zr26 ⟨rfl, hone10⟩ rfl (by decide) hX458.pins (fun u461 w462 ho463 hp464 hl465 hk466 => ?_))
 have hX467 := hX458.step hp464 hl465
 have ho468 := ho460.below hl465
 have hfr469 := hfr459.below hl465
 have ha470 : Apart u461.ownBlock u452.ownBlock := new_ne_own hk466 ho460.lt
 have ho471 : Own eVal 26 G446 w462 w.heap.size u461 ([x1]) := ho463.weaken hX458.size
 obtain ⟨G472, hle475, hX474, hr473, hf476⟩ := ho468.sealed hX467
 have ho477 := ho471.moreO hle475 hf476 ha470
 have hfr478 := hfr469.le hle475
 obtain ⟨G479, hle482, hX481, hr480, hf483⟩ := ho477.sealed hX474
 have hfr484 := hfr478.le hle482
 refine q1 rfl rfl rfl (o_call (vs := [u452, u461]) Tryd.func40 nm40 rfl rfl rfl ?_)
 refine Calls.mono (l3MakeV_spec hX481.pins hfr484 hkq424 (by first | omega | (simp; done) | (simp; omega)) hX481.size (hr473.mono hle482) hr480 (by simp) (by simp) (by first | omega | simp) (by first | omega | simp)) ?_
 rintro _ w488 ⟨x485, g486, G487, rfl, hkq489, hfr490, hx491⟩
 refine ⟨_, rfl, ?_⟩
 have hX492 := hX481.tr hx491
 have hone494 := hfr490.one List.mem_cons_self
 refine q1 rfl rfl rfl (o_alloc [(.slice none 0 0)] zr26 rfl hX492.pins (fun b495 w496 hk497 hb498 hp499 hl500 => ?_))
 have hX501 := hX492.step hp499 hl500
 have hfr502 := hfr490.below hl500
 have hlo503 : w.heap.size ≤ b495 := by have := hX492.size; omega
 refine q0 rfl rfl rfl (o_stp (cs' := [x485]) (us := [x485]) (v := (.agg [x485].toArray)) sz26 rfl rfl rfl (ones1 hone494) hX501.pins hb498 (Nat.le_of_ble_eq_true rfl) rfl (fun w504 hb505 hp506 hg507 hz508 => ?_))
 have hX509 := hX501.write hp506 hg507 ((lo_box hlo503))
 have hfr510 := hfr502.kept hg507 (fun k hk o u => by cases hk; exact hb498.free o u)
 obtain ⟨G511, hle512, hX513, hbp514, hf515⟩ := hb505.shut hX509 hlo503
 have hfr516 := hfr510.le hle512
 refine qe (s_then (s_seq (c_reg ?_)))
 refine qd rfl rfl rfl (r_ldpA (cs := [x1]) ag26 sz26 rfl (fun j u hj => (Pins.of_le hX513.pins (Pin.le_trans (Pin.le_trans (Pin.le_trans (Pin.le_trans (Pin.le_trans (Pin.le_trans (Pin.le_trans (Pin.le_trans (Pin.le_trans (Pin.le_trans (Pin.le_trans (Pin.le_trans (Pin.le_trans (Pin.le_trans (Pin.le_trans (Pin.le_trans (Pin.le_trans (Pin.le_trans (Pin.le_trans (Pin.le_trans (Pin.le_trans (Pin.le_trans (Pin.le_trans (Pin.le_trans (Pin.le_trans (Pin.le_trans (Pin.le_trans (Pin.le_trans (Pin.le_trans hle45 hx54.le) hle75) hle92) hx101.le) hle122) hle150) hle157) hx166.le) hle187) hle215) hle222) hx231.le) hle252) hle280) hle287) hx296.le) hle317) hle345) hle352) hx361.le) hle382) hle410) hle417) hx426.le) hle447) hle475) hle482) hx491.le) hle512)) _ _ _ (hbp30 _ _ (by simpa using hj)))) ?_
 refine qd rfl rfl rfl (r_ldpA (cs := [x48]) ag26 sz26 rfl (fun j u hj => (Pins.of_le hX513.pins (Pin.le_trans (Pin.le_trans (Pin.le_trans (Pin.le_trans (Pin.le_trans (Pin.le_trans (Pin.le_trans (Pin.le_trans (Pin.le_trans (Pin.le_trans (Pin.le_trans (Pin.le_trans (Pin.le_trans (Pin.le_trans (Pin.le_trans (Pin.le_trans (Pin.le_trans (Pin.le_trans (Pin.le_trans (Pin.le_trans (Pin.le_trans (Pin.le_trans (Pin.le_trans (Pin.le_trans (Pin.le_trans (Pin.le_trans hle92 hx101.le) hle122) hle150) hle157) hx166.le) hle187) hle215) hle222) hx231.le) hle252) hle280) hle287) hx296.le) hle317) hle345) hle352) hx361.le) hle382) hle410) hle417) hx426.le) hle447) hle475) hle482) hx491.le) hle512)) _ _ _ (hbp77 _ _ (by simpa using hj)))) ?_
 refine qd rfl rfl rfl (r_ldpA (cs := [x95]) ag26 sz26 rfl (fun j u hj => (Pins.of_le hX513.pins (Pin.le_trans (Pin.le_trans (Pin.le_trans (Pin.le_trans (Pin.le_trans (Pin.le_trans (Pin.le_trans (Pin.le_trans (Pin.le_trans (Pin.le_trans (Pin.le_trans (Pin.le_trans (Pin.le_trans (Pin.le_trans (Pin.le_trans (Pin.le_trans (Pin.le_trans (Pin.le_trans (Pin.le_trans (Pin.le_trans (Pin.le_trans (Pin.le_trans (Pin.le_trans hle150 hle157) hx166.le) hle187) hle215) hle222) hx231.le) hle252) hle280) hle287) hx296.le) hle317) hle345) hle352) hx361.le) hle382) hle410) hle417) hx426.le) hle447) hle475) hle482) hx491.le) hle512)) _ _ _ (hbp124 _ _ (by simpa using hj)))) ?_
 refine qd rfl rfl rfl (r_ldpA (cs := [x160]) ag26 sz26 rfl (fun j u hj => (Pins.of_le hX513.pins (Pin.le_trans (Pin.le_trans (Pin.le_trans (Pin.le_trans (Pin.le_trans (Pin.le_trans (Pin.le_trans (Pin.le_trans (Pin.le_trans (Pin.le_trans (Pin.le_trans (Pin.le_trans (Pin.le_trans (Pin.le_trans (Pin.le_trans (Pin.le_trans (Pin.le_trans (Pin.le_trans (Pin.le_trans hle215 hle222) hx231.le) hle252) hle280) hle287) hx296.le) hle317) hle345) hle352) hx361.le) hle382) hle410) hle417) hx426.le) hle447) hle475) hle482) hx491.le) hle512)) _ _ _ (hbp189 _ _ (by simpa using hj)))) ?_
 refine qd rfl rfl rfl (r_ldpA (cs := [x225]) ag26 sz26 rfl (fun j u hj => (Pins.of_le hX513.pins (Pin.le_trans (Pin.le_trans (Pin.le_trans (Pin.le_trans (Pin.le_trans (Pin.le_trans (Pin.le_trans (Pin.le_trans (Pin.le_trans (Pin.le_trans (Pin.le_trans (Pin.le_trans (Pin.le_trans (Pin.le_trans (Pin.le_trans hle280 hle287) hx296.le) hle317) hle345) hle352) hx361.le) hle382) hle410) hle417) hx426.le) hle447) hle475) hle482) hx491.le) hle512)) _ _ _ (hbp254 _ _ (by simpa using hj)))) ?_
 refine qd rfl rfl rfl (r_ldpA (cs := [x290]) ag26 sz26 rfl (fun j u hj => (Pins.of_le hX513.pins (Pin.le_trans (Pin.le_trans (Pin.le_trans (Pin.le_trans (Pin.le_trans (Pin.le_trans (Pin.le_trans (Pin.le_trans (Pin.le_trans (Pin.le_trans (Pin.le_trans hle345 hle352) hx361.le) hle382) hle410) hle417) hx426.le) hle447) hle475) hle482) hx491.le) hle512)) _ _ _ (hbp319 _ _ (by simpa using hj)))) ?_
 refine qd rfl rfl rfl (r_ldpA (cs := [x355]) ag26 sz26 rfl (fun j u hj => (Pins.of_le hX513.pins (Pin.le_trans (Pin.le_trans (Pin.le_trans (Pin.le_trans (Pin.le_trans (Pin.le_trans (Pin.le_trans hle410 hle417) hx426.le) hle447) hle475) hle482) hx491.le) hle512)) _ _ _ (hbp384 _ _ (by simpa using hj)))) ?_
 refine qd rfl rfl rfl (r_ldpA (cs := [x420]) ag26 sz26 rfl (fun j u hj => (Pins.of_le hX513.pins (Pin.le_trans (Pin.le_trans (Pin.le_trans hle475 hle482) hx491.le) hle512)) _ _ _ (hbp449 _ _ (by simpa using hj)))) ?_
 refine qd rfl rfl rfl (r_ldpA (cs := [x485]) ag26 sz26 rfl (fun j u hj => hX513.pins _ _ _ (hbp514 _ _ (by simpa using hj)))) ?_
 refine q1 rfl rfl rfl (o_buildA (E := eVal) (e := 26) [x1, x48, x95, x160, x225, x290, x355, x420, x485] [x1, x48, x95, x160, x225, x290, x355, x420, x485] Tryd.underlying38 sz26 zr26 (repsC (⟨rfl, hone10⟩) (repsC (⟨rfl, hone57⟩) (repsC (⟨rfl, hone104⟩) (repsC (⟨rfl, hone169⟩) (repsC (⟨rfl, hone234⟩) (repsC (⟨rfl, hone299⟩) (repsC (⟨rfl, hone364⟩) (repsC (⟨rfl, hone429⟩) (repsC (⟨rfl, hone494⟩) repsN))))))))) (onesC hone10 (onesC hone57 (onesC hone104 (onesC hone169 (onesC hone234 (onesC hone299 (onesC hone364 (onesC hone429 (onesC hone494 onesN))))))))) rfl rfl rfl rfl (by decide) hX513.pins (fun u517 w518 ho519 hp520 hl521 hk522 => ?_))
 have hX523 := hX513.step hp520 hl521
 have hfr524 := hfr516.below hl521
 have ho525 : Own eVal 26 G511 w518 w.heap.size u517 ([x1, x48, x95, x160, x225, x290, x355, x420, x485]) := ho519.weaken hX513.size
 refine qd rfl rfl rfl (r_assign (v := u517) rfl) ?_
 refine qe (s_then ?_)
 refine wp_ret ?_
 refine s_ret ?_
 refine c_ret1 (v := u517) rfl rfl rfl ?_
 exact ⟨_, _, _, _, rfl, ho525, hfr524.mem (by simp), hkq489, rfl, rfl, hX523⟩

theorem some_spec {w : World} {G : Pin} {c : Nat} {cv : Value} {code : List UInt8} {a s : Int} {l : Value} {vs : List Value} {m : Int} (hP : Pins G w) (hB : Bx G w c [cv, .int .i64 a, .int .u64 s]) (hc : RSl eByte G cv code) (ha : 0 ≤ a ∧ a + 6 ≤ 1000000) (hs : 0 ≤ s ∧ s < 18446744073709551616) (hl : RSl eVal G l vs) (hn : 1 ≤ vs.length ∧ vs.length ≤ 1000) (hm2 : 0 ≤ m ∧ m ≤ 2) :
  Calls Tryd.prog 62 [(.pointer (some ⟨c, 0, none⟩)), l, (.int .i64 m)].toArray w fun e w' => ∃ (u : Value) (ys : List Value) (a' s' : Int) (G' : Pin), e = .returned u ∧ Own eVal 26 G' w' w.heap.size u ys ∧ (∀ y ∈ ys, y ∈ vs) ∧ ys.length ≤ 2 ∧ Bx G' w' c [cv, .int .i64 a', .int .u64 s'] ∧ (a ≤ a' ∧ a' ≤ a + 6) ∧ (0 ≤ s' ∧ s' < 18446744073709551616) ∧ Ext (inO (some c)) G w G' w' := by
 refine s_enter (n := 31) Tryd.func62 Tryd.ntmps62 rfl rfl ?_
 have hX0 : Ext (inO (some c)) G w G w := Ext.refl hP
 have hm := hc.max
 refine s_seq (c_reg ?_)
 refine qd rfl rfl rfl (r_assign (v := (.slice none 0 0)) rfl) ?_
 refine qe (s_then (s_seq (c_reg ?_)))
 refine q1 rfl rfl rfl (o_build0 (E := eVal) (e := 26) Tryd.underlying38 sz26 hX0.pins (fun u1 w2 ho3 hp4 hl5 hk6 => ?_))
 have hX7 := hX0.step hp4 hl5
 have hb8 := hB.below hl5
 have ha9 : Apart u1.ownBlock (some c) := new_ne_box hk6 hB.lt
 have ho10 : Own eVal 26 G w2 w.heap.size u1 ([]) := ho3.weaken hX0.size
 refine qd rfl rfl rfl (r_assign (v := u1) rfl) ?_
 refine qe (s_then (s_seq (c_reg ?_)))
 refine qd rfl rfl rfl (r_move (v := (.pointer (some ⟨c, 0, none⟩))) rfl) ?_
 refine qd rfl rfl rfl (r_move (v := (.int .i64 m)) rfl) ?_
 refine qd rfl rfl rfl (r_add rfl rfl (by omega)) ?_
 refine q1 rfl rfl rfl (o_call (vs := [(.pointer (some ⟨c, 0, none⟩)), (.int .i64 (m + 1))]) Tryd.func35 nm35 rfl rfl rfl ?_)
 refine Calls.mono (pick_spec hX7.pins hb8 hc (by omega) (by omega) (n := (m + 1)) (by omega)) ?_
 rintro _ w15 ⟨z11, a13, s14, rfl, hz12, hb16, hda17, hds18, hx19⟩
 refine ⟨_, rfl, ?_⟩
 have hX20 := hX7.trans hx19 (fun i hi => lo_self i hi)
 have ho21 := ho10.extS hx19 (notO ha9)
 refine qd rfl rfl rfl (r_assign (v := (.int .i64 z11)) rfl) ?_
 refine qe (s_then (s_seq (s_seq (c_reg ?_))))
 refine qd rfl rfl rfl (r_assign (v := (.int .i64 0)) rfl) ?_
 refine qe (s_then ?_)
 refine s_blk ?_
 refine s_loop (fun (k : Nat) (en : Nat → Value) (W : World) => ∃ (env1 : Nat → Value) (i : Nat) (ov : Value) (ys : List Value) (a1 : Int) (s1 : Int) (GL : Pin), en = (upd (upd (upd (upd (upd (upd env1 0 (.pointer (some ⟨c, 0, none⟩))) 1 l) 6 (.slice none 0 0)) 7 ov) 8 (.int .i64 z11)) 9 (.int .i64 (i : Int))) ∧ k = (z11).toNat - i ∧ Ext (inO (some c)) G w GL W ∧ Pin.le G GL ∧ (i : Int) ≤ z11 ∧ (∀ y ∈ ys, y ∈ vs) ∧ (ys.length = i) ∧ (a ≤ a1 ∧ a1 ≤ a + 2 + 2 * (i : Int)) ∧ (0 ≤ s1 ∧ s1 < 18446744073709551616) ∧ (Own eVal 26 GL W w.heap.size ov (ys)) ∧ (Bx GL W c [cv, (.int .i64 a1), (.int .u64 s1)]) ∧ (Apart ov.ownBlock (some c))) _ ⟨_, 0, u1, [], a13, s14, G, (packS (x := 9) (packS (x := 8) (packS (x := 7) (packS (x := 6) (packS (x := 1) (pack1 (x := 0) rfl) rfl) rfl) rfl) rfl) rfl), rfl, hX20, Pin.le_refl _, (by omega), (fun y hy => (List.not_mem_nil hy).elim), rfl, (by omega), (by omega), ho21, hb16, ha9⟩ ?_
 rintro k22 _ w23 ⟨env1, i, ov, ys, a1, s1, GL, rfl, hk24, hX25, hlek22, hi, hys, hyl, hda, hds, hw26, hw27, ha28⟩
 refine s_seq (s_seq (c_reg ?_))
 refine qd rfl rfl rfl (r_move (v := (.int .i64 (i : Int))) rfl) ?_
 refine qd rfl rfl rfl (r_move (v := (.int .i64 z11)) rfl) ?_
 refine qd rfl rfl rfl (r_lss rfl rfl) ?_
 refine qe (s_then ?_)
 refine c_ifd (p := ((i : Int) : Int) < z11) rfl rfl (fun h29 => ?_) (fun h29 => ?_)
 ·skip
  refine wp_skip ?_
  refine s_then (s_seq ?_)
  refine s_blk ?_
  refine c_reg ?_
  refine qd rfl rfl rfl (r_move (v := ov) rfl) ?_
  refine qd rfl rfl rfl (r_move (v := l) rfl) ?_
  refine qd rfl rfl rfl (r_move (v := (.pointer (some ⟨c, 0, none⟩))) rfl) ?_
  refine qd rfl rfl rfl (r_move (v := l) rfl) ?_
  refine qd rfl rfl rfl (run_len Tryd.underlying38 (v := l) rfl hl) ?_
  refine q1 rfl rfl rfl (o_call (vs := [(.pointer (some ⟨c, 0, none⟩)), (.int .i64 (vs.length : Int))]) Tryd.func35 nm35 rfl rfl rfl ?_)
  refine Calls.mono (pick_spec hX25.pins hw27 (hc.mono hlek22) (by omega) (by omega) (n := (vs.length : Int)) (by omega)) ?_
  rintro _ w34 ⟨z30, a32, s33, rfl, hz31, hb35, hda36, hds37, hx38⟩
  refine ⟨_, rfl, ?_⟩
  have hX39 := hX25.trans hx38 (fun i hi => lo_self i hi)
  have ho40 := hw26.extS hx38 (notO ha28)
  refine qd rfl rfl rfl (run_idx Tryd.underlying38 sz26 (v := l) rfl rfl hl (by omega) (by omega)) ?_
  obtain ⟨cs41, hrep42, hagg43, hcell44⟩ := nm_el (j := (z30).toNat) default (hl.at (z := z30) (by omega) (by omega)) rfl
  obtain ⟨rfl, hone45⟩ := hrep42
  refine qd rfl rfl rfl (hagg43 ag26 sz26 rfl (Pins.of_le hX39.pins hlek22)) ?_
  refine q1 rfl rfl rfl (o_build1 (E := eVal) (e := 26) [(vs.getD (z30).toNat default)] (vs.getD (z30).toNat default) Tryd.underlying38 sz26 zr26 ⟨rfl, hone45⟩ rfl (by decide) hX39.pins (fun u46 w47 ho48 hp49 hl50 hk51 => ?_))
  have hX52 := hX39.step hp49 hl50
  have ho53 := ho40.below hl50
  have hb54 := hb35.below hl50
  have ho57 : Own eVal 26 GL w47 w.heap.size u46 ([(vs.getD (z30).toNat default)]) := ho48.weaken hX39.size
  refine q1 rfl rfl rfl (o_append (E := eVal) (v := ov) (u := u46) 24 Tryd.underlying38 ap26 (by decide) rfl rfl hX52.pins ho53 ho57.src (by first | omega | (rw [List.nil_append]; omega) | (rw [List.length_nil]; omega) | (rw [List.length_append]; omega) | (simp; done) | (simp; omega) | (simp only [List.length_append, List.length_cons, List.length_nil]; omega)) (by first | omega | (rw [List.nil_append]; omega) | (rw [List.length_nil]; omega) | (rw [List.length_append]; omega) | (simp; done) | (simp; omega) | (simp only [List.length_append, List.length_cons, List.length_nil]; omega)) (hX52.size) (fun u58 w59 ho60 hp61 hg62 hw63 => ?_))
  have hX64 := hX52.write hp61 hg62 ((lo_own ho53))
  have hb66 := hb54.keptA hg62 ha28.symm
  have ha68 : Apart (some c) u58.ownBlock := app_ne_box ha28.symm hw63 hb54.lt
  have hm69 : (ys ++ ([(vs.getD (z30).toNat default)])).length = ys.length + 1 := List.length_append
  refine qd rfl rfl rfl (r_assign (v := u58) rfl) ?_
  refine qe ?_
  refine s_blkN ?_
  refine s_then (c_reg ?_)
  refine qd rfl rfl rfl (r_move (v := (.int .i64 (i : Int))) rfl) ?_
  refine qd rfl rfl rfl (r_add rfl rfl (by omega)) ?_
  refine qd rfl rfl rfl (r_assign (v := (.int .i64 ((i : Int) + 1))) rfl) ?_
  refine qe ?_
  refine s_lopN ?_
  refine ⟨_, ?_, _, rfl, _, i + 1, u58, ys ++ ([(vs.getD (z30).toNat default)]), a32, s33, GL, (packS (x := 9) (packS (x := 8) (packS (x := 7) (packS (x := 6) (packS (x := 1) (pack1 (x := 0) rfl) rfl) rfl) rfl) rfl) rfl), rfl, hX64, hlek22, (by omega), (fun y hy => (List.mem_append.1 hy).elim (hys y) (fun h => by rw [List.mem_singleton.1 h]; exact getD_mem (by omega))), (by simp; omega), (by omega), (by omega), ho60, hb66, ha68.symm⟩
  omega
 refine wp_exit ?_
 refine s_thenE ?_
 refine s_lopE ?_
 refine s_blkE ?_
 refine s_then (s_seq (c_reg ?_))
 refine qd rfl rfl rfl (r_move (v := ov) rfl) ?_
 refine qd rfl rfl rfl (r_assign (v := ov) rfl) ?_
 refine qe (s_then ?_)
 refine wp_ret ?_
 refine s_ret ?_
 refine c_ret1 (v := ov) rfl rfl rfl ?_
 exact ⟨_, _, _, _, _, rfl, hw26, hys, (by omega), hw27, (by omega), (by omega), hX25⟩

theorem someO_spec {w : World} {G : Pin} {c : Nat} {cv : Value} {code : List UInt8} {a s : Int} {l : Value} {vs : List Value} {m : Int} {e base : Nat} (hP : Pins G w) (hB : Bx G w c [cv, .int .i64 a, .int .u64 s]) (hc : RSl eByte G cv code) (ha : 0 ≤ a ∧ a + 6 ≤ 1000000) (hs : 0 ≤ s ∧ s < 18446744073709551616) (hl : Own eVal e G w base l vs) (hap : Apart (some c) l.ownBlock) (hn : 1 ≤ vs.length ∧ vs.length ≤ 1000) (hm2 : 0 ≤ m ∧ m ≤ 2) :
  Calls Tryd.prog 62 [(.pointer (some ⟨c, 0, none⟩)), l, (.int .i64 m)].toArray w fun e w' => ∃ (u : Value) (ys : List Value) (a' s' : Int), e = .returned u ∧ Own eVal 26 G w' w.heap.size u ys ∧ (∀ y ∈ ys, y ∈ vs) ∧ ys.length ≤ 2 ∧ Bx G w' c [cv, .int .i64 a', .int .u64 s'] ∧ (a ≤ a' ∧ a' ≤ a + 6) ∧ (0 ≤ s' ∧ s' < 18446744073709551616) ∧ Ext (inO (some c)) G w G w' := by
 have hb2 : Bx (Gadd G w l) w c [cv, .int .i64 a, .int .u64 s] := ⟨hB.heap, fun o u hu => hu.elim (hB.free o u) (fun h => hap c rfl h.1)⟩
 refine (some_spec (Gadd.pins hP l) hb2 (hc.mono (Gadd.le _ _ _)) ha hs hl.read hn hm2).mono fun e w' ⟨u, ys, a', s', G', e1, ho, hm, hy, hb, h1, h2, hx⟩ => ?_
 have hle : Pin.le G G' := Pin.le_trans (Gadd.le _ _ _) hx.le
 exact ⟨u, ys, a', s', e1, ownV_anti ho hle, hm, hy, hb.anti hle, h1, h2, ext_back (Gadd.le _ _ _) hx⟩

theorem dform_spec {w : World} {G : Pin} {c : Nat} {cv : Value} {code : List UInt8} {a s : Int} {n : Int} (hP : Pins G w) (hB : Bx G w c [cv, .int .i64 a, .int .u64 s]) (hc : RSl eByte G cv code) (ha : 0 ≤ a ∧ a + (12 * n + 4) ≤ 1000000) (hs : 0 ≤ s ∧ s < 18446744073709551616) (hn : 0 ≤ n ∧ n ≤ 6) :
  Calls Tryd.prog 36 [(.pointer (some ⟨c, 0, none⟩)), (.int .i64 n)].toArray w fun e w' => ∃ (u : Value) (g : Nat) (a' s' : Int) (G' : Pin), e = .returned (.agg [u].toArray) ∧ Own eNode 60 G' w' w.heap.size u (formG g) ∧ IsForm g (formG g) ∧ ((formG g).length : Int) ≤ 9 + n ∧ Bx G' w' c [cv, .int .i64 a', .int .u64 s'] ∧ (a ≤ a' ∧ a' ≤ a + (12 * n + 4)) ∧ (0 ≤ s' ∧ s' < 18446744073709551616) ∧ Ext (inO (some c)) G w G' w' := by
 refine s_enter (n := 40) Tryd.func36 Tryd.ntmps36 rfl rfl ?_
 have hX0 : Ext (inO (some c)) G w G w := Ext.refl hP
 have hm := hc.max
 refine s_seq (c_reg ?_)
 refine q1 rfl rfl rfl (o_alloc [(.slice none 0 0)] zr26 rfl hX0.pins (fun b1 w2 hk3 hb4 hp5 hl6 => ?_))
 have hX7 := hX0.step hp5 hl6
 have hb8 := hB.below hl6
 have ha9 : Apart (some b1) (some c) := new_ne_box (congrArg some hk3) hB.lt
 have hlo10 : w.heap.size ≤ b1 := by have := hX0.size; omega
 refine qe (s_then (s_seq (c_reg ?_)))
 refine q1 rfl rfl rfl (o_call (vs := []) Tryd.func61 nm61 rfl rfl rfl ?_)
 refine Calls.mono (l3Small_spec hX7.pins) ?_
 rintro _ w15 ⟨u11, vs12, Q13, G14, rfl, ho16, hfr17, hkq18, hvl19, hql20, hx21⟩
 refine ⟨_, rfl, ?_⟩
 have hX22 := hX7.tr hx21
 have hb23 := hb8.ext hx21
 have hb24 := hb4.ext hx21
 have ha25 : Apart u11.ownBlock (some c) := made_ne_box ho16.lt hb8.lt
 have ha26 : Apart u11.ownBlock (some b1) := made_ne_box ho16.lt hb4.lt
 have ho27 : Own eVal 26 G14 w15 w.heap.size u11 vs12 := ho16.weaken hX7.size
 have hfr28 := hfr17.wide hX7.size
 refine qd rfl rfl rfl (r_assign (v := u11) rfl) ?_
 refine qe (s_then (s_seq (s_seq (c_reg ?_))))
 refine qd rfl rfl rfl (r_assign (v := (.int .i64 0)) rfl) ?_
 refine qe (s_then ?_)
 refine s_blk ?_
 refine s_loop (fun (k : Nat) (en : Nat → Value) (W : World) => ∃ (env1 : Nat → Value) (i : Nat) (lv : Value) (ls : List Value) (Q : List Nat) (a1 : Int) (s1 : Int) (GL : Pin), en = (upd (upd (upd (upd (upd env1 0 (.pointer (some ⟨c, 0, none⟩))) 1 (.int .i64 n)) 4 (.pointer (some ⟨b1, 0, none⟩))) 5 lv) 6 (.int .i64 (i : Int))) ∧ k = n.toNat - i ∧ Ext (inO (some c)) G w GL W ∧ Pin.le G14 GL ∧ (i : Int) ≤ n ∧ (Fr 60 w.heap.size GL W Q ls) ∧ (KQ Q) ∧ (ls.length = 9 + i) ∧ (Q.length = 9 + i) ∧ (a ≤ a1 ∧ a1 ≤ a + 12 * (i : Int)) ∧ (0 ≤ s1 ∧ s1 < 18446744073709551616) ∧ (Own eVal 26 GL W w.heap.size lv (ls)) ∧ (Bx GL W c [cv, (.int .i64 a1), (.int .u64 s1)]) ∧ (Bx GL W b1 [(.slice none 0 0)]) ∧ (Apart lv.ownBlock (some c)) ∧ (Apart lv.ownBlock (some b1))) _ ⟨_, 0, u11, vs12, Q13, a, s, G14, (packS (x := 6) (packS (x := 5) (packS (x := 4) (packS (x := 1) (pack1 (x := 0) rfl) rfl) rfl) rfl) rfl), rfl, hX22, Pin.le_refl _, (by omega), hfr28, hkq18, (by omega), (by omega), (by omega), (by omega), ho27, hb23, hb24, ha25, ha26⟩ ?_
 rintro k29 _ w30 ⟨env1, i, lv, ls, Q, a1, s1, GL, rfl, hk31, hX32, hlek29, hi, hfl, hkl, hll, hQl, hda, hds, hw33, hw34, hw35, ha36, ha37⟩
 refine s_seq (s_seq (c_reg ?_))
 refine qd rfl rfl rfl (r_move (v := (.int .i64 (i : Int))) rfl) ?_
 refine qd rfl rfl rfl (r_move (v := (.int .i64 n)) rfl) ?_
 refine qd rfl rfl rfl (r_lss rfl rfl) ?_
 refine qe (s_then ?_)
 refine c_ifd (p := ((i : Int) : Int) < n) rfl rfl (fun h38 => ?_) (fun h38 => ?_)
 ·skip
  refine wp_skip ?_
  refine s_then (s_seq ?_)
  refine s_blk ?_
  refine s_seq (c_reg ?_)
  refine qd rfl rfl rfl (r_move (v := (.pointer (some ⟨c, 0, none⟩))) rfl) ?_
  refine qd rfl rfl rfl (r_move (v := lv) rfl) ?_
  refine q1 rfl rfl rfl (o_call (vs := [(.pointer (some ⟨c, 0, none⟩)), lv, (.int .i64 2)]) Tryd.func62 nm62 rfl rfl rfl ?_)
  refine Calls.mono (someO_spec hX32.pins hw34 (hc.mono (Pin.le_trans hx21.le hlek29)) (by omega) (by omega) hw33 ha36.symm (by omega) (by omega)) ?_
  rintro _ w43 ⟨u39, ys40, a41, s42, rfl, ho44, hmy45, hyl46, hb47, hda48, hds49, hx50⟩
  refine ⟨_, rfl, ?_⟩
  have hX51 := hX32.trans hx50 (fun i hi => lo_self i hi)
  have ho52 := hw33.extS hx50 (notO ha36)
  have hb53 := hw35.extS hx50 (notOb ha9)
  have hfr54 := hfl.turned hx50 (fun k hk o u => by cases hk; exact hw34.free o u)
  have ha55 : Apart u39.ownBlock lv.ownBlock := made_ne_own ho44.lt hw33.lt
  have ha56 : Apart u39.ownBlock (some c) := made_ne_box ho44.lt hw34.lt
  have ha57 : Apart u39.ownBlock (some b1) := made_ne_box ho44.lt hw35.lt
  have ho58 : Own eVal 26 GL w43 w.heap.size u39 ys40 := ho44.weaken hX32.size
  refine qd rfl rfl rfl (r_assign (v := u39) rfl) ?_
  refine qe (s_then (c_reg ?_))
  refine qd rfl rfl rfl (r_move (v := lv) rfl) ?_
  refine qd rfl rfl rfl (r_move (v := u39) rfl) ?_
  refine qd rfl rfl rfl (r_move (v := (.pointer (some ⟨c, 0, none⟩))) rfl) ?_
  refine qd rfl rfl rfl (r_move (v := lv) rfl) ?_
  refine q1 rfl rfl rfl (o_call (vs := [(.pointer (some ⟨c, 0, none⟩)), lv, (.int .i64 2)]) Tryd.func62 nm62 rfl rfl rfl ?_)
  refine Calls.mono (someO_spec hX51.pins hb47 (hc.mono (Pin.le_trans hx21.le hlek29)) (by omega) (by omega) ho52 ha36.symm (by omega) (by omega)) ?_
  rintro _ w63 ⟨u59, ys60, a61, s62, rfl, ho64, hmy65, hyl66, hb67, hda68, hds69, hx70⟩
  refine ⟨_, rfl, ?_⟩
  have hX71 := hX51.trans hx70 (fun i hi => lo_self i hi)
  have ho72 := ho52.extS hx70 (notO ha36)
  have ho73 := ho58.extS hx70 (notO ha56)
  have hb74 := hb53.extS hx70 (notOb ha9)
  have hfr75 := hfr54.turned hx70 (fun k hk o u => by cases hk; exact hb47.free o u)
  have ha76 : Apart u59.ownBlock lv.ownBlock := made_ne_own ho64.lt ho52.lt
  have ha77 : Apart u59.ownBlock u39.ownBlock := made_ne_own ho64.lt ho58.lt
  have ha78 : Apart u59.ownBlock (some c) := made_ne_box ho64.lt hb47.lt
  have ha79 : Apart u59.ownBlock (some b1) := made_ne_box ho64.lt hb53.lt
  have ho80 : Own eVal 26 GL w63 w.heap.size u59 ys60 := ho64.weaken hX51.size
  obtain ⟨G81, hle84, hX83, hr82, hf85⟩ := ho73.sealed hX71
  have ho86 := ho72.moreO hle84 hf85 ha55.symm
  have ho87 := ho80.moreO hle84 hf85 ha77
  have hb88 := hb67.moreO hf85 ha56.symm
  have hb89 := hb74.moreO hf85 ha57.symm
  have hfr90 := hfr75.le hle84
  obtain ⟨G91, hle94, hX93, hr92, hf95⟩ := ho87.sealed hX83
  have ho96 := ho86.moreO hle94 hf95 ha76.symm
  have hb97 := hb88.moreO hf95 ha78.symm
  have hb98 := hb89.moreO hf95 ha79.symm
  have hfr99 := hfr90.le hle94
  refine q1 rfl rfl rfl (o_call (vs := [u39, u59]) Tryd.func40 nm40 rfl rfl rfl ?_)
  refine Calls.mono (l3MakeV_spec hX93.pins hfr99 hkl (by first | omega | (simp; done) | (simp; omega)) hX93.size (hr82.mono hle94) hr92 hmy45 hmy65 (by first | omega | simp) (by first | omega | simp)) ?_
  rintro _ w103 ⟨x100, g101, G102, rfl, hkq104, hfr105, hx106⟩
  refine ⟨_, rfl, ?_⟩
  have hX107 := hX93.tr hx106
  have ho108 := ho96.ext hx106
  have hb109 := hb97.ext hx106
  have hb110 := hb98.ext hx106
  have hone112 := hfr105.one List.mem_cons_self
  refine q1 rfl rfl rfl (o_build1 (E := eVal) (e := 26) [x100] x100 Tryd.underlying38 sz26 zr26 ⟨rfl, hone112⟩ rfl (by decide) hX107.pins (fun u113 w114 ho115 hp116 hl117 hk118 => ?_))
  have hX119 := hX107.step hp116 hl117
  have ho120 := ho108.below hl117
  have hb121 := hb109.below hl117
  have hb122 := hb110.below hl117
  have hfr123 := hfr105.below hl117
  have ho127 : Own eVal 26 G102 w114 w.heap.size u113 ([x100]) := ho115.weaken hX107.size
  refine q1 rfl rfl rfl (o_append (E := eVal) (v := lv) (u := u113) 24 Tryd.underlying38 ap26 (by decide) rfl rfl hX119.pins ho120 ho127.src (by first | omega | (rw [List.nil_append]; omega) | (rw [List.length_nil]; omega) | (rw [List.length_append]; omega) | (simp; done) | (simp; omega) | (simp only [List.length_append, List.length_cons, List.length_nil]; omega)) (by first | omega | (rw [List.nil_append]; omega) | (rw [List.length_nil]; omega) | (rw [List.length_append]; omega) | (simp; done) | (simp; omega) | (simp only [List.length_append, List.length_cons, List.length_nil]; omega)) (hX119.size) (fun u128 w129 ho130 hp131 hg132 hw133 => ?_))
  have hX134 := hX119.write hp131 hg132 ((lo_own ho120))
  have hb136 := hb121.keptA hg132 ha36.symm
  have hb137 := hb122.keptA hg132 ha37.symm
  have hfr138 := hfr123.kept hg132 ho120.free
  have ha140 : Apart (some c) u128.ownBlock := app_ne_box ha36.symm hw133 hb121.lt
  have ha141 : Apart (some b1) u128.ownBlock := app_ne_box ha37.symm hw133 hb122.lt
  have hm142 : (ls ++ ([x100])).length = ls.length + 1 := List.length_append
  refine qd rfl rfl rfl (r_assign (v := u128) rfl) ?_
  refine qe ?_
  refine s_blkN ?_
  refine s_then (c_reg ?_)
  refine qd rfl rfl rfl (r_move (v := (.int .i64 (i : Int))) rfl) ?_
  refine qd rfl rfl rfl (r_add rfl rfl (by omega)) ?_
  refine qd rfl rfl rfl (r_assign (v := (.int .i64 ((i : Int) + 1))) rfl) ?_
  refine qe ?_
  refine s_lopN ?_
  refine ⟨_, ?_, _, rfl, _, i + 1, u128, ls ++ ([x100]), (g101 :: Q), a61, s62, G102, (packS (x := 6) (packS (x := 5) (packS (x := 4) (packS (x := 1) (pack1 (x := 0) rfl) rfl) rfl) rfl) rfl), rfl, hX134, (Pin.le_trans (Pin.le_trans (Pin.le_trans hlek29 hle84) hle94) hx106.le), (by omega), (hfr138.mem snoc_mem), hkq104, (by simp; omega), (by simp; omega), (by omega), (by omega), ho130, hb136, hb137, ha140.symm, ha141.symm⟩
  omega
 refine wp_exit ?_
 refine s_thenE ?_
 refine s_lopE ?_
 refine s_blkE ?_
 refine s_then (s_seq (s_seq (c_reg ?_)))
 refine qd rfl rfl rfl (r_move (v := (.pointer (some ⟨c, 0, none⟩))) rfl) ?_
 refine q1 rfl rfl rfl (o_call (vs := [(.pointer (some ⟨c, 0, none⟩)), (.int .i64 3)]) Tryd.func37 nm37 rfl rfl rfl ?_)
 refine Calls.mono (one_spec hX32.pins hw34 (hc.mono (Pin.le_trans hx21.le hlek29)) (by omega) (by omega) (n := 3) (by omega)) ?_
 rintro _ w146 ⟨z143, a144, s145, rfl, hb147, hda148, hds149, hx150⟩
 refine ⟨_, rfl, ?_⟩
 have hX151 := hX32.trans hx150 (fun i hi => lo_self i hi)
 have ho152 := hw33.extS hx150 (notO ha36)
 have hb153 := hw35.extS hx150 (notOb ha9)
 have hfr154 := hfl.turned hx150 (fun k hk o u => by cases hk; exact hw34.free o u)
 refine qe (s_then ?_)
 refine c_if rfl rfl (fun h155 => ?_) (fun h155 => ?_)
 ·skip
  refine s_seq (c_reg ?_)
  refine qd rfl rfl rfl (r_move (v := lv) rfl) ?_
  refine qd rfl rfl rfl (r_move (v := (.pointer (some ⟨c, 0, none⟩))) rfl) ?_
  refine qd rfl rfl rfl (r_move (v := lv) rfl) ?_
  refine qd rfl rfl rfl (run_len Tryd.underlying38 (v := lv) rfl ho152.read) ?_
  refine q1 rfl rfl rfl (o_call (vs := [(.pointer (some ⟨c, 0, none⟩)), (.int .i64 (ls.length : Int))]) Tryd.func35 nm35 rfl rfl rfl ?_)
  refine Calls.mono (pick_spec hX151.pins hb147 (hc.mono (Pin.le_trans hx21.le hlek29)) (by omega) (by omega) (n := (ls.length : Int)) (by omega)) ?_
  rintro _ w160 ⟨z156, a158, s159, rfl, hz157, hb161, hda162, hds163, hx164⟩
  refine ⟨_, rfl, ?_⟩
  have hX165 := hX151.trans hx164 (fun i hi => lo_self i hi)
  have ho166 := ho152.extS hx164 (notO ha36)
  have hb167 := hb153.extS hx164 (notOb ha9)
  have hfr168 := hfr154.turned hx164 (fun k hk o u => by cases hk; exact hb147.free o u)
  refine qd rfl rfl rfl (run_idx Tryd.underlying38 sz26 (v := lv) rfl rfl ho166.read (by omega) (by omega)) ?_
  obtain ⟨cs169, hrep170, hagg171, hcell172⟩ := nm_el (j := (z156).toNat) default (ho166.at (z := z156) (by omega) (by omega)) rfl
  obtain ⟨rfl, hone173⟩ := hrep170
  refine qd rfl rfl rfl (hagg171 ag26 sz26 rfl (Gadd.pins hX165.pins lv)) ?_
  refine q0 rfl rfl rfl (o_stp (cs' := [(ls.getD (z156).toNat default)]) (us := [(ls.getD (z156).toNat default)]) (v := (.agg [(ls.getD (z156).toNat default)].toArray)) sz26 rfl rfl rfl (ones1 hone173) hX165.pins hb167 (Nat.le_of_ble_eq_true rfl) rfl (fun w174 hb175 hp176 hg177 hz178 => ?_))
  have hX179 := hX165.write hp176 hg177 ((lo_box hlo10))
  have hb181 := hb161.keptA hg177 ha9.symm
  have hfr182 := hfr168.kept hg177 (fun k hk o u => by cases hk; exact hb167.free o u)
  refine qe (s_then ?_)
  refine wp_ret ?_
  refine s_ret ?_
  refine c_retc (cs := [(ls.getD (z156).toNat default)]) rfl rfl rfl ag26 sz26 (fun j u hj => by rw [Nat.zero_add]; exact hb175.cell hj) ?_
  obtain ⟨g, hgq, htk⟩ := hfr182 (ls.getD (z156).toNat default) (getD_mem (by omega))
  obtain ⟨G2, ho2, hx2, hle2⟩ := htk.give hP hX179
  have hw := hkl.w (by omega) hgq
  exact ⟨_, g, _, _, G2, rfl, ho2, hkl.is g hgq, (by omega), hb181.anti hle2, (by omega), (by omega), hx2⟩
 refine wp_skip ?_
 refine s_then (s_seq (c_reg ?_))
 refine qd rfl rfl rfl (r_move (v := lv) rfl) ?_
 refine qd rfl rfl rfl (r_move (v := lv) rfl) ?_
 refine qd rfl rfl rfl (run_len Tryd.underlying38 (v := lv) rfl ho152.read) ?_
 refine qd rfl rfl rfl (r_sub rfl rfl (by omega)) ?_
 refine qd rfl rfl rfl (run_idx Tryd.underlying38 sz26 (v := lv) rfl rfl ho152.read (by omega) (by omega)) ?_
 obtain ⟨cs183, hrep184, hagg185, hcell186⟩ := nm_el (j := ((ls.length : Int) - 1).toNat) default (ho152.at (z := ((ls.length : Int) - 1)) (by omega) (by omega)) rfl
 obtain ⟨rfl, hone187⟩ := hrep184
 refine qd rfl rfl rfl (hagg185 ag26 sz26 rfl (Gadd.pins hX151.pins lv)) ?_
 refine q0 rfl rfl rfl (o_stp (cs' := [(ls.getD ((ls.length : Int) - 1).toNat default)]) (us := [(ls.getD ((ls.length : Int) - 1).toNat default)]) (v := (.agg [(ls.getD ((ls.length : Int) - 1).toNat default)].toArray)) sz26 rfl rfl rfl (ones1 hone187) hX151.pins hb153 (Nat.le_of_ble_eq_true rfl) rfl (fun w188 hb189 hp190 hg191 hz192 => ?_))
 have hX193 := hX151.write hp190 hg191 ((lo_box hlo10))
 have hb195 := hb147.keptA hg191 ha9.symm
 have hfr196 := hfr154.kept hg191 (fun k hk o u => by cases hk; exact hb153.free o u)
 refine qe (s_then ?_)
 refine wp_ret ?_
 refine s_ret ?_
 refine c_retc (cs := [(ls.getD ((ls.length : Int) - 1).toNat default)]) rfl rfl rfl ag26 sz26 (fun j u hj => by rw [Nat.zero_add]; exact hb189.cell hj) ?_
 obtain ⟨g, hgq, htk⟩ := hfr196 (ls.getD ((ls.length : Int) - 1).toNat default) (getD_mem (by omega))
 obtain ⟨G2, ho2, hx2, hle2⟩ := htk.give hP hX193
 have hw := hkl.w (by omega) hgq
 exact ⟨_, g, _, _, G2, rfl, ho2, hkl.is g hgq, (by omega), hb195.anti hle2, (by omega), (by omega), hx2⟩

end DR2
end Go.Proofs.YtkfgdhanaijddaaDoor

set_option maxRecDepth 20000
set_option maxHeartbeats 2000000
namespace Go.Proofs.YtkfgdhanaijddaaDoor
namespace DV1
open Go.RowKit Go.GL Go.Proofs
open Go.Proofs.YtkfgdhanaijddaaDoor.B1
open Go.Proofs.YtkfgdhanaijddaaDoor.C1
open Go.Proofs.YtkfgdhanaijddaaDoor.D1
open Go.Proofs.YtkfgdhanaijddaaDoor.E1
open Go.Proofs.YtkfgdhanaijddaaDoor.MK1
open Go.Proofs.YtkfgdhanaijddaaDoor.DR1
open Go.Proofs.YtkfgdhanaijddaaDoor.DR2












theorem pl60 : (Tryd.prog.underlying 60).bind (placesD Tryd.prog) = some [(0, 1), (1, 1)] := by kernel_rfl








theorem l1Own_spec {w : World} {G : Pin} {v : Value} {xs : List Int} (hP : Pins G w) (hv : RSl eInt G v xs) (hs : xs.length ≤ 1048576) :
  Calls Tryd.prog 56 [v].toArray w fun e w' => ∃ (u : Value) (G' : Pin), e = .returned u ∧ Own eInt 3 G' w' w.heap.size u xs ∧ Ext noS G w G' w' := by
 refine s_enter (n := 6) Tryd.func56 Tryd.ntmps56 rfl rfl ?_
 have hX0 : Ext noS G w G w := Ext.refl hP
 refine s_seq (c_reg ?_)
 refine qd rfl rfl rfl (r_assign (v := (.slice none 0 0)) rfl) ?_
 refine qe (s_then (s_seq (c_reg ?_)))
 refine q1 rfl rfl rfl (o_build0 (E := eInt) (e := 3) Tryd.underlying40 sz3 hX0.pins (fun u1 w2 ho3 hp4 hl5 hk6 => ?_))
 have hX7 := hX0.step hp4 hl5
 have ho8 : Own eInt 3 G w2 w.heap.size u1 ([]) := ho3.weaken hX0.size
 refine qd rfl rfl rfl (r_move (v := v) rfl) ?_
 refine q1 rfl rfl rfl (o_append (E := eInt) (v := u1) (u := v) 8 Tryd.underlying40 ap3 (by decide) rfl rfl hX7.pins ho8 ((hv.mono (Pin.le_refl _)).src hX7.pins (by decide)) (by first | omega | (rw [List.nil_append]; omega) | (rw [List.length_nil]; omega) | (rw [List.length_append]; omega) | (simp; done) | (simp; omega) | (simp only [List.length_cons, List.length_nil]; omega) | (simp only [List.length_append, List.length_cons, List.length_nil]; omega)) (by first | omega | (rw [List.nil_append]; omega) | (rw [List.length_nil]; omega) | (rw [List.length_append]; omega) | (simp; done) | (simp; omega) | (simp only [List.length_cons, List.length_nil]; omega) | (simp only [List.length_append, List.length_cons, List.length_nil]; omega)) (hX7.size) (fun u9 w10 ho11 hp12 hg13 hw14 => ?_))
 have hX15 := hX7.write hp12 hg13 ((lo_own ho8))
 have hm16 : (([]) ++ xs).length = ([]).length + xs.length := List.length_append
 refine qd rfl rfl rfl (r_assign (v := u9) rfl) ?_
 refine qe (s_then ?_)
 refine wp_ret ?_
 refine s_ret ?_
 refine c_ret1 (v := u9) rfl rfl rfl ?_
 exact ⟨_, _, rfl, (by simpa using ho11), hX15⟩

theorem anyForm_spec {w : World} {G : Pin} {c : Nat} {cv : Value} {code : List UInt8} {a s : Int} {n : Int} (hP : Pins G w) (hB : Bx G w c [cv, .int .i64 a, .int .u64 s]) (hc : RSl eByte G cv code) (ha : 0 ≤ a ∧ a + (12 * n + 10) ≤ 1000000) (hs : 0 ≤ s ∧ s < 18446744073709551616) (hn : 0 ≤ n ∧ n ≤ 6) :
  Calls Tryd.prog 31 [(.pointer (some ⟨c, 0, none⟩)), (.int .i64 n)].toArray w fun e w' => ∃ (u : Value) (ns : List Nd) (a' s' : Int) (G' : Pin), e = .returned (.agg [u].toArray) ∧ RSl eNode G' u ns ∧ Bx G' w' c [cv, .int .i64 a', .int .u64 s'] ∧ (a ≤ a' ∧ a' ≤ a + (12 * n + 10)) ∧ (0 ≤ s' ∧ s' < 18446744073709551616) ∧ Ext (inO (some c)) G w G' w' := by
 refine s_enter (n := 77) Tryd.func31 Tryd.ntmps31 rfl rfl ?_
 have hX0 : Ext (inO (some c)) G w G w := Ext.refl hP
 have hm := hc.max
 refine s_seq (c_reg ?_)
 refine q1 rfl rfl rfl (o_alloc [(.slice none 0 0)] zr26 rfl hX0.pins (fun b1 w2 hk3 hb4 hp5 hl6 => ?_))
 have hX7 := hX0.step hp5 hl6
 have hb8 := hB.below hl6
 have ha9 : Apart (some b1) (some c) := new_ne_box (congrArg some hk3) hB.lt
 have hlo10 : w.heap.size ≤ b1 := by have := hX0.size; omega
 refine qe (s_then (s_seq (c_reg ?_)))
 refine qd rfl rfl rfl (r_move (v := (.pointer (some ⟨c, 0, none⟩))) rfl) ?_
 refine qd rfl rfl rfl (r_move (v := (.int .i64 n)) rfl) ?_
 refine q1 rfl rfl rfl (o_call (vs := [(.pointer (some ⟨c, 0, none⟩)), (.int .i64 n)]) Tryd.func36 nm36 rfl rfl rfl ?_)
 refine Calls.mono (dform_spec (n := n) hX7.pins hb8 hc (by omega) (by omega) (by omega)) ?_
 rintro _ w16 ⟨u11, g12, a13, s14, G15, rfl, ho17, hif18, hfl19, hb20, hda21, hds22, hx23⟩
 refine ⟨_, rfl, ?_⟩
 have hX24 := hX7.trans hx23 (fun i hi => lo_self i hi)
 have hb25 := hb4.extS hx23 (notOb ha9)
 have ha26 : Apart u11.ownBlock (some c) := made_ne_box ho17.lt hb8.lt
 have ha27 : Apart u11.ownBlock (some b1) := made_ne_box ho17.lt hb4.lt
 have ho28 : Own eNode 60 G15 w16 w.heap.size u11 (formG g12) := ho17.weaken hX7.size
 have hfo29 := hif18.1.lo
 refine q1 rfl rfl rfl (o_alloc [(.slice none 0 0)] zr26 rfl hX24.pins (fun b30 w31 hk32 hb33 hp34 hl35 => ?_))
 have hX36 := hX24.step hp34 hl35
 have ho37 := ho28.below hl35
 have hb38 := hb20.below hl35
 have hb39 := hb25.below hl35
 have ha40 : Apart (some b30) u11.ownBlock := new_ne_own (congrArg some hk32) ho28.lt
 have ha41 : Apart (some b30) (some c) := new_ne_box (congrArg some hk32) hb20.lt
 have ha42 : Apart (some b30) (some b1) := new_ne_box (congrArg some hk32) hb25.lt
 have hlo43 : w.heap.size ≤ b30 := by have := hX24.size; omega
 refine q0 rfl rfl rfl (o_stp (cs' := [u11]) (us := [u11]) (v := (.agg [u11].toArray)) sz26 rfl rfl rfl (ones1 ho37.one) hX36.pins hb33 (Nat.le_of_ble_eq_true rfl) rfl (fun w44 hb45 hp46 hg47 hz48 => ?_))
 have hX49 := hX36.write hp46 hg47 ((lo_box hlo43))
 have ho50 := ho37.keptA hg47 ha40.symm
 have hb51 := hb38.keptA hg47 ha41.symm
 have hb52 := hb39.keptA hg47 ha42.symm
 refine qe (s_then (s_seq (c_reg ?_)))
 refine qd rfl rfl rfl (r_move (v := (.pointer (some ⟨c, 0, none⟩))) rfl) ?_
 refine qd rfl rfl rfl (r_fldp (k := 0) rfl Tryd.underlying26 rfl nz24 rfl) ?_
 refine qd rfl rfl rfl (r_ldp1 (u := u11) ag24 rfl (hb45.cell (o := 0) rfl)) ?_
 refine qd rfl rfl rfl (run_len Tryd.underlying24 (v := u11) rfl ho50.read) ?_
 refine q1 rfl rfl rfl (o_call (vs := [(.pointer (some ⟨c, 0, none⟩)), (.int .i64 ((formG g12).length : Int))]) Tryd.func35 nm35 rfl rfl rfl ?_)
 refine Calls.mono (pick_spec hX49.pins hb51 (hc.mono hx23.le) (by omega) (by omega) (n := ((formG g12).length : Int)) (by omega)) ?_
 rintro _ w57 ⟨z53, a55, s56, rfl, hz54, hb58, hda59, hds60, hx61⟩
 refine ⟨_, rfl, ?_⟩
 have hX62 := hX49.trans hx61 (fun i hi => lo_self i hi)
 have ho63 := ho50.extS hx61 (notO ha26)
 have hb64 := hb52.extS hx61 (notOb ha9)
 have hb65 := hb45.extS hx61 (notOb ha41)
 refine qd rfl rfl rfl (r_assign (v := (.int .i64 z53)) rfl) ?_
 refine qe (s_then (s_seq (s_seq (c_reg ?_))))
 refine qd rfl rfl rfl (r_move (v := (.pointer (some ⟨c, 0, none⟩))) rfl) ?_
 refine q1 rfl rfl rfl (o_call (vs := [(.pointer (some ⟨c, 0, none⟩)), (.int .i64 24)]) Tryd.func35 nm35 rfl rfl rfl ?_)
 refine Calls.mono (pick_spec hX62.pins hb58 (hc.mono hx23.le) (by omega) (by omega) (n := 24) (by omega)) ?_
 rintro _ w70 ⟨z66, a68, s69, rfl, hz67, hb71, hda72, hds73, hx74⟩
 refine ⟨_, rfl, ?_⟩
 have hX75 := hX62.trans hx74 (fun i hi => lo_self i hi)
 have ho76 := ho63.extS hx74 (notO ha26)
 have hb77 := hb64.extS hx74 (notOb ha9)
 have hb78 := hb65.extS hx74 (notOb ha41)
 refine qe (s_then ?_)
 refine s_blk ?_
 refine s_seq (c_reg ?_)
 refine qd rfl rfl rfl (r_eql rfl rfl) ?_
 refine qd rfl rfl rfl (r_assign (v := (.bool (decide ((z66 : Int) = 0)))) rfl) ?_
 refine qe (s_then ?_)
 refine c_ifd (p := (z66 : Int) = 0) rfl rfl (fun h79 => ?_) (fun h79 => ?_)
 ·skip
  have hlk := (isform_ok hif18 (by omega)).lens (z53).toNat (by omega)
  have hq80 := Gadd.pins hX75.pins u11
  have hr81 := ho76.read
  refine c_draw (S := fun wz => BxR wz b30 [u11] ∧ Pins (Gadd G15 w70 u11) wz) (last := 18) (by kernel_rfl) rfl ?_
  have hl82 : Below w70.heap.size w70 w70.drew := (Below.refl _ _).drew
  have hp83 := hX75.pins.below hl82
  have hX84 := hX75.step hp83 hl82
  have ho85 := ho76.below hl82
  have hb86 := hb71.below hl82
  have hb87 := hb77.below hl82
  have hb88 := hb78.below hl82
  have hq89 := hq80.below hl82
  refine dr_take (i := 0) rfl rfl rfl (want_none rfl _) (by kernel_rfl) (fun _ _ => r_fldp (k := 0) rfl Tryd.underlying26 rfl nz24 rfl) ⟨hb88.reads, hq89⟩ ?_
  refine dr_take (i := 1) rfl rfl rfl (want_none rfl _) (by kernel_rfl) (fun _ hS => r_ldp1 (u := u11) ag24 rfl (hS.1 0 _ rfl)) ⟨hb88.reads, hq89⟩ ?_
  refine dr_take (i := 2) rfl rfl rfl (want_none rfl _) (by kernel_rfl) (fun _ _ => r_move (v := (.int .i64 z53)) rfl) ⟨hb88.reads, hq89⟩ ?_
  refine dr_take (i := 3) rfl rfl rfl (want_none rfl _) (by kernel_rfl) (fun _ _ => r_fldp (k := 0) rfl Tryd.underlying26 rfl nz24 rfl) ⟨hb88.reads, hq89⟩ ?_
  refine dr_take (i := 4) rfl rfl rfl (want_none rfl _) (by kernel_rfl) (fun _ hS => r_ldp1 (u := u11) ag24 rfl (hS.1 0 _ rfl)) ⟨hb88.reads, hq89⟩ ?_
  refine dr_take (i := 5) rfl rfl rfl (want_none rfl _) (by kernel_rfl) (fun _ _ => r_move (v := (.int .i64 z53)) rfl) ⟨hb88.reads, hq89⟩ ?_
  refine dr_take (i := 6) rfl rfl rfl (want_none rfl _) (by kernel_rfl) (fun _ _ => run_idx Tryd.underlying24 sz60 (v := u11) rfl rfl hr81 (by omega) (by omega)) ⟨hb88.reads, hq89⟩ ?_
  refine dr_take (i := 7) rfl rfl rfl (want_none rfl _) (by kernel_rfl) (fun _ _ => run_fld (off := 0) Tryd.underlying60 rfl rfl nz40 (z := z53) (k := 0) rfl hr81 (by omega) (by omega)) ⟨hb88.reads, hq89⟩ ?_
  obtain ⟨u90, hr91, hl92⟩ := nm_nl (ho76.at (z := z53) (by omega) (by omega)) (j := (z53).toNat) rfl
  have hm93 := hr91.max
  refine dr_take (i := 8) rfl rfl rfl (want_none rfl _) (by kernel_rfl) (fun _ hS => hl92 ag40 rfl hS.2) ⟨hb88.reads, hq89⟩ ?_
  refine dr_take (i := 10) rfl rfl rfl (want_none rfl _) (by kernel_rfl) (fun _ _ => r_move (v := (.pointer (some ⟨c, 0, none⟩))) rfl) ⟨hb88.reads, hq89⟩ ?_
  refine dr_take (i := 11) rfl rfl rfl (want_none rfl _) (by kernel_rfl) (fun _ _ => r_move (v := (.int .i64 z53)) rfl) ⟨hb88.reads, hq89⟩ ?_
  refine dr_two (i := 9) (j := 12) (by kernel_rfl) ?_ ?_
  ·skip
   refine (drOp1 (i := 9) rfl rfl rfl (want_none rfl _) (o_call (vs := [u90]) Tryd.func56 nm56 rfl rfl rfl ?_))
   refine Calls.mono (l1Own_spec hX84.pins hr91 (by omega)) ?_
   rintro _ w96 ⟨u94, G95, rfl, ho97, hx98⟩
   refine ⟨_, rfl, ?_⟩
   have hX99 := hX84.tr hx98
   have ho100 := ho85.ext hx98
   have hb101 := hb86.ext hx98
   have hb102 := hb87.ext hx98
   have hb103 := hb88.ext hx98
   have ha104 : Apart u94.ownBlock u11.ownBlock := made_ne_own ho97.lt ho85.lt
   have ha105 : Apart u94.ownBlock (some c) := made_ne_box ho97.lt hb86.lt
   have ha106 : Apart u94.ownBlock (some b1) := made_ne_box ho97.lt hb87.lt
   have ha107 : Apart u94.ownBlock (some b30) := made_ne_box ho97.lt hb88.lt
   have ho108 : Own eInt 3 G95 w96 w.heap.size u94 (((formG g12).getD (z53).toNat default).l) := ho97.weaken hX84.size
   have hq109 := hq89.below hx98.below
   refine ⟨fun _ => ⟨hb103.reads, hq109⟩, ?_⟩
   refine dr_one (i := 12) (by kernel_rfl) (drOp1 (i := 12) rfl rfl rfl (want_none rfl _) (o_buildF (E := eInt) (e := 3) [(.int .i64 0), (.int .i64 z53), (.int .i64 (-1)), (.int .i64 1)] [0, z53, (-1), 1] Tryd.underlying40 sz3 zr3 (by exact reps4 (by rfl) (by rfl) (by rfl) (by rfl)) (ones4 (by rfl) (by rfl) (by rfl) (by rfl)) rfl rfl rfl rfl (by decide) hX99.pins (fun u110 w111 ho112 hp113 hl114 hk115 => ?_)))
   have hX116 := hX99.step hp113 hl114
   have ho117 := ho100.below hl114
   have ho118 := ho108.below hl114
   have hb119 := hb101.below hl114
   have hb120 := hb102.below hl114
   have hb121 := hb103.below hl114
   have ha122 : Apart u110.ownBlock u11.ownBlock := new_ne_own hk115 ho100.lt
   have ha123 : Apart u110.ownBlock u94.ownBlock := new_ne_own hk115 ho108.lt
   have ha124 : Apart u110.ownBlock (some c) := new_ne_box hk115 hb101.lt
   have ha125 : Apart u110.ownBlock (some b1) := new_ne_box hk115 hb102.lt
   have ha126 : Apart u110.ownBlock (some b30) := new_ne_box hk115 hb103.lt
   have ho127 : Own eInt 3 G95 w111 w.heap.size u110 ([0, z53, (-1), 1]) := ho112.weaken hX99.size
   have hq128 := hq109.below hl114
   refine ⟨fun _ => ⟨hb121.reads, hq128⟩, ?_⟩
   obtain ⟨G129, hle132, hX131, hr130, hf133⟩ := ho127.sealed hX116
   have ho134 := ho117.moreO hle132 hf133 ha122.symm
   have ho135 := ho118.moreO hle132 hf133 ha123.symm
   have hb136 := hb119.moreO hf133 ha124.symm
   have hb137 := hb120.moreO hf133 ha125.symm
   have hb138 := hb121.moreO hf133 ha126.symm
   refine dr_one (i := 13) (by kernel_rfl) (drOp1 (i := 13) rfl rfl rfl (want_none rfl _) (o_call (vs := [(.pointer (some ⟨c, 0, none⟩)), u110]) Tryd.func57 nm57 rfl rfl rfl ?_))
   refine Calls.mono (among_spec hX131.pins hb136 (hc.mono (Pin.le_trans (Pin.le_trans hx23.le hx98.le) hle132)) (by omega) (by omega) hr130 (by simp)) ?_
   rintro _ w143 ⟨z139, a141, s142, rfl, hz140, hb144, hda145, hds146, hx147⟩
   refine ⟨_, rfl, ?_⟩
   have hX148 := hX131.trans hx147 (fun i hi => lo_self i hi)
   have ho149 := ho134.extS hx147 (notO ha26)
   have ho150 := ho135.extS hx147 (notO ha105)
   have hb151 := hb137.extS hx147 (notOb ha9)
   have hb152 := hb138.extS hx147 (notOb ha41)
   have hq153 := Gadd.turn hq128 (Pins.of_le hX148.pins (Pin.le_trans hx98.le hle132)) hx147 (notO ha26)
   refine ⟨fun _ => ⟨hb152.reads, hq153⟩, ?_⟩
   refine dr_one (i := 14) (by kernel_rfl) (drOp1 (i := 14) rfl rfl rfl (want_none rfl _) (o_buildF (E := eInt) (e := 3) [(.int .i64 z139)] [z139] Tryd.underlying40 sz3 zr3 (by exact reps1 (by rfl)) (ones1 (by rfl)) rfl rfl rfl rfl (by decide) hX148.pins (fun u154 w155 ho156 hp157 hl158 hk159 => ?_)))
   have hX160 := hX148.step hp157 hl158
   have ho161 := ho149.below hl158
   have ho162 := ho150.below hl158
   have hb163 := hb144.below hl158
   have hb164 := hb151.below hl158
   have hb165 := hb152.below hl158
   have ho171 : Own eInt 3 G129 w155 w.heap.size u154 ([z139]) := ho156.weaken hX148.size
   have hq172 := hq153.below hl158
   refine ⟨fun _ => ⟨hb165.reads, hq172⟩, ?_⟩
   refine dr_one (i := 15) (by kernel_rfl) (drOp1 (i := 15) rfl rfl rfl (want_none rfl _) (o_append (E := eInt) (v := u94) (u := u154) 8 Tryd.underlying40 ap3 (by decide) rfl rfl hX160.pins ho162 ho171.src (by first | omega | (rw [List.nil_append]; omega) | (rw [List.length_nil]; omega) | (rw [List.length_append]; omega) | (simp; done) | (simp; omega) | (simp only [List.length_cons, List.length_nil]; omega) | (simp only [List.length_append, List.length_cons, List.length_nil]; omega)) (by first | omega | (rw [List.nil_append]; omega) | (rw [List.length_nil]; omega) | (rw [List.length_append]; omega) | (simp; done) | (simp; omega) | (simp only [List.length_cons, List.length_nil]; omega) | (simp only [List.length_append, List.length_cons, List.length_nil]; omega)) (hX160.size) (fun u173 w174 ho175 hp176 hg177 hw178 => ?_)))
   have hX179 := hX160.write hp176 hg177 ((lo_own ho162))
   have ho180 := ho161.keptA hg177 ha104.symm
   have hb182 := hb163.keptA hg177 ha105.symm
   have hb183 := hb164.keptA hg177 ha106.symm
   have hb184 := hb165.keptA hg177 ha107.symm
   have ha185 : Apart u11.ownBlock u173.ownBlock := app_ne_own ha104.symm hw178 ho161.lt
   have ha187 : Apart (some c) u173.ownBlock := app_ne_box ha105.symm hw178 hb163.lt
   have ha188 : Apart (some b1) u173.ownBlock := app_ne_box ha106.symm hw178 hb164.lt
   have ha189 : Apart (some b30) u173.ownBlock := app_ne_box ha107.symm hw178 hb165.lt
   have hm190 : ((((formG g12).getD (z53).toNat default).l) ++ ([z139])).length = (((formG g12).getD (z53).toNat default).l).length + 1 := List.length_append
   have hq191 := Gadd.turn hq172 (Pins.of_le hX179.pins (Pin.le_trans hx98.le hle132)) (Ext.one hp176 hg177) (notO ha104.symm)
   refine ⟨fun _ => ⟨hb184.reads, hq191⟩, ?_⟩
   refine dr_one (i := 16) (by kernel_rfl) (drOp1 (i := 16) rfl rfl rfl (want_none rfl _) (EO.run (run_idx Tryd.underlying24 sz60 (v := u11) rfl rfl hr81 (by omega) (by omega)) ⟨fun _ => ⟨hb184.reads, hq191⟩, ?_⟩))
   refine dr_take (i := 17) rfl rfl rfl (want_none rfl _) (by kernel_rfl) (fun _ _ => run_fld (off := 0) Tryd.underlying60 rfl rfl nz40 (z := z53) (k := 0) rfl hr81 (by omega) (by omega)) ⟨hb184.reads, hq191⟩ ?_
   obtain ⟨G192, hle195, hX194, hr193, hf196⟩ := ho175.sealed hX179
   have ho197 := ho180.moreO hle195 hf196 ha185
   have hb198 := hb182.moreO hf196 ha187
   have hb199 := hb183.moreO hf196 ha188
   have hb200 := hb184.moreO hf196 ha189
   refine dr_one (i := 18) (by kernel_rfl) (drOp0 (i := 18) rfl rfl rfl (want_none rfl _) (o_setNL (v := u11) (z := z53) (u := u173) sz40 rfl rfl hr193 hX194.pins ho197 (by omega) (by omega) (fun w201 ho202 hp203 hg204 hz205 => ?_)))
   have hX206 := hX194.write hp203 hg204 ((lo_own ho197))
   have hb207 := hb198.keptA hg204 ha26.symm
   have hb208 := hb199.keptA hg204 ha27.symm
   have hb209 := hb200.keptA hg204 ha40
   refine ⟨fun h => absurd rfl h, ?_⟩
   refine dr_end (by kernel_rfl) ?_
   refine s_blkN ?_
   refine s_then (s_seq (c_reg ?_))
   refine qd rfl rfl rfl (r_ldpA (cs := [u11]) ag26 sz26 rfl (fun j u hj => hb209.cell (by simpa using hj))) ?_
   refine q0 rfl rfl rfl (o_stp (cs' := [u11]) (us := [u11]) (v := (.agg [u11].toArray)) sz26 rfl rfl rfl (ones1 ho202.one) hX206.pins hb208 (Nat.le_of_ble_eq_true rfl) rfl (fun w210 hb211 hp212 hg213 hz214 => ?_))
   have hX215 := hX206.write hp212 hg213 ((lo_box hlo10))
   have ho216 := ho202.keptA hg213 ha27
   have hb217 := hb207.keptA hg213 ha9.symm
   refine qe (s_then ?_)
   refine wp_ret ?_
   refine s_ret ?_
   refine c_retc (cs := [u11]) rfl rfl rfl ag26 sz26 (fun j u hj => by rw [Nat.zero_add]; exact hb211.cell hj) ?_
   obtain ⟨G219, hle222, hX221, hr220, hf223⟩ := ho216.sealed hX215
   have hb224 := hb217.moreO hf223 ha26.symm
   exact ⟨_, _, _, _, _, rfl, hr220, hb224, (by omega), (by omega), hX221⟩
  ·skip
   refine (drOp1 (i := 12) rfl rfl rfl (want_none rfl _) (o_buildF (E := eInt) (e := 3) [(.int .i64 0), (.int .i64 z53), (.int .i64 (-1)), (.int .i64 1)] [0, z53, (-1), 1] Tryd.underlying40 sz3 zr3 (by exact reps4 (by rfl) (by rfl) (by rfl) (by rfl)) (ones4 (by rfl) (by rfl) (by rfl) (by rfl)) rfl rfl rfl rfl (by decide) hX84.pins (fun u227 w228 ho229 hp230 hl231 hk232 => ?_)))
   have hX233 := hX84.step hp230 hl231
   have ho234 := ho85.below hl231
   have hb235 := hb86.below hl231
   have hb236 := hb87.below hl231
   have hb237 := hb88.below hl231
   have ha238 : Apart u227.ownBlock u11.ownBlock := new_ne_own hk232 ho85.lt
   have ha239 : Apart u227.ownBlock (some c) := new_ne_box hk232 hb86.lt
   have ha240 : Apart u227.ownBlock (some b1) := new_ne_box hk232 hb87.lt
   have ha241 : Apart u227.ownBlock (some b30) := new_ne_box hk232 hb88.lt
   have ho242 : Own eInt 3 G15 w228 w.heap.size u227 ([0, z53, (-1), 1]) := ho229.weaken hX84.size
   have hq243 := hq89.below hl231
   refine ⟨fun _ => ⟨hb237.reads, hq243⟩, ?_⟩
   refine dr_one (i := 9) (by kernel_rfl) (drOp1 (i := 9) rfl rfl rfl (want_none rfl _) (o_call (vs := [u90]) Tryd.func56 nm56 rfl rfl rfl ?_))
   refine Calls.mono (l1Own_spec hX233.pins hr91 (by omega)) ?_
   rintro _ w246 ⟨u244, G245, rfl, ho247, hx248⟩
   refine ⟨_, rfl, ?_⟩
   have hX249 := hX233.tr hx248
   have ho250 := ho234.ext hx248
   have ho251 := ho242.ext hx248
   have hb252 := hb235.ext hx248
   have hb253 := hb236.ext hx248
   have hb254 := hb237.ext hx248
   have ha255 : Apart u244.ownBlock u11.ownBlock := made_ne_own ho247.lt ho234.lt
   have ha256 : Apart u244.ownBlock u227.ownBlock := made_ne_own ho247.lt ho242.lt
   have ha257 : Apart u244.ownBlock (some c) := made_ne_box ho247.lt hb235.lt
   have ha258 : Apart u244.ownBlock (some b1) := made_ne_box ho247.lt hb236.lt
   have ha259 : Apart u244.ownBlock (some b30) := made_ne_box ho247.lt hb237.lt
   have ho260 : Own eInt 3 G245 w246 w.heap.size u244 (((formG g12).getD (z53).toNat default).l) := ho247.weaken hX233.size
   have hq261 := hq243.below hx248.below
   refine ⟨fun _ => ⟨hb254.reads, hq261⟩, ?_⟩
   obtain ⟨G262, hle265, hX264, hr263, hf266⟩ := ho251.sealed hX249
   have ho267 := ho250.moreO hle265 hf266 ha238.symm
   have ho268 := ho260.moreO hle265 hf266 ha256
   have hb269 := hb252.moreO hf266 ha239.symm
   have hb270 := hb253.moreO hf266 ha240.symm
   have hb271 := hb254.moreO hf266 ha241.symm
   refine dr_one (i := 13) (by kernel_rfl) (drOp1 (i := 13) rfl rfl rfl (want_none rfl _) (o_call (vs := [(.pointer (some ⟨c, 0, none⟩)), u227]) Tryd.func57 nm57 rfl rfl rfl ?_))
   refine Calls.mono (among_spec hX264.pins hb269 (hc.mono (Pin.le_trans (Pin.le_trans hx23.le hx248.le) hle265)) (by omega) (by omega) hr263 (by simp)) ?_
   rintro _ w276 ⟨z272, a274, s275, rfl, hz273, hb277, hda278, hds279, hx280⟩
   refine ⟨_, rfl, ?_⟩
   have hX281 := hX264.trans hx280 (fun i hi => lo_self i hi)
   have ho282 := ho267.extS hx280 (notO ha26)
   have ho283 := ho268.extS hx280 (notO ha257)
   have hb284 := hb270.extS hx280 (notOb ha9)
   have hb285 := hb271.extS hx280 (notOb ha41)
   have hq286 := Gadd.turn hq261 (Pins.of_le hX281.pins (Pin.le_trans hx248.le hle265)) hx280 (notO ha26)
   refine ⟨fun _ => ⟨hb285.reads, hq286⟩, ?_⟩
   refine dr_one (i := 14) (by kernel_rfl) (drOp1 (i := 14) rfl rfl rfl (want_none rfl _) (o_buildF (E := eInt) (e := 3) [(.int .i64 z272)] [z272] Tryd.underlying40 sz3 zr3 (by exact reps1 (by rfl)) (ones1 (by rfl)) rfl rfl rfl rfl (by decide) hX281.pins (fun u287 w288 ho289 hp290 hl291 hk292 => ?_)))
   have hX293 := hX281.step hp290 hl291
   have ho294 := ho282.below hl291
   have ho295 := ho283.below hl291
   have hb296 := hb277.below hl291
   have hb297 := hb284.below hl291
   have hb298 := hb285.below hl291
   have ho304 : Own eInt 3 G262 w288 w.heap.size u287 ([z272]) := ho289.weaken hX281.size
   have hq305 := hq286.below hl291
   refine ⟨fun _ => ⟨hb298.reads, hq305⟩, ?_⟩
   refine dr_one (i := 15) (by kernel_rfl) (drOp1 (i := 15) rfl rfl rfl (want_none rfl _) (o_append (E := eInt) (v := u244) (u := u287) 8 Tryd.underlying40 ap3 (by decide) rfl rfl hX293.pins ho295 ho304.src (by first | omega | (rw [List.nil_append]; omega) | (rw [List.length_nil]; omega) | (rw [List.length_append]; omega) | (simp; done) | (simp; omega) | (simp only [List.length_cons, List.length_nil]; omega) | (simp only [List.length_append, List.length_cons, List.length_nil]; omega)) (by first | omega | (rw [List.nil_append]; omega) | (rw [List.length_nil]; omega) | (rw [List.length_append]; omega) | (simp; done) | (simp; omega) | (simp only [List.length_cons, List.length_nil]; omega) | (simp only [List.length_append, List.length_cons, List.length_nil]; omega)) (hX293.size) (fun u306 w307 ho308 hp309 hg310 hw311 => ?_)))
   have hX312 := hX293.write hp309 hg310 ((lo_own ho295))
   have ho313 := ho294.keptA hg310 ha255.symm
   have hb315 := hb296.keptA hg310 ha257.symm
   have hb316 := hb297.keptA hg310 ha258.symm
   have hb317 := hb298.keptA hg310 ha259.symm
   have ha318 : Apart u11.ownBlock u306.ownBlock := app_ne_own ha255.symm hw311 ho294.lt
   have ha320 : Apart (some c) u306.ownBlock := app_ne_box ha257.symm hw311 hb296.lt
   have ha321 : Apart (some b1) u306.ownBlock := app_ne_box ha258.symm hw311 hb297.lt
   have ha322 : Apart (some b30) u306.ownBlock := app_ne_box ha259.symm hw311 hb298.lt
   have hm323 : ((((formG g12).getD (z53).toNat default).l) ++ ([z272])).length = (((formG g12).getD (z53).toNat default).l).length + 1 := List.length_append
   have hq324 := Gadd.turn hq305 (Pins.of_le hX312.pins (Pin.le_trans hx248.le hle265)) (Ext.one hp309 hg310) (notO ha255.symm)
   refine ⟨fun _ => ⟨hb317.reads, hq324⟩, ?_⟩
   refine dr_one (i := 16) (by kernel_rfl) (drOp1 (i := 16) rfl rfl rfl (want_none rfl _) (EO.run (run_idx Tryd.underlying24 sz60 (v := u11) rfl rfl hr81 (by omega) (by omega)) ⟨fun _ => ⟨hb317.reads, hq324⟩, ?_⟩))
   refine dr_take (i := 17) rfl rfl rfl (want_none rfl _) (by kernel_rfl) (fun _ _ => run_fld (off := 0) Tryd.underlying60 rfl rfl nz40 (z := z53) (k := 0) rfl hr81 (by omega) (by omega)) ⟨hb317.reads, hq324⟩ ?_
   obtain ⟨G325, hle328, hX327, hr326, hf329⟩ := ho308.sealed hX312
   have ho330 := ho313.moreO hle328 hf329 ha318
   have hb331 := hb315.moreO hf329 ha320
   have hb332 := hb316.moreO hf329 ha321
   have hb333 := hb317.moreO hf329 ha322
   refine dr_one (i := 18) (by kernel_rfl) (drOp0 (i := 18) rfl rfl rfl (want_none rfl _) (o_setNL (v := u11) (z := z53) (u := u306) sz40 rfl rfl hr326 hX327.pins ho330 (by omega) (by omega) (fun w334 ho335 hp336 hg337 hz338 => ?_)))
   have hX339 := hX327.write hp336 hg337 ((lo_own ho330))
   have hb340 := hb331.keptA hg337 ha26.symm
   have hb341 := hb332.keptA hg337 ha27.symm
   have hb342 := hb333.keptA hg337 ha40
   refine ⟨fun h => absurd rfl h, ?_⟩
   refine dr_end (by kernel_rfl) ?_
   refine s_blkN ?_
   refine s_then (s_seq (c_reg ?_))
   refine qd rfl rfl rfl (r_ldpA (cs := [u11]) ag26 sz26 rfl (fun j u hj => hb342.cell (by simpa using hj))) ?_
   refine q0 rfl rfl rfl (o_stp (cs' := [u11]) (us := [u11]) (v := (.agg [u11].toArray)) sz26 rfl rfl rfl (ones1 ho335.one) hX339.pins hb341 (Nat.le_of_ble_eq_true rfl) rfl (fun w343 hb344 hp345 hg346 hz347 => ?_))
   have hX348 := hX339.write hp345 hg346 ((lo_box hlo10))
   have ho349 := ho335.keptA hg346 ha27
   have hb350 := hb340.keptA hg346 ha9.symm
   refine qe (s_then ?_)
   refine wp_ret ?_
   refine s_ret ?_
   refine c_retc (cs := [u11]) rfl rfl rfl ag26 sz26 (fun j u hj => by rw [Nat.zero_add]; exact hb344.cell hj) ?_
   obtain ⟨G352, hle355, hX354, hr353, hf356⟩ := ho349.sealed hX348
   have hb357 := hb350.moreO hf356 ha26.symm
   exact ⟨_, _, _, _, _, rfl, hr353, hb357, (by omega), (by omega), hX354⟩
 refine s_seq (c_reg ?_)
 refine qd rfl rfl rfl (r_eql rfl rfl) ?_
 refine qd rfl rfl rfl (r_assign (v := (.bool (decide ((z66 : Int) = 1)))) rfl) ?_
 refine qe (s_then ?_)
 refine c_ifd (p := (z66 : Int) = 1) rfl rfl (fun h360 => ?_) (fun h360 => ?_)
 ·skip
  refine c_reg ?_
  refine qd rfl rfl rfl (r_fldp (k := 0) rfl Tryd.underlying26 rfl nz24 rfl) ?_
  refine qd rfl rfl rfl (r_ldp1 (u := u11) ag24 rfl (hb78.cell (o := 0) rfl)) ?_
  refine q1 rfl rfl rfl (o_buildF (E := eInt) (e := 3) [(.int .i64 0)] [0] Tryd.underlying40 sz3 zr3 (by exact reps1 (by rfl)) (ones1 (by rfl)) rfl rfl rfl rfl (by decide) hX75.pins (fun u361 w362 ho363 hp364 hl365 hk366 => ?_))
  have hX367 := hX75.step hp364 hl365
  have ho368 := ho76.below hl365
  have hb369 := hb71.below hl365
  have hb370 := hb77.below hl365
  have hb371 := hb78.below hl365
  have ha372 : Apart u361.ownBlock u11.ownBlock := new_ne_own hk366 ho76.lt
  have ha373 : Apart u361.ownBlock (some c) := new_ne_box hk366 hb71.lt
  have ha374 : Apart u361.ownBlock (some b1) := new_ne_box hk366 hb77.lt
  have ha375 : Apart u361.ownBlock (some b30) := new_ne_box hk366 hb78.lt
  have ho376 : Own eInt 3 G15 w362 w.heap.size u361 ([0]) := ho363.weaken hX75.size
  refine qd rfl rfl rfl (r_build [(.slice none 0 0), (.slice none 0 0)] [(.slice none 0 0), u361] [(1, u361, [u361])] Tryd.underlying60 zr60 rfl pl60 rfl (List.forall_mem_cons.2 ⟨(cells_one ho376.one), (fun _ h => by cases h)⟩) rfl) ?_
  obtain ⟨G377, hle380, hX379, hr378, hf381⟩ := ho376.sealed hX367
  have ho382 := ho368.moreO hle380 hf381 ha372.symm
  have hb383 := hb369.moreO hf381 ha373.symm
  have hb384 := hb370.moreO hf381 ha374.symm
  have hb385 := hb371.moreO hf381 ha375.symm
  refine q1 rfl rfl rfl (o_build1 (E := eNode) (e := 60) [(.slice none 0 0), u361] (⟨[], [0]⟩ : Nd) Tryd.underlying24 sz60 zr60 ⟨_, _, rfl, (nil_reads _ _), hr378⟩ rfl (by decide) hX379.pins (fun u386 w387 ho388 hp389 hl390 hk391 => ?_))
  have hX392 := hX379.step hp389 hl390
  have ho393 := ho382.below hl390
  have hb394 := hb383.below hl390
  have hb395 := hb384.below hl390
  have hb396 := hb385.below hl390
  have ho401 : Own eNode 60 G377 w387 w.heap.size u386 ([(⟨[], [0]⟩ : Nd)]) := ho388.weaken hX379.size
  refine q1 rfl rfl rfl (o_append (E := eNode) (v := u11) (u := u386) 48 Tryd.underlying24 ap60 (by decide) rfl rfl hX392.pins ho393 ho401.src (by first | omega | (rw [List.nil_append]; omega) | (rw [List.length_nil]; omega) | (rw [List.length_append]; omega) | (simp; done) | (simp; omega) | (simp only [List.length_cons, List.length_nil]; omega) | (simp only [List.length_append, List.length_cons, List.length_nil]; omega)) (by first | omega | (rw [List.nil_append]; omega) | (rw [List.length_nil]; omega) | (rw [List.length_append]; omega) | (simp; done) | (simp; omega) | (simp only [List.length_cons, List.length_nil]; omega) | (simp only [List.length_append, List.length_cons, List.length_nil]; omega)) (hX392.size) (fun u402 w403 ho404 hp405 hg406 hw407 => ?_))
  have hX408 := hX392.write hp405 hg406 ((lo_own ho393))
  have hb410 := hb394.keptA hg406 ha26.symm
  have hb411 := hb395.keptA hg406 ha27.symm
  have hb412 := hb396.keptA hg406 ha40
  have ha414 : Apart (some c) u402.ownBlock := app_ne_box ha26.symm hw407 hb394.lt
  have ha415 : Apart (some b1) u402.ownBlock := app_ne_box ha27.symm hw407 hb395.lt
  have ha416 : Apart (some b30) u402.ownBlock := app_ne_box ha40 hw407 hb396.lt
  have hm417 : ((formG g12) ++ ([(⟨[], [0]⟩ : Nd)])).length = (formG g12).length + 1 := List.length_append
  refine qd rfl rfl rfl (r_fldp (k := 0) rfl Tryd.underlying26 rfl nz24 rfl) ?_
  refine q0 rfl rfl rfl (o_stp (cs' := [u402]) (us := [u402]) (v := u402) sz24 rfl rfl (cells1 ho404.one) (ones1 ho404.one) hX408.pins hb412 (Nat.le_of_ble_eq_true rfl) rfl (fun w418 hb419 hp420 hg421 hz422 => ?_))
  have hX423 := hX408.write hp420 hg421 ((lo_box hlo43))
  have ho424 := ho404.keptA hg421 ha416.symm
  have hb425 := hb410.keptA hg421 ha41.symm
  have hb426 := hb411.keptA hg421 ha42.symm
  refine qe ?_
  refine s_blkN ?_
  refine s_then (s_seq (c_reg ?_))
  refine qd rfl rfl rfl (r_ldpA (cs := [u402]) ag26 sz26 rfl (fun j u hj => hb419.cell (by simpa using hj))) ?_
  refine q0 rfl rfl rfl (o_stp (cs' := [u402]) (us := [u402]) (v := (.agg [u402].toArray)) sz26 rfl rfl rfl (ones1 ho424.one) hX423.pins hb426 (Nat.le_of_ble_eq_true rfl) rfl (fun w427 hb428 hp429 hg430 hz431 => ?_))
  have hX432 := hX423.write hp429 hg430 ((lo_box hlo10))
  have ho433 := ho424.keptA hg430 ha415.symm
  have hb434 := hb425.keptA hg430 ha9.symm
  refine qe (s_then ?_)
  refine wp_ret ?_
  refine s_ret ?_
  refine c_retc (cs := [u402]) rfl rfl rfl ag26 sz26 (fun j u hj => by rw [Nat.zero_add]; exact hb428.cell hj) ?_
  obtain ⟨G436, hle439, hX438, hr437, hf440⟩ := ho433.sealed hX432
  have hb441 := hb434.moreO hf440 ha414
  exact ⟨_, _, _, _, _, rfl, hr437, hb441, (by omega), (by omega), hX438⟩
 refine s_seq (c_reg ?_)
 refine qd rfl rfl rfl (r_eql rfl rfl) ?_
 refine qd rfl rfl rfl (r_assign (v := (.bool (decide ((z66 : Int) = 2)))) rfl) ?_
 refine qe (s_then ?_)
 refine c_ifd (p := (z66 : Int) = 2) rfl rfl (fun h444 => ?_) (fun h444 => ?_)
 ·skip
  refine c_reg ?_
  refine qd rfl rfl rfl (r_fldp (k := 0) rfl Tryd.underlying26 rfl nz24 rfl) ?_
  refine qd rfl rfl rfl (r_ldp1 (u := u11) ag24 rfl (hb78.cell (o := 0) rfl)) ?_
  refine qd rfl rfl rfl (r_fldp (k := 0) rfl Tryd.underlying26 rfl nz24 rfl) ?_
  refine qd rfl rfl rfl (r_ldp1 (u := u11) ag24 rfl (hb78.cell (o := 0) rfl)) ?_
  refine qd rfl rfl rfl (run_len Tryd.underlying24 (v := u11) rfl ho76.read) ?_
  refine qd rfl rfl rfl (r_sub rfl rfl (by omega)) ?_
  obtain ⟨u445, ho446, hb447, hl448⟩ := own_cut ho76 ((((formG g12).length : Int) - 1).toNat) (((formG g12).length : Int) - 1) (by omega) rfl (by omega) (by omega)
  have ha449 : Apart u445.ownBlock (some c) := by rw [hb447]; exact ha26
  have ha450 : Apart u445.ownBlock (some b1) := by rw [hb447]; exact ha27
  have ha451 : Apart (some b30) u445.ownBlock := by rw [hb447]; exact ha40
  refine qd rfl rfl rfl (hl448 Tryd.underlying24 sz60 rfl rfl rfl) ?_
  refine qd rfl rfl rfl (r_fldp (k := 0) rfl Tryd.underlying26 rfl nz24 rfl) ?_
  refine q0 rfl rfl rfl (o_stp (cs' := [u445]) (us := [u445]) (v := u445) sz24 rfl rfl (cells1 ho446.one) (ones1 ho446.one) hX75.pins hb78 (Nat.le_of_ble_eq_true rfl) rfl (fun w452 hb453 hp454 hg455 hz456 => ?_))
  have hX457 := hX75.write hp454 hg455 ((lo_box hlo43))
  have ho458 := ho446.keptA hg455 ha451.symm
  have hb459 := hb71.keptA hg455 ha41.symm
  have hb460 := hb77.keptA hg455 ha42.symm
  refine qe ?_
  refine s_blkN ?_
  refine s_then (s_seq (c_reg ?_))
  refine qd rfl rfl rfl (r_ldpA (cs := [u445]) ag26 sz26 rfl (fun j u hj => hb453.cell (by simpa using hj))) ?_
  refine q0 rfl rfl rfl (o_stp (cs' := [u445]) (us := [u445]) (v := (.agg [u445].toArray)) sz26 rfl rfl rfl (ones1 ho458.one) hX457.pins hb460 (Nat.le_of_ble_eq_true rfl) rfl (fun w461 hb462 hp463 hg464 hz465 => ?_))
  have hX466 := hX457.write hp463 hg464 ((lo_box hlo10))
  have ho467 := ho458.keptA hg464 ha450
  have hb468 := hb459.keptA hg464 ha9.symm
  refine qe (s_then ?_)
  refine wp_ret ?_
  refine s_ret ?_
  refine c_retc (cs := [u445]) rfl rfl rfl ag26 sz26 (fun j u hj => by rw [Nat.zero_add]; exact hb462.cell hj) ?_
  obtain ⟨G470, hle473, hX472, hr471, hf474⟩ := ho467.sealed hX466
  have hb475 := hb468.moreO hf474 ha449.symm
  exact ⟨_, _, _, _, _, rfl, hr471, hb475, (by omega), (by omega), hX472⟩
 refine s_seq (c_reg ?_)
 refine qd rfl rfl rfl (r_eql rfl rfl) ?_
 refine qd rfl rfl rfl (r_assign (v := (.bool (decide ((z66 : Int) = 3)))) rfl) ?_
 refine qe (s_then ?_)
 refine c_ifd (p := (z66 : Int) = 3) rfl rfl (fun h478 => ?_) (fun h478 => ?_)
 ·skip
  refine s_seq (c_reg ?_)
  refine qd rfl rfl rfl (r_fldp (k := 0) rfl Tryd.underlying26 rfl nz24 rfl) ?_
  refine qd rfl rfl rfl (r_ldp1 (u := u11) ag24 rfl (hb78.cell (o := 0) rfl)) ?_
  refine qd rfl rfl rfl (run_idx Tryd.underlying24 sz60 (v := u11) rfl rfl ho76.read (by omega) (by omega)) ?_
  obtain ⟨u479, u480, hr481, hr482, hl483⟩ := nm_node (ho76.at (z := 0) (by omega) (by omega)) (j := 0) rfl
  have hm484 := hr481.max
  have hm485 := hr482.max
  refine qd rfl rfl rfl (hl483 ag60 sz60 rfl (Gadd.pins hX75.pins u11)) ?_
  refine q1 rfl rfl rfl (o_alloc [(.slice none 0 0), (.slice none 0 0)] zr60 rfl hX75.pins (fun b486 w487 hk488 hb489 hp490 hl491 => ?_))
  have hX492 := hX75.step hp490 hl491
  have ho493 := ho76.below hl491
  have hb494 := hb71.below hl491
  have hb495 := hb77.below hl491
  have hb496 := hb78.below hl491
  have ha497 : Apart (some b486) u11.ownBlock := new_ne_own (congrArg some hk488) ho76.lt
  have ha498 : Apart (some b486) (some c) := new_ne_box (congrArg some hk488) hb71.lt
  have ha499 : Apart (some b486) (some b1) := new_ne_box (congrArg some hk488) hb77.lt
  have ha500 : Apart (some b486) (some b30) := new_ne_box (congrArg some hk488) hb78.lt
  have hlo501 : w.heap.size ≤ b486 := by have := hX75.size; omega
  refine q0 rfl rfl rfl (o_stp (cs' := [u479, u480]) (us := [u479, u480]) (v := (.agg [u479, u480].toArray)) sz60 rfl rfl rfl (ones2 hr481.one hr482.one) hX492.pins hb489 (Nat.le_of_ble_eq_true rfl) rfl (fun w502 hb503 hp504 hg505 hz506 => ?_))
  have hX507 := hX492.write hp504 hg505 ((lo_box hlo501))
  have ho508 := ho493.keptA hg505 ha497.symm
  have hb509 := hb494.keptA hg505 ha498.symm
  have hb510 := hb495.keptA hg505 ha499.symm
  have hb511 := hb496.keptA hg505 ha500.symm
  obtain ⟨G512, hle513, hX514, hbp515, hf516⟩ := hb503.shut hX507 hlo501
  have ho517 := ho508.moreA hle513 hf516 ha497.symm
  have hb518 := hb509.moreA hf516 ha498.symm
  have hb519 := hb510.moreA hf516 ha499.symm
  have hb520 := hb511.moreA hf516 ha500.symm
  refine qe (s_then (s_seq ?_))
  have hq521 := Gadd.pins hX514.pins u11
  have hr522 := ho517.read
  refine c_draw (S := fun wz => BxR wz b30 [u11] ∧ Pins (Gadd G512 w502 u11) wz) (last := 8) (by kernel_rfl) rfl ?_
  have hl523 : Below w502.heap.size w502 w502.drew := (Below.refl _ _).drew
  have hp524 := hX514.pins.below hl523
  have hX525 := hX514.step hp524 hl523
  have ho526 := ho517.below hl523
  have hb527 := hb518.below hl523
  have hb528 := hb519.below hl523
  have hb529 := hb520.below hl523
  have hq530 := hq521.below hl523
  refine dr_take (i := 0) rfl rfl rfl (want_none rfl _) (by kernel_rfl) (fun _ _ => r_fldp (k := 0) rfl Tryd.underlying26 rfl nz24 rfl) ⟨hb529.reads, hq530⟩ ?_
  refine dr_take (i := 1) rfl rfl rfl (want_none rfl _) (by kernel_rfl) (fun _ hS => r_ldp1 (u := u11) ag24 rfl (hS.1 0 _ rfl)) ⟨hb529.reads, hq530⟩ ?_
  refine dr_take (i := 2) rfl rfl rfl (want_none rfl _) (by kernel_rfl) (fun _ _ => r_fldp (k := 0) rfl Tryd.underlying26 rfl nz24 rfl) ⟨hb529.reads, hq530⟩ ?_
  refine dr_take (i := 3) rfl rfl rfl (want_none rfl _) (by kernel_rfl) (fun _ hS => r_ldp1 (u := u11) ag24 rfl (hS.1 0 _ rfl)) ⟨hb529.reads, hq530⟩ ?_
  refine dr_take (i := 4) rfl rfl rfl (want_none rfl _) (by kernel_rfl) (fun _ _ => r_move (v := (.int .i64 z53)) rfl) ⟨hb529.reads, hq530⟩ ?_
  refine dr_take (i := 5) rfl rfl rfl (want_none rfl _) (by kernel_rfl) (fun _ _ => run_idx Tryd.underlying24 sz60 (v := u11) rfl rfl hr522 (by omega) (by omega)) ⟨hb529.reads, hq530⟩ ?_
  obtain ⟨u531, u532, hr533, hr534, hl535⟩ := nm_node (ho517.at (z := z53) (by omega) (by omega)) (j := (z53).toNat) rfl
  have hm536 := hr533.max
  have hm537 := hr534.max
  refine dr_take (i := 6) rfl rfl rfl (want_none rfl _) (by kernel_rfl) (fun _ hS => hl535 ag60 sz60 rfl hS.2) ⟨hb529.reads, hq530⟩ ?_
  refine dr_take (i := 7) rfl rfl rfl (want_none rfl _) (by kernel_rfl) (fun _ _ => run_idx Tryd.underlying24 sz60 (v := u11) rfl rfl hr522 (by omega) (by omega)) ⟨hb529.reads, hq530⟩ ?_
  refine dr_one (i := 8) (by kernel_rfl) (drOp0 (i := 8) rfl rfl rfl (want_none rfl _) (o_set (E := eNode) (v := u11) (u := (.agg [u531, u532].toArray)) (z := 0) ((⟨((formG g12).getD (z53).toNat default).l, ((formG g12).getD (z53).toNat default).r⟩ : Nd)) sz60 rfl rfl rfl ⟨_, _, rfl, hr533, hr534⟩ hX525.pins ho526 (by omega) (by omega) (fun w538 ho539 hp540 hg541 hz542 => ?_)))
  have hX543 := hX525.write hp540 hg541 ((lo_own ho526))
  have hb544 := hb527.keptA hg541 ha26.symm
  have hb545 := hb528.keptA hg541 ha27.symm
  have hb546 := hb529.keptA hg541 ha40
  have ho547 : Own eNode 60 G512 w538 w.heap.size u11 ((formG g12).set 0 (⟨((formG g12).getD (z53).toNat default).l, ((formG g12).getD (z53).toNat default).r⟩ : Nd)) := ho539
  have hm548 : ((formG g12).set 0 (⟨((formG g12).getD (z53).toNat default).l, ((formG g12).getD (z53).toNat default).r⟩ : Nd)).length = (formG g12).length := List.length_set ..
  refine ⟨fun h => absurd rfl h, ?_⟩
  refine dr_end (by kernel_rfl) ?_
  refine s_then (c_reg ?_)
  refine qd rfl rfl rfl (r_fldp (k := 0) rfl Tryd.underlying26 rfl nz24 rfl) ?_
  refine qd rfl rfl rfl (r_ldp1 (u := u11) ag24 rfl (hb546.cell (o := 0) rfl)) ?_
  refine qd rfl rfl rfl (r_move (v := (.int .i64 z53)) rfl) ?_
  refine qd rfl rfl rfl (r_ldpA (cs := [u479, u480]) ag60 sz60 rfl (fun j u hj => hX543.pins _ _ _ (hbp515 _ _ (by simpa using hj)))) ?_
  refine qd rfl rfl rfl (run_idx Tryd.underlying24 sz60 (v := u11) rfl rfl ho547.read (by omega) (by omega)) ?_
  refine q0 rfl rfl rfl (o_set (E := eNode) (v := u11) (u := (.agg [u479, u480].toArray)) (z := z53) ((⟨((formG g12).getD 0 default).l, ((formG g12).getD 0 default).r⟩ : Nd)) sz60 rfl rfl rfl ⟨_, _, rfl, (hr481.mono hle513), (hr482.mono hle513)⟩ hX543.pins ho547 (by omega) (by omega) (fun w549 ho550 hp551 hg552 hz553 => ?_))
  have hX554 := hX543.write hp551 hg552 ((lo_own ho547))
  have hb555 := hb544.keptA hg552 ha26.symm
  have hb556 := hb545.keptA hg552 ha27.symm
  have hb557 := hb546.keptA hg552 ha40
  have ho558 : Own eNode 60 G512 w549 w.heap.size u11 (((formG g12).set 0 (⟨((formG g12).getD (z53).toNat default).l, ((formG g12).getD (z53).toNat default).r⟩ : Nd)).set (z53).toNat (⟨((formG g12).getD 0 default).l, ((formG g12).getD 0 default).r⟩ : Nd)) := ho550
  have hm559 : (((formG g12).set 0 (⟨((formG g12).getD (z53).toNat default).l, ((formG g12).getD (z53).toNat default).r⟩ : Nd)).set (z53).toNat (⟨((formG g12).getD 0 default).l, ((formG g12).getD 0 default).r⟩ : Nd)).length = ((formG g12).set 0 (⟨((formG g12).getD (z53).toNat default).l, ((formG g12).getD (z53).toNat default).r⟩ : Nd)).length := List.length_set ..
  refine qe ?_
  refine s_blkN ?_
  refine s_then (s_seq (c_reg ?_))
  refine qd rfl rfl rfl (r_ldpA (cs := [u11]) ag26 sz26 rfl (fun j u hj => hb557.cell (by simpa using hj))) ?_
  refine q0 rfl rfl rfl (o_stp (cs' := [u11]) (us := [u11]) (v := (.agg [u11].toArray)) sz26 rfl rfl rfl (ones1 ho558.one) hX554.pins hb556 (Nat.le_of_ble_eq_true rfl) rfl (fun w560 hb561 hp562 hg563 hz564 => ?_))
  have hX565 := hX554.write hp562 hg563 ((lo_box hlo10))
  have ho566 := ho558.keptA hg563 ha27
  have hb567 := hb555.keptA hg563 ha9.symm
  refine qe (s_then ?_)
  refine wp_ret ?_
  refine s_ret ?_
  refine c_retc (cs := [u11]) rfl rfl rfl ag26 sz26 (fun j u hj => by rw [Nat.zero_add]; exact hb561.cell hj) ?_
  obtain ⟨G569, hle572, hX571, hr570, hf573⟩ := ho566.sealed hX565
  have hb574 := hb567.moreO hf573 ha26.symm
  exact ⟨_, _, _, _, _, rfl, hr570, hb574, (by omega), (by omega), hX571⟩
 refine wp_skip ?_
 refine s_blkN ?_
 refine s_then (s_seq (c_reg ?_))
 refine qd rfl rfl rfl (r_ldpA (cs := [u11]) ag26 sz26 rfl (fun j u hj => hb78.cell (by simpa using hj))) ?_
 refine q0 rfl rfl rfl (o_stp (cs' := [u11]) (us := [u11]) (v := (.agg [u11].toArray)) sz26 rfl rfl rfl (ones1 ho76.one) hX75.pins hb77 (Nat.le_of_ble_eq_true rfl) rfl (fun w577 hb578 hp579 hg580 hz581 => ?_))
 have hX582 := hX75.write hp579 hg580 ((lo_box hlo10))
 have ho583 := ho76.keptA hg580 ha27
 have hb584 := hb71.keptA hg580 ha9.symm
 refine qe (s_then ?_)
 refine wp_ret ?_
 refine s_ret ?_
 refine c_retc (cs := [u11]) rfl rfl rfl ag26 sz26 (fun j u hj => by rw [Nat.zero_add]; exact hb578.cell hj) ?_
 obtain ⟨G586, hle589, hX588, hr587, hf590⟩ := ho583.sealed hX582
 have hb591 := hb584.moreO hf590 ha26.symm
 exact ⟨_, _, _, _, _, rfl, hr587, hb591, (by omega), (by omega), hX588⟩

end DV1
end Go.Proofs.YtkfgdhanaijddaaDoor

set_option maxRecDepth 20000
set_option maxHeartbeats 2000000
namespace Go.Proofs.YtkfgdhanaijddaaDoor
namespace DV2
open Go.RowKit Go.GL Go.Proofs
open Go.Proofs.YtkfgdhanaijddaaDoor.B1
open Go.Proofs.YtkfgdhanaijddaaDoor.C1
open Go.Proofs.YtkfgdhanaijddaaDoor.D1
open Go.Proofs.YtkfgdhanaijddaaDoor.E1
open Go.Proofs.YtkfgdhanaijddaaDoor.MK1
open Go.Proofs.YtkfgdhanaijddaaDoor.DR1
open Go.Proofs.YtkfgdhanaijddaaDoor.DR2
open Go.Proofs.YtkfgdhanaijddaaDoor.DV1
theorem vBig_spec {w : World} {G : Pin} {v : Value} {code : List UInt8} (hP : Pins G w) (hc : RSl eByte G v code) :
  Calls Tryd.prog 6 [v].toArray w fun e w' => e = .returned (.bool (decide ((65536 : Int) < (code.length : Int)))) ∧ Ext noS G w G w' := by
 refine s_enter (n := 6) Tryd.func6 Tryd.ntmps6 rfl rfl ?_
 have hX0 : Ext noS G w G w := Ext.refl hP
 have hm := hc.max
 refine s_seq (c_reg ?_)
 refine qd rfl rfl rfl (r_assign (v := (.bool false)) rfl) ?_
 refine qe (s_then (s_seq (c_reg ?_)))
 refine qd rfl rfl rfl (r_move (v := v) rfl) ?_
 refine qd rfl rfl rfl (run_len Tryd.underlying22 (v := v) rfl hc) ?_
 refine qd rfl rfl rfl (r_gtr rfl rfl) ?_
 refine qd rfl rfl rfl (r_assign (v := (.bool (decide ((65536 : Int) < (code.length : Int))))) rfl) ?_
 refine qe (s_then ?_)
 refine wp_ret ?_
 refine s_ret ?_
 refine c_ret1 (v := (.bool (decide ((65536 : Int) < (code.length : Int))))) rfl rfl rfl ?_
 exact ⟨rfl, hX0⟩

end DV2
end Go.Proofs.YtkfgdhanaijddaaDoor

set_option maxRecDepth 20000
set_option maxHeartbeats 2000000
namespace Go.Proofs.YtkfgdhanaijddaaDoor
namespace GW1
open Go.RowKit Go.GL Go.Proofs
open Go.Proofs.YtkfgdhanaijddaaDoor.B1
open Go.Proofs.YtkfgdhanaijddaaDoor.C1
open Go.Proofs.YtkfgdhanaijddaaDoor.D1
open Go.Proofs.YtkfgdhanaijddaaDoor.E1
open Go.Proofs.YtkfgdhanaijddaaDoor.MK1
open Go.Proofs.YtkfgdhanaijddaaDoor.DR1
open Go.Proofs.YtkfgdhanaijddaaDoor.DR2
open Go.Proofs.YtkfgdhanaijddaaDoor.DV1
open Go.Proofs.YtkfgdhanaijddaaDoor.DV2






theorem pl26 : (Tryd.prog.underlying 26).bind (placesD Tryd.prog) = some [(0, 1)] := by kernel_rfl
theorem pl53 : (Tryd.prog.underlying 53).bind (placesD Tryd.prog) = some [(0, 1), (1, 1), (2, 1)] := by kernel_rfl
theorem pl60 : (Tryd.prog.underlying 60).bind (placesD Tryd.prog) = some [(0, 1), (1, 1)] := by kernel_rfl






theorem vInts_spec {w : World} {G : Pin} {u v : Value} {xs ys : List Int} (hP : Pins G w) (hu : RSl eInt G u xs) (hv : RSl eInt G v ys) :
  Calls Tryd.prog 22 [u, v].toArray w fun e w' => e = .returned (.bool (decide (xs = ys))) ∧ Ext noS G w G w' := by
 refine s_enter (n := 26) Tryd.func22 Tryd.ntmps22 rfl rfl ?_
 have hX0 : Ext noS G w G w := Ext.refl hP
 have hm := hu.max
 refine s_seq (c_reg ?_)
 refine qd rfl rfl rfl (r_assign (v := (.bool false)) rfl) ?_
 refine qe (s_then (s_seq (s_seq (c_reg ?_))))
 refine qd rfl rfl rfl (r_move (v := u) rfl) ?_
 refine qd rfl rfl rfl (run_len Tryd.underlying40 (v := u) rfl hu) ?_
 refine qd rfl rfl rfl (r_move (v := v) rfl) ?_
 refine qd rfl rfl rfl (run_len Tryd.underlying40 (v := v) rfl hv) ?_
 refine qd rfl rfl rfl (r_neq rfl rfl) ?_
 refine qe (s_then ?_)
 refine c_ifd (p := ((xs.length : Int) : Int) ≠ (ys.length : Int)) rfl rfl (fun h1 => ?_) (fun h1 => ?_)
 ·skip
  refine s_seq (c_reg ?_)
  refine qd rfl rfl rfl (r_assign (v := (.bool false)) rfl) ?_
  refine qe (s_then ?_)
  refine wp_ret ?_
  refine s_ret ?_
  refine c_ret1 (v := (.bool false)) rfl rfl rfl ?_
  exact ⟨congrArg (fun z => Ending.returned (Value.bool z)) (decide_eq_false (fun e => h1 (by rw [e]))).symm, hX0⟩
 refine wp_skip ?_
 refine s_then (s_seq (s_seq (c_reg ?_)))
 refine qd rfl rfl rfl (r_assign (v := (.int .i64 0)) rfl) ?_
 refine qe (s_then ?_)
 refine s_blk ?_
 refine s_loop (fun (k : Nat) (en : Nat → Value) (W : World) => ∃ (env1 : Nat → Value) (j : Nat), en = (upd (upd (upd env1 0 u) 1 v) 5 (.int .i64 (j : Int))) ∧ k = xs.length - j ∧ Ext noS G w G W ∧ (j ≤ xs.length) ∧ (xs.length = ys.length) ∧ (∀ i, i < j → xs.getD i 0 = ys.getD i 0)) _ ⟨_, 0, (packS (x := 5) (packS (x := 1) (pack1 (x := 0) rfl) rfl) rfl), rfl, hX0, Nat.zero_le _, (by omega), (fun i hi => absurd hi (Nat.not_lt_zero i))⟩ ?_
 rintro k2 _ w3 ⟨env1, j, rfl, hk4, hX5, hj, heq, hp⟩
 refine s_seq (s_seq (c_reg ?_))
 refine qd rfl rfl rfl (r_move (v := (.int .i64 (j : Int))) rfl) ?_
 refine qd rfl rfl rfl (r_move (v := u) rfl) ?_
 refine qd rfl rfl rfl (run_len Tryd.underlying40 (v := u) rfl hu) ?_
 refine qd rfl rfl rfl (r_lss rfl rfl) ?_
 refine qe (s_then ?_)
 refine c_ifd (p := ((j : Int) : Int) < (xs.length : Int)) rfl rfl (fun h6 => ?_) (fun h6 => ?_)
 ·skip
  refine wp_skip ?_
  refine s_then (s_seq ?_)
  refine s_blk ?_
  refine s_seq ?_
  refine c_draw (S := fun wz => Pins G wz) (last := 9) (by kernel_rfl) rfl ?_
  have hl7 : Below w3.heap.size w3 w3.drew := (Below.refl _ _).drew
  have hp8 := hX5.pins.below hl7
  have hX9 := hX5.step hp8 hl7
  refine dr_take (i := 0) rfl rfl rfl (want_none rfl _) (by kernel_rfl) (fun _ _ => r_move (v := u) rfl) hX9.pins ?_
  refine dr_take (i := 1) rfl rfl rfl (want_none rfl _) (by kernel_rfl) (fun _ _ => r_move (v := (.int .i64 (j : Int))) rfl) hX9.pins ?_
  refine dr_take (i := 2) rfl rfl rfl (want_none rfl _) (by kernel_rfl) (fun _ _ => run_idx Tryd.underlying40 sz3 (v := u) rfl rfl hu (by omega) (by omega)) hX9.pins ?_
  refine dr_take (i := 3) rfl rfl rfl (want_none rfl _) (by kernel_rfl) (fun _ hS => run_load_int (r := xs.getD j 0) rfl ag3 (z := (j : Int)) rfl hu hS (by omega) (by omega)) hX9.pins ?_
  refine dr_take (i := 4) rfl rfl rfl (want_none rfl _) (by kernel_rfl) (fun _ _ => r_move (v := v) rfl) hX9.pins ?_
  refine dr_take (i := 5) rfl rfl rfl (want_none rfl _) (by kernel_rfl) (fun _ _ => r_move (v := (.int .i64 (j : Int))) rfl) hX9.pins ?_
  refine dr_take (i := 6) rfl rfl rfl (want_none rfl _) (by kernel_rfl) (fun _ _ => run_idx Tryd.underlying40 sz3 (v := v) rfl rfl hv (by omega) (by omega)) hX9.pins ?_
  refine dr_take (i := 7) rfl rfl rfl (want_none rfl _) (by kernel_rfl) (fun _ hS => run_load_int (r := ys.getD j 0) rfl ag3 (z := (j : Int)) rfl hv hS (by omega) (by omega)) hX9.pins ?_
  refine dr_take (i := 8) rfl rfl rfl (want_none rfl _) (by kernel_rfl) (fun _ _ => r_neq rfl rfl) hX9.pins ?_
  refine dr_end (by kernel_rfl) ?_
  refine s_then ?_
  refine c_ifd (p := (xs.getD j 0 : Int) ≠ (ys.getD j 0)) rfl rfl (fun h10 => ?_) (fun h10 => ?_)
  ·skip
   refine s_seq (c_reg ?_)
   refine qd rfl rfl rfl (r_assign (v := (.bool false)) rfl) ?_
   refine qe (s_then ?_)
   refine wp_ret ?_
   refine s_ret ?_
   refine c_ret1 (v := (.bool false)) rfl rfl rfl ?_
   exact ⟨congrArg (fun z => Ending.returned (Value.bool z)) (decide_eq_false (fun e => h10 (by rw [e]))).symm, hX9⟩
  refine wp_skip ?_
  refine s_blkN ?_
  refine s_then (c_reg ?_)
  refine qd rfl rfl rfl (r_move (v := (.int .i64 (j : Int))) rfl) ?_
  refine qd rfl rfl rfl (r_add rfl rfl (by omega)) ?_
  refine qd rfl rfl rfl (r_assign (v := (.int .i64 ((j : Int) + 1))) rfl) ?_
  refine qe ?_
  refine s_lopN ?_
  refine ⟨_, ?_, _, rfl, _, j + 1, (packS (x := 5) (packS (x := 1) (pack1 (x := 0) rfl) rfl) rfl), rfl, hX9, (by omega), heq, (eqstep hp h10)⟩
  omega
 refine wp_exit ?_
 refine s_thenE ?_
 refine s_lopE ?_
 refine s_blkE ?_
 refine s_then (s_seq (c_reg ?_))
 refine qd rfl rfl rfl (r_assign (v := (.bool true)) rfl) ?_
 refine qe (s_then ?_)
 refine wp_ret ?_
 refine s_ret ?_
 refine c_ret1 (v := (.bool true)) rfl rfl rfl ?_
 exact ⟨congrArg (fun z => Ending.returned (Value.bool z)) (decide_eq_true (eqdone heq (by omega) hp)).symm, hX5⟩

theorem drGreatestOf_spec {w : World} {G : Pin} {v : Value} {code : List UInt8} (hP : Pins G w) (hc : RSl eByte G v code) :
  Calls Tryd.prog 19 [v].toArray w fun e w' => ∃ (u : Value) (fs : List (List Nd)) (G' : Pin), e = .returned u ∧ RSl (eSl eNode) G' u fs ∧ fs.length ≤ 30 ∧ Ext noS G w G' w' := by
 refine s_enter (n := 46) Tryd.func19 Tryd.ntmps19 rfl rfl ?_
 have hX0 : Ext noS G w G w := Ext.refl hP
 have hm := hc.max
 refine s_seq (c_reg ?_)
 refine qd rfl rfl rfl (r_assign (v := (.slice none 0 0)) rfl) ?_
 refine qe (s_then (s_seq (c_reg ?_)))
 refine qd rfl rfl rfl (r_move (v := v) rfl) ?_
 refine qd rfl rfl rfl (r_build [(.slice none 0 0), (.int .i64 0), (.int .u64 0)] [v, (.int .i64 0), (.int .u64 0)] [(0, v, [v])] Tryd.underlying53 zr53 rfl pl53 rfl (List.forall_mem_cons.2 ⟨(cells_one hc.one), (fun _ h => by cases h)⟩) rfl) ?_
 refine q1 rfl rfl rfl (o_box [v, (.int .i64 0), (.int .u64 0)] (v := (.agg [v, (.int .i64 0), (.int .u64 0)].toArray)) rfl rfl hX0.pins (fun b1 w2 hk3 hb4 hp5 hl6 => ?_))
 have hX7 := hX0.step hp5 hl6
 have hlo8 : w.heap.size ≤ b1 := by have := hX0.size; omega
 refine qd rfl rfl rfl (r_assign (v := (.pointer (some ⟨b1, 0, none⟩))) rfl) ?_
 refine qe (s_then (s_seq (c_reg ?_)))
 refine q1 rfl rfl rfl (o_build0 (E := (eSl eNode)) (e := 26) Tryd.underlying38 sz26 hX7.pins (fun u9 w10 ho11 hp12 hl13 hk14 => ?_))
 have hX15 := hX7.step hp12 hl13
 have hb16 := hb4.below hl13
 have ha17 : Apart u9.ownBlock (some b1) := new_ne_box hk14 hb4.lt
 have ho18 : Own (eSl eNode) 26 G w10 w.heap.size u9 ([]) := ho11.weaken hX7.size
 refine qd rfl rfl rfl (r_assign (v := u9) rfl) ?_
 refine qe (s_then (s_seq (s_seq (c_reg ?_))))
 refine qd rfl rfl rfl (r_move (v := (.pointer (some ⟨b1, 0, none⟩))) rfl) ?_
 refine q1 rfl rfl rfl (o_call (vs := [(.pointer (some ⟨b1, 0, none⟩)), (.int .i64 6)]) Tryd.func35 nm35 rfl rfl rfl ?_)
 refine Calls.mono (pick_spec hX15.pins hb16 hc (by omega) (by omega) (n := 6) (by omega)) ?_
 rintro _ w23 ⟨z19, a21, s22, rfl, hz20, hb24, hda25, hds26, hx27⟩
 refine ⟨_, rfl, ?_⟩
 have hX28 := hX15.trans hx27 (fun i hi => (lo_box hlo8) i hi)
 have ho29 := ho18.extS hx27 (notO ha17)
 refine qd rfl rfl rfl (r_assign (v := (.int .i64 z19)) rfl) ?_
 refine qe (s_then ?_)
 refine s_blk ?_
 refine s_loop (fun (k : Nat) (en : Nat → Value) (W : World) => ∃ (env1 : Nat → Value) (za : Int) (la : Value) (las : List (List Nd)) (ac : Int) (sc : Int) (GL0 : Pin), en = (upd (upd (upd (upd env1 2 (.slice none 0 0)) 3 (.pointer (some ⟨b1, 0, none⟩))) 4 la) 5 (.int .i64 za)) ∧ k = za.toNat ∧ Ext noS G w GL0 W ∧ Pin.le G GL0 ∧ (0 ≤ za ∧ za ≤ 6) ∧ (las.length : Int) + za ≤ 6 ∧ (0 ≤ ac ∧ ac + 16 * za ≤ 1000) ∧ (0 ≤ sc ∧ sc < 18446744073709551616) ∧ (Own (eSl eNode) 26 GL0 W w.heap.size la (las)) ∧ (Bx GL0 W b1 [v, (.int .i64 ac), (.int .u64 sc)]) ∧ (Apart la.ownBlock (some b1))) _ ⟨_, z19, u9, [], a21, s22, G, (packS (x := 5) (packS (x := 4) (packS (x := 3) (pack1 (x := 2) rfl) rfl) rfl) rfl), rfl, hX28, Pin.le_refl _, (by omega), (by first | omega | (simp; omega)), (by omega), (by omega), ho29, hb24, ha17⟩ ?_
 rintro k30 _ w31 ⟨env1, za, la, las, ac, sc, GL0, rfl, hk32, hX33, hlek30, hzza, hlza, hac, hsc, hw34, hw35, ha36⟩
 refine s_seq (s_seq (c_reg ?_))
 refine qd rfl rfl rfl (r_move (v := (.int .i64 za)) rfl) ?_
 refine qd rfl rfl rfl (r_gtr rfl rfl) ?_
 refine qe (s_then ?_)
 refine c_ifd (p := (0 : Int) < za) rfl rfl (fun h37 => ?_) (fun h37 => ?_)
 ·skip
  refine wp_skip ?_
  refine s_then (s_seq ?_)
  refine s_blk ?_
  refine c_reg ?_
  refine qd rfl rfl rfl (r_move (v := la) rfl) ?_
  refine qd rfl rfl rfl (r_move (v := (.pointer (some ⟨b1, 0, none⟩))) rfl) ?_
  refine q1 rfl rfl rfl (o_call (vs := [(.pointer (some ⟨b1, 0, none⟩)), (.int .i64 1)]) Tryd.func36 nm36 rfl rfl rfl ?_)
  refine Calls.mono (dform_spec (n := 1) hX33.pins hw35 (hc.mono hlek30) (by omega) (by omega) (by omega)) ?_
  rintro _ w43 ⟨u38, g39, a40, s41, G42, rfl, ho44, hif45, hfl46, hb47, hda48, hds49, hx50⟩
  refine ⟨_, rfl, ?_⟩
  have hX51 := hX33.trans hx50 (fun i hi => (lo_box hlo8) i hi)
  have ho52 := hw34.extS hx50 (notO ha36)
  have ha53 : Apart u38.ownBlock la.ownBlock := made_ne_own ho44.lt hw34.lt
  have ha54 : Apart u38.ownBlock (some b1) := made_ne_box ho44.lt hw35.lt
  have ho55 : Own eNode 60 G42 w43 w.heap.size u38 (formG g39) := ho44.weaken hX33.size
  have hfo56 := hif45.1.lo
  obtain ⟨G57, hle60, hX59, hr58, hf61⟩ := ho55.sealed hX51
  have ho62 := ho52.moreO hle60 hf61 ha53.symm
  have hb63 := hb47.moreO hf61 ha54.symm
  refine q1 rfl rfl rfl (o_build1 (E := (eSl eNode)) (e := 26) [u38] (formG g39) Tryd.underlying38 sz26 zr26 ⟨_, rfl, hr58⟩ rfl (by decide) hX59.pins (fun u64 w65 ho66 hp67 hl68 hk69 => ?_))
  have hX70 := hX59.step hp67 hl68
  have ho71 := ho62.below hl68
  have hb72 := hb63.below hl68
  have ho75 : Own (eSl eNode) 26 G57 w65 w.heap.size u64 ([formG g39]) := ho66.weaken hX59.size
  refine q1 rfl rfl rfl (o_append (E := (eSl eNode)) (v := la) (u := u64) 24 Tryd.underlying38 ap26 (by decide) rfl rfl hX70.pins ho71 ho75.src (by first | omega | (rw [List.nil_append]; omega) | (rw [List.length_nil]; omega) | (rw [List.length_append]; omega) | (simp; done) | (simp; omega) | (simp only [List.length_cons, List.length_nil]; omega) | (simp only [List.length_append, List.length_cons, List.length_nil]; omega)) (by first | omega | (rw [List.nil_append]; omega) | (rw [List.length_nil]; omega) | (rw [List.length_append]; omega) | (simp; done) | (simp; omega) | (simp only [List.length_cons, List.length_nil]; omega) | (simp only [List.length_append, List.length_cons, List.length_nil]; omega)) (hX70.size) (fun u76 w77 ho78 hp79 hg80 hw81 => ?_))
  have hX82 := hX70.write hp79 hg80 ((lo_own ho71))
  have hb84 := hb72.keptA hg80 ha36.symm
  have ha86 : Apart (some b1) u76.ownBlock := app_ne_box ha36.symm hw81 hb72.lt
  have hm87 : (las ++ ([formG g39])).length = las.length + 1 := List.length_append
  refine qd rfl rfl rfl (r_assign (v := u76) rfl) ?_
  refine qe ?_
  refine s_blkN ?_
  refine s_then (c_reg ?_)
  refine qd rfl rfl rfl (r_move (v := (.int .i64 za)) rfl) ?_
  refine qd rfl rfl rfl (r_sub rfl rfl (by omega)) ?_
  refine qd rfl rfl rfl (r_assign (v := (.int .i64 (za - 1))) rfl) ?_
  refine qe ?_
  refine s_lopN ?_
  refine ⟨_, ?_, _, rfl, _, za - 1, u76, las ++ ([formG g39]), a40, s41, G57, (packS (x := 5) (packS (x := 4) (packS (x := 3) (pack1 (x := 2) rfl) rfl) rfl) rfl), rfl, hX82, (Pin.le_trans (Pin.le_trans hlek30 hx50.le) hle60), (by omega), (by simp; omega), (by omega), (by omega), ho78, hb84, ha86.symm⟩
  omega
 refine wp_exit ?_
 refine s_thenE ?_
 refine s_lopE ?_
 refine s_blkE ?_
 refine s_then (s_seq (s_seq (c_reg ?_)))
 refine qd rfl rfl rfl (r_move (v := (.pointer (some ⟨b1, 0, none⟩))) rfl) ?_
 refine q1 rfl rfl rfl (o_call (vs := [(.pointer (some ⟨b1, 0, none⟩)), (.int .i64 20)]) Tryd.func37 nm37 rfl rfl rfl ?_)
 refine Calls.mono (one_spec hX33.pins hw35 (hc.mono hlek30) (by omega) (by omega) (n := 20) (by omega)) ?_
 rintro _ w91 ⟨z88, a89, s90, rfl, hb92, hda93, hds94, hx95⟩
 refine ⟨_, rfl, ?_⟩
 have hX96 := hX33.trans hx95 (fun i hi => (lo_box hlo8) i hi)
 have ho97 := hw34.extS hx95 (notO ha36)
 refine qe (s_then ?_)
 refine c_if rfl rfl (fun h98 => ?_) (fun h98 => ?_)
 ·skip
  refine c_reg ?_
  refine qd rfl rfl rfl (r_move (v := la) rfl) ?_
  refine qd rfl rfl rfl (r_move (v := (.pointer (some ⟨b1, 0, none⟩))) rfl) ?_
  refine q1 rfl rfl rfl (o_call (vs := [(.pointer (some ⟨b1, 0, none⟩)), (.int .i64 2)]) Tryd.func31 nm31 rfl rfl rfl ?_)
  refine Calls.mono (anyForm_spec (n := 2) hX96.pins hb92 (hc.mono hlek30) (by omega) (by omega) (by omega)) ?_
  rintro _ w104 ⟨u99, ns100, a101, s102, G103, rfl, hr105, hb106, hda107, hds108, hx109⟩
  refine ⟨_, rfl, ?_⟩
  have hX110 := hX96.trans hx109 (fun i hi => (lo_box hlo8) i hi)
  have ho111 := ho97.extS hx109 (notO ha36)
  have hm112 := hr105.max
  refine q1 rfl rfl rfl (o_build1 (E := (eSl eNode)) (e := 26) [u99] ns100 Tryd.underlying38 sz26 zr26 ⟨_, rfl, hr105⟩ rfl (by decide) hX110.pins (fun u113 w114 ho115 hp116 hl117 hk118 => ?_))
  have hX119 := hX110.step hp116 hl117
  have ho120 := ho111.below hl117
  have hb121 := hb106.below hl117
  have ho124 : Own (eSl eNode) 26 G103 w114 w.heap.size u113 ([ns100]) := ho115.weaken hX110.size
  refine q1 rfl rfl rfl (o_append (E := (eSl eNode)) (v := la) (u := u113) 24 Tryd.underlying38 ap26 (by decide) rfl rfl hX119.pins ho120 ho124.src (by first | omega | (rw [List.nil_append]; omega) | (rw [List.length_nil]; omega) | (rw [List.length_append]; omega) | (simp; done) | (simp; omega) | (simp only [List.length_cons, List.length_nil]; omega) | (simp only [List.length_append, List.length_cons, List.length_nil]; omega)) (by first | omega | (rw [List.nil_append]; omega) | (rw [List.length_nil]; omega) | (rw [List.length_append]; omega) | (simp; done) | (simp; omega) | (simp only [List.length_cons, List.length_nil]; omega) | (simp only [List.length_append, List.length_cons, List.length_nil]; omega)) (hX119.size) (fun u125 w126 ho127 hp128 hg129 hw130 => ?_))
  have hX131 := hX119.write hp128 hg129 ((lo_own ho120))
  have hb133 := hb121.keptA hg129 ha36.symm
  have ha135 : Apart (some b1) u125.ownBlock := app_ne_box ha36.symm hw130 hb121.lt
  have hm136 : (las ++ ([ns100])).length = las.length + 1 := List.length_append
  refine qd rfl rfl rfl (r_assign (v := u125) rfl) ?_
  refine qe (s_then (s_seq (s_seq (c_reg ?_))))
  refine qd rfl rfl rfl (r_move (v := (.pointer (some ⟨b1, 0, none⟩))) rfl) ?_
  refine q1 rfl rfl rfl (o_call (vs := [(.pointer (some ⟨b1, 0, none⟩)), (.int .i64 20)]) Tryd.func37 nm37 rfl rfl rfl ?_)
  refine Calls.mono (one_spec hX131.pins hb133 (hc.mono (Pin.le_trans hlek30 hx109.le)) (by omega) (by omega) (n := 20) (by omega)) ?_
  rintro _ w140 ⟨z137, a138, s139, rfl, hb141, hda142, hds143, hx144⟩
  refine ⟨_, rfl, ?_⟩
  have hX145 := hX131.trans hx144 (fun i hi => (lo_box hlo8) i hi)
  have ho146 := ho127.extS hx144 (notO ha135.symm)
  refine qe (s_then ?_)
  refine c_if rfl rfl (fun h147 => ?_) (fun h147 => ?_)
  ·skip
   refine s_seq (c_reg ?_)
   refine q1 rfl rfl rfl (o_build0 (E := (eSl eNode)) (e := 26) Tryd.underlying38 sz26 hX145.pins (fun u148 w149 ho150 hp151 hl152 hk153 => ?_))
   have hX154 := hX145.step hp151 hl152
   have ho155 := ho146.below hl152
   have hb156 := hb141.below hl152
   have ha157 : Apart u148.ownBlock u125.ownBlock := new_ne_own hk153 ho146.lt
   have ha158 : Apart u148.ownBlock (some b1) := new_ne_box hk153 hb141.lt
   have ho159 : Own (eSl eNode) 26 G103 w149 w.heap.size u148 ([]) := ho150.weaken hX145.size
   refine qd rfl rfl rfl (r_assign (v := u148) rfl) ?_
   refine qe (s_then (s_seq (c_reg ?_)))
   refine qd rfl rfl rfl (r_move (v := (.pointer (some ⟨b1, 0, none⟩))) rfl) ?_
   refine q1 rfl rfl rfl (o_call (vs := [(.pointer (some ⟨b1, 0, none⟩)), (.int .i64 2)]) Tryd.func35 nm35 rfl rfl rfl ?_)
   refine Calls.mono (pick_spec hX154.pins hb156 (hc.mono (Pin.le_trans hlek30 hx109.le)) (by omega) (by omega) (n := 2) (by omega)) ?_
   rintro _ w164 ⟨z160, a162, s163, rfl, hz161, hb165, hda166, hds167, hx168⟩
   refine ⟨_, rfl, ?_⟩
   have hX169 := hX154.trans hx168 (fun i hi => (lo_box hlo8) i hi)
   have ho170 := ho155.extS hx168 (notO ha135.symm)
   have ho171 := ho159.extS hx168 (notO ha158)
   refine qd rfl rfl rfl (r_add rfl rfl (by omega)) ?_
   refine qd rfl rfl rfl (r_assign (v := (.int .i64 (24 + z160))) rfl) ?_
   refine qe (s_then ?_)
   refine s_blk ?_
   refine s_loop (fun (k : Nat) (en : Nat → Value) (W : World) => ∃ (env1 : Nat → Value) (zb : Int) (lb : Value) (lbs : List (List Nd)) (GL1 : Pin), en = (upd (upd (upd env1 2 (.slice none 0 0)) 4 lb) 6 (.int .i64 zb)) ∧ k = zb.toNat ∧ Ext noS G w GL1 W ∧ Pin.le G103 GL1 ∧ (0 ≤ zb ∧ zb ≤ 26) ∧ (lbs.length : Int) + zb ≤ 26 ∧ (Own (eSl eNode) 26 GL1 W w.heap.size lb (lbs)) ∧ (Own (eSl eNode) 26 GL1 W w.heap.size u125 (las ++ ([ns100]))) ∧ (Bx GL1 W b1 [v, (.int .i64 a162), (.int .u64 s163)]) ∧ (Apart lb.ownBlock u125.ownBlock) ∧ (Apart lb.ownBlock (some b1))) _ ⟨_, 24 + z160, u148, [], G103, (packS (x := 6) (packS (x := 4) (pack1 (x := 2) rfl) rfl) rfl), rfl, hX169, Pin.le_refl _, (by omega), (by first | omega | (simp; omega)), ho171, ho170, hb165, ha157, ha158⟩ ?_
   rintro k172 _ w173 ⟨env1, zb, lb, lbs, GL1, rfl, hk174, hX175, hlek172, hzzb, hlzb, hw176, hw177, hw178, ha179, ha180⟩
   refine s_seq (s_seq (c_reg ?_))
   refine qd rfl rfl rfl (r_move (v := (.int .i64 zb)) rfl) ?_
   refine qd rfl rfl rfl (r_gtr rfl rfl) ?_
   refine qe (s_then ?_)
   refine c_ifd (p := (0 : Int) < zb) rfl rfl (fun h181 => ?_) (fun h181 => ?_)
   ·skip
    refine wp_skip ?_
    refine s_then (s_seq ?_)
    refine s_blk ?_
    refine c_reg ?_
    refine qd rfl rfl rfl (r_move (v := lb) rfl) ?_
    refine qd rfl rfl rfl (r_build [(.slice none 0 0), (.slice none 0 0)] [(.slice none 0 0), (.slice none 0 0)] [] Tryd.underlying60 zr60 rfl pl60 rfl (fun _ h => by cases h) rfl) ?_
    refine q1 rfl rfl rfl (o_build1 (E := eNode) (e := 60) [(.slice none 0 0), (.slice none 0 0)] (⟨[], []⟩ : Nd) Tryd.underlying24 sz60 zr60 ⟨_, _, rfl, (nil_reads _ _), (nil_reads _ _)⟩ rfl (by decide) hX175.pins (fun u182 w183 ho184 hp185 hl186 hk187 => ?_))
    have hX188 := hX175.step hp185 hl186
    have ho189 := hw176.below hl186
    have ho190 := hw177.below hl186
    have hb191 := hw178.below hl186
    have ha192 : Apart u182.ownBlock lb.ownBlock := new_ne_own hk187 hw176.lt
    have ha193 : Apart u182.ownBlock u125.ownBlock := new_ne_own hk187 hw177.lt
    have ha194 : Apart u182.ownBlock (some b1) := new_ne_box hk187 hw178.lt
    have ho195 : Own eNode 60 GL1 w183 w.heap.size u182 ([(⟨[], []⟩ : Nd)]) := ho184.weaken hX175.size
    refine qd rfl rfl rfl (r_build [(.slice none 0 0)] [u182] [(0, u182, [u182])] Tryd.underlying26 zr26 rfl pl26 rfl (List.forall_mem_cons.2 ⟨(cells_one ho195.one), (fun _ h => by cases h)⟩) rfl) ?_
    obtain ⟨G196, hle199, hX198, hr197, hf200⟩ := ho195.sealed hX188
    have ho201 := ho189.moreO hle199 hf200 ha192.symm
    have ho202 := ho190.moreO hle199 hf200 ha193.symm
    have hb203 := hb191.moreO hf200 ha194.symm
    refine q1 rfl rfl rfl (o_build1 (E := (eSl eNode)) (e := 26) [u182] ([(⟨[], []⟩ : Nd)]) Tryd.underlying38 sz26 zr26 ⟨_, rfl, hr197⟩ rfl (by decide) hX198.pins (fun u204 w205 ho206 hp207 hl208 hk209 => ?_))
    have hX210 := hX198.step hp207 hl208
    have ho211 := ho201.below hl208
    have ho212 := ho202.below hl208
    have hb213 := hb203.below hl208
    have ho217 : Own (eSl eNode) 26 G196 w205 w.heap.size u204 ([[(⟨[], []⟩ : Nd)]]) := ho206.weaken hX198.size
    refine q1 rfl rfl rfl (o_append (E := (eSl eNode)) (v := lb) (u := u204) 24 Tryd.underlying38 ap26 (by decide) rfl rfl hX210.pins ho211 ho217.src (by first | omega | (rw [List.nil_append]; omega) | (rw [List.length_nil]; omega) | (rw [List.length_append]; omega) | (simp; done) | (simp; omega) | (simp only [List.length_cons, List.length_nil]; omega) | (simp only [List.length_append, List.length_cons, List.length_nil]; omega)) (by first | omega | (rw [List.nil_append]; omega) | (rw [List.length_nil]; omega) | (rw [List.length_append]; omega) | (simp; done) | (simp; omega) | (simp only [List.length_cons, List.length_nil]; omega) | (simp only [List.length_append, List.length_cons, List.length_nil]; omega)) (hX210.size) (fun u218 w219 ho220 hp221 hg222 hw223 => ?_))
    have hX224 := hX210.write hp221 hg222 ((lo_own ho211))
    have ho225 := ho212.keptA hg222 ha179.symm
    have hb227 := hb213.keptA hg222 ha180.symm
    have ha228 : Apart u125.ownBlock u218.ownBlock := app_ne_own ha179.symm hw223 ho212.lt
    have ha230 : Apart (some b1) u218.ownBlock := app_ne_box ha180.symm hw223 hb213.lt
    have hm231 : (lbs ++ ([[(⟨[], []⟩ : Nd)]])).length = lbs.length + 1 := List.length_append
    refine qd rfl rfl rfl (r_assign (v := u218) rfl) ?_
    refine qe ?_
    refine s_blkN ?_
    refine s_then (c_reg ?_)
    refine qd rfl rfl rfl (r_move (v := (.int .i64 zb)) rfl) ?_
    refine qd rfl rfl rfl (r_sub rfl rfl (by omega)) ?_
    refine qd rfl rfl rfl (r_assign (v := (.int .i64 (zb - 1))) rfl) ?_
    refine qe ?_
    refine s_lopN ?_
    refine ⟨_, ?_, _, rfl, _, zb - 1, u218, lbs ++ ([[(⟨[], []⟩ : Nd)]]), G196, (packS (x := 6) (packS (x := 4) (pack1 (x := 2) rfl) rfl) rfl), rfl, hX224, (Pin.le_trans hlek172 hle199), (by omega), (by simp; omega), ho220, ho225, hb227, ha228.symm, ha230.symm⟩
    omega
   refine wp_exit ?_
   refine s_thenE ?_
   refine s_lopE ?_
   refine s_blkE ?_
   refine s_then (s_seq (c_reg ?_))
   refine qd rfl rfl rfl (r_move (v := lb) rfl) ?_
   refine qd rfl rfl rfl (r_assign (v := lb) rfl) ?_
   refine qe (s_then ?_)
   refine wp_ret ?_
   refine s_ret ?_
   refine c_ret1 (v := lb) rfl rfl rfl ?_
   obtain ⟨G232, hle235, hX234, hr233, hf236⟩ := hw176.sealed hX175
   exact ⟨_, _, _, rfl, hr233, (by first | omega | (simp; omega)), hX234⟩
  refine wp_skip ?_
  refine s_then (s_seq (c_reg ?_))
  refine qd rfl rfl rfl (r_move (v := u125) rfl) ?_
  refine qd rfl rfl rfl (r_assign (v := u125) rfl) ?_
  refine qe (s_then ?_)
  refine wp_ret ?_
  refine s_ret ?_
  refine c_ret1 (v := u125) rfl rfl rfl ?_
  obtain ⟨G239, hle242, hX241, hr240, hf243⟩ := ho146.sealed hX145
  exact ⟨_, _, _, rfl, hr240, (by first | omega | (simp; omega)), hX241⟩
 refine wp_skip ?_
 refine s_then (s_seq (s_seq (c_reg ?_)))
 refine qd rfl rfl rfl (r_move (v := (.pointer (some ⟨b1, 0, none⟩))) rfl) ?_
 refine q1 rfl rfl rfl (o_call (vs := [(.pointer (some ⟨b1, 0, none⟩)), (.int .i64 20)]) Tryd.func37 nm37 rfl rfl rfl ?_)
 refine Calls.mono (one_spec hX96.pins hb92 (hc.mono hlek30) (by omega) (by omega) (n := 20) (by omega)) ?_
 rintro _ w248 ⟨z245, a246, s247, rfl, hb249, hda250, hds251, hx252⟩
 refine ⟨_, rfl, ?_⟩
 have hX253 := hX96.trans hx252 (fun i hi => (lo_box hlo8) i hi)
 have ho254 := ho97.extS hx252 (notO ha36)
 refine qe (s_then ?_)
 refine c_if rfl rfl (fun h255 => ?_) (fun h255 => ?_)
 ·skip
  refine s_seq (c_reg ?_)
  refine q1 rfl rfl rfl (o_build0 (E := (eSl eNode)) (e := 26) Tryd.underlying38 sz26 hX253.pins (fun u256 w257 ho258 hp259 hl260 hk261 => ?_))
  have hX262 := hX253.step hp259 hl260
  have ho263 := ho254.below hl260
  have hb264 := hb249.below hl260
  have ha265 : Apart u256.ownBlock la.ownBlock := new_ne_own hk261 ho254.lt
  have ha266 : Apart u256.ownBlock (some b1) := new_ne_box hk261 hb249.lt
  have ho267 : Own (eSl eNode) 26 GL0 w257 w.heap.size u256 ([]) := ho258.weaken hX253.size
  refine qd rfl rfl rfl (r_assign (v := u256) rfl) ?_
  refine qe (s_then (s_seq (c_reg ?_)))
  refine qd rfl rfl rfl (r_move (v := (.pointer (some ⟨b1, 0, none⟩))) rfl) ?_
  refine q1 rfl rfl rfl (o_call (vs := [(.pointer (some ⟨b1, 0, none⟩)), (.int .i64 2)]) Tryd.func35 nm35 rfl rfl rfl ?_)
  refine Calls.mono (pick_spec hX262.pins hb264 (hc.mono hlek30) (by omega) (by omega) (n := 2) (by omega)) ?_
  rintro _ w272 ⟨z268, a270, s271, rfl, hz269, hb273, hda274, hds275, hx276⟩
  refine ⟨_, rfl, ?_⟩
  have hX277 := hX262.trans hx276 (fun i hi => (lo_box hlo8) i hi)
  have ho278 := ho263.extS hx276 (notO ha36)
  have ho279 := ho267.extS hx276 (notO ha266)
  refine qd rfl rfl rfl (r_add rfl rfl (by omega)) ?_
  refine qd rfl rfl rfl (r_assign (v := (.int .i64 (24 + z268))) rfl) ?_
  refine qe (s_then ?_)
  refine s_blk ?_
  refine s_loop (fun (k : Nat) (en : Nat → Value) (W : World) => ∃ (env1 : Nat → Value) (zb : Int) (lb : Value) (lbs : List (List Nd)) (GL1 : Pin), en = (upd (upd (upd env1 2 (.slice none 0 0)) 4 lb) 6 (.int .i64 zb)) ∧ k = zb.toNat ∧ Ext noS G w GL1 W ∧ Pin.le GL0 GL1 ∧ (0 ≤ zb ∧ zb ≤ 26) ∧ (lbs.length : Int) + zb ≤ 26 ∧ (Own (eSl eNode) 26 GL1 W w.heap.size lb (lbs)) ∧ (Own (eSl eNode) 26 GL1 W w.heap.size la (las)) ∧ (Bx GL1 W b1 [v, (.int .i64 a270), (.int .u64 s271)]) ∧ (Apart lb.ownBlock la.ownBlock) ∧ (Apart lb.ownBlock (some b1))) _ ⟨_, 24 + z268, u256, [], GL0, (packS (x := 6) (packS (x := 4) (pack1 (x := 2) rfl) rfl) rfl), rfl, hX277, Pin.le_refl _, (by omega), (by first | omega | (simp; omega)), ho279, ho278, hb273, ha265, ha266⟩ ?_
  rintro k280 _ w281 ⟨env1, zb, lb, lbs, GL1, rfl, hk282, hX283, hlek280, hzzb, hlzb, hw284, hw285, hw286, ha287, ha288⟩
  refine s_seq (s_seq (c_reg ?_))
  refine qd rfl rfl rfl (r_move (v := (.int .i64 zb)) rfl) ?_
  refine qd rfl rfl rfl (r_gtr rfl rfl) ?_
  refine qe (s_then ?_)
  refine c_ifd (p := (0 : Int) < zb) rfl rfl (fun h289 => ?_) (fun h289 => ?_)
  ·skip
   refine wp_skip ?_
   refine s_then (s_seq ?_)
   refine s_blk ?_
   refine c_reg ?_
   refine qd rfl rfl rfl (r_move (v := lb) rfl) ?_
   refine qd rfl rfl rfl (r_build [(.slice none 0 0), (.slice none 0 0)] [(.slice none 0 0), (.slice none 0 0)] [] Tryd.underlying60 zr60 rfl pl60 rfl (fun _ h => by cases h) rfl) ?_
   refine q1 rfl rfl rfl (o_build1 (E := eNode) (e := 60) [(.slice none 0 0), (.slice none 0 0)] (⟨[], []⟩ : Nd) Tryd.underlying24 sz60 zr60 ⟨_, _, rfl, (nil_reads _ _), (nil_reads _ _)⟩ rfl (by decide) hX283.pins (fun u290 w291 ho292 hp293 hl294 hk295 => ?_))
   have hX296 := hX283.step hp293 hl294
   have ho297 := hw284.below hl294
   have ho298 := hw285.below hl294
   have hb299 := hw286.below hl294
   have ha300 : Apart u290.ownBlock lb.ownBlock := new_ne_own hk295 hw284.lt
   have ha301 : Apart u290.ownBlock la.ownBlock := new_ne_own hk295 hw285.lt
   have ha302 : Apart u290.ownBlock (some b1) := new_ne_box hk295 hw286.lt
   have ho303 : Own eNode 60 GL1 w291 w.heap.size u290 ([(⟨[], []⟩ : Nd)]) := ho292.weaken hX283.size
   refine qd rfl rfl rfl (r_build [(.slice none 0 0)] [u290] [(0, u290, [u290])] Tryd.underlying26 zr26 rfl pl26 rfl (List.forall_mem_cons.2 ⟨(cells_one ho303.one), (fun _ h => by cases h)⟩) rfl) ?_
   obtain ⟨G304, hle307, hX306, hr305, hf308⟩ := ho303.sealed hX296
   have ho309 := ho297.moreO hle307 hf308 ha300.symm
   have ho310 := ho298.moreO hle307 hf308 ha301.symm
   have hb311 := hb299.moreO hf308 ha302.symm
   refine q1 rfl rfl rfl (o_build1 (E := (eSl eNode)) (e := 26) [u290] ([(⟨[], []⟩ : Nd)]) Tryd.underlying38 sz26 zr26 ⟨_, rfl, hr305⟩ rfl (by decide) hX306.pins (fun u312 w313 ho314 hp315 hl316 hk317 => ?_))
   have hX318 := hX306.step hp315 hl316
   have ho319 := ho309.below hl316
   have ho320 := ho310.below hl316
   have hb321 := hb311.below hl316
   have ho325 : Own (eSl eNode) 26 G304 w313 w.heap.size u312 ([[(⟨[], []⟩ : Nd)]]) := ho314.weaken hX306.size
   refine q1 rfl rfl rfl (o_append (E := (eSl eNode)) (v := lb) (u := u312) 24 Tryd.underlying38 ap26 (by decide) rfl rfl hX318.pins ho319 ho325.src (by first | omega | (rw [List.nil_append]; omega) | (rw [List.length_nil]; omega) | (rw [List.length_append]; omega) | (simp; done) | (simp; omega) | (simp only [List.length_cons, List.length_nil]; omega) | (simp only [List.length_append, List.length_cons, List.length_nil]; omega)) (by first | omega | (rw [List.nil_append]; omega) | (rw [List.length_nil]; omega) | (rw [List.length_append]; omega) | (simp; done) | (simp; omega) | (simp only [List.length_cons, List.length_nil]; omega) | (simp only [List.length_append, List.length_cons, List.length_nil]; omega)) (hX318.size) (fun u326 w327 ho328 hp329 hg330 hw331 => ?_))
   have hX332 := hX318.write hp329 hg330 ((lo_own ho319))
   have ho333 := ho320.keptA hg330 ha287.symm
   have hb335 := hb321.keptA hg330 ha288.symm
   have ha336 : Apart la.ownBlock u326.ownBlock := app_ne_own ha287.symm hw331 ho320.lt
   have ha338 : Apart (some b1) u326.ownBlock := app_ne_box ha288.symm hw331 hb321.lt
   have hm339 : (lbs ++ ([[(⟨[], []⟩ : Nd)]])).length = lbs.length + 1 := List.length_append
   refine qd rfl rfl rfl (r_assign (v := u326) rfl) ?_
   refine qe ?_
   refine s_blkN ?_
   refine s_then (c_reg ?_)
   refine qd rfl rfl rfl (r_move (v := (.int .i64 zb)) rfl) ?_
   refine qd rfl rfl rfl (r_sub rfl rfl (by omega)) ?_
   refine qd rfl rfl rfl (r_assign (v := (.int .i64 (zb - 1))) rfl) ?_
   refine qe ?_
   refine s_lopN ?_
   refine ⟨_, ?_, _, rfl, _, zb - 1, u326, lbs ++ ([[(⟨[], []⟩ : Nd)]]), G304, (packS (x := 6) (packS (x := 4) (pack1 (x := 2) rfl) rfl) rfl), rfl, hX332, (Pin.le_trans hlek280 hle307), (by omega), (by simp; omega), ho328, ho333, hb335, ha336.symm, ha338.symm⟩
   omega
  refine wp_exit ?_
  refine s_thenE ?_
  refine s_lopE ?_
  refine s_blkE ?_
  refine s_then (s_seq (c_reg ?_))
  refine qd rfl rfl rfl (r_move (v := lb) rfl) ?_
  refine qd rfl rfl rfl (r_assign (v := lb) rfl) ?_
  refine qe (s_then ?_)
  refine wp_ret ?_
  refine s_ret ?_
  refine c_ret1 (v := lb) rfl rfl rfl ?_
  obtain ⟨G340, hle343, hX342, hr341, hf344⟩ := hw284.sealed hX283
  exact ⟨_, _, _, rfl, hr341, (by first | omega | (simp; omega)), hX342⟩
 refine wp_skip ?_
 refine s_then (s_seq (c_reg ?_))
 refine qd rfl rfl rfl (r_move (v := la) rfl) ?_
 refine qd rfl rfl rfl (r_assign (v := la) rfl) ?_
 refine qe (s_then ?_)
 refine wp_ret ?_
 refine s_ret ?_
 refine c_ret1 (v := la) rfl rfl rfl ?_
 obtain ⟨G347, hle350, hX349, hr348, hf351⟩ := ho254.sealed hX253
 exact ⟨_, _, _, rfl, hr348, (by first | omega | (simp; omega)), hX349⟩

end GW1
end Go.Proofs.YtkfgdhanaijddaaDoor

set_option maxRecDepth 20000
set_option maxHeartbeats 2000000
namespace Go.Proofs.YtkfgdhanaijddaaDoor
namespace LWG
open Go.RowKit Go.GL Go.Proofs
open Go.Proofs.YtkfgdhanaijddaaDoor.B1
open Go.Proofs.YtkfgdhanaijddaaDoor.C1
open Go.Proofs.YtkfgdhanaijddaaDoor.D1
open Go.Proofs.YtkfgdhanaijddaaDoor.E1
open Go.Proofs.YtkfgdhanaijddaaDoor.K1
open Go.Proofs.YtkfgdhanaijddaaDoor.PO1
open Go.Proofs.YtkfgdhanaijddaaDoor.PL1
open Go.Proofs.YtkfgdhanaijddaaDoor.PF1
open Go.Proofs.YtkfgdhanaijddaaDoor.SF1
open Go.Proofs.YtkfgdhanaijddaaDoor.GS1
open Go.Proofs.YtkfgdhanaijddaaDoor.GI1
open Go.Proofs.YtkfgdhanaijddaaDoor.DR1
open Go.Proofs.YtkfgdhanaijddaaDoor.DR2
open Go.Proofs.YtkfgdhanaijddaaDoor.DV1
open Go.Proofs.YtkfgdhanaijddaaDoor.DV2
open Go.Proofs.YtkfgdhanaijddaaDoor.GW1










theorem law {w : World} {G : Pin} {v : Value} {code : List UInt8} (hP : Pins G w) (hc : RSl eByte G v code) :
  Calls Tryd.prog 5 [v].toArray w fun e w' => ∃ G', e = .returned (.bool true) ∧ Ext noS G w G' w' := by
 refine s_enter (n := 78) Tryd.func5 Tryd.ntmps5 rfl rfl ?_
 have hX0 : Ext noS G w G w := Ext.refl hP
 have hm := hc.max
 refine s_seq (c_reg ?_)
 refine qd rfl rfl rfl (r_assign (v := (.bool false)) rfl) ?_
 refine qe (s_then (s_seq (s_seq (c_reg ?_))))
 refine qd rfl rfl rfl (r_move (v := v) rfl) ?_
 refine q1 rfl rfl rfl (o_call (vs := [v]) Tryd.func6 nm6 rfl rfl rfl ?_)
 refine Calls.mono (vBig_spec hX0.pins hc) ?_
 rintro _ w1 ⟨rfl, hx2⟩
 refine ⟨_, rfl, ?_⟩
 have hX3 := hX0.step hx2.pins hx2.below
 refine qe (s_then ?_)
 refine c_ifd (p := ((65536 : Int) < (code.length : Int))) rfl rfl (fun h4 => ?_) (fun h4 => ?_)
 ·skip
  refine s_seq (c_reg ?_)
  refine qd rfl rfl rfl (r_assign (v := (.bool true)) rfl) ?_
  refine qe (s_then ?_)
  refine wp_ret ?_
  refine s_ret ?_
  refine c_ret1 (v := (.bool true)) rfl rfl rfl ?_
  exact ⟨_, rfl, hX3⟩
 refine wp_skip ?_
 refine s_then (s_seq (c_reg ?_))
 refine qd rfl rfl rfl (r_move (v := v) rfl) ?_
 refine q1 rfl rfl rfl (o_call (vs := [v]) Tryd.func19 nm19 rfl rfl rfl ?_)
 refine Calls.mono (drGreatestOf_spec hX3.pins hc) ?_
 rintro _ w8 ⟨u5, fs6, G7, rfl, hr9, hl10, hx11⟩
 refine ⟨_, rfl, ?_⟩
 have hX12 := hX3.tr hx11
 refine qd rfl rfl rfl (r_assign (v := u5) rfl) ?_
 refine qe (s_then (s_seq (c_reg ?_)))
 refine qd rfl rfl rfl (r_move (v := u5) rfl) ?_
 refine q1 rfl rfl rfl (o_call (vs := [u5]) Tryd.func20 nm20 rfl rfl rfl ?_)
 refine Calls.mono (iGreatestOf_spec hX12.pins hr9) ?_
 rintro _ w15 ⟨u13, G14, rfl, ho16, hx17⟩
 refine ⟨_, rfl, ?_⟩
 obtain ⟨G19, ho16r, hx18⟩ := row_give ho16 hx17
 have hX20 := hX12.tr hx18
 refine qd rfl rfl rfl (r_move (v := (.tuple #[u13, (.bool (decP (AllG fs6)))])) rfl) ?_
 refine qd rfl rfl rfl (r_extract (v := u13) rfl rfl) ?_
 refine qd rfl rfl rfl (r_extract (v := (.bool (decP (AllG fs6)))) rfl rfl) ?_
 refine qd rfl rfl rfl (r_assign (v := u13) rfl) ?_
 refine qd rfl rfl rfl (r_assign (v := (.bool (decP (AllG fs6)))) rfl) ?_
 refine qe (s_then (s_seq (c_reg ?_)))
 refine qd rfl rfl rfl (r_move (v := u5) rfl) ?_
 refine q1 rfl rfl rfl (o_call (vs := [u5]) Tryd.func21 nm21 rfl rfl rfl ?_)
 refine Calls.mono (sGreatestOf_spec hX20.pins (hr9.mono hx18.le)) ?_
 rintro _ w23 ⟨u21, G22, rfl, ho24, hx25⟩
 refine ⟨_, rfl, ?_⟩
 obtain ⟨G27, ho24r, hx26⟩ := row_give ho24 hx25
 have hX28 := hX20.tr hx26
 refine qd rfl rfl rfl (r_move (v := (.tuple #[u21, (.bool (decP (AllG fs6)))])) rfl) ?_
 refine qd rfl rfl rfl (r_extract (v := u21) rfl rfl) ?_
 refine qd rfl rfl rfl (r_extract (v := (.bool (decP (AllG fs6)))) rfl rfl) ?_
 refine qd rfl rfl rfl (r_assign (v := u21) rfl) ?_
 refine qd rfl rfl rfl (r_assign (v := (.bool (decP (AllG fs6)))) rfl) ?_
 refine qe (s_then (s_seq (s_seq (c_reg ?_))))
 refine qd rfl rfl rfl (r_move (v := (.bool (decP (AllG fs6)))) rfl) ?_
 refine qd rfl rfl rfl (r_move (v := (.bool (decP (AllG fs6)))) rfl) ?_
 refine qd rfl rfl rfl (r_neqB_same Tryd.underlying4 rfl rfl) ?_
 refine qd rfl rfl rfl (r_move (v := (.bool false)) rfl) ?_
 refine qdg rfl rfl rfl rfl rfl rfl (r_move (v := u13) rfl) ?_
 refine qdg rfl rfl rfl rfl rfl rfl (r_move (v := u21) rfl) ?_
 refine q1g rfl rfl rfl rfl rfl rfl (o_call (vs := [u13, u21]) Tryd.func22 nm22 rfl rfl rfl ?_)
 refine Calls.mono (vInts_spec hX28.pins (ho16r.mono hx26.le) ho24r) ?_
 rintro _ w29 ⟨rfl, hx30⟩
 refine ⟨_, rfl, ?_⟩
 have hX31 := hX28.step hx30.pins hx30.below
 refine qdg rfl rfl rfl rfl rfl rfl (r_not rfl) ?_
 refine qd rfl rfl rfl (r_pickF (v := (.bool (!(decide ((grF fs6) = (grF fs6)))))) rfl rfl) ?_
 refine qe (s_then ?_)
 refine c_ifn rfl rfl (fun _ => ?_) (fun h => absurd rfl (of_decide_eq_false h))
 refine wp_skip ?_
 refine s_then (s_seq (s_seq (c_reg ?_)))
 refine qd rfl rfl rfl (r_assign (v := (.int .i64 0)) rfl) ?_
 refine qe (s_then ?_)
 refine s_blk ?_
 have hgl := grF_len (fs := fs6)
 refine s_loop (fun (k : Nat) (en : Nat → Value) (W : World) => ∃ (env1 : Nat → Value) (i : Nat) (GL1 : Pin), en = (upd (upd (upd (upd env1 3 u5) 4 u13) 5 (.bool (decP (AllG fs6)))) 8 (.int .i64 (i : Int))) ∧ k = fs6.length - i ∧ Ext noS G w GL1 W ∧ Pin.le G27 GL1 ∧ (i ≤ fs6.length)) _ ⟨_, 0, G27, (packS (x := 8) (packS (x := 5) (packS (x := 4) (pack1 (x := 3) rfl) rfl) rfl) rfl), rfl, hX31, Pin.le_refl _, Nat.zero_le _⟩ ?_
 rintro k33 _ w34 ⟨env1, i, GL1, rfl, hk35, hX36, hlek33, hi⟩
 refine s_seq (s_seq (c_reg ?_))
 refine qd rfl rfl rfl (r_move (v := (.int .i64 (i : Int))) rfl) ?_
 refine qd rfl rfl rfl (r_move (v := u5) rfl) ?_
 refine qd rfl rfl rfl (run_len Tryd.underlying38 (v := u5) rfl hr9) ?_
 refine qd rfl rfl rfl (r_lss rfl rfl) ?_
 refine qd rfl rfl rfl (r_move (v := (.bool (decide (((i : Int) : Int) < (fs6.length : Int))))) rfl) ?_
 refine qbd (p := ((i : Int) : Int) < (fs6.length : Int)) (t := 40) rfl (fun h37 => ?_) (fun h37 => ?_)
 ·skip
  refine qdg rfl rfl rfl rfl rfl rfl (r_move (v := (.bool (decP (AllG fs6)))) rfl) ?_
  refine qd rfl rfl rfl (r_pickT (v := (.bool (decP (AllG fs6)))) rfl rfl) ?_
  refine qe (s_then ?_)
  refine c_if rfl rfl (fun h38 => ?_) (fun h38 => ?_)
  ·skip
   refine wp_skip ?_
   refine s_then (s_seq ?_)
   refine s_blk ?_
   refine s_seq (c_reg ?_)
   refine qd rfl rfl rfl (r_assign (v := (.bool false)) rfl) ?_
   refine qe (s_then (s_seq (s_seq (c_reg ?_))))
   refine qd rfl rfl rfl (r_assign (v := (.int .i64 0)) rfl) ?_
   refine qe (s_then ?_)
   refine s_blk ?_
   have hAG := decP_true.1 h38
   refine s_loop (fun (k : Nat) (en : Nat → Value) (W : World) => ∃ (env1 : Nat → Value) (kb : Nat) (cv : Bool) (GL2 : Pin), en = (upd (upd (upd (upd (upd (upd env1 3 u5) 4 u13) 5 (.bool (decP (AllG fs6)))) 8 (.int .i64 (i : Int))) 9 (.bool cv)) 10 (.int .i64 (kb : Int))) ∧ k = (grF fs6).length - kb ∧ Ext noS G w GL2 W ∧ Pin.le GL1 GL2 ∧ (kb ≤ (grF fs6).length) ∧ (cv = covB fs6 i ((grF fs6).take kb))) _ ⟨_, 0, false, GL1, (packS (x := 10) (packS (x := 9) (packS (x := 8) (packS (x := 5) (packS (x := 4) (pack1 (x := 3) rfl) rfl) rfl) rfl) rfl) rfl), rfl, hX36, Pin.le_refl _, Nat.zero_le _, rfl⟩ ?_
   rintro k39 _ w40 ⟨env1, kb, cv, GL2, rfl, hk41, hX42, hlek39, hk, hcv⟩
   refine s_seq (s_seq (c_reg ?_))
   refine qd rfl rfl rfl (r_move (v := (.int .i64 (kb : Int))) rfl) ?_
   refine qd rfl rfl rfl (r_move (v := u13) rfl) ?_
   refine qd rfl rfl rfl (run_len Tryd.underlying40 (v := u13) rfl ho16r) ?_
   refine qd rfl rfl rfl (r_lss rfl rfl) ?_
   refine qe (s_then ?_)
   refine c_ifd (p := ((kb : Int) : Int) < ((grF fs6).length : Int)) rfl rfl (fun h43 => ?_) (fun h43 => ?_)
   ·skip
    have hbk := gr_bd (fs := fs6) _ (getD_mem (d := (0 : Int)) (show kb < (grF fs6).length by omega))
    refine wp_skip ?_
    refine s_then (s_seq ?_)
    refine s_blk ?_
    refine s_seq ?_
    refine c_draw (S := fun wz => Pins GL2 wz) (last := 17) (by kernel_rfl) rfl ?_
    have hl44 : Below w40.heap.size w40 w40.drew := (Below.refl _ _).drew
    have hp45 := hX42.pins.below hl44
    have hX46 := hX42.step hp45 hl44
    refine dr_take (i := 0) rfl rfl rfl (want_none rfl _) (by kernel_rfl) (fun _ _ => r_move (v := u5) rfl) hX46.pins ?_
    refine dr_take (i := 1) rfl rfl rfl (want_none rfl _) (by kernel_rfl) (fun _ _ => r_move (v := u13) rfl) hX46.pins ?_
    refine dr_take (i := 2) rfl rfl rfl (want_none rfl _) (by kernel_rfl) (fun _ _ => r_move (v := (.int .i64 (kb : Int))) rfl) hX46.pins ?_
    refine dr_take (i := 3) rfl rfl rfl (want_none rfl _) (by kernel_rfl) (fun _ _ => run_idx Tryd.underlying40 sz3 (v := u13) rfl rfl ho16r (by omega) (by omega)) hX46.pins ?_
    refine dr_take (i := 4) rfl rfl rfl (want_none rfl _) (by kernel_rfl) (fun _ hS => run_load_int (r := (grF fs6).getD kb 0) rfl ag3 (z := (kb : Int)) rfl ho16r (Pins.of_le hS (Pin.le_trans (Pin.le_trans hx26.le hlek33) hlek39)) (by omega) (by omega)) hX46.pins ?_
    refine dr_take (i := 5) rfl rfl rfl (want_none rfl _) (by kernel_rfl) (fun _ _ => run_idx Tryd.underlying38 sz26 (v := u5) rfl rfl hr9 (by omega) (by omega)) hX46.pins ?_
    obtain ⟨u47, hr48, hl49⟩ := nm_form (hr9.at (z := ((grF fs6).getD kb 0)) (by omega) (by omega)) (j := ((grF fs6).getD kb 0).toNat) rfl
    have hm50 := hr48.max
    refine dr_take (i := 6) rfl rfl rfl (want_none rfl _) (by kernel_rfl) (fun _ hS => hl49 ag26 sz26 rfl (Pins.of_le hS (Pin.le_trans (Pin.le_trans (Pin.le_trans hx18.le hx26.le) hlek33) hlek39))) hX46.pins ?_
    refine dr_take (i := 7) rfl rfl rfl (want_none rfl _) (by kernel_rfl) (fun _ _ => r_move (v := u5) rfl) hX46.pins ?_
    refine dr_take (i := 8) rfl rfl rfl (want_none rfl _) (by kernel_rfl) (fun _ _ => r_move (v := (.int .i64 (i : Int))) rfl) hX46.pins ?_
    refine dr_take (i := 9) rfl rfl rfl (want_none rfl _) (by kernel_rfl) (fun _ _ => run_idx Tryd.underlying38 sz26 (v := u5) rfl rfl hr9 (by omega) (by omega)) hX46.pins ?_
    obtain ⟨u51, hr52, hl53⟩ := nm_form (hr9.at (z := (i : Int)) (by omega) (by omega)) (j := i) rfl
    have hm54 := hr52.max
    refine dr_take (i := 10) rfl rfl rfl (want_none rfl _) (by kernel_rfl) (fun _ hS => hl53 ag26 sz26 rfl (Pins.of_le hS (Pin.le_trans (Pin.le_trans (Pin.le_trans hx18.le hx26.le) hlek33) hlek39))) hX46.pins ?_
    refine dr_one (i := 11) (by kernel_rfl) (drOp1 (i := 11) rfl rfl rfl (want_none rfl _) (o_call (vs := [(.agg [u47].toArray), (.agg [u51].toArray)]) Tryd.func10 nm10 rfl rfl rfl ?_))
    refine Calls.mono (iAtLeast_spec hX46.pins (hr48.mono (Pin.le_trans (Pin.le_trans (Pin.le_trans hx18.le hx26.le) hlek33) hlek39)) (hr52.mono (Pin.le_trans (Pin.le_trans (Pin.le_trans hx18.le hx26.le) hlek33) hlek39))) ?_
    rintro _ w56 ⟨G55, rfl, hx57⟩
    refine ⟨_, rfl, ?_⟩
    have hX58 := hX46.tr hx57
    refine ⟨fun _ => (Pins.of_le hX58.pins hx57.le), ?_⟩
    refine dr_take (i := 12) rfl rfl rfl (want_none rfl _) (by kernel_rfl) (fun _ _ => r_move (v := (.tuple #[(.bool (alB (fs6.getD ((grF fs6).getD kb 0).toNat []) (fs6.getD i []))), (.bool (goodB (fs6.getD ((grF fs6).getD kb 0).toNat []) && goodB (fs6.getD i [])))])) rfl) (Pins.of_le hX58.pins hx57.le) ?_
    refine dr_take (i := 13) rfl rfl rfl (want_none rfl _) (by kernel_rfl) (fun _ _ => r_extract (v := (.bool (alB (fs6.getD ((grF fs6).getD kb 0).toNat []) (fs6.getD i [])))) rfl rfl) (Pins.of_le hX58.pins hx57.le) ?_
    refine dr_take (i := 14) rfl rfl rfl (want_none rfl _) (by kernel_rfl) (fun _ _ => r_extract (v := (.bool (goodB (fs6.getD ((grF fs6).getD kb 0).toNat []) && goodB (fs6.getD i [])))) rfl rfl) (Pins.of_le hX58.pins hx57.le) ?_
    refine dr_take (i := 15) rfl rfl rfl (want_none rfl _) (by kernel_rfl) (fun _ _ => r_assign (v := (.bool (alB (fs6.getD ((grF fs6).getD kb 0).toNat []) (fs6.getD i [])))) rfl) (Pins.of_le hX58.pins hx57.le) ?_
    refine dr_take (i := 16) rfl rfl rfl (want_none rfl _) (by kernel_rfl) (fun _ _ => r_assign (v := (.bool (goodB (fs6.getD ((grF fs6).getD kb 0).toNat []) && goodB (fs6.getD i [])))) rfl) (Pins.of_le hX58.pins hx57.le) ?_
    refine dr_end (by kernel_rfl) ?_
    refine s_then (c_reg ?_)
    refine qd rfl rfl rfl (r_move (v := (.bool cv)) rfl) ?_
    refine qd rfl rfl rfl (r_move (v := (.bool cv)) rfl) ?_
    refine qb (t := 67) rfl (fun h59 => ?_) (fun h59 => ?_)
    ·skip
     refine qs rfl rfl rfl rfl rfl rfl ?_
     refine qd rfl rfl rfl (r_pickT (v := (.bool true)) rfl rfl) ?_
     refine qd rfl rfl rfl (r_assign (v := (.bool true)) rfl) ?_
     refine qe ?_
     refine s_blkN ?_
     refine s_then (c_reg ?_)
     refine qd rfl rfl rfl (r_move (v := (.int .i64 (kb : Int))) rfl) ?_
     refine qd rfl rfl rfl (r_add rfl rfl (by omega)) ?_
     refine qd rfl rfl rfl (r_assign (v := (.int .i64 ((kb : Int) + 1))) rfl) ?_
     refine qe ?_
     refine s_lopN ?_
     refine ⟨_, ?_, _, rfl, _, kb + 1, true, G55, (packS (x := 10) (packS (x := 9) (packS (x := 8) (packS (x := 5) (packS (x := 4) (pack1 (x := 3) rfl) rfl) rfl) rfl) rfl) rfl), rfl, hX58, (Pin.le_trans hlek39 hx57.le), (by omega), (by rw [cov_next (by omega), ← hcv, h59]; rfl)⟩
     omega
    refine qdg rfl rfl rfl rfl rfl rfl (r_move (v := (.bool (alB (fs6.getD ((grF fs6).getD kb 0).toNat []) (fs6.getD i [])))) rfl) ?_
    refine qd rfl rfl rfl (r_pickF (v := (.bool (alB (fs6.getD ((grF fs6).getD kb 0).toNat []) (fs6.getD i [])))) rfl rfl) ?_
    refine qd rfl rfl rfl (r_assign (v := (.bool (alB (fs6.getD ((grF fs6).getD kb 0).toNat []) (fs6.getD i [])))) rfl) ?_
    refine qe ?_
    refine s_blkN ?_
    refine s_then (c_reg ?_)
    refine qd rfl rfl rfl (r_move (v := (.int .i64 (kb : Int))) rfl) ?_
    refine qd rfl rfl rfl (r_add rfl rfl (by omega)) ?_
    refine qd rfl rfl rfl (r_assign (v := (.int .i64 ((kb : Int) + 1))) rfl) ?_
    refine qe ?_
    refine s_lopN ?_
    refine ⟨_, ?_, _, rfl, _, kb + 1, alB (fs6.getD ((grF fs6).getD kb 0).toNat []) (fs6.getD i []), G55, (packS (x := 10) (packS (x := 9) (packS (x := 8) (packS (x := 5) (packS (x := 4) (pack1 (x := 3) rfl) rfl) rfl) rfl) rfl) rfl), rfl, hX58, (Pin.le_trans hlek39 hx57.le), (by omega), (by rw [cov_next (by omega), ← hcv, h59]; rfl)⟩
    omega
   refine wp_exit ?_
   refine s_thenE ?_
   refine s_lopE ?_
   refine s_blkE ?_
   refine s_then (s_seq (c_reg ?_))
   refine qd rfl rfl rfl (r_move (v := (.bool cv)) rfl) ?_
   refine qd rfl rfl rfl (r_not rfl) ?_
   refine qe (s_then ?_)
   refine c_ifn rfl rfl (fun h60 => ?_) (fun h60 => ?_)
   ·skip
    refine wp_skip ?_
    refine s_blkN ?_
    refine s_then (c_reg ?_)
    refine qd rfl rfl rfl (r_move (v := (.int .i64 (i : Int))) rfl) ?_
    refine qd rfl rfl rfl (r_add rfl rfl (by omega)) ?_
    refine qd rfl rfl rfl (r_assign (v := (.int .i64 ((i : Int) + 1))) rfl) ?_
    refine qe ?_
    refine s_lopN ?_
    refine ⟨_, ?_, _, rfl, _, i + 1, GL2, (packS (x := 8) (packS (x := 5) (packS (x := 4) (pack1 (x := 3) rfl) rfl) rfl) rfl), rfl, hX42, (Pin.le_trans hlek33 hlek39), (by omega)⟩
    omega
   refine s_seq (c_reg ?_)
   refine qd rfl rfl rfl (r_assign (v := (.bool false)) rfl) ?_
   refine qe (s_then ?_)
   refine wp_ret ?_
   refine s_ret ?_
   refine c_ret1 (v := (.bool false)) rfl rfl rfl ?_
   rw [List.take_of_length_le (by omega), cov_all hAG (by omega)] at hcv
   rw [h60] at hcv
   cases hcv
  refine wp_exit ?_
  refine s_thenE ?_
  refine s_lopE ?_
  refine s_blkE ?_
  refine s_then (s_seq (c_reg ?_))
  refine qd rfl rfl rfl (r_move (v := (.bool (decP (AllG fs6)))) rfl) ?_
  refine qd rfl rfl rfl (r_move (v := (.bool (decP (AllG fs6)))) rfl) ?_
  refine qb (t := 73) rfl (fun h61 => ?_) (fun h61 => ?_)
  ·skip
   refine qs rfl rfl rfl rfl rfl rfl ?_
   refine qs rfl rfl rfl rfl rfl rfl ?_
   refine qs rfl rfl rfl rfl rfl rfl ?_
   refine qd rfl rfl rfl (r_pickT (v := (.bool true)) rfl rfl) ?_
   refine qd rfl rfl rfl (r_assign (v := (.bool true)) rfl) ?_
   refine qe (s_then ?_)
   refine wp_ret ?_
   refine s_ret ?_
   refine c_ret1 (v := (.bool true)) rfl rfl rfl ?_
   exact ⟨_, rfl, hX36⟩
  refine qdg rfl rfl rfl rfl rfl rfl (r_move (v := u13) rfl) ?_
  refine qdg rfl rfl rfl rfl rfl rfl (run_len Tryd.underlying40 (v := u13) rfl ho16r) ?_
  refine qdg rfl rfl rfl rfl rfl rfl (r_eql rfl rfl) ?_
  refine qd rfl rfl rfl (r_pickF (v := (.bool (decide ((((grF fs6).length : Int) : Int) = 0)))) rfl rfl) ?_
  refine qd rfl rfl rfl (r_assign (v := (.bool (decide ((((grF fs6).length : Int) : Int) = 0)))) rfl) ?_
  refine qe (s_then ?_)
  refine wp_ret ?_
  refine s_ret ?_
  refine c_ret1 (v := (.bool (decide ((((grF fs6).length : Int) : Int) = 0)))) rfl rfl rfl ?_
  exact ⟨_, congrArg (fun z => Ending.returned (Value.bool z)) (decide_eq_true (by rw [gr_bad h61]; rfl)), hX36⟩
 refine qs rfl rfl rfl rfl rfl rfl ?_
 refine qd rfl rfl rfl (r_pickF (v := (.bool false)) rfl rfl) ?_
 refine qe (s_then ?_)
 refine c_ifF rfl rfl ?_
 refine wp_exit ?_
 refine s_thenE ?_
 refine s_lopE ?_
 refine s_blkE ?_
 refine s_then (s_seq (c_reg ?_))
 refine qd rfl rfl rfl (r_move (v := (.bool (decP (AllG fs6)))) rfl) ?_
 refine qd rfl rfl rfl (r_move (v := (.bool (decP (AllG fs6)))) rfl) ?_
 refine qb (t := 73) rfl (fun h62 => ?_) (fun h62 => ?_)
 ·skip
  refine qs rfl rfl rfl rfl rfl rfl ?_
  refine qs rfl rfl rfl rfl rfl rfl ?_
  refine qs rfl rfl rfl rfl rfl rfl ?_
  refine qd rfl rfl rfl (r_pickT (v := (.bool true)) rfl rfl) ?_
  refine qd rfl rfl rfl (r_assign (v := (.bool true)) rfl) ?_
  refine qe (s_then ?_)
  refine wp_ret ?_
  refine s_ret ?_
  refine c_ret1 (v := (.bool true)) rfl rfl rfl ?_
  exact ⟨_, rfl, hX36⟩
 refine qdg rfl rfl rfl rfl rfl rfl (r_move (v := u13) rfl) ?_
 refine qdg rfl rfl rfl rfl rfl rfl (run_len Tryd.underlying40 (v := u13) rfl ho16r) ?_
 refine qdg rfl rfl rfl rfl rfl rfl (r_eql rfl rfl) ?_
 refine qd rfl rfl rfl (r_pickF (v := (.bool (decide ((((grF fs6).length : Int) : Int) = 0)))) rfl rfl) ?_
 refine qd rfl rfl rfl (r_assign (v := (.bool (decide ((((grF fs6).length : Int) : Int) = 0)))) rfl) ?_
 refine qe (s_then ?_)
 refine wp_ret ?_
 refine s_ret ?_
 refine c_ret1 (v := (.bool (decide ((((grF fs6).length : Int) : Int) = 0)))) rfl rfl rfl ?_
 exact ⟨_, congrArg (fun z => Ending.returned (Value.bool z)) (decide_eq_true (by rw [gr_bad h62]; rfl)), hX36⟩

end LWG
end Go.Proofs.YtkfgdhanaijddaaDoor
