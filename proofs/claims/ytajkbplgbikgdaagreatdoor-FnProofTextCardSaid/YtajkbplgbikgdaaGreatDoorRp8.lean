/- Texts of this claim in one file: PTG, PTF, PTH, LPT. -/
import Derived.Test.YtajkbplgbikgdaaGreatDoorRp7
import Derived.Test.YtajkbplgbikgdaaGreatDoorChecked
set_option maxRecDepth 20000
set_option maxHeartbeats 2000000
namespace Go.Proofs.YtajkbplgbikgdaaGreatDoor
namespace PTG
open Go.RowKit Go.GL Go.Proofs
open B1 C1 D1 E1 SF1 DR1 DR2 DV1 LX4
variable {G : Pin} {cv : Value} {code : List UInt8} {a : Int}
theorem rU {w : World} {c : Nat} {s : Int} (hP : Pins G w) (hB : Bx G w c [cv, .int .i64 a, .int .u64 s]) (hc : RSl eByte G cv code) (ha : 0 ≤ a ∧ a + 56 ≤ 1000000) (hs : 0 ≤ s ∧ s < 18446744073709551616) :
  Calls Tryz.prog 51 [(.pointer (some ⟨c, 0, none⟩))].toArray w fun e w' => ∃ (u v r : Value) (xs ys : List Nd) (ps : List Cl) (lo hi : Nat) (a' s' : Int) (G' : Pin), e = .returned (.tuple #[(.agg [u].toArray), (.agg [v].toArray), (.agg [r].toArray)]) ∧ RSl eNode G' u xs ∧ RSl eNode G' v ys ∧ DPrf 72 3 G' w' lo hi r ps ∧ w.heap.size ≤ lo ∧ hi ≤ w'.heap.size ∧ SmC ps ∧ WfL ps ∧ (∀ k, k < ps.length → ClOk (ps.getD k default)) ∧ Bx G' w' c [cv, .int .i64 a', .int .u64 s'] ∧ (a ≤ a' ∧ a' ≤ a + 56) ∧ (0 ≤ s' ∧ s' < 18446744073709551616) ∧ Ext (inO (some c)) G w G' w' := by
 refine yM (n := 38) Tryz.func51 Tryz.ntmps51 rfl rfl ?_
 have hX0 := exr (inO (some c)) hP
 have hm := hc.max
 refine zD (zE ?_)
 refine qI rfl (yL [(.slice none 0 0)] zr26 rfl hX0.pins (fun b1 w2 hk3 hb4 hp5 hl6 => ?_))
 have hX7 := hX0.step hp5 hl6
 have hb8 := hB.below hl6
 have ha9 : Apart (some b1) (some c) := zG (congrArg some hk3) hB.lt
 have hlo10 : w.heap.size ≤ b1 := by have := hX0.size; omega
 refine qI rfl (yL [(.slice none 0 0)] zr26 rfl hX7.pins (fun b11 w12 hk13 hb14 hp15 hl16 => ?_))
 have hX17 := hX7.step hp15 hl16
 have hb18 := hb8.below hl16
 have hb19 := hb4.below hl16
 have ha20 : Apart (some b11) (some c) := zG (congrArg some hk13) hb8.lt
 have ha21 : Apart (some b11) (some b1) := zG (congrArg some hk13) hb4.lt
 have hlo22 : w.heap.size ≤ b11 := by have := hX7.size; omega
 refine qI rfl (yL [(.slice none 0 0)] zr38 rfl hX17.pins (fun b23 w24 hk25 hb26 hp27 hl28 => ?_))
 have hX29 := hX17.step hp27 hl28
 have hb30 := hb18.below hl28
 have hb31 := hb19.below hl28
 have hb32 := hb14.below hl28
 have ha33 : Apart (some b23) (some c) := zG (congrArg some hk25) hb18.lt
 have ha34 : Apart (some b23) (some b1) := zG (congrArg some hk25) hb19.lt
 have ha35 : Apart (some b23) (some b11) := zG (congrArg some hk25) hb14.lt
 have hlo36 : w.heap.size ≤ b23 := by have := hX17.size; omega
 refine qe (zA (zD (zE ?_)))
 refine qD rfl (zB (v := (.pointer (some ⟨c, 0, none⟩))) rfl) (qI rfl (zK (vs := [(.pointer (some ⟨c, 0, none⟩)), (.int .i64 2)]) Tryz.func98 nm98 rfl rfl rfl ?_))
 refine dJ (gY (n := 2) hX29.pins hb30 hc (by omega) (by omega) (by omega)) ?_
 rintro _ w42 ⟨u37, g38, a39, s40, G41, rfl, ho43, hif44, hfl45, hb46, hda47, hds48, hx49⟩
 refine ⟨_, rfl, ?_⟩
 have hX50 := hX29.trans hx49 (fun i hi => xO i hi)
 have hb51 := hb31.extS hx49 (xJ ha9)
 have hb52 := hb32.extS hx49 (xJ ha20)
 have hb53 := hb26.extS hx49 (xJ ha33)
 have ha54 : Apart u37.ownBlock (some c) := zX ho43.lt hb30.lt
 have ho58 := ho43.weaken hX29.size
 have hfo59 := hif44.1.lo
 refine qD rfl (zB (v := (.pointer (some ⟨c, 0, none⟩))) rfl) (qI rfl (zK (vs := [(.pointer (some ⟨c, 0, none⟩)), (.int .i64 2)]) Tryz.func98 nm98 rfl rfl rfl ?_))
 refine dJ (gY (n := 2) hX50.pins hb46 (hc.mono hx49.le) (by omega) (by omega) (by omega)) ?_
 rintro _ w65 ⟨u60, g61, a62, s63, G64, rfl, ho66, hif67, hfl68, hb69, hda70, hds71, hx72⟩
 refine ⟨_, rfl, ?_⟩
 have hX73 := hX50.trans hx72 (fun i hi => xO i hi)
 have ho74 := ho58.extS hx72 (notO ha54)
 have hb75 := hb51.extS hx72 (xJ ha9)
 have hb76 := hb52.extS hx72 (xJ ha20)
 have hb77 := hb53.extS hx72 (xJ ha33)
 have ho83 := ho66.weaken hX50.size
 have hfo84 := hif67.1.lo
 refine qI rfl (yL [(.slice none 0 0)] zr26 rfl hX73.pins (fun b85 w86 hk87 hb88 hp89 hl90 => ?_))
 have hX91 := hX73.step hp89 hl90
 have ho92 := ho74.below hl90
 have ho93 := ho83.below hl90
 have hb94 := hb69.below hl90
 have hb95 := hb75.below hl90
 have hb96 := hb76.below hl90
 have hb97 := hb77.below hl90
 have ha98 : Apart (some b85) u37.ownBlock := zI (congrArg some hk87) ho74.lt
 have ha99 : Apart (some b85) u60.ownBlock := zI (congrArg some hk87) ho83.lt
 have ha100 : Apart (some b85) (some c) := zG (congrArg some hk87) hb69.lt
 have ha101 : Apart (some b85) (some b1) := zG (congrArg some hk87) hb75.lt
 have ha102 : Apart (some b85) (some b11) := zG (congrArg some hk87) hb76.lt
 have ha103 : Apart (some b85) (some b23) := zG (congrArg some hk87) hb77.lt
 have hlo104 : w.heap.size ≤ b85 := by have := hX73.size; omega
 refine qI rfl (yL [(.slice none 0 0)] zr26 rfl hX91.pins (fun b105 w106 hk107 hb108 hp109 hl110 => ?_))
 have hX111 := hX91.step hp109 hl110
 have ho112 := ho92.below hl110
 have ha119 : Apart (some b105) u37.ownBlock := zI (congrArg some hk107) ho92.lt
 have ha120 : Apart (some b105) u60.ownBlock := zI (congrArg some hk107) ho93.lt
 have ha121 : Apart (some b105) (some c) := zG (congrArg some hk107) hb94.lt
 have ha122 : Apart (some b105) (some b1) := zG (congrArg some hk107) hb95.lt
 have ha123 : Apart (some b105) (some b11) := zG (congrArg some hk107) hb96.lt
 have ha124 : Apart (some b105) (some b23) := zG (congrArg some hk107) hb97.lt
 have ha125 : Apart (some b105) (some b85) := zG (congrArg some hk107) hb88.lt
 have hlo126 : w.heap.size ≤ b105 := by have := hX91.size; omega
 refine q0 rfl rfl rfl (yD (cs' := [u37]) (us := [u37]) (v := (.agg [u37].toArray)) sz26 rfl rfl rfl (yE ho112.one) hX111.pins (hb88.below hl110) (dK rfl) rfl (fun w127 hb128 hp129 hg130 hz131 => ?_))
 have hX132 := hX111.write hp129 hg130 ((zS hlo104))
 have ho134 := (ho93.below hl110).keptA hg130 ha99.symm
 refine q0 rfl rfl rfl (yD (cs' := [u60]) (us := [u60]) (v := (.agg [u60].toArray)) sz26 rfl rfl rfl (yE ho134.one) hX132.pins (hb108.keptA hg130 ha125) (dK rfl) rfl (fun w140 hb141 hp142 hg143 hz144 => ?_))
 have hb152 := hb128.keptA hg143 ha125.symm
 refine qe (zA (zD (zD (zE ?_))))
 refine qD rfl (zU (cs := [u60]) ag26 sz26 rfl (fun j u hj => hb141.cell (by simpa using hj))) (qD rfl (zU (cs := [u37]) ag26 sz26 rfl (fun j u hj => hb152.cell (by simpa using hj))) ?_)
 obtain ⟨G153, hle156, hX155, hr154, hf157⟩ := (ho134.keptA hg143 ha120.symm).sealed (hX132.write hp142 hg143 ((zS hlo126)))
 obtain ⟨G165, hle168, hX167, hr166, hf169⟩ := (((ho112.keptA hg130 ha98.symm).keptA hg143 ha119.symm).moreO hle156 hf157 (zV ho66.lt ho58.lt).symm).sealed hX155
 refine qI rfl (zK (vs := [(.agg [u60].toArray), (.agg [u37].toArray)]) Tryz.func99 nm99 rfl rfl rfl ?_)
 refine dJ (jX hX167.pins (hr154.mono hle168) hr166 ⟨hif67.1.wf.ok, hif67.1.lo⟩ ⟨hif44.1.wf.ok, hif44.1.lo⟩ (by omega)) ?_
 rintro _ w177 ⟨G176, rfl, hx178⟩
 refine ⟨_, rfl, ?_⟩
 have hX179 := hX167.tr hx178
 have hb180 := (((((hb94.below hl110).keptA hg130 ha100.symm).keptA hg143 ha121.symm).moreO hf157 (zX ho66.lt hb46.lt).symm).moreO hf169 ha54.symm).ext hx178
 have hb181 := (((((hb95.below hl110).keptA hg130 ha101.symm).keptA hg143 ha122.symm).moreO hf157 (zX ho66.lt hb51.lt).symm).moreO hf169 (zX ho43.lt hb31.lt).symm).ext hx178
 have hb182 := (((((hb96.below hl110).keptA hg130 ha102.symm).keptA hg143 ha123.symm).moreO hf157 (zX ho66.lt hb52.lt).symm).moreO hf169 (zX ho43.lt hb32.lt).symm).ext hx178
 have hb183 := (((((hb97.below hl110).keptA hg130 ha103.symm).keptA hg143 ha124.symm).moreO hf157 (zX ho66.lt hb53.lt).symm).moreO hf169 (zX ho43.lt hb26.lt).symm).ext hx178
 have hb184 := ((hb152.moreO hf157 ha99).moreO hf169 ha98).ext hx178
 have hb185 := ((hb141.moreO hf157 ha120).moreO hf169 ha119).ext hx178
 refine qD rfl (zB (v := (.bool (decP (geG (gOf (formG g61)) (gOf (formG g38)))))) rfl) (qb (t := 16) rfl (fun h186 => ?_) (fun h186 => ?_))
 refine qdg rfl rfl rfl rfl rfl rfl (zU (cs := [u37]) ag26 sz26 rfl (fun j u hj => hb184.cell (by simpa using hj))) (qdg rfl rfl rfl rfl rfl rfl (zU (cs := [u60]) ag26 sz26 rfl (fun j u hj => hb185.cell (by simpa using hj))) (q1g rfl rfl rfl rfl rfl rfl (zK (vs := [(.agg [u37].toArray), (.agg [u60].toArray)]) Tryz.func99 nm99 rfl rfl rfl ?_)))
 refine dJ (jX hX179.pins (hr166.mono hx178.le) (hr154.mono (dH hle168 hx178.le)) ⟨hif44.1.wf.ok, hif44.1.lo⟩ ⟨hif67.1.wf.ok, hif67.1.lo⟩ (by omega)) ?_
 rintro _ w188 ⟨G187, rfl, hx189⟩
 refine ⟨_, rfl, ?_⟩
 have hX190 := hX179.tr hx189
 have hb191 := hb180.ext hx189
 have hb192 := hb181.ext hx189
 have hb193 := hb182.ext hx189
 have hb194 := hb183.ext hx189
 have hb195 := hb184.ext hx189
 have hb196 := hb185.ext hx189
 refine qdg rfl rfl rfl rfl rfl rfl (xT rfl) (qD rfl (yG (v := (.bool (!(decP (geG (gOf (formG g38)) (gOf (formG g61))))))) rfl rfl) (qe (zA ?_)))
 refine xV rfl rfl (fun h197 => ?_) (fun h197 => ?_)
 refine wp_skip (zA (zD (zD (zE ?_))))
 refine qD rfl (zU (cs := [u37]) ag26 sz26 rfl (fun j u hj => hb195.cell (by simpa using hj))) (qD rfl (zU (cs := [u60]) ag26 sz26 rfl (fun j u hj => hb196.cell (by simpa using hj))) (qI rfl (zK (vs := [(.agg [u37].toArray), (.agg [u60].toArray)]) Tryz.func99 nm99 rfl rfl rfl ?_)))
 refine dJ (jX hX190.pins (hr166.mono (dH hx178.le hx189.le)) (hr154.mono (dH (dH hle168 hx178.le) hx189.le)) ⟨hif44.1.wf.ok, hif44.1.lo⟩ ⟨hif67.1.wf.ok, hif67.1.lo⟩ (by omega)) ?_
 rintro _ w199 ⟨G198, rfl, hx200⟩
 refine ⟨_, rfl, ?_⟩
 have hX201 := hX190.tr hx200
 have hb202 := hb191.ext hx200
 have hb203 := hb192.ext hx200
 have hb204 := hb193.ext hx200
 have hb205 := hb194.ext hx200
 have hb206 := hb195.ext hx200
 have hb207 := hb196.ext hx200
 refine qD rfl (xT rfl) (qe (zA ?_))
 refine xV rfl rfl (fun h208 => ?_) (fun h208 => ?_)
 refine wp_skip (zA (zD (zE ?_)))
 refine qD rfl (zU (cs := [u37]) ag26 sz26 rfl (fun j u hj => hb206.cell (by simpa using hj))) (qD rfl (zU (cs := [u60]) ag26 sz26 rfl (fun j u hj => hb207.cell (by simpa using hj))) (qI rfl (zK (vs := [(.agg [u37].toArray), (.agg [u60].toArray)]) Tryz.func100 sS rfl rfl rfl ?_)))
 refine dJ (qK hX201.pins (hr166.mono (dH (dH hx178.le hx189.le) hx200.le)) (hr154.mono (dH (dH (dH hle168 hx178.le) hx189.le) hx200.le))) ?_
 rintro _ w211 ⟨u209, G210, rfl, hd212, hx213⟩
 refine ⟨_, rfl, ?_⟩
 have hX214 := hX201.tr hx213
 have hb215 := hb202.ext hx213
 have hb216 := hb203.ext hx213
 have hb217 := hb204.ext hx213
 have hb218 := hb205.ext hx213
 have hb219 := hb206.ext hx213
 have hb220 := hb207.ext hx213
 have hone221 := hd212.one
 refine qD rfl (zB (v := (.tuple #[(.agg [u209].toArray), (.bool (prfB (formG g38) (formG g61)))])) rfl) (qD rfl (yB (v := (.agg [u209].toArray)) rfl rfl) (qD rfl (yB (v := (.bool (prfB (formG g38) (formG g61)))) rfl rfl) (qI rfl (yL [(.slice none 0 0)] zr38 rfl hX214.pins (fun b222 w223 hk224 hb225 hp226 hl227 => ?_)))))
 have hX228 := hX214.step hp226 hl227
 have hs236 := Nat.le_trans (Nat.le_refl w211.heap.size) hl227.size
 have ha238 : Apart (some b222) (some b1) := zG (congrArg some hk224) hb216.lt
 have ha239 : Apart (some b222) (some b11) := zG (congrArg some hk224) hb217.lt
 have ha243 : w211.heap.size ≤ b222 ∨ b222 < w199.heap.size := Or.inl (by have e := Option.some.inj (congrArg some hk224); have := (Nat.le_refl w211.heap.size); omega)
 have hlo244 : w.heap.size ≤ b222 := by have := hX214.size; omega
 refine q0 rfl rfl rfl (yD (cs' := [u209]) (us := [u209]) (v := (.agg [u209].toArray)) sz38 rfl rfl rfl (yE hone221) hX228.pins hb225 (dK rfl) rfl (fun w245 hb246 hp247 hg248 hz249 => ?_))
 have hX250 := hX228.write hp247 hg248 ((zS hlo244))
 have hs258 := Nat.le_trans hs236 hg248.size
 refine qD rfl (zC (v := (.bool (prfB (formG g38) (formG g61)))) rfl) (qe (zA (zD ?_)))
 refine xD (S := fun wz => BxR wz b85 [u37] ∧ BxR wz b105 [u60] ∧ BxR wz b222 [u209]) (last := 5) (by kernel_rfl) rfl ?_
 have hl259 := bdr w245
 have hX261 := hX250.step (hX250.pins.below hl259) hl259
 have hb266 := ((hb219.below hl227).keptA hg248 (zG (congrArg some hk224) hb219.lt).symm).below hl259
 have hb267 := ((hb220.below hl227).keptA hg248 (zG (congrArg some hk224) hb220.lt).symm).below hl259
 have hb268 := hb246.below hl259
 have hs270 := Nat.le_trans hs258 hl259.size
 refine dT (i := 0) rfl rfl (by kernel_rfl) (fun _ hS => zU (cs := [u37]) ag26 sz26 rfl (fun j u hj => hS.1 _ _ (by simpa using hj))) ⟨hb266.reads, hb267.reads, hb268.reads⟩ ?_
 refine dT (i := 1) rfl rfl (by kernel_rfl) (fun _ hS => zU (cs := [u60]) ag26 sz26 rfl (fun j u hj => hS.2.1 _ _ (by simpa using hj))) ⟨hb266.reads, hb267.reads, hb268.reads⟩ ?_
 refine dT (i := 2) rfl rfl (by kernel_rfl) (fun _ hS => zU (cs := [u209]) ag38 sz38 rfl (fun j u hj => hS.2.2 _ _ (by simpa using hj))) ⟨hb266.reads, hb267.reads, hb268.reads⟩ ?_
 refine zR (i := 3) (by kernel_rfl) (xQ (i := 3) rfl rfl rfl (zH rfl _) (yD (cs' := [u37]) (us := [u37]) (v := (.agg [u37].toArray)) sz26 rfl rfl rfl (yE hr166.one) hX261.pins (((hb216.below hl227).keptA hg248 ha238.symm).below hl259) (dK rfl) rfl (fun w271 hb272 hp273 hg274 hz275 => ?_)))
 have hX276 := hX261.write hp273 hg274 ((zS hlo10))
 have hb280 := hb266.keptA hg274 ha101
 have hb281 := hb267.keptA hg274 ha122
 have hb282 := hb268.keptA hg274 ha238
 have hs284 := Nat.le_trans hs270 hg274.size
 refine ⟨fun _ => ⟨hb280.reads, hb281.reads, hb282.reads⟩, ?_⟩
 refine zR (i := 4) (by kernel_rfl) (xQ (i := 4) rfl rfl rfl (zH rfl _) (yD (cs' := [u60]) (us := [u60]) (v := (.agg [u60].toArray)) sz26 rfl rfl rfl (yE hr154.one) hX276.pins ((((hb217.below hl227).keptA hg248 ha239.symm).below hl259).keptA hg274 ha21) (dK rfl) rfl (fun w285 hb286 hp287 hg288 hz289 => ?_)))
 have hX290 := hX276.write hp287 hg288 ((zS hlo22))
 have hs298 := Nat.le_trans hs284 hg288.size
 refine ⟨fun _ => ⟨(hb280.keptA hg288 ha102).reads, (hb281.keptA hg288 ha123).reads, (hb282.keptA hg288 ha239).reads⟩, ?_⟩
 refine zR (i := 5) (by kernel_rfl) (xQ (i := 5) rfl rfl rfl (zH rfl _) (yD (cs' := [u209]) (us := [u209]) (v := (.agg [u209].toArray)) sz38 rfl rfl rfl (yE hone221) hX290.pins (((((hb218.below hl227).keptA hg248 (zG (congrArg some hk224) hb218.lt).symm).below hl259).keptA hg274 ha34).keptA hg288 ha35) (dK rfl) rfl (fun w299 hb300 hp301 hg302 hz303 => ?_)))
 have hs312 := Nat.le_trans hs298 hg302.size
 refine ⟨fun h => absurd rfl h, ?_⟩
 exact yP (by kernel_rfl) (zA (wp_ret (zQ (vI (cs := [u37]) (ds := [u60]) (es := [u209]) rfl rfl rfl rfl rfl rfl rfl ag26 sz26 rfl ag38 sz38 (fun j u hj => by rw [Nat.zero_add]; exact ((hb272.keptA hg288 ha21.symm).keptA hg302 ha34.symm).cell hj) (fun j u hj => by rw [Nat.zero_add]; exact (hb286.keptA hg302 ha35.symm).cell hj) (fun j u hj => by rw [Nat.zero_add]; exact hb300.cell hj) (⟨_, _, _, _, _, _, _, _, _, _, _, rfl, (hr166.mono (dH (dH (dH hx178.le hx189.le) hx200.le) hx213.le)), (hr154.mono (dH (dH (dH (dH hle168 hx178.le) hx189.le) hx200.le) hx213.le)), ((((((hd212.below hl227).kept hg248 ha243).below hl259).kept hg274 (Or.inr hb203.lt)).kept hg288 (Or.inr hb204.lt)).kept hg302 (Or.inr hb205.lt)), hX201.size, hs312, vV _ _, (vG _ _).wf, gA _ _, ((((((hb215.below hl227).keptA hg248 (zG (congrArg some hk224) hb215.lt).symm).below hl259).keptA hg274 ha9.symm).keptA hg288 ha20.symm).keptA hg302 ha33.symm), (by omega), (by omega), (hX290.write hp301 hg302 ((zS hlo36)))⟩)))))
 refine zE (qD rfl (zU (cs := [u37]) ag26 sz26 rfl (fun j u hj => hb206.cell (by simpa using hj))) (q0 rfl rfl rfl (yD (cs' := [u37]) (us := [u37]) (v := (.agg [u37].toArray)) sz26 rfl rfl rfl (yE hr166.one) hX201.pins hb207 (dK rfl) rfl (fun w313 hb314 hp315 hg316 hz317 => ?_))))
 have hX318 := hX201.write hp315 hg316 ((zS hlo126))
 have hb320 := hb203.keptA hg316 ha122.symm
 have hb321 := hb204.keptA hg316 ha123.symm
 have hb322 := hb205.keptA hg316 ha124.symm
 have hb323 := hb206.keptA hg316 ha125.symm
 refine qe (zA (zD (zE ?_)))
 refine qD rfl (zU (cs := [u37]) ag26 sz26 rfl (fun j u hj => hb323.cell (by simpa using hj))) (qD rfl (zU (cs := [u37]) ag26 sz26 rfl (fun j u hj => hb314.cell (by simpa using hj))) (qI rfl (zK (vs := [(.agg [u37].toArray), (.agg [u37].toArray)]) Tryz.func100 sS rfl rfl rfl ?_)))
 refine dJ (qK hX318.pins (hr166.mono (dH (dH hx178.le hx189.le) hx200.le)) (hr166.mono (dH (dH hx178.le hx189.le) hx200.le))) ?_
 rintro _ w326 ⟨u324, G325, rfl, hd327, hx328⟩
 refine ⟨_, rfl, ?_⟩
 have hX329 := hX318.tr hx328
 have hb330 := (hb202.keptA hg316 ha121.symm).ext hx328
 have hb331 := hb320.ext hx328
 have hb332 := hb321.ext hx328
 have hb333 := hb322.ext hx328
 have hb334 := hb323.ext hx328
 have hb335 := hb314.ext hx328
 have hone336 := hd327.one
 refine qD rfl (zB (v := (.tuple #[(.agg [u324].toArray), (.bool (prfB (formG g38) (formG g38)))])) rfl) (qD rfl (yB (v := (.agg [u324].toArray)) rfl rfl) (qD rfl (yB (v := (.bool (prfB (formG g38) (formG g38)))) rfl rfl) (qI rfl (yL [(.slice none 0 0)] zr38 rfl hX329.pins (fun b337 w338 hk339 hb340 hp341 hl342 => ?_)))))
 have hX343 := hX329.step hp341 hl342
 have hs351 := Nat.le_trans (Nat.le_refl w326.heap.size) hl342.size
 have ha353 : Apart (some b337) (some b1) := zG (congrArg some hk339) hb331.lt
 have ha354 : Apart (some b337) (some b11) := zG (congrArg some hk339) hb332.lt
 have ha358 : w326.heap.size ≤ b337 ∨ b337 < w313.heap.size := Or.inl (by have e := Option.some.inj (congrArg some hk339); have := (Nat.le_refl w326.heap.size); omega)
 have hlo359 : w.heap.size ≤ b337 := by have := hX329.size; omega
 refine q0 rfl rfl rfl (yD (cs' := [u324]) (us := [u324]) (v := (.agg [u324].toArray)) sz38 rfl rfl rfl (yE hone336) hX343.pins hb340 (dK rfl) rfl (fun w360 hb361 hp362 hg363 hz364 => ?_))
 have hX365 := hX343.write hp362 hg363 ((zS hlo359))
 have hs373 := Nat.le_trans hs351 hg363.size
 refine qD rfl (zC (v := (.bool (prfB (formG g38) (formG g38)))) rfl) (qe (zA (zD ?_)))
 refine xD (S := fun wz => BxR wz b85 [u37] ∧ BxR wz b105 [u37] ∧ BxR wz b337 [u324]) (last := 5) (by kernel_rfl) rfl ?_
 have hl374 := bdr w360
 have hX376 := hX365.step (hX365.pins.below hl374) hl374
 have hb381 := ((hb334.below hl342).keptA hg363 (zG (congrArg some hk339) hb334.lt).symm).below hl374
 have hb382 := ((hb335.below hl342).keptA hg363 (zG (congrArg some hk339) hb335.lt).symm).below hl374
 have hb383 := hb361.below hl374
 have hs385 := Nat.le_trans hs373 hl374.size
 refine dT (i := 0) rfl rfl (by kernel_rfl) (fun _ hS => zU (cs := [u37]) ag26 sz26 rfl (fun j u hj => hS.1 _ _ (by simpa using hj))) ⟨hb381.reads, hb382.reads, hb383.reads⟩ ?_
 refine dT (i := 1) rfl rfl (by kernel_rfl) (fun _ hS => zU (cs := [u37]) ag26 sz26 rfl (fun j u hj => hS.2.1 _ _ (by simpa using hj))) ⟨hb381.reads, hb382.reads, hb383.reads⟩ ?_
 refine dT (i := 2) rfl rfl (by kernel_rfl) (fun _ hS => zU (cs := [u324]) ag38 sz38 rfl (fun j u hj => hS.2.2 _ _ (by simpa using hj))) ⟨hb381.reads, hb382.reads, hb383.reads⟩ ?_
 refine zR (i := 3) (by kernel_rfl) (xQ (i := 3) rfl rfl rfl (zH rfl _) (yD (cs' := [u37]) (us := [u37]) (v := (.agg [u37].toArray)) sz26 rfl rfl rfl (yE hr166.one) hX376.pins (((hb331.below hl342).keptA hg363 ha353.symm).below hl374) (dK rfl) rfl (fun w386 hb387 hp388 hg389 hz390 => ?_)))
 have hX391 := hX376.write hp388 hg389 ((zS hlo10))
 have hb395 := hb381.keptA hg389 ha101
 have hb396 := hb382.keptA hg389 ha122
 have hb397 := hb383.keptA hg389 ha353
 have hs399 := Nat.le_trans hs385 hg389.size
 refine ⟨fun _ => ⟨hb395.reads, hb396.reads, hb397.reads⟩, ?_⟩
 refine zR (i := 4) (by kernel_rfl) (xQ (i := 4) rfl rfl rfl (zH rfl _) (yD (cs' := [u37]) (us := [u37]) (v := (.agg [u37].toArray)) sz26 rfl rfl rfl (yE hr166.one) hX391.pins ((((hb332.below hl342).keptA hg363 ha354.symm).below hl374).keptA hg389 ha21) (dK rfl) rfl (fun w400 hb401 hp402 hg403 hz404 => ?_)))
 have hX405 := hX391.write hp402 hg403 ((zS hlo22))
 have hs413 := Nat.le_trans hs399 hg403.size
 refine ⟨fun _ => ⟨(hb395.keptA hg403 ha102).reads, (hb396.keptA hg403 ha123).reads, (hb397.keptA hg403 ha354).reads⟩, ?_⟩
 refine zR (i := 5) (by kernel_rfl) (xQ (i := 5) rfl rfl rfl (zH rfl _) (yD (cs' := [u324]) (us := [u324]) (v := (.agg [u324].toArray)) sz38 rfl rfl rfl (yE hone336) hX405.pins (((((hb333.below hl342).keptA hg363 (zG (congrArg some hk339) hb333.lt).symm).below hl374).keptA hg389 ha34).keptA hg403 ha35) (dK rfl) rfl (fun w414 hb415 hp416 hg417 hz418 => ?_)))
 have hs427 := Nat.le_trans hs413 hg417.size
 refine ⟨fun h => absurd rfl h, ?_⟩
 exact yP (by kernel_rfl) (zA (wp_ret (zQ (vI (cs := [u37]) (ds := [u37]) (es := [u324]) rfl rfl rfl rfl rfl rfl rfl ag26 sz26 rfl ag38 sz38 (fun j u hj => by rw [Nat.zero_add]; exact ((hb387.keptA hg403 ha21.symm).keptA hg417 ha34.symm).cell hj) (fun j u hj => by rw [Nat.zero_add]; exact (hb401.keptA hg417 ha35.symm).cell hj) (fun j u hj => by rw [Nat.zero_add]; exact hb415.cell hj) (⟨_, _, _, _, _, _, _, _, _, _, _, rfl, (hr166.mono (dH (dH (dH hx178.le hx189.le) hx200.le) hx328.le)), (hr166.mono (dH (dH (dH hx178.le hx189.le) hx200.le) hx328.le)), ((((((hd327.below hl342).kept hg363 ha358).below hl374).kept hg389 (Or.inr hb320.lt)).kept hg403 (Or.inr hb321.lt)).kept hg417 (Or.inr hb322.lt)), hX318.size, hs427, vV _ _, (vG _ _).wf, gA _ _, ((((((hb330.below hl342).keptA hg363 (zG (congrArg some hk339) hb330.lt).symm).below hl374).keptA hg389 ha9.symm).keptA hg403 ha20.symm).keptA hg417 ha33.symm), (by omega), (by omega), (hX405.write hp416 hg417 ((zS hlo36)))⟩)))))
 refine zE (qD rfl (zU (cs := [u60]) ag26 sz26 rfl (fun j u hj => hb196.cell (by simpa using hj))) (qD rfl (zU (cs := [u37]) ag26 sz26 rfl (fun j u hj => hb195.cell (by simpa using hj))) (q0 rfl rfl rfl (yD (cs' := [u60]) (us := [u60]) (v := (.agg [u60].toArray)) sz26 rfl rfl rfl (yE hr154.one) hX190.pins hb195 (dK rfl) rfl (fun w428 hb429 hp430 hg431 hz432 => ?_)))))
 have hX433 := hX190.write hp430 hg431 ((zS hlo104))
 refine q0 rfl rfl rfl (yD (cs' := [u37]) (us := [u37]) (v := (.agg [u37].toArray)) sz26 rfl rfl rfl (yE hr166.one) hX433.pins (hb196.keptA hg431 ha125) (dK rfl) rfl (fun w439 hb440 hp441 hg442 hz443 => ?_))
 have hX444 := hX433.write hp441 hg442 ((zS hlo126))
 have hb449 := hb429.keptA hg442 ha125.symm
 refine qe (zA (zD (zD (zE ?_))))
 refine qD rfl (zU (cs := [u60]) ag26 sz26 rfl (fun j u hj => hb449.cell (by simpa using hj))) (qD rfl (zU (cs := [u37]) ag26 sz26 rfl (fun j u hj => hb440.cell (by simpa using hj))) (qI rfl (zK (vs := [(.agg [u60].toArray), (.agg [u37].toArray)]) Tryz.func99 nm99 rfl rfl rfl ?_)))
 refine dJ (jX hX444.pins (hr154.mono (dH (dH hle168 hx178.le) hx189.le)) (hr166.mono (dH hx178.le hx189.le)) ⟨hif67.1.wf.ok, hif67.1.lo⟩ ⟨hif44.1.wf.ok, hif44.1.lo⟩ (by omega)) ?_
 rintro _ w451 ⟨G450, rfl, hx452⟩
 refine ⟨_, rfl, ?_⟩
 have hX453 := hX444.tr hx452
 have hb454 := ((hb191.keptA hg431 ha100.symm).keptA hg442 ha121.symm).ext hx452
 have hb455 := ((hb192.keptA hg431 ha101.symm).keptA hg442 ha122.symm).ext hx452
 have hb456 := ((hb193.keptA hg431 ha102.symm).keptA hg442 ha123.symm).ext hx452
 have hb457 := ((hb194.keptA hg431 ha103.symm).keptA hg442 ha124.symm).ext hx452
 have hb458 := hb449.ext hx452
 have hb459 := hb440.ext hx452
 refine qD rfl (xT rfl) (qe (zA ?_))
 refine xV rfl rfl (fun h460 => ?_) (fun h460 => ?_)
 refine wp_skip (zA (zD (zE ?_)))
 refine qD rfl (zU (cs := [u60]) ag26 sz26 rfl (fun j u hj => hb458.cell (by simpa using hj))) (qD rfl (zU (cs := [u37]) ag26 sz26 rfl (fun j u hj => hb459.cell (by simpa using hj))) (qI rfl (zK (vs := [(.agg [u60].toArray), (.agg [u37].toArray)]) Tryz.func100 sS rfl rfl rfl ?_)))
 refine dJ (qK hX453.pins (hr154.mono (dH (dH (dH hle168 hx178.le) hx189.le) hx452.le)) (hr166.mono (dH (dH hx178.le hx189.le) hx452.le))) ?_
 rintro _ w463 ⟨u461, G462, rfl, hd464, hx465⟩
 refine ⟨_, rfl, ?_⟩
 have hX466 := hX453.tr hx465
 have hb467 := hb454.ext hx465
 have hb468 := hb455.ext hx465
 have hb469 := hb456.ext hx465
 have hb470 := hb457.ext hx465
 have hb471 := hb458.ext hx465
 have hb472 := hb459.ext hx465
 have hone473 := hd464.one
 refine qD rfl (zB (v := (.tuple #[(.agg [u461].toArray), (.bool (prfB (formG g61) (formG g38)))])) rfl) (qD rfl (yB (v := (.agg [u461].toArray)) rfl rfl) (qD rfl (yB (v := (.bool (prfB (formG g61) (formG g38)))) rfl rfl) (qI rfl (yL [(.slice none 0 0)] zr38 rfl hX466.pins (fun b474 w475 hk476 hb477 hp478 hl479 => ?_)))))
 have hX480 := hX466.step hp478 hl479
 have hs488 := Nat.le_trans (Nat.le_refl w463.heap.size) hl479.size
 have ha490 : Apart (some b474) (some b1) := zG (congrArg some hk476) hb468.lt
 have ha491 : Apart (some b474) (some b11) := zG (congrArg some hk476) hb469.lt
 have ha495 : w463.heap.size ≤ b474 ∨ b474 < w451.heap.size := Or.inl (by have e := Option.some.inj (congrArg some hk476); have := (Nat.le_refl w463.heap.size); omega)
 have hlo496 : w.heap.size ≤ b474 := by have := hX466.size; omega
 refine q0 rfl rfl rfl (yD (cs' := [u461]) (us := [u461]) (v := (.agg [u461].toArray)) sz38 rfl rfl rfl (yE hone473) hX480.pins hb477 (dK rfl) rfl (fun w497 hb498 hp499 hg500 hz501 => ?_))
 have hX502 := hX480.write hp499 hg500 ((zS hlo496))
 have hs510 := Nat.le_trans hs488 hg500.size
 refine qD rfl (zC (v := (.bool (prfB (formG g61) (formG g38)))) rfl) (qe (zA (zD ?_)))
 refine xD (S := fun wz => BxR wz b85 [u60] ∧ BxR wz b105 [u37] ∧ BxR wz b474 [u461]) (last := 5) (by kernel_rfl) rfl ?_
 have hl511 := bdr w497
 have hX513 := hX502.step (hX502.pins.below hl511) hl511
 have hb518 := ((hb471.below hl479).keptA hg500 (zG (congrArg some hk476) hb471.lt).symm).below hl511
 have hb519 := ((hb472.below hl479).keptA hg500 (zG (congrArg some hk476) hb472.lt).symm).below hl511
 have hb520 := hb498.below hl511
 have hs522 := Nat.le_trans hs510 hl511.size
 refine dT (i := 0) rfl rfl (by kernel_rfl) (fun _ hS => zU (cs := [u60]) ag26 sz26 rfl (fun j u hj => hS.1 _ _ (by simpa using hj))) ⟨hb518.reads, hb519.reads, hb520.reads⟩ ?_
 refine dT (i := 1) rfl rfl (by kernel_rfl) (fun _ hS => zU (cs := [u37]) ag26 sz26 rfl (fun j u hj => hS.2.1 _ _ (by simpa using hj))) ⟨hb518.reads, hb519.reads, hb520.reads⟩ ?_
 refine dT (i := 2) rfl rfl (by kernel_rfl) (fun _ hS => zU (cs := [u461]) ag38 sz38 rfl (fun j u hj => hS.2.2 _ _ (by simpa using hj))) ⟨hb518.reads, hb519.reads, hb520.reads⟩ ?_
 refine zR (i := 3) (by kernel_rfl) (xQ (i := 3) rfl rfl rfl (zH rfl _) (yD (cs' := [u60]) (us := [u60]) (v := (.agg [u60].toArray)) sz26 rfl rfl rfl (yE hr154.one) hX513.pins (((hb468.below hl479).keptA hg500 ha490.symm).below hl511) (dK rfl) rfl (fun w523 hb524 hp525 hg526 hz527 => ?_)))
 have hX528 := hX513.write hp525 hg526 ((zS hlo10))
 have hb532 := hb518.keptA hg526 ha101
 have hb533 := hb519.keptA hg526 ha122
 have hb534 := hb520.keptA hg526 ha490
 have hs536 := Nat.le_trans hs522 hg526.size
 refine ⟨fun _ => ⟨hb532.reads, hb533.reads, hb534.reads⟩, ?_⟩
 refine zR (i := 4) (by kernel_rfl) (xQ (i := 4) rfl rfl rfl (zH rfl _) (yD (cs' := [u37]) (us := [u37]) (v := (.agg [u37].toArray)) sz26 rfl rfl rfl (yE hr166.one) hX528.pins ((((hb469.below hl479).keptA hg500 ha491.symm).below hl511).keptA hg526 ha21) (dK rfl) rfl (fun w537 hb538 hp539 hg540 hz541 => ?_)))
 have hX542 := hX528.write hp539 hg540 ((zS hlo22))
 have hs550 := Nat.le_trans hs536 hg540.size
 refine ⟨fun _ => ⟨(hb532.keptA hg540 ha102).reads, (hb533.keptA hg540 ha123).reads, (hb534.keptA hg540 ha491).reads⟩, ?_⟩
 refine zR (i := 5) (by kernel_rfl) (xQ (i := 5) rfl rfl rfl (zH rfl _) (yD (cs' := [u461]) (us := [u461]) (v := (.agg [u461].toArray)) sz38 rfl rfl rfl (yE hone473) hX542.pins (((((hb470.below hl479).keptA hg500 (zG (congrArg some hk476) hb470.lt).symm).below hl511).keptA hg526 ha34).keptA hg540 ha35) (dK rfl) rfl (fun w551 hb552 hp553 hg554 hz555 => ?_)))
 have hs564 := Nat.le_trans hs550 hg554.size
 refine ⟨fun h => absurd rfl h, ?_⟩
 exact yP (by kernel_rfl) (zA (wp_ret (zQ (vI (cs := [u60]) (ds := [u37]) (es := [u461]) rfl rfl rfl rfl rfl rfl rfl ag26 sz26 rfl ag38 sz38 (fun j u hj => by rw [Nat.zero_add]; exact ((hb524.keptA hg540 ha21.symm).keptA hg554 ha34.symm).cell hj) (fun j u hj => by rw [Nat.zero_add]; exact (hb538.keptA hg554 ha35.symm).cell hj) (fun j u hj => by rw [Nat.zero_add]; exact hb552.cell hj) (⟨_, _, _, _, _, _, _, _, _, _, _, rfl, (hr154.mono (dH (dH (dH (dH hle168 hx178.le) hx189.le) hx452.le) hx465.le)), (hr166.mono (dH (dH (dH hx178.le hx189.le) hx452.le) hx465.le)), ((((((hd464.below hl479).kept hg500 ha495).below hl511).kept hg526 (Or.inr hb455.lt)).kept hg540 (Or.inr hb456.lt)).kept hg554 (Or.inr hb457.lt)), hX453.size, hs564, vV _ _, (vG _ _).wf, gA _ _, ((((((hb467.below hl479).keptA hg500 (zG (congrArg some hk476) hb467.lt).symm).below hl511).keptA hg526 ha9.symm).keptA hg540 ha20.symm).keptA hg554 ha33.symm), (by omega), (by omega), (hX542.write hp553 hg554 ((zS hlo36)))⟩)))))
 refine zE (qD rfl (zU (cs := [u60]) ag26 sz26 rfl (fun j u hj => hb458.cell (by simpa using hj))) (q0 rfl rfl rfl (yD (cs' := [u60]) (us := [u60]) (v := (.agg [u60].toArray)) sz26 rfl rfl rfl (yE hr154.one) hX453.pins hb459 (dK rfl) rfl (fun w565 hb566 hp567 hg568 hz569 => ?_))))
 have hX570 := hX453.write hp567 hg568 ((zS hlo126))
 have hb572 := hb455.keptA hg568 ha122.symm
 have hb573 := hb456.keptA hg568 ha123.symm
 have hb574 := hb457.keptA hg568 ha124.symm
 have hb575 := hb458.keptA hg568 ha125.symm
 refine qe (zA (zD (zE ?_)))
 refine qD rfl (zU (cs := [u60]) ag26 sz26 rfl (fun j u hj => hb575.cell (by simpa using hj))) (qD rfl (zU (cs := [u60]) ag26 sz26 rfl (fun j u hj => hb566.cell (by simpa using hj))) (qI rfl (zK (vs := [(.agg [u60].toArray), (.agg [u60].toArray)]) Tryz.func100 sS rfl rfl rfl ?_)))
 refine dJ (qK hX570.pins (hr154.mono (dH (dH (dH hle168 hx178.le) hx189.le) hx452.le)) (hr154.mono (dH (dH (dH hle168 hx178.le) hx189.le) hx452.le))) ?_
 rintro _ w578 ⟨u576, G577, rfl, hd579, hx580⟩
 refine ⟨_, rfl, ?_⟩
 have hX581 := hX570.tr hx580
 have hb582 := (hb454.keptA hg568 ha121.symm).ext hx580
 have hb583 := hb572.ext hx580
 have hb584 := hb573.ext hx580
 have hb585 := hb574.ext hx580
 have hb586 := hb575.ext hx580
 have hb587 := hb566.ext hx580
 have hone588 := hd579.one
 refine qD rfl (zB (v := (.tuple #[(.agg [u576].toArray), (.bool (prfB (formG g61) (formG g61)))])) rfl) (qD rfl (yB (v := (.agg [u576].toArray)) rfl rfl) (qD rfl (yB (v := (.bool (prfB (formG g61) (formG g61)))) rfl rfl) (qI rfl (yL [(.slice none 0 0)] zr38 rfl hX581.pins (fun b589 w590 hk591 hb592 hp593 hl594 => ?_)))))
 have hX595 := hX581.step hp593 hl594
 have hs603 := Nat.le_trans (Nat.le_refl w578.heap.size) hl594.size
 have ha605 : Apart (some b589) (some b1) := zG (congrArg some hk591) hb583.lt
 have ha606 : Apart (some b589) (some b11) := zG (congrArg some hk591) hb584.lt
 have ha610 : w578.heap.size ≤ b589 ∨ b589 < w565.heap.size := Or.inl (by have e := Option.some.inj (congrArg some hk591); have := (Nat.le_refl w578.heap.size); omega)
 have hlo611 : w.heap.size ≤ b589 := by have := hX581.size; omega
 refine q0 rfl rfl rfl (yD (cs' := [u576]) (us := [u576]) (v := (.agg [u576].toArray)) sz38 rfl rfl rfl (yE hone588) hX595.pins hb592 (dK rfl) rfl (fun w612 hb613 hp614 hg615 hz616 => ?_))
 have hX617 := hX595.write hp614 hg615 ((zS hlo611))
 have hs625 := Nat.le_trans hs603 hg615.size
 refine qD rfl (zC (v := (.bool (prfB (formG g61) (formG g61)))) rfl) (qe (zA (zD ?_)))
 refine xD (S := fun wz => BxR wz b85 [u60] ∧ BxR wz b105 [u60] ∧ BxR wz b589 [u576]) (last := 5) (by kernel_rfl) rfl ?_
 have hl626 := bdr w612
 have hX628 := hX617.step (hX617.pins.below hl626) hl626
 have hb633 := ((hb586.below hl594).keptA hg615 (zG (congrArg some hk591) hb586.lt).symm).below hl626
 have hb634 := ((hb587.below hl594).keptA hg615 (zG (congrArg some hk591) hb587.lt).symm).below hl626
 have hb635 := hb613.below hl626
 have hs637 := Nat.le_trans hs625 hl626.size
 refine dT (i := 0) rfl rfl (by kernel_rfl) (fun _ hS => zU (cs := [u60]) ag26 sz26 rfl (fun j u hj => hS.1 _ _ (by simpa using hj))) ⟨hb633.reads, hb634.reads, hb635.reads⟩ ?_
 refine dT (i := 1) rfl rfl (by kernel_rfl) (fun _ hS => zU (cs := [u60]) ag26 sz26 rfl (fun j u hj => hS.2.1 _ _ (by simpa using hj))) ⟨hb633.reads, hb634.reads, hb635.reads⟩ ?_
 refine dT (i := 2) rfl rfl (by kernel_rfl) (fun _ hS => zU (cs := [u576]) ag38 sz38 rfl (fun j u hj => hS.2.2 _ _ (by simpa using hj))) ⟨hb633.reads, hb634.reads, hb635.reads⟩ ?_
 refine zR (i := 3) (by kernel_rfl) (xQ (i := 3) rfl rfl rfl (zH rfl _) (yD (cs' := [u60]) (us := [u60]) (v := (.agg [u60].toArray)) sz26 rfl rfl rfl (yE hr154.one) hX628.pins (((hb583.below hl594).keptA hg615 ha605.symm).below hl626) (dK rfl) rfl (fun w638 hb639 hp640 hg641 hz642 => ?_)))
 have hX643 := hX628.write hp640 hg641 ((zS hlo10))
 have hb647 := hb633.keptA hg641 ha101
 have hb648 := hb634.keptA hg641 ha122
 have hb649 := hb635.keptA hg641 ha605
 have hs651 := Nat.le_trans hs637 hg641.size
 refine ⟨fun _ => ⟨hb647.reads, hb648.reads, hb649.reads⟩, ?_⟩
 refine zR (i := 4) (by kernel_rfl) (xQ (i := 4) rfl rfl rfl (zH rfl _) (yD (cs' := [u60]) (us := [u60]) (v := (.agg [u60].toArray)) sz26 rfl rfl rfl (yE hr154.one) hX643.pins ((((hb584.below hl594).keptA hg615 ha606.symm).below hl626).keptA hg641 ha21) (dK rfl) rfl (fun w652 hb653 hp654 hg655 hz656 => ?_)))
 have hX657 := hX643.write hp654 hg655 ((zS hlo22))
 have hs665 := Nat.le_trans hs651 hg655.size
 refine ⟨fun _ => ⟨(hb647.keptA hg655 ha102).reads, (hb648.keptA hg655 ha123).reads, (hb649.keptA hg655 ha606).reads⟩, ?_⟩
 refine zR (i := 5) (by kernel_rfl) (xQ (i := 5) rfl rfl rfl (zH rfl _) (yD (cs' := [u576]) (us := [u576]) (v := (.agg [u576].toArray)) sz38 rfl rfl rfl (yE hone588) hX657.pins (((((hb585.below hl594).keptA hg615 (zG (congrArg some hk591) hb585.lt).symm).below hl626).keptA hg641 ha34).keptA hg655 ha35) (dK rfl) rfl (fun w666 hb667 hp668 hg669 hz670 => ?_)))
 have hs679 := Nat.le_trans hs665 hg669.size
 refine ⟨fun h => absurd rfl h, ?_⟩
 exact yP (by kernel_rfl) (zA (wp_ret (zQ (vI (cs := [u60]) (ds := [u60]) (es := [u576]) rfl rfl rfl rfl rfl rfl rfl ag26 sz26 rfl ag38 sz38 (fun j u hj => by rw [Nat.zero_add]; exact ((hb639.keptA hg655 ha21.symm).keptA hg669 ha34.symm).cell hj) (fun j u hj => by rw [Nat.zero_add]; exact (hb653.keptA hg669 ha35.symm).cell hj) (fun j u hj => by rw [Nat.zero_add]; exact hb667.cell hj) (⟨_, _, _, _, _, _, _, _, _, _, _, rfl, (hr154.mono (dH (dH (dH (dH hle168 hx178.le) hx189.le) hx452.le) hx580.le)), (hr154.mono (dH (dH (dH (dH hle168 hx178.le) hx189.le) hx452.le) hx580.le)), ((((((hd579.below hl594).kept hg615 ha610).below hl626).kept hg641 (Or.inr hb572.lt)).kept hg655 (Or.inr hb573.lt)).kept hg669 (Or.inr hb574.lt)), hX570.size, hs679, vV _ _, (vG _ _).wf, gA _ _, ((((((hb582.below hl594).keptA hg615 (zG (congrArg some hk591) hb582.lt).symm).below hl626).keptA hg641 ha9.symm).keptA hg655 ha20.symm).keptA hg669 ha33.symm), (by omega), (by omega), (hX657.write hp668 hg669 ((zS hlo36)))⟩)))))
 refine qs rfl rfl rfl rfl rfl rfl (qs rfl rfl rfl rfl rfl rfl (qs rfl rfl rfl rfl rfl rfl (qs rfl rfl rfl rfl rfl rfl (qD rfl (yN (v := (.bool false)) rfl rfl) (qe (zA ?_))))))
 refine vP rfl rfl (wp_skip (zA (zD (zD (zE ?_)))))
 refine qD rfl (zU (cs := [u37]) ag26 sz26 rfl (fun j u hj => hb184.cell (by simpa using hj))) (qD rfl (zU (cs := [u60]) ag26 sz26 rfl (fun j u hj => hb185.cell (by simpa using hj))) (qI rfl (zK (vs := [(.agg [u37].toArray), (.agg [u60].toArray)]) Tryz.func99 nm99 rfl rfl rfl ?_)))
 refine dJ (jX hX179.pins (hr166.mono hx178.le) (hr154.mono (dH hle168 hx178.le)) ⟨hif44.1.wf.ok, hif44.1.lo⟩ ⟨hif67.1.wf.ok, hif67.1.lo⟩ (by omega)) ?_
 rintro _ w681 ⟨G680, rfl, hx682⟩
 refine ⟨_, rfl, ?_⟩
 have hX683 := hX179.tr hx682
 have hb684 := hb180.ext hx682
 have hb685 := hb181.ext hx682
 have hb686 := hb182.ext hx682
 have hb687 := hb183.ext hx682
 have hb688 := hb184.ext hx682
 have hb689 := hb185.ext hx682
 refine qD rfl (xT rfl) (qe (zA ?_))
 refine xV rfl rfl (fun h690 => ?_) (fun h690 => ?_)
 refine wp_skip (zA (zD (zE ?_)))
 refine qD rfl (zU (cs := [u37]) ag26 sz26 rfl (fun j u hj => hb688.cell (by simpa using hj))) (qD rfl (zU (cs := [u60]) ag26 sz26 rfl (fun j u hj => hb689.cell (by simpa using hj))) (qI rfl (zK (vs := [(.agg [u37].toArray), (.agg [u60].toArray)]) Tryz.func100 sS rfl rfl rfl ?_)))
 refine dJ (qK hX683.pins (hr166.mono (dH hx178.le hx682.le)) (hr154.mono (dH (dH hle168 hx178.le) hx682.le))) ?_
 rintro _ w693 ⟨u691, G692, rfl, hd694, hx695⟩
 refine ⟨_, rfl, ?_⟩
 have hX696 := hX683.tr hx695
 have hb697 := hb684.ext hx695
 have hb698 := hb685.ext hx695
 have hb699 := hb686.ext hx695
 have hb700 := hb687.ext hx695
 have hb701 := hb688.ext hx695
 have hb702 := hb689.ext hx695
 have hone703 := hd694.one
 refine qD rfl (zB (v := (.tuple #[(.agg [u691].toArray), (.bool (prfB (formG g38) (formG g61)))])) rfl) (qD rfl (yB (v := (.agg [u691].toArray)) rfl rfl) (qD rfl (yB (v := (.bool (prfB (formG g38) (formG g61)))) rfl rfl) (qI rfl (yL [(.slice none 0 0)] zr38 rfl hX696.pins (fun b704 w705 hk706 hb707 hp708 hl709 => ?_)))))
 have hX710 := hX696.step hp708 hl709
 have hs718 := Nat.le_trans (Nat.le_refl w693.heap.size) hl709.size
 have ha720 : Apart (some b704) (some b1) := zG (congrArg some hk706) hb698.lt
 have ha721 : Apart (some b704) (some b11) := zG (congrArg some hk706) hb699.lt
 have ha725 : w693.heap.size ≤ b704 ∨ b704 < w681.heap.size := Or.inl (by have e := Option.some.inj (congrArg some hk706); have := (Nat.le_refl w693.heap.size); omega)
 have hlo726 : w.heap.size ≤ b704 := by have := hX696.size; omega
 refine q0 rfl rfl rfl (yD (cs' := [u691]) (us := [u691]) (v := (.agg [u691].toArray)) sz38 rfl rfl rfl (yE hone703) hX710.pins hb707 (dK rfl) rfl (fun w727 hb728 hp729 hg730 hz731 => ?_))
 have hX732 := hX710.write hp729 hg730 ((zS hlo726))
 have hs740 := Nat.le_trans hs718 hg730.size
 refine qD rfl (zC (v := (.bool (prfB (formG g38) (formG g61)))) rfl) (qe (zA (zD ?_)))
 refine xD (S := fun wz => BxR wz b85 [u37] ∧ BxR wz b105 [u60] ∧ BxR wz b704 [u691]) (last := 5) (by kernel_rfl) rfl ?_
 have hl741 := bdr w727
 have hX743 := hX732.step (hX732.pins.below hl741) hl741
 have hb748 := ((hb701.below hl709).keptA hg730 (zG (congrArg some hk706) hb701.lt).symm).below hl741
 have hb749 := ((hb702.below hl709).keptA hg730 (zG (congrArg some hk706) hb702.lt).symm).below hl741
 have hb750 := hb728.below hl741
 have hs752 := Nat.le_trans hs740 hl741.size
 refine dT (i := 0) rfl rfl (by kernel_rfl) (fun _ hS => zU (cs := [u37]) ag26 sz26 rfl (fun j u hj => hS.1 _ _ (by simpa using hj))) ⟨hb748.reads, hb749.reads, hb750.reads⟩ ?_
 refine dT (i := 1) rfl rfl (by kernel_rfl) (fun _ hS => zU (cs := [u60]) ag26 sz26 rfl (fun j u hj => hS.2.1 _ _ (by simpa using hj))) ⟨hb748.reads, hb749.reads, hb750.reads⟩ ?_
 refine dT (i := 2) rfl rfl (by kernel_rfl) (fun _ hS => zU (cs := [u691]) ag38 sz38 rfl (fun j u hj => hS.2.2 _ _ (by simpa using hj))) ⟨hb748.reads, hb749.reads, hb750.reads⟩ ?_
 refine zR (i := 3) (by kernel_rfl) (xQ (i := 3) rfl rfl rfl (zH rfl _) (yD (cs' := [u37]) (us := [u37]) (v := (.agg [u37].toArray)) sz26 rfl rfl rfl (yE hr166.one) hX743.pins (((hb698.below hl709).keptA hg730 ha720.symm).below hl741) (dK rfl) rfl (fun w753 hb754 hp755 hg756 hz757 => ?_)))
 have hX758 := hX743.write hp755 hg756 ((zS hlo10))
 have hb762 := hb748.keptA hg756 ha101
 have hb763 := hb749.keptA hg756 ha122
 have hb764 := hb750.keptA hg756 ha720
 have hs766 := Nat.le_trans hs752 hg756.size
 refine ⟨fun _ => ⟨hb762.reads, hb763.reads, hb764.reads⟩, ?_⟩
 refine zR (i := 4) (by kernel_rfl) (xQ (i := 4) rfl rfl rfl (zH rfl _) (yD (cs' := [u60]) (us := [u60]) (v := (.agg [u60].toArray)) sz26 rfl rfl rfl (yE hr154.one) hX758.pins ((((hb699.below hl709).keptA hg730 ha721.symm).below hl741).keptA hg756 ha21) (dK rfl) rfl (fun w767 hb768 hp769 hg770 hz771 => ?_)))
 have hX772 := hX758.write hp769 hg770 ((zS hlo22))
 have hs780 := Nat.le_trans hs766 hg770.size
 refine ⟨fun _ => ⟨(hb762.keptA hg770 ha102).reads, (hb763.keptA hg770 ha123).reads, (hb764.keptA hg770 ha721).reads⟩, ?_⟩
 refine zR (i := 5) (by kernel_rfl) (xQ (i := 5) rfl rfl rfl (zH rfl _) (yD (cs' := [u691]) (us := [u691]) (v := (.agg [u691].toArray)) sz38 rfl rfl rfl (yE hone703) hX772.pins (((((hb700.below hl709).keptA hg730 (zG (congrArg some hk706) hb700.lt).symm).below hl741).keptA hg756 ha34).keptA hg770 ha35) (dK rfl) rfl (fun w781 hb782 hp783 hg784 hz785 => ?_)))
 have hs794 := Nat.le_trans hs780 hg784.size
 refine ⟨fun h => absurd rfl h, ?_⟩
 exact yP (by kernel_rfl) (zA (wp_ret (zQ (vI (cs := [u37]) (ds := [u60]) (es := [u691]) rfl rfl rfl rfl rfl rfl rfl ag26 sz26 rfl ag38 sz38 (fun j u hj => by rw [Nat.zero_add]; exact ((hb754.keptA hg770 ha21.symm).keptA hg784 ha34.symm).cell hj) (fun j u hj => by rw [Nat.zero_add]; exact (hb768.keptA hg784 ha35.symm).cell hj) (fun j u hj => by rw [Nat.zero_add]; exact hb782.cell hj) (⟨_, _, _, _, _, _, _, _, _, _, _, rfl, (hr166.mono (dH (dH hx178.le hx682.le) hx695.le)), (hr154.mono (dH (dH (dH hle168 hx178.le) hx682.le) hx695.le)), ((((((hd694.below hl709).kept hg730 ha725).below hl741).kept hg756 (Or.inr hb685.lt)).kept hg770 (Or.inr hb686.lt)).kept hg784 (Or.inr hb687.lt)), hX683.size, hs794, vV _ _, (vG _ _).wf, gA _ _, ((((((hb697.below hl709).keptA hg730 (zG (congrArg some hk706) hb697.lt).symm).below hl741).keptA hg756 ha9.symm).keptA hg770 ha20.symm).keptA hg784 ha33.symm), (by omega), (by omega), (hX772.write hp783 hg784 ((zS hlo36)))⟩)))))
 refine zE (qD rfl (zU (cs := [u37]) ag26 sz26 rfl (fun j u hj => hb688.cell (by simpa using hj))) (q0 rfl rfl rfl (yD (cs' := [u37]) (us := [u37]) (v := (.agg [u37].toArray)) sz26 rfl rfl rfl (yE hr166.one) hX683.pins hb689 (dK rfl) rfl (fun w795 hb796 hp797 hg798 hz799 => ?_))))
 have hX800 := hX683.write hp797 hg798 ((zS hlo126))
 have hb802 := hb685.keptA hg798 ha122.symm
 have hb803 := hb686.keptA hg798 ha123.symm
 have hb804 := hb687.keptA hg798 ha124.symm
 have hb805 := hb688.keptA hg798 ha125.symm
 refine qe (zA (zD (zE ?_)))
 refine qD rfl (zU (cs := [u37]) ag26 sz26 rfl (fun j u hj => hb805.cell (by simpa using hj))) (qD rfl (zU (cs := [u37]) ag26 sz26 rfl (fun j u hj => hb796.cell (by simpa using hj))) (qI rfl (zK (vs := [(.agg [u37].toArray), (.agg [u37].toArray)]) Tryz.func100 sS rfl rfl rfl ?_)))
 refine dJ (qK hX800.pins (hr166.mono (dH hx178.le hx682.le)) (hr166.mono (dH hx178.le hx682.le))) ?_
 rintro _ w808 ⟨u806, G807, rfl, hd809, hx810⟩
 refine ⟨_, rfl, ?_⟩
 have hX811 := hX800.tr hx810
 have hb812 := (hb684.keptA hg798 ha121.symm).ext hx810
 have hb813 := hb802.ext hx810
 have hb814 := hb803.ext hx810
 have hb815 := hb804.ext hx810
 have hb816 := hb805.ext hx810
 have hb817 := hb796.ext hx810
 have hone818 := hd809.one
 refine qD rfl (zB (v := (.tuple #[(.agg [u806].toArray), (.bool (prfB (formG g38) (formG g38)))])) rfl) (qD rfl (yB (v := (.agg [u806].toArray)) rfl rfl) (qD rfl (yB (v := (.bool (prfB (formG g38) (formG g38)))) rfl rfl) (qI rfl (yL [(.slice none 0 0)] zr38 rfl hX811.pins (fun b819 w820 hk821 hb822 hp823 hl824 => ?_)))))
 have hX825 := hX811.step hp823 hl824
 have hs833 := Nat.le_trans (Nat.le_refl w808.heap.size) hl824.size
 have ha835 : Apart (some b819) (some b1) := zG (congrArg some hk821) hb813.lt
 have ha836 : Apart (some b819) (some b11) := zG (congrArg some hk821) hb814.lt
 have ha840 : w808.heap.size ≤ b819 ∨ b819 < w795.heap.size := Or.inl (by have e := Option.some.inj (congrArg some hk821); have := (Nat.le_refl w808.heap.size); omega)
 have hlo841 : w.heap.size ≤ b819 := by have := hX811.size; omega
 refine q0 rfl rfl rfl (yD (cs' := [u806]) (us := [u806]) (v := (.agg [u806].toArray)) sz38 rfl rfl rfl (yE hone818) hX825.pins hb822 (dK rfl) rfl (fun w842 hb843 hp844 hg845 hz846 => ?_))
 have hX847 := hX825.write hp844 hg845 ((zS hlo841))
 have hs855 := Nat.le_trans hs833 hg845.size
 refine qD rfl (zC (v := (.bool (prfB (formG g38) (formG g38)))) rfl) (qe (zA (zD ?_)))
 refine xD (S := fun wz => BxR wz b85 [u37] ∧ BxR wz b105 [u37] ∧ BxR wz b819 [u806]) (last := 5) (by kernel_rfl) rfl ?_
 have hl856 := bdr w842
 have hX858 := hX847.step (hX847.pins.below hl856) hl856
 have hb863 := ((hb816.below hl824).keptA hg845 (zG (congrArg some hk821) hb816.lt).symm).below hl856
 have hb864 := ((hb817.below hl824).keptA hg845 (zG (congrArg some hk821) hb817.lt).symm).below hl856
 have hb865 := hb843.below hl856
 have hs867 := Nat.le_trans hs855 hl856.size
 refine dT (i := 0) rfl rfl (by kernel_rfl) (fun _ hS => zU (cs := [u37]) ag26 sz26 rfl (fun j u hj => hS.1 _ _ (by simpa using hj))) ⟨hb863.reads, hb864.reads, hb865.reads⟩ ?_
 refine dT (i := 1) rfl rfl (by kernel_rfl) (fun _ hS => zU (cs := [u37]) ag26 sz26 rfl (fun j u hj => hS.2.1 _ _ (by simpa using hj))) ⟨hb863.reads, hb864.reads, hb865.reads⟩ ?_
 refine dT (i := 2) rfl rfl (by kernel_rfl) (fun _ hS => zU (cs := [u806]) ag38 sz38 rfl (fun j u hj => hS.2.2 _ _ (by simpa using hj))) ⟨hb863.reads, hb864.reads, hb865.reads⟩ ?_
 refine zR (i := 3) (by kernel_rfl) (xQ (i := 3) rfl rfl rfl (zH rfl _) (yD (cs' := [u37]) (us := [u37]) (v := (.agg [u37].toArray)) sz26 rfl rfl rfl (yE hr166.one) hX858.pins (((hb813.below hl824).keptA hg845 ha835.symm).below hl856) (dK rfl) rfl (fun w868 hb869 hp870 hg871 hz872 => ?_)))
 have hX873 := hX858.write hp870 hg871 ((zS hlo10))
 have hb877 := hb863.keptA hg871 ha101
 have hb878 := hb864.keptA hg871 ha122
 have hb879 := hb865.keptA hg871 ha835
 have hs881 := Nat.le_trans hs867 hg871.size
 refine ⟨fun _ => ⟨hb877.reads, hb878.reads, hb879.reads⟩, ?_⟩
 refine zR (i := 4) (by kernel_rfl) (xQ (i := 4) rfl rfl rfl (zH rfl _) (yD (cs' := [u37]) (us := [u37]) (v := (.agg [u37].toArray)) sz26 rfl rfl rfl (yE hr166.one) hX873.pins ((((hb814.below hl824).keptA hg845 ha836.symm).below hl856).keptA hg871 ha21) (dK rfl) rfl (fun w882 hb883 hp884 hg885 hz886 => ?_)))
 have hX887 := hX873.write hp884 hg885 ((zS hlo22))
 have hs895 := Nat.le_trans hs881 hg885.size
 refine ⟨fun _ => ⟨(hb877.keptA hg885 ha102).reads, (hb878.keptA hg885 ha123).reads, (hb879.keptA hg885 ha836).reads⟩, ?_⟩
 refine zR (i := 5) (by kernel_rfl) (xQ (i := 5) rfl rfl rfl (zH rfl _) (yD (cs' := [u806]) (us := [u806]) (v := (.agg [u806].toArray)) sz38 rfl rfl rfl (yE hone818) hX887.pins (((((hb815.below hl824).keptA hg845 (zG (congrArg some hk821) hb815.lt).symm).below hl856).keptA hg871 ha34).keptA hg885 ha35) (dK rfl) rfl (fun w896 hb897 hp898 hg899 hz900 => ?_)))
 have hs909 := Nat.le_trans hs895 hg899.size
 refine ⟨fun h => absurd rfl h, ?_⟩
 exact yP (by kernel_rfl) (zA (wp_ret (zQ (vI (cs := [u37]) (ds := [u37]) (es := [u806]) rfl rfl rfl rfl rfl rfl rfl ag26 sz26 rfl ag38 sz38 (fun j u hj => by rw [Nat.zero_add]; exact ((hb869.keptA hg885 ha21.symm).keptA hg899 ha34.symm).cell hj) (fun j u hj => by rw [Nat.zero_add]; exact (hb883.keptA hg899 ha35.symm).cell hj) (fun j u hj => by rw [Nat.zero_add]; exact hb897.cell hj) (⟨_, _, _, _, _, _, _, _, _, _, _, rfl, (hr166.mono (dH (dH hx178.le hx682.le) hx810.le)), (hr166.mono (dH (dH hx178.le hx682.le) hx810.le)), ((((((hd809.below hl824).kept hg845 ha840).below hl856).kept hg871 (Or.inr hb802.lt)).kept hg885 (Or.inr hb803.lt)).kept hg899 (Or.inr hb804.lt)), hX800.size, hs909, vV _ _, (vG _ _).wf, gA _ _, ((((((hb812.below hl824).keptA hg845 (zG (congrArg some hk821) hb812.lt).symm).below hl856).keptA hg871 ha9.symm).keptA hg885 ha20.symm).keptA hg899 ha33.symm), (by omega), (by omega), (hX887.write hp898 hg899 ((zS hlo36)))⟩)))))
theorem proof_dspec {w : World} {c : Nat} {s : Int} (hP : Pins G w) (hB : Bx G w c [cv, .int .i64 a, .int .u64 s]) (hc : RSl eByte G cv code) (ha : 0 ≤ a ∧ a + 56 ≤ 1000000) (hs : 0 ≤ s ∧ s < 18446744073709551616) :
  Calls Tryz.prog 51 [(.pointer (some ⟨c, 0, none⟩))].toArray w fun e w' => ∃ (u v r : Value) (xs ys : List Nd) (ps : List Cl) (lo hi : Nat) (a' s' : Int) (G' : Pin), e = .returned (.tuple #[(.agg [u].toArray), (.agg [v].toArray), (.agg [r].toArray)]) ∧ RSl eNode G' u xs ∧ RSl eNode G' v ys ∧ DPrf 72 3 G' w' lo hi r ps ∧ w.heap.size ≤ lo ∧ hi ≤ w'.heap.size ∧ SmC ps ∧ WfL ps ∧ Bx G' w' c [cv, .int .i64 a', .int .u64 s'] ∧ (a ≤ a' ∧ a' ≤ a + 56) ∧ (0 ≤ s' ∧ s' < 18446744073709551616) ∧ Ext (inO (some c)) G w G' w' := by
 refine (rU hP hB hc ha hs).mono ?_
 rintro e w' ⟨u, v, r, xs, ys, ps, lo, hi, a', s', G', he, h1, h2, hd, hlo, hhi, hsm, hwf, hcl, hb⟩
 exact ⟨u, v, r, xs, ys, ps, lo, hi, a', s', G', he, h1, h2, hd, hlo, hhi, hsm, hwf, hb⟩
theorem proofR_spec {w : World} {c : Nat} {s : Int} (hP : Pins G w) (hB : Bx G w c [cv, .int .i64 a, .int .u64 s]) (hc : RSl eByte G cv code) (ha : 0 ≤ a ∧ a + 56 ≤ 1000000) (hs : 0 ≤ s ∧ s < 18446744073709551616) :
  Calls Tryz.prog 51 [(.pointer (some ⟨c, 0, none⟩))].toArray w fun e w' => ∃ (u v r : Value) (xs ys : List Nd) (ps : List Cl) (a' s' : Int) (G' : Pin), e = .returned (.tuple #[(.agg [u].toArray), (.agg [v].toArray), (.agg [r].toArray)]) ∧ RSl eNode G' u xs ∧ RSl eNode G' v ys ∧ RSl eClaim G' r ps ∧ LenB ps ∧ (∀ k, k < ps.length → ClOk (ps.getD k default)) ∧ Bx G' w' c [cv, .int .i64 a', .int .u64 s'] ∧ (a ≤ a' ∧ a' ≤ a + 56) ∧ (0 ≤ s' ∧ s' < 18446744073709551616) ∧ Ext (inO (some c)) G w G' w' := by
 refine (rU hP hB hc ha hs).mono ?_
 rintro e w' ⟨u, v, r, xs, ys, ps, lo, hi, a', s', G', rfl, h1, h2, hd, hlo, hhi, hsm, hwf, hcl, hb, hda, hds, hx⟩
 obtain ⟨G1, hle, hp, hr, hf⟩ := hd.readR hx.pins
 have hx1 := hx.promise hle hp (fun b o x h => (hf b o x h).imp id (fun a => a.1)) hlo
 exact ⟨u, v, r, xs, ys, ps, a', s', G1, rfl, h1.mono hle, h2.mono hle, hr, hsm.lenb, hcl, hb.moreR hf (Or.inr (Nat.lt_of_lt_of_le hB.lt hlo)), hda, hds, hx1⟩
end PTG
end Go.Proofs.YtajkbplgbikgdaaGreatDoor
namespace Go.Proofs.YtajkbplgbikgdaaGreatDoor
namespace PTF
open Go.RowKit Go.GL Go.Proofs
open B1 C1 D1 E1 SF1 DR1 DR2 DV1 PTE PTG
theorem pl81 : (Tryz.prog.underlying 81).bind (placesD Tryz.prog) = some [(0, 1), (1, 1), (2, 1)] := by kernel_rfl
variable {G : Pin} {v : Value} {code : List UInt8}
theorem pX {w : World} (hP : Pins G w) (hc : RSl eByte G v code) :
  Calls Tryz.prog 89 [v].toArray w fun e w' => ∃ (u v r : Value) (xs ys : List Nd) (ps : List Cl) (G' : Pin), e = .returned (.tuple #[(.agg [u].toArray), (.agg [v].toArray), (.agg [r].toArray)]) ∧ RSl eNode G' u xs ∧ RSl eNode G' v ys ∧ RSl eClaim G' r ps ∧ LenB ps ∧ Ext noS G w G' w' := by
 refine yM (n := 27) Tryz.func89 Tryz.ntmps89 rfl rfl ?_
 have hX0 := exr noS hP
 have hm := hc.max
 refine zD (zE ?_)
 refine qI rfl (yL [(.slice none 0 0)] zr26 rfl hX0.pins (fun b1 w2 hk3 hb4 hp5 hl6 => ?_))
 have hX7 := hX0.step hp5 hl6
 have hlo8 : w.heap.size ≤ b1 := by have := hX0.size; omega
 refine qI rfl (yL [(.slice none 0 0)] zr26 rfl hX7.pins (fun b9 w10 hk11 hb12 hp13 hl14 => ?_))
 have hX15 := hX7.step hp13 hl14
 have hb16 := hb4.below hl14
 have ha17 : Apart (some b9) (some b1) := zG (congrArg some hk11) hb4.lt
 have hlo18 : w.heap.size ≤ b9 := by have := hX7.size; omega
 refine qI rfl (yL [(.slice none 0 0)] zr38 rfl hX15.pins (fun b19 w20 hk21 hb22 hp23 hl24 => ?_))
 have hX25 := hX15.step hp23 hl24
 have hb26 := hb16.below hl24
 have hb27 := hb12.below hl24
 have ha28 : Apart (some b19) (some b1) := zG (congrArg some hk21) hb16.lt
 have ha29 : Apart (some b19) (some b9) := zG (congrArg some hk21) hb12.lt
 have hlo30 : w.heap.size ≤ b19 := by have := hX15.size; omega
 refine qe (zA (zD (zE ?_)))
 refine qD rfl (zB (v := v) rfl) (qD rfl (yY [(.slice none 0 0), (.int .i64 0), (.int .u64 0)] [v, (.int .i64 0), (.int .u64 0)] [(0, v, [v])] dC zr81 rfl pl81 rfl (List.forall_mem_cons.2 ⟨(yW hc.one), (fun _ h => by cases h)⟩) rfl) (qI rfl (xX [v, (.int .i64 0), (.int .u64 0)] (v := (.agg [v, (.int .i64 0), (.int .u64 0)].toArray)) rfl rfl hX25.pins (fun b31 w32 hk33 hb34 hp35 hl36 => ?_))))
 have hX37 := hX25.step hp35 hl36
 have hb38 := hb26.below hl36
 have hb39 := hb27.below hl36
 have hb40 := hb22.below hl36
 have ha41 : Apart (some b31) (some b1) := zG (congrArg some hk33) hb26.lt
 have ha42 : Apart (some b31) (some b9) := zG (congrArg some hk33) hb27.lt
 have ha43 : Apart (some b31) (some b19) := zG (congrArg some hk33) hb22.lt
 have hlo44 : w.heap.size ≤ b31 := by have := hX25.size; omega
 refine qD rfl (zC (v := (.pointer (some ⟨b31, 0, none⟩))) rfl) (qe (zA (zD (zE ?_))))
 refine qD rfl (zB (v := (.pointer (some ⟨b31, 0, none⟩))) rfl) (qI rfl (zK (vs := [(.pointer (some ⟨b31, 0, none⟩))]) Tryz.func51 nm51 rfl rfl rfl ?_))
 refine dJ (proof_dspec hX37.pins hb34 hc (by omega) (by omega)) ?_
 rintro _ w56 ⟨u45, v46, r47, xs48, ys49, ps50, lo51, hi52, a53, s54, G55, rfl, hr57, hr58, hd59, hlo60, hhi61, hsm62, hwf63, hb64, hda65, hds66, hx67⟩
 refine ⟨_, rfl, ?_⟩
 have hX68 := hX37.trans hx67 (fun i hi => (zS hlo44) i hi)
 have hb69 := hb38.extS hx67 (xJ ha41.symm)
 have hb70 := hb39.extS hx67 (xJ ha42.symm)
 have hb71 := hb40.extS hx67 (xJ ha43.symm)
 have hm72 := hr57.max
 have hm73 := hr58.max
 have hrn75 : hi52 ≤ b1 ∨ b1 < lo51 := Or.inr (Nat.lt_of_lt_of_le hb38.lt hlo60)
 have hrn76 : hi52 ≤ b9 ∨ b9 < lo51 := Or.inr (Nat.lt_of_lt_of_le hb39.lt hlo60)
 have hrn77 : hi52 ≤ b19 ∨ b19 < lo51 := Or.inr (Nat.lt_of_lt_of_le hb40.lt hlo60)
 have hrn78 : hi52 ≤ b31 ∨ b31 < lo51 := Or.inr (Nat.lt_of_lt_of_le hb34.lt hlo60)
 refine qD rfl (zB (v := (.tuple #[(.agg [u45].toArray), (.agg [v46].toArray), (.agg [r47].toArray)])) rfl) (qD rfl (yB (v := (.agg [u45].toArray)) rfl rfl) (qD rfl (yB (v := (.agg [v46].toArray)) rfl rfl) (qD rfl (yB (v := (.agg [r47].toArray)) rfl rfl) (qI rfl (yL [(.slice none 0 0)] zr26 rfl hX68.pins (fun b79 w80 hk81 hb82 hp83 hl84 => ?_))))))
 have hX85 := hX68.step hp83 hl84
 have hb86 := hb69.below hl84
 have hb87 := hb70.below hl84
 have hb88 := hb71.below hl84
 have hb89 := hb64.below hl84
 have hs91 := Nat.le_trans hhi61 hl84.size
 have ha92 : Apart (some b79) (some b1) := zG (congrArg some hk81) hb69.lt
 have ha93 : Apart (some b79) (some b9) := zG (congrArg some hk81) hb70.lt
 have ha95 : Apart (some b79) (some b31) := zG (congrArg some hk81) hb64.lt
 have ha96 : hi52 ≤ b79 ∨ b79 < lo51 := Or.inl (by have e := Option.some.inj (congrArg some hk81); have := hhi61; omega)
 have hlo97 : w.heap.size ≤ b79 := by have := hX68.size; omega
 refine qI rfl (yL [(.slice none 0 0)] zr26 rfl hX85.pins (fun b98 w99 hk100 hb101 hp102 hl103 => ?_))
 have hX104 := hX85.step hp102 hl103
 have hb105 := hb86.below hl103
 have hb106 := hb87.below hl103
 have hb107 := hb88.below hl103
 have hb108 := hb89.below hl103
 have hb109 := hb82.below hl103
 have hs111 := Nat.le_trans hs91 hl103.size
 have ha112 : Apart (some b98) (some b1) := zG (congrArg some hk100) hb86.lt
 have ha113 : Apart (some b98) (some b9) := zG (congrArg some hk100) hb87.lt
 have ha114 : Apart (some b98) (some b19) := zG (congrArg some hk100) hb88.lt
 have ha115 : Apart (some b98) (some b31) := zG (congrArg some hk100) hb89.lt
 have ha116 : Apart (some b98) (some b79) := zG (congrArg some hk100) hb82.lt
 have ha117 : hi52 ≤ b98 ∨ b98 < lo51 := Or.inl (by have e := Option.some.inj (congrArg some hk100); have := hs91; omega)
 have hlo118 : w.heap.size ≤ b98 := by have := hX85.size; omega
 refine qI rfl (yL [(.slice none 0 0)] zr38 rfl hX104.pins (fun b119 w120 hk121 hb122 hp123 hl124 => ?_))
 have hX125 := hX104.step hp123 hl124
 have hs133 := Nat.le_trans hs111 hl124.size
 have ha134 : Apart (some b119) (some b1) := zG (congrArg some hk121) hb105.lt
 have ha135 : Apart (some b119) (some b9) := zG (congrArg some hk121) hb106.lt
 have ha137 : Apart (some b119) (some b31) := zG (congrArg some hk121) hb108.lt
 have ha138 : Apart (some b119) (some b79) := zG (congrArg some hk121) hb109.lt
 have ha139 : Apart (some b119) (some b98) := zG (congrArg some hk121) hb101.lt
 have ha140 : hi52 ≤ b119 ∨ b119 < lo51 := Or.inl (by have e := Option.some.inj (congrArg some hk121); have := hs111; omega)
 have hlo141 : w.heap.size ≤ b119 := by have := hX104.size; omega
 refine q0 rfl rfl rfl (yD (cs' := [u45]) (us := [u45]) (v := (.agg [u45].toArray)) sz26 rfl rfl rfl (yE hr57.one) hX125.pins (hb109.below hl124) (dK rfl) rfl (fun w142 hb143 hp144 hg145 hz146 => ?_))
 have hX147 := hX125.write hp144 hg145 ((zS hlo97))
 have hs155 := Nat.le_trans hs133 hg145.size
 refine q0 rfl rfl rfl (yD (cs' := [v46]) (us := [v46]) (v := (.agg [v46].toArray)) sz26 rfl rfl rfl (yE hr58.one) hX147.pins ((hb101.below hl124).keptA hg145 ha116) (dK rfl) rfl (fun w156 hb157 hp158 hg159 hz160 => ?_))
 have hX161 := hX147.write hp158 hg159 ((zS hlo118))
 have hs169 := Nat.le_trans hs155 hg159.size
 refine q0 rfl rfl rfl (yD (cs' := [r47]) (us := [r47]) (v := (.agg [r47].toArray)) sz38 rfl rfl rfl (yE hd59.one) hX161.pins ((hb122.keptA hg145 ha138).keptA hg159 ha139) (dK rfl) rfl (fun w170 hb171 hp172 hg173 hz174 => ?_))
 have hX175 := hX161.write hp172 hg173 ((zS hlo141))
 have hs183 := Nat.le_trans hs169 hg173.size
 refine qe (zA (zD (zD (zE ?_))))
 refine qD rfl (zB (v := (.pointer (some ⟨b31, 0, none⟩))) rfl) (qI rfl (zK (vs := [(.pointer (some ⟨b31, 0, none⟩)), (.int .i64 10)]) Tryz.func52 nm52 rfl rfl rfl ?_))
 refine dJ (tJ hX175.pins ((((hb108.below hl124).keptA hg145 ha95.symm).keptA hg159 ha115.symm).keptA hg173 ha137.symm) (hc.mono hx67.le) (by omega) (by omega) (n := 10) (by omega)) ?_
 rintro _ w187 ⟨z184, a185, s186, rfl, hb188, hda189, hds190, hx191⟩
 refine ⟨_, rfl, ?_⟩
 have hX192 := hX175.trans hx191 (fun i hi => (zS hlo44) i hi)
 have hb193 := ((((hb105.below hl124).keptA hg145 ha92.symm).keptA hg159 ha112.symm).keptA hg173 ha134.symm).extS hx191 (xJ ha41.symm)
 have hb194 := ((((hb106.below hl124).keptA hg145 ha93.symm).keptA hg159 ha113.symm).keptA hg173 ha135.symm).extS hx191 (xJ ha42.symm)
 have hb195 := ((((hb107.below hl124).keptA hg145 (zG (congrArg some hk81) hb71.lt).symm).keptA hg159 ha114.symm).keptA hg173 (zG (congrArg some hk121) hb107.lt).symm).extS hx191 (xJ ha43.symm)
 have hb196 := ((hb143.keptA hg159 ha116.symm).keptA hg173 ha138.symm).extS hx191 (xJ ha95)
 have hb197 := (hb157.keptA hg173 ha139.symm).extS hx191 (xJ ha115)
 have hb198 := hb171.extS hx191 (xJ ha137)
 have hd199 := ((((((hd59.below hl84).below hl103).below hl124).kept hg145 ha96).kept hg159 ha117).kept hg173 ha140).extS hx191 (fun k h1 h2 h3 => by cases h3; have h4 := hrn78; omega)
 have hs200 := Nat.le_trans hs183 hx191.size
 refine qe (zA ?_)
 refine c_if rfl rfl (fun h201 => ?_) (fun h201 => ?_)
 refine zE (qD rfl (zB (v := (.pointer (some ⟨b31, 0, none⟩))) rfl) (qI rfl (zK (vs := [(.pointer (some ⟨b31, 0, none⟩)), (.int .i64 2)]) Tryz.func69 nm69 rfl rfl rfl ?_)))
 refine dJ (anyForm_spec (n := 2) hX192.pins hb188 (hc.mono hx67.le) (by omega) (by omega) (by omega)) ?_
 rintro _ w207 ⟨u202, ns203, a204, s205, G206, rfl, hr208, hb209, hda210, hds211, hx212⟩
 refine ⟨_, rfl, ?_⟩
 have hX213 := hX192.trans hx212 (fun i hi => (zS hlo44) i hi)
 have hd220 := hd199.extS hx212 (fun k h1 h2 h3 => by cases h3; have h4 := hrn78; omega)
 have hs221 := Nat.le_trans hs200 hx212.size
 have hm222 := hr208.max
 refine q0 rfl rfl rfl (yD (cs' := [u202]) (us := [u202]) (v := (.agg [u202].toArray)) sz26 rfl rfl rfl (yE hr208.one) hX213.pins (hb197.extS hx212 (xJ ha115)) (dK rfl) rfl (fun w223 hb224 hp225 hg226 hz227 => ?_))
 have hX228 := hX213.write hp225 hg226 ((zS hlo118))
 have hs236 := Nat.le_trans hs221 hg226.size
 refine qe (zA (zD ?_))
 refine xD (S := fun wz => BxR wz b79 [u45] ∧ BxR wz b98 [u202] ∧ BxR wz b119 [r47]) (last := 7) (by kernel_rfl) rfl ?_
 have hl237 := bdr w223
 have hb244 := ((hb196.extS hx212 (xJ ha95)).keptA hg226 ha116.symm).below hl237
 have hb245 := hb224.below hl237
 have hb246 := ((hb198.extS hx212 (xJ ha137)).keptA hg226 ha139).below hl237
 have hs248 := Nat.le_trans hs236 hl237.size
 refine dT (i := 0) rfl rfl (by kernel_rfl) (fun _ hS => zU (cs := [u45]) ag26 sz26 rfl (fun j u hj => hS.1 _ _ (by simpa using hj))) ⟨hb244.reads, hb245.reads, hb246.reads⟩ ?_
 refine dT (i := 1) rfl rfl (by kernel_rfl) (fun _ hS => zU (cs := [u202]) ag26 sz26 rfl (fun j u hj => hS.2.1 _ _ (by simpa using hj))) ⟨hb244.reads, hb245.reads, hb246.reads⟩ ?_
 refine dT (i := 2) rfl rfl (by kernel_rfl) (fun _ _ => zB (v := (.pointer (some ⟨b31, 0, none⟩))) rfl) ⟨hb244.reads, hb245.reads, hb246.reads⟩ ?_
 refine dT (i := 3) rfl rfl (by kernel_rfl) (fun _ hS => zU (cs := [r47]) ag38 sz38 rfl (fun j u hj => hS.2.2 _ _ (by simpa using hj))) ⟨hb244.reads, hb245.reads, hb246.reads⟩ ?_
 have hkl249 : BxL G206 w223.drew [(b1, [(.slice none 0 0)]), (b9, [(.slice none 0 0)]), (b19, [(.slice none 0 0)]), (b79, [u45]), (b98, [u202]), (b119, [r47])] := (BxL.cons (((hb193.extS hx212 (xJ ha41.symm)).keptA hg226 ha112.symm).below hl237) (BxL.cons (((hb194.extS hx212 (xJ ha42.symm)).keptA hg226 ha113.symm).below hl237) (BxL.cons (((hb195.extS hx212 (xJ ha43.symm)).keptA hg226 ha114.symm).below hl237) (BxL.cons hb244 (BxL.cons hb245 (BxL.cons hb246 BxL.nil))))))
 have hkl250 : NotB [(b1, [(.slice none 0 0)]), (b9, [(.slice none 0 0)]), (b19, [(.slice none 0 0)]), (b79, [u45]), (b98, [u202]), (b119, [r47])] (some b31) := (NotB.cons ha41.symm (NotB.cons ha42.symm (NotB.cons ha43.symm (NotB.cons ha95 (NotB.cons ha115 (NotB.cons ha137 NotB.nil))))))
 have hkl251 : ∀ p ∈ ([(b1, [(.slice none 0 0)]), (b9, [(.slice none 0 0)]), (b19, [(.slice none 0 0)]), (b79, [u45]), (b98, [u202]), (b119, [r47])] : List (Nat × List Value)), hi52 ≤ p.1 ∨ p.1 < lo51 := (qU hrn75 (qU hrn76 (qU hrn77 (qU ha96 (qU ha117 (qU ha140 rng_nil))))))
 refine zR (i := 4) (by kernel_rfl) (yC (i := 4) rfl rfl rfl (zH rfl _) (zK (vs := [(.pointer (some ⟨b31, 0, none⟩)), (.agg [r47].toArray)]) Tryz.func134 nm134 rfl rfl rfl ?_))
 refine dJ (pN (hX228.step (hX228.pins.below hl237) hl237) ((hb209.keptA hg226 ha115.symm).below hl237) (hc.mono (dH hx67.le hx212.le)) (by omega) (by omega) hlo44 ((hd220.kept hg226 ha117).below hl237) hs248 (Nat.le_trans hX37.size hlo60) hrn78 hsm62 hkl249 hkl250 hkl251) ?_
 rintro _ w255 ⟨u252, qs253, G254, rfl, hr256, hlb260, hkl257, hle258, hX259⟩
 refine ⟨_, rfl, ?_⟩
 have hb264 := hkl257 (b79, [u45]) (List.mem_cons_of_mem _ (List.mem_cons_of_mem _ (List.mem_cons_of_mem _ (List.mem_cons_self))))
 have hb265 := hkl257 (b98, [u202]) (List.mem_cons_of_mem _ (List.mem_cons_of_mem _ (List.mem_cons_of_mem _ (List.mem_cons_of_mem _ (List.mem_cons_self)))))
 have hb266 := hkl257 (b119, [r47]) (List.mem_cons_of_mem _ (List.mem_cons_of_mem _ (List.mem_cons_of_mem _ (List.mem_cons_of_mem _ (List.mem_cons_of_mem _ (List.mem_cons_self))))))
 have hm267 := hr256.max
 refine ⟨fun _ => ⟨hb264.reads, hb265.reads, hb266.reads⟩, ?_⟩
 refine zR (i := 5) (by kernel_rfl) (xQ (i := 5) rfl rfl rfl (zH rfl _) (yD (cs' := [u45]) (us := [u45]) (v := (.agg [u45].toArray)) sz26 rfl rfl rfl (yE hr57.one) hX259.pins (hkl257 (b1, [(.slice none 0 0)]) (List.mem_cons_self)) (dK rfl) rfl (fun w268 hb269 hp270 hg271 hz272 => ?_)))
 have hX273 := hX259.write hp270 hg271 ((zS hlo8))
 have hb276 := hb264.keptA hg271 ha92
 have hb277 := hb265.keptA hg271 ha112
 have hb278 := hb266.keptA hg271 ha134
 refine ⟨fun _ => ⟨hb276.reads, hb277.reads, hb278.reads⟩, ?_⟩
 refine zR (i := 6) (by kernel_rfl) (xQ (i := 6) rfl rfl rfl (zH rfl _) (yD (cs' := [u202]) (us := [u202]) (v := (.agg [u202].toArray)) sz26 rfl rfl rfl (yE hr208.one) hX273.pins ((hkl257 (b9, [(.slice none 0 0)]) (List.mem_cons_of_mem _ (List.mem_cons_self))).keptA hg271 ha17) (dK rfl) rfl (fun w279 hb280 hp281 hg282 hz283 => ?_)))
 have hX284 := hX273.write hp281 hg282 ((zS hlo18))
 refine ⟨fun _ => ⟨(hb276.keptA hg282 ha93).reads, (hb277.keptA hg282 ha113).reads, (hb278.keptA hg282 ha135).reads⟩, ?_⟩
 refine zR (i := 7) (by kernel_rfl) (xQ (i := 7) rfl rfl rfl (zH rfl _) (yD (cs' := [u252]) (us := [u252]) (v := (.agg [u252].toArray)) sz38 rfl rfl rfl (yE hr256.one) hX284.pins (((hkl257 (b19, [(.slice none 0 0)]) (List.mem_cons_of_mem _ (List.mem_cons_of_mem _ (List.mem_cons_self)))).keptA hg271 ha28).keptA hg282 ha29) (dK rfl) rfl (fun w290 hb291 hp292 hg293 hz294 => ?_)))
 refine ⟨fun h => absurd rfl h, ?_⟩
 exact yP (by kernel_rfl) (zA (wp_ret (zQ (vI (cs := [u45]) (ds := [u202]) (es := [u252]) rfl rfl rfl rfl rfl rfl rfl ag26 sz26 rfl ag38 sz38 (fun j u hj => by rw [Nat.zero_add]; exact ((hb269.keptA hg282 ha17.symm).keptA hg293 ha28.symm).cell hj) (fun j u hj => by rw [Nat.zero_add]; exact (hb280.keptA hg293 ha29.symm).cell hj) (fun j u hj => by rw [Nat.zero_add]; exact hb291.cell hj) (⟨_, _, _, _, _, _, _, rfl, (hr57.mono (dH hx212.le hle258)), (hr208.mono hle258), hr256, hlb260, (hX284.write hp292 hg293 ((zS hlo30)))⟩)))))
 refine wp_skip (zA (zD ?_))
 refine xD (S := fun wz => BxR wz b79 [u45] ∧ BxR wz b98 [v46] ∧ BxR wz b119 [r47]) (last := 7) (by kernel_rfl) rfl ?_
 have hl301 := bdr w187
 have hb308 := hb196.below hl301
 have hb309 := hb197.below hl301
 have hb310 := hb198.below hl301
 have hs312 := Nat.le_trans hs200 hl301.size
 refine dT (i := 0) rfl rfl (by kernel_rfl) (fun _ hS => zU (cs := [u45]) ag26 sz26 rfl (fun j u hj => hS.1 _ _ (by simpa using hj))) ⟨hb308.reads, hb309.reads, hb310.reads⟩ ?_
 refine dT (i := 1) rfl rfl (by kernel_rfl) (fun _ hS => zU (cs := [v46]) ag26 sz26 rfl (fun j u hj => hS.2.1 _ _ (by simpa using hj))) ⟨hb308.reads, hb309.reads, hb310.reads⟩ ?_
 refine dT (i := 2) rfl rfl (by kernel_rfl) (fun _ _ => zB (v := (.pointer (some ⟨b31, 0, none⟩))) rfl) ⟨hb308.reads, hb309.reads, hb310.reads⟩ ?_
 refine dT (i := 3) rfl rfl (by kernel_rfl) (fun _ hS => zU (cs := [r47]) ag38 sz38 rfl (fun j u hj => hS.2.2 _ _ (by simpa using hj))) ⟨hb308.reads, hb309.reads, hb310.reads⟩ ?_
 have hkl313 : BxL G55 w187.drew [(b1, [(.slice none 0 0)]), (b9, [(.slice none 0 0)]), (b19, [(.slice none 0 0)]), (b79, [u45]), (b98, [v46]), (b119, [r47])] := (BxL.cons (hb193.below hl301) (BxL.cons (hb194.below hl301) (BxL.cons (hb195.below hl301) (BxL.cons hb308 (BxL.cons hb309 (BxL.cons hb310 BxL.nil))))))
 have hkl314 : NotB [(b1, [(.slice none 0 0)]), (b9, [(.slice none 0 0)]), (b19, [(.slice none 0 0)]), (b79, [u45]), (b98, [v46]), (b119, [r47])] (some b31) := (NotB.cons ha41.symm (NotB.cons ha42.symm (NotB.cons ha43.symm (NotB.cons ha95 (NotB.cons ha115 (NotB.cons ha137 NotB.nil))))))
 have hkl315 : ∀ p ∈ ([(b1, [(.slice none 0 0)]), (b9, [(.slice none 0 0)]), (b19, [(.slice none 0 0)]), (b79, [u45]), (b98, [v46]), (b119, [r47])] : List (Nat × List Value)), hi52 ≤ p.1 ∨ p.1 < lo51 := (qU hrn75 (qU hrn76 (qU hrn77 (qU ha96 (qU ha117 (qU ha140 rng_nil))))))
 refine zR (i := 4) (by kernel_rfl) (yC (i := 4) rfl rfl rfl (zH rfl _) (zK (vs := [(.pointer (some ⟨b31, 0, none⟩)), (.agg [r47].toArray)]) Tryz.func134 nm134 rfl rfl rfl ?_))
 refine dJ (pN (hX192.step (hX192.pins.below hl301) hl301) (hb188.below hl301) (hc.mono hx67.le) (by omega) (by omega) hlo44 (hd199.below hl301) hs312 (Nat.le_trans hX37.size hlo60) hrn78 hsm62 hkl313 hkl314 hkl315) ?_
 rintro _ w319 ⟨u316, qs317, G318, rfl, hr320, hlb324, hkl321, hle322, hX323⟩
 refine ⟨_, rfl, ?_⟩
 have hb328 := hkl321 (b79, [u45]) (List.mem_cons_of_mem _ (List.mem_cons_of_mem _ (List.mem_cons_of_mem _ (List.mem_cons_self))))
 have hb329 := hkl321 (b98, [v46]) (List.mem_cons_of_mem _ (List.mem_cons_of_mem _ (List.mem_cons_of_mem _ (List.mem_cons_of_mem _ (List.mem_cons_self)))))
 have hb330 := hkl321 (b119, [r47]) (List.mem_cons_of_mem _ (List.mem_cons_of_mem _ (List.mem_cons_of_mem _ (List.mem_cons_of_mem _ (List.mem_cons_of_mem _ (List.mem_cons_self))))))
 have hm331 := hr320.max
 refine ⟨fun _ => ⟨hb328.reads, hb329.reads, hb330.reads⟩, ?_⟩
 refine zR (i := 5) (by kernel_rfl) (xQ (i := 5) rfl rfl rfl (zH rfl _) (yD (cs' := [u45]) (us := [u45]) (v := (.agg [u45].toArray)) sz26 rfl rfl rfl (yE hr57.one) hX323.pins (hkl321 (b1, [(.slice none 0 0)]) (List.mem_cons_self)) (dK rfl) rfl (fun w332 hb333 hp334 hg335 hz336 => ?_)))
 have hX337 := hX323.write hp334 hg335 ((zS hlo8))
 have hb340 := hb328.keptA hg335 ha92
 have hb341 := hb329.keptA hg335 ha112
 have hb342 := hb330.keptA hg335 ha134
 refine ⟨fun _ => ⟨hb340.reads, hb341.reads, hb342.reads⟩, ?_⟩
 refine zR (i := 6) (by kernel_rfl) (xQ (i := 6) rfl rfl rfl (zH rfl _) (yD (cs' := [v46]) (us := [v46]) (v := (.agg [v46].toArray)) sz26 rfl rfl rfl (yE hr58.one) hX337.pins ((hkl321 (b9, [(.slice none 0 0)]) (List.mem_cons_of_mem _ (List.mem_cons_self))).keptA hg335 ha17) (dK rfl) rfl (fun w343 hb344 hp345 hg346 hz347 => ?_)))
 have hX348 := hX337.write hp345 hg346 ((zS hlo18))
 refine ⟨fun _ => ⟨(hb340.keptA hg346 ha93).reads, (hb341.keptA hg346 ha113).reads, (hb342.keptA hg346 ha135).reads⟩, ?_⟩
 refine zR (i := 7) (by kernel_rfl) (xQ (i := 7) rfl rfl rfl (zH rfl _) (yD (cs' := [u316]) (us := [u316]) (v := (.agg [u316].toArray)) sz38 rfl rfl rfl (yE hr320.one) hX348.pins (((hkl321 (b19, [(.slice none 0 0)]) (List.mem_cons_of_mem _ (List.mem_cons_of_mem _ (List.mem_cons_self)))).keptA hg335 ha28).keptA hg346 ha29) (dK rfl) rfl (fun w354 hb355 hp356 hg357 hz358 => ?_)))
 refine ⟨fun h => absurd rfl h, ?_⟩
 exact yP (by kernel_rfl) (zA (wp_ret (zQ (vI (cs := [u45]) (ds := [v46]) (es := [u316]) rfl rfl rfl rfl rfl rfl rfl ag26 sz26 rfl ag38 sz38 (fun j u hj => by rw [Nat.zero_add]; exact ((hb333.keptA hg346 ha17.symm).keptA hg357 ha28.symm).cell hj) (fun j u hj => by rw [Nat.zero_add]; exact (hb344.keptA hg357 ha29.symm).cell hj) (fun j u hj => by rw [Nat.zero_add]; exact hb355.cell hj) (⟨_, _, _, _, _, _, _, rfl, (hr57.mono hle322), (hr58.mono hle322), hr320, hlb324, (hX348.write hp356 hg357 ((zS hlo30)))⟩)))))
theorem pW {w : World} (hP : Pins G w) (hc : RSl eByte G v code) :
  Calls Tryz.prog 44 [v].toArray w fun e w' => ∃ (r : Value) (ps : List Cl) (G' : Pin), e = .returned (.agg [r].toArray) ∧ RSl eClaim G' r ps ∧ LenB ps ∧ Ext noS G w G' w' := by
 refine yM (n := 13) Tryz.func44 Tryz.ntmps44 rfl rfl ?_
 have hX0 := exr noS hP
 have hm := hc.max
 refine zD (zE ?_)
 refine qI rfl (yL [(.slice none 0 0)] zr38 rfl hX0.pins (fun b1 w2 hk3 hb4 hp5 hl6 => ?_))
 have hX7 := hX0.step hp5 hl6
 have hlo8 : w.heap.size ≤ b1 := by have := hX0.size; omega
 refine qe (zA (zD (zE ?_)))
 refine qD rfl (zB (v := v) rfl) (qI rfl (zK (vs := [v]) Tryz.func89 nm89 rfl rfl rfl ?_))
 refine dJ (pX hX7.pins hc) ?_
 rintro _ w16 ⟨u9, v10, r11, xs12, ys13, ps14, G15, rfl, hr17, hr18, hr19, hlb21, hx20⟩
 refine ⟨_, rfl, ?_⟩
 have hX22 := hX7.tr hx20
 have hb23 := hb4.ext hx20
 have hm24 := hr17.max
 have hm25 := hr18.max
 have hm26 := hr19.max
 refine qD rfl (zB (v := (.tuple #[(.agg [u9].toArray), (.agg [v10].toArray), (.agg [r11].toArray)])) rfl) (qD rfl (yB (v := (.agg [u9].toArray)) rfl rfl) (qD rfl (yB (v := (.agg [v10].toArray)) rfl rfl) (qD rfl (yB (v := (.agg [r11].toArray)) rfl rfl) (qI rfl (yL [(.slice none 0 0)] zr26 rfl hX22.pins (fun b27 w28 hk29 hb30 hp31 hl32 => ?_))))))
 have hX33 := hX22.step hp31 hl32
 have hb34 := hb23.below hl32
 have hlo36 : w.heap.size ≤ b27 := by have := hX22.size; omega
 refine qI rfl (yL [(.slice none 0 0)] zr26 rfl hX33.pins (fun b37 w38 hk39 hb40 hp41 hl42 => ?_))
 have hX43 := hX33.step hp41 hl42
 have hb44 := hb34.below hl42
 have hb45 := hb30.below hl42
 have hlo48 : w.heap.size ≤ b37 := by have := hX33.size; omega
 refine qI rfl (yL [(.slice none 0 0)] zr38 rfl hX43.pins (fun b49 w50 hk51 hb52 hp53 hl54 => ?_))
 have hX55 := hX43.step hp53 hl54
 have hlo62 : w.heap.size ≤ b49 := by have := hX43.size; omega
 refine q0 rfl rfl rfl (yD (cs' := [u9]) (us := [u9]) (v := (.agg [u9].toArray)) sz26 rfl rfl rfl (yE hr17.one) hX55.pins (hb45.below hl54) (dK rfl) rfl (fun w63 hb64 hp65 hg66 hz67 => ?_))
 have hX68 := hX55.write hp65 hg66 ((zS hlo36))
 refine q0 rfl rfl rfl (yD (cs' := [v10]) (us := [v10]) (v := (.agg [v10].toArray)) sz26 rfl rfl rfl (yE hr18.one) hX68.pins ((hb40.below hl54).keptA hg66 (zG (congrArg some hk39) hb30.lt)) (dK rfl) rfl (fun w72 hb73 hp74 hg75 hz76 => ?_))
 have hX77 := hX68.write hp74 hg75 ((zS hlo48))
 refine q0 rfl rfl rfl (yD (cs' := [r11]) (us := [r11]) (v := (.agg [r11].toArray)) sz38 rfl rfl rfl (yE hr19.one) hX77.pins ((hb52.keptA hg66 (zG (congrArg some hk51) hb45.lt)).keptA hg75 (zG (congrArg some hk51) hb40.lt)) (dK rfl) rfl (fun w81 hb82 hp83 hg84 hz85 => ?_))
 have hX86 := hX77.write hp83 hg84 ((zS hlo62))
 refine qe (zA (zD (zE ?_)))
 refine qD rfl (zU (cs := [r11]) ag38 sz38 rfl (fun j u hj => hb82.cell (by simpa using hj))) (q0 rfl rfl rfl (yD (cs' := [r11]) (us := [r11]) (v := (.agg [r11].toArray)) sz38 rfl rfl rfl (yE hr19.one) hX86.pins ((((hb44.below hl54).keptA hg66 (zG (congrArg some hk29) hb23.lt).symm).keptA hg75 (zG (congrArg some hk39) hb34.lt).symm).keptA hg84 (zG (congrArg some hk51) hb44.lt).symm) (dK rfl) rfl (fun w90 hb91 hp92 hg93 hz94 => ?_)))
 refine qe (zA ?_)
 exact wp_ret (zQ (qJ (cs := [r11]) rfl rfl rfl ag38 sz38 (fun j u hj => by rw [Nat.zero_add]; exact hb91.cell hj) (⟨_, _, _, rfl, hr19, hlb21, (hX86.write hp92 hg93 ((zS hlo8)))⟩)))
theorem rH {w : World} (hP : Pins G w) (hc : RSl eByte G v code) :
  Calls Tryz.prog 15 [v].toArray w fun e w' => ∃ (r : Value) (ps : List Cl) (G' : Pin), e = .returned (.agg [r].toArray) ∧ RSl eClaim G' r ps ∧ LenB ps ∧ Ext noS G w G' w' := by
 refine yM (n := 5) Tryz.func15 Tryz.ntmps15 rfl rfl ?_
 have hX0 := exr noS hP
 have hm := hc.max
 refine zD (zE ?_)
 refine qI rfl (yL [(.slice none 0 0)] zr38 rfl hX0.pins (fun b1 w2 hk3 hb4 hp5 hl6 => ?_))
 have hX7 := hX0.step hp5 hl6
 have hlo8 : w.heap.size ≤ b1 := by have := hX0.size; omega
 refine qe (zA (zD (zE ?_)))
 refine qD rfl (zB (v := v) rfl) (qI rfl (zK (vs := [v]) Tryz.func44 nm44 rfl rfl rfl ?_))
 refine dJ (pW hX7.pins hc) ?_
 rintro _ w12 ⟨r9, ps10, G11, rfl, hr13, hlb14, hx15⟩
 refine ⟨_, rfl, ?_⟩
 have hX16 := hX7.tr hx15
 have hb17 := hb4.ext hx15
 refine q0 rfl rfl rfl (yD (cs' := [r9]) (us := [r9]) (v := (.agg [r9].toArray)) sz38 rfl rfl rfl (yE hr13.one) hX16.pins hb17 (dK rfl) rfl (fun w18 hb19 hp20 hg21 hz22 => ?_))
 have hX23 := hX16.write hp20 hg21 ((zS hlo8))
 refine qe (zA ?_)
 exact wp_ret (zQ (qJ (cs := [r9]) rfl rfl rfl ag38 sz38 (fun j u hj => by rw [Nat.zero_add]; exact hb19.cell hj) (⟨_, _, _, rfl, hr13, hlb14, hX23⟩)))
end PTF
end Go.Proofs.YtajkbplgbikgdaaGreatDoor
namespace Go.Proofs.YtajkbplgbikgdaaGreatDoor
namespace PTH
open Go.RowKit Go.GL Go.Proofs
open B1 C1 D1 E1 SF1 DR1 DR2 DV1 PT3 PT4 PTG
theorem pl81 : (Tryz.prog.underlying 81).bind (placesD Tryz.prog) = some [(0, 1), (1, 1), (2, 1)] := by kernel_rfl
variable {G : Pin} {cv : Value} {code : List UInt8} {a : Int}
theorem gR {w : World} {c : Nat} {s : Int} {n : Int} (hP : Pins G w) (hB : Bx G w c [cv, .int .i64 a, .int .u64 s]) (hc : RSl eByte G cv code) (ha : 0 ≤ a ∧ a + 2 ≤ 1000000) (hs : 0 ≤ s ∧ s < 18446744073709551616) (hn : n ≤ 100000) :
  Calls Tryz.prog 101 [(.pointer (some ⟨c, 0, none⟩)), (.int .i64 n)].toArray w fun e w' => ∃ (z : Int) (a' s' : Int), e = .returned (.int .i64 z) ∧ (0 ≤ z ∧ (z < n ∨ z = 0)) ∧ Bx G w' c [cv, .int .i64 a', .int .u64 s'] ∧ (a ≤ a' ∧ a' ≤ a + 2) ∧ (0 ≤ s' ∧ s' < 18446744073709551616) ∧ Ext (inO (some c)) G w G w' := by
 refine yM (n := 20) Tryz.func101 Tryz.ntmps101 rfl rfl ?_
 have hX0 := exr (inO (some c)) hP
 have hm := hc.max
 refine zD (zE ?_)
 refine qD rfl (zC (v := (.int .i64 0)) rfl) (qe (zA (zD (zD (zE ?_)))))
 refine qD rfl (zB (v := (.int .i64 n)) rfl) (qD rfl (kL rfl rfl) (qe (zA ?_)))
 refine yJ (p := (n : Int) ≤ 1) rfl rfl (fun h1 => ?_) (fun h1 => ?_)
 refine zD (zE ?_)
 refine qD rfl (zC (v := (.int .i64 0)) rfl) (qe (zA ?_))
 exact wp_ret (zQ (yA (v := (.int .i64 0)) rfl rfl rfl (⟨_, _, _, rfl, (by omega), hB, (by omega), (by omega), hX0⟩)))
 refine wp_skip (zA (zD (zE ?_)))
 refine qD rfl (zB (v := (.pointer (some ⟨c, 0, none⟩))) rfl) (qI rfl (zK (vs := [(.pointer (some ⟨c, 0, none⟩))]) Tryz.func144 nm144 rfl rfl rfl ?_))
 refine dJ (gF hX0.pins hB hc (by omega) (by omega)) ?_
 rintro _ w6 ⟨z2, a4, s5, rfl, hz3, hb7, hda8, hds9, hx10⟩
 refine ⟨_, rfl, ?_⟩
 have hX11 := hX0.trans hx10 (fun i hi => xO i hi)
 refine qD rfl (zC (v := (.int .i64 z2)) rfl) (qe (zA (zD (zD (zE ?_)))))
 refine qD rfl (zB (v := (.int .i64 n)) rfl) (qD rfl (qV rfl rfl) (qe (zA ?_)))
 refine yJ (p := (200 : Int) < n) rfl rfl (fun h12 => ?_) (fun h12 => ?_)
 refine zE (qD rfl (zB (v := (.int .i64 z2)) rfl) (qD rfl (nL rfl rfl (by omega)) (qD rfl (zB (v := (.pointer (some ⟨c, 0, none⟩))) rfl) (qI rfl (zK (vs := [(.pointer (some ⟨c, 0, none⟩))]) Tryz.func144 nm144 rfl rfl rfl ?_)))))
 refine dJ (gF hX11.pins hb7 hc (by omega) (by omega)) ?_
 rintro _ w17 ⟨z13, a15, s16, rfl, hz14, hb18, hda19, hds20, hx21⟩
 refine ⟨_, rfl, ?_⟩
 have hX22 := hX11.trans hx21 (fun i hi => xO i hi)
 refine qD rfl (yT rfl rfl (by omega)) (qD rfl (zC (v := (.int .i64 ((z2 * 256) + z13))) rfl) (qe (zA (zD (zE ?_)))))
 refine qD rfl (zB (v := (.int .i64 ((z2 * 256) + z13))) rfl) (qD rfl (zB (v := (.int .i64 n)) rfl) (qD rfl (rS rfl rfl (by omega) (by omega)) (qD rfl (zC (v := (.int .i64 (((z2 * 256) + z13) % n))) rfl) (qe (zA ?_)))))
 refine wp_ret (zQ (yA (v := (.int .i64 (((z2 * 256) + z13) % n))) rfl rfl rfl ?_))
 have hr1 := Int.emod_nonneg (((z2 * 256) + z13)) (show n ≠ 0 by omega)
 have hr2 := Int.emod_lt_of_pos (((z2 * 256) + z13)) (show 0 < n by omega)
 exact ⟨_, _, _, rfl, (by omega), hb18, (by omega), (by omega), hX22⟩
 refine wp_skip (zA (zD (zE ?_)))
 refine qD rfl (zB (v := (.int .i64 z2)) rfl) (qD rfl (zB (v := (.int .i64 n)) rfl) (qD rfl (rS rfl rfl (by omega) (by omega)) (qD rfl (zC (v := (.int .i64 (z2 % n))) rfl) (qe (zA ?_)))))
 refine wp_ret (zQ (yA (v := (.int .i64 (z2 % n))) rfl rfl rfl ?_))
 have hr1 := Int.emod_nonneg (z2) (show n ≠ 0 by omega)
 have hr2 := Int.emod_lt_of_pos (z2) (show 0 < n by omega)
 exact ⟨_, _, _, rfl, (by omega), hb7, (by omega), (by omega), hX11⟩
theorem spoilt_spec {w : World} {c : Nat} {s : Int} {t x : ByteArray} (hP : Pins G w) (hB : Bx G w c [cv, .int .i64 a, .int .u64 s]) (hc : RSl eByte G cv code) (ha : 0 ≤ a ∧ a + 6 ≤ 1000000) (hs : 0 ≤ s ∧ s < 18446744073709551616) (ht : t.size ≤ 100000 ∧ 1 ≤ x.size ∧ x.size ≤ 100) :
  Calls Tryz.prog 53 [(.pointer (some ⟨c, 0, none⟩)), (.string t), (.string x)].toArray w fun e w' => ∃ (z : ByteArray) (a' s' : Int), e = .returned (.string z) ∧ z.size ≤ t.size + 1 ∧ Bx G w' c [cv, .int .i64 a', .int .u64 s'] ∧ (a ≤ a' ∧ a' ≤ a + 6) ∧ (0 ≤ s' ∧ s' < 18446744073709551616) ∧ Ext (inO (some c)) G w G w' := by
 refine yM (n := 57) Tryz.func53 Tryz.ntmps53 rfl rfl ?_
 have hX0 := exr (inO (some c)) hP
 have hm := hc.max
 have hes : (⟨#[]⟩ : ByteArray).size = 0 := rfl
 refine zD (zE ?_)
 refine qD rfl (zC (v := (.string (⟨#[]⟩ : ByteArray))) rfl) (qe (zA (zD (zD (zE ?_)))))
 refine qD rfl (zB (v := (.string t)) rfl) (qD rfl (r_eqlS rfl rfl) (qe (zA ?_)))
 refine c_if rfl rfl (fun h1 => ?_) (fun h1 => ?_)
 refine zD (zE ?_)
 refine qD rfl (zB (v := (.string x)) rfl) ?_
 have hm2 : (x.extract 0 1).size = min 1 x.size - 0 := ByteArray.size_extract
 refine qD rfl (nM eW rfl rfl (by omega) (by omega)) (qD rfl (zC (v := (.string (x.extract 0 1))) rfl) (qe (zA ?_)))
 exact wp_ret (zQ (yA (v := (.string (x.extract 0 1))) rfl rfl rfl (⟨_, _, _, rfl, (by omega), hB, (by omega), (by omega), hX0⟩)))
 refine wp_skip (zA (zD (zE ?_)))
 have htn := tS h1
 refine qD rfl (zB (v := (.pointer (some ⟨c, 0, none⟩))) rfl) (qD rfl (zB (v := (.string t)) rfl) (qD rfl (qH eW rfl) (qI rfl (zK (vs := [(.pointer (some ⟨c, 0, none⟩)), (.int .i64 (t.size : Int))]) Tryz.func101 kC rfl rfl rfl ?_))))
 refine dJ (gR hX0.pins hB hc (by omega) (by omega) (n := (t.size : Int)) (by omega)) ?_
 rintro _ w7 ⟨z3, a5, s6, rfl, hz4, hb8, hda9, hds10, hx11⟩
 refine ⟨_, rfl, ?_⟩
 have hX12 := hX0.trans hx11 (fun i hi => xO i hi)
 refine qD rfl (zC (v := (.int .i64 z3)) rfl) (qe (zA (zD (zE ?_))))
 refine qD rfl (zB (v := (.string x)) rfl) (qD rfl (zB (v := (.pointer (some ⟨c, 0, none⟩))) rfl) (qD rfl (zB (v := (.string x)) rfl) (qD rfl (qH eW rfl) (qI rfl (zK (vs := [(.pointer (some ⟨c, 0, none⟩)), (.int .i64 (x.size : Int))]) Tryz.func101 kC rfl rfl rfl ?_)))))
 refine dJ (gR hX12.pins hb8 hc (by omega) (by omega) (n := (x.size : Int)) (by omega)) ?_
 rintro _ w17 ⟨z13, a15, s16, rfl, hz14, hb18, hda19, hds20, hx21⟩
 refine ⟨_, rfl, ?_⟩
 have hX22 := hX12.trans hx21 (fun i hi => xO i hi)
 have hm23 : (x.extract (z13).toNat x.size).size = min x.size x.size - (z13).toNat := ByteArray.size_extract
 refine qD rfl (tX eW rfl rfl (by omega) (by omega)) ?_
 have hm24 : ((x.extract (z13).toNat x.size).extract 0 1).size = min 1 (x.extract (z13).toNat x.size).size - 0 := ByteArray.size_extract
 refine qD rfl (nM eW rfl rfl (by omega) (by omega)) (qD rfl (zC (v := (.string ((x.extract (z13).toNat x.size).extract 0 1))) rfl) (qe (zA (zD (zD (zE ?_))))))
 refine qD rfl (zB (v := (.pointer (some ⟨c, 0, none⟩))) rfl) (qI rfl (zK (vs := [(.pointer (some ⟨c, 0, none⟩)), (.int .i64 3)]) Tryz.func101 kC rfl rfl rfl ?_))
 refine dJ (gR hX22.pins hb18 hc (by omega) (by omega) (n := 3) (by omega)) ?_
 rintro _ w29 ⟨z25, a27, s28, rfl, hz26, hb30, hda31, hds32, hx33⟩
 refine ⟨_, rfl, ?_⟩
 have hX34 := hX22.trans hx33 (fun i hi => xO i hi)
 refine qe (zA ?_)
 refine yI (zD (zE ?_))
 refine qD rfl (qN rfl rfl) (qD rfl (zC (v := (.bool (decide ((z25 : Int) = 0)))) rfl) (qe (zA ?_)))
 refine yJ (p := (z25 : Int) = 0) rfl rfl (fun h35 => ?_) (fun h35 => ?_)
 refine zD (xD (S := fun wz => Pins G wz) (last := 10) (by kernel_rfl) rfl ?_)
 have hl36 := bdr w29
 have hX38 := hX34.step (hX34.pins.below hl36) hl36
 refine dT (i := 0) rfl rfl (by kernel_rfl) (fun _ _ => zB (v := (.string t)) rfl) hX38.pins ?_
 refine dT (i := 1) rfl rfl (by kernel_rfl) (fun _ _ => zB (v := (.int .i64 z3)) rfl) hX38.pins ?_
 have hm40 : (t.extract 0 (z3).toNat).size = min (z3).toNat t.size - 0 := ByteArray.size_extract
 refine dT (i := 2) rfl rfl (by kernel_rfl) (fun _ _ => nM eW rfl rfl (by omega) (by omega)) hX38.pins ?_
 refine dT (i := 3) rfl rfl (by kernel_rfl) (fun _ _ => zB (v := (.string ((x.extract (z13).toNat x.size).extract 0 1))) rfl) hX38.pins ?_
 have hm41 : ((t.extract 0 (z3).toNat) ++ ((x.extract (z13).toNat x.size).extract 0 1)).size = (t.extract 0 (z3).toNat).size + ((x.extract (z13).toNat x.size).extract 0 1).size := ByteArray.size_append
 refine dT (i := 4) rfl rfl (by kernel_rfl) (fun _ _ => xR rfl rfl (by omega)) hX38.pins ?_
 refine dT (i := 5) rfl rfl (by kernel_rfl) (fun _ _ => zB (v := (.string t)) rfl) hX38.pins ?_
 refine dT (i := 6) rfl rfl (by kernel_rfl) (fun _ _ => zB (v := (.int .i64 z3)) rfl) hX38.pins ?_
 have hm42 : (t.extract (z3).toNat t.size).size = min t.size t.size - (z3).toNat := ByteArray.size_extract
 refine dT (i := 7) rfl rfl (by kernel_rfl) (fun _ _ => tX eW rfl rfl (by omega) (by omega)) hX38.pins ?_
 have hm43 : (((t.extract 0 (z3).toNat) ++ ((x.extract (z13).toNat x.size).extract 0 1)) ++ (t.extract (z3).toNat t.size)).size = ((t.extract 0 (z3).toNat) ++ ((x.extract (z13).toNat x.size).extract 0 1)).size + (t.extract (z3).toNat t.size).size := ByteArray.size_append
 refine dT (i := 8) rfl rfl (by kernel_rfl) (fun _ _ => xR rfl rfl (by omega)) hX38.pins ?_
 refine dT (i := 9) rfl rfl (by kernel_rfl) (fun _ _ => zC (v := (.string (((t.extract 0 (z3).toNat) ++ ((x.extract (z13).toNat x.size).extract 0 1)) ++ (t.extract (z3).toNat t.size)))) rfl) hX38.pins ?_
 exact yP (by kernel_rfl) (zA (wp_ret (zQ (yA (v := (.string (((t.extract 0 (z3).toNat) ++ ((x.extract (z13).toNat x.size).extract 0 1)) ++ (t.extract (z3).toNat t.size)))) rfl rfl rfl (⟨_, _, _, rfl, (by omega), (hb30.below hl36), (by omega), (by omega), hX38⟩)))))
 refine zD (zE ?_)
 refine qD rfl (qN rfl rfl) (qD rfl (zC (v := (.bool (decide ((z25 : Int) = 1)))) rfl) (qe (zA ?_)))
 refine yJ (p := (z25 : Int) = 1) rfl rfl (fun h44 => ?_) (fun h44 => ?_)
 refine zD (xD (S := fun wz => Pins G wz) (last := 11) (by kernel_rfl) rfl ?_)
 have hl45 := bdr w29
 have hX47 := hX34.step (hX34.pins.below hl45) hl45
 refine dT (i := 0) rfl rfl (by kernel_rfl) (fun _ _ => zB (v := (.string t)) rfl) hX47.pins ?_
 refine dT (i := 1) rfl rfl (by kernel_rfl) (fun _ _ => zB (v := (.int .i64 z3)) rfl) hX47.pins ?_
 have hm49 : (t.extract 0 (z3).toNat).size = min (z3).toNat t.size - 0 := ByteArray.size_extract
 refine dT (i := 2) rfl rfl (by kernel_rfl) (fun _ _ => nM eW rfl rfl (by omega) (by omega)) hX47.pins ?_
 refine dT (i := 3) rfl rfl (by kernel_rfl) (fun _ _ => zB (v := (.string ((x.extract (z13).toNat x.size).extract 0 1))) rfl) hX47.pins ?_
 have hm50 : ((t.extract 0 (z3).toNat) ++ ((x.extract (z13).toNat x.size).extract 0 1)).size = (t.extract 0 (z3).toNat).size + ((x.extract (z13).toNat x.size).extract 0 1).size := ByteArray.size_append
 refine dT (i := 4) rfl rfl (by kernel_rfl) (fun _ _ => xR rfl rfl (by omega)) hX47.pins ?_
 refine dT (i := 5) rfl rfl (by kernel_rfl) (fun _ _ => zB (v := (.string t)) rfl) hX47.pins ?_
 refine dT (i := 6) rfl rfl (by kernel_rfl) (fun _ _ => zB (v := (.int .i64 z3)) rfl) hX47.pins ?_
 refine dT (i := 7) rfl rfl (by kernel_rfl) (fun _ _ => yT rfl rfl (by omega)) hX47.pins ?_
 have hm51 : (t.extract (z3 + 1).toNat t.size).size = min t.size t.size - (z3 + 1).toNat := ByteArray.size_extract
 refine dT (i := 8) rfl rfl (by kernel_rfl) (fun _ _ => tX eW rfl rfl (by omega) (by omega)) hX47.pins ?_
 have hm52 : (((t.extract 0 (z3).toNat) ++ ((x.extract (z13).toNat x.size).extract 0 1)) ++ (t.extract (z3 + 1).toNat t.size)).size = ((t.extract 0 (z3).toNat) ++ ((x.extract (z13).toNat x.size).extract 0 1)).size + (t.extract (z3 + 1).toNat t.size).size := ByteArray.size_append
 refine dT (i := 9) rfl rfl (by kernel_rfl) (fun _ _ => xR rfl rfl (by omega)) hX47.pins ?_
 refine dT (i := 10) rfl rfl (by kernel_rfl) (fun _ _ => zC (v := (.string (((t.extract 0 (z3).toNat) ++ ((x.extract (z13).toNat x.size).extract 0 1)) ++ (t.extract (z3 + 1).toNat t.size)))) rfl) hX47.pins ?_
 exact yP (by kernel_rfl) (zA (wp_ret (zQ (yA (v := (.string (((t.extract 0 (z3).toNat) ++ ((x.extract (z13).toNat x.size).extract 0 1)) ++ (t.extract (z3 + 1).toNat t.size)))) rfl rfl rfl (⟨_, _, _, rfl, (by omega), (hb30.below hl45), (by omega), (by omega), hX47⟩)))))
 refine wp_skip (yO (zA (zD ?_)))
 refine xD (S := fun wz => Pins G wz) (last := 9) (by kernel_rfl) rfl ?_
 have hl53 := bdr w29
 have hX55 := hX34.step (hX34.pins.below hl53) hl53
 refine dT (i := 0) rfl rfl (by kernel_rfl) (fun _ _ => zB (v := (.string t)) rfl) hX55.pins ?_
 refine dT (i := 1) rfl rfl (by kernel_rfl) (fun _ _ => zB (v := (.int .i64 z3)) rfl) hX55.pins ?_
 have hm57 : (t.extract 0 (z3).toNat).size = min (z3).toNat t.size - 0 := ByteArray.size_extract
 refine dT (i := 2) rfl rfl (by kernel_rfl) (fun _ _ => nM eW rfl rfl (by omega) (by omega)) hX55.pins ?_
 refine dT (i := 3) rfl rfl (by kernel_rfl) (fun _ _ => zB (v := (.string t)) rfl) hX55.pins ?_
 refine dT (i := 4) rfl rfl (by kernel_rfl) (fun _ _ => zB (v := (.int .i64 z3)) rfl) hX55.pins ?_
 refine dT (i := 5) rfl rfl (by kernel_rfl) (fun _ _ => yT rfl rfl (by omega)) hX55.pins ?_
 have hm58 : (t.extract (z3 + 1).toNat t.size).size = min t.size t.size - (z3 + 1).toNat := ByteArray.size_extract
 refine dT (i := 6) rfl rfl (by kernel_rfl) (fun _ _ => tX eW rfl rfl (by omega) (by omega)) hX55.pins ?_
 have hm59 : ((t.extract 0 (z3).toNat) ++ (t.extract (z3 + 1).toNat t.size)).size = (t.extract 0 (z3).toNat).size + (t.extract (z3 + 1).toNat t.size).size := ByteArray.size_append
 refine dT (i := 7) rfl rfl (by kernel_rfl) (fun _ _ => xR rfl rfl (by omega)) hX55.pins ?_
 refine dT (i := 8) rfl rfl (by kernel_rfl) (fun _ _ => zC (v := (.string ((t.extract 0 (z3).toNat) ++ (t.extract (z3 + 1).toNat t.size)))) rfl) hX55.pins ?_
 exact yP (by kernel_rfl) (zA (wp_ret (zQ (yA (v := (.string ((t.extract 0 (z3).toNat) ++ (t.extract (z3 + 1).toNat t.size)))) rfl rfl rfl (⟨_, _, _, rfl, (by omega), (hb30.below hl53), (by omega), (by omega), hX55⟩)))))
theorem rG {w : World} {v : Value} (hP : Pins G w) (hc : RSl eByte G v code) :
  Calls Tryz.prog 18 [v].toArray w fun e w' => ∃ (z : ByteArray) (G' : Pin), e = .returned (.string z) ∧ Ext noS G w G' w' := by
 refine yM (n := 25) Tryz.func18 Tryz.ntmps18 rfl rfl ?_
 have hX0 := exr noS hP
 have hm := hc.max
 refine zD (zE ?_)
 refine qD rfl (zC (v := (.string (⟨#[]⟩ : ByteArray))) rfl) (qe (zA (zD (zE ?_))))
 refine qD rfl (zB (v := v) rfl) (qD rfl (yY [(.slice none 0 0), (.int .i64 0), (.int .u64 0)] [v, (.int .i64 0), (.int .u64 0)] [(0, v, [v])] dC zr81 rfl pl81 rfl (List.forall_mem_cons.2 ⟨(yW hc.one), (fun _ h => by cases h)⟩) rfl) (qI rfl (xX [v, (.int .i64 0), (.int .u64 0)] (v := (.agg [v, (.int .i64 0), (.int .u64 0)].toArray)) rfl rfl hX0.pins (fun b1 w2 hk3 hb4 hp5 hl6 => ?_))))
 have hX7 := hX0.step hp5 hl6
 have hlo8 : w.heap.size ≤ b1 := by have := hX0.size; omega
 refine qD rfl (zC (v := (.pointer (some ⟨b1, 0, none⟩))) rfl) (qe (zA (zD (zE ?_))))
 refine qD rfl (zB (v := (.pointer (some ⟨b1, 0, none⟩))) rfl) (qI rfl (zK (vs := [(.pointer (some ⟨b1, 0, none⟩))]) Tryz.func51 nm51 rfl rfl rfl ?_))
 refine dJ (proofR_spec hX7.pins hb4 hc (by omega) (by omega)) ?_
 rintro _ w18 ⟨u9, v10, r11, xs12, ys13, ps14, a15, s16, G17, rfl, hr19, hr20, hr21, hlb22, hcl23, hb24, hda25, hds26, hx27⟩
 refine ⟨_, rfl, ?_⟩
 have hX28 := hX7.trans hx27 (fun i hi => (zS hlo8) i hi)
 have hm29 := hr19.max
 have hm30 := hr20.max
 have hm31 := hr21.max
 refine qD rfl (zB (v := (.tuple #[(.agg [u9].toArray), (.agg [v10].toArray), (.agg [r11].toArray)])) rfl) (qD rfl (yB (v := (.agg [u9].toArray)) rfl rfl) (qD rfl (yB (v := (.agg [v10].toArray)) rfl rfl) (qD rfl (yB (v := (.agg [r11].toArray)) rfl rfl) (qI rfl (yL [(.slice none 0 0)] zr26 rfl hX28.pins (fun b32 w33 hk34 hb35 hp36 hl37 => ?_))))))
 have hX38 := hX28.step hp36 hl37
 have hb39 := hb24.below hl37
 have hlo41 : w.heap.size ≤ b32 := by have := hX28.size; omega
 refine qI rfl (yL [(.slice none 0 0)] zr26 rfl hX38.pins (fun b42 w43 hk44 hb45 hp46 hl47 => ?_))
 have hX48 := hX38.step hp46 hl47
 have hb49 := hb39.below hl47
 have hb50 := hb35.below hl47
 have hlo53 : w.heap.size ≤ b42 := by have := hX38.size; omega
 refine qI rfl (yL [(.slice none 0 0)] zr38 rfl hX48.pins (fun b54 w55 hk56 hb57 hp58 hl59 => ?_))
 have hX60 := hX48.step hp58 hl59
 have hlo67 : w.heap.size ≤ b54 := by have := hX48.size; omega
 refine q0 rfl rfl rfl (yD (cs' := [u9]) (us := [u9]) (v := (.agg [u9].toArray)) sz26 rfl rfl rfl (yE hr19.one) hX60.pins (hb50.below hl59) (dK rfl) rfl (fun w68 hb69 hp70 hg71 hz72 => ?_))
 have hX73 := hX60.write hp70 hg71 ((zS hlo41))
 refine q0 rfl rfl rfl (yD (cs' := [v10]) (us := [v10]) (v := (.agg [v10].toArray)) sz26 rfl rfl rfl (yE hr20.one) hX73.pins ((hb45.below hl59).keptA hg71 (zG (congrArg some hk44) hb35.lt)) (dK rfl) rfl (fun w77 hb78 hp79 hg80 hz81 => ?_))
 have hX82 := hX73.write hp79 hg80 ((zS hlo53))
 refine q0 rfl rfl rfl (yD (cs' := [r11]) (us := [r11]) (v := (.agg [r11].toArray)) sz38 rfl rfl rfl (yE hr21.one) hX82.pins ((hb57.keptA hg71 (zG (congrArg some hk56) hb50.lt)).keptA hg80 (zG (congrArg some hk56) hb45.lt)) (dK rfl) rfl (fun w86 hb87 hp88 hg89 hz90 => ?_))
 have hX91 := hX82.write hp88 hg89 ((zS hlo67))
 refine qe (zA (zD (zE ?_)))
 refine qD rfl (zU (cs := [r11]) ag38 sz38 rfl (fun j u hj => hb87.cell (by simpa using hj))) (qI rfl (zK (vs := [(.agg [r11].toArray)]) Tryz.func50 nm50 rfl rfl rfl ?_))
 refine dJ (jT hX91.pins hr21 hlb22 hcl23) ?_
 rintro _ w97 ⟨z95, G96, rfl, htx98, hx99⟩
 refine ⟨_, rfl, ?_⟩
 have hX100 := hX91.tr hx99
 have hm105 := htx98.hi
 refine qD rfl (zC (v := (.string z95)) rfl) (qe (zA (zD (zD (zE ?_)))))
 refine qD rfl (zB (v := (.pointer (some ⟨b1, 0, none⟩))) rfl) (qI rfl (zK (vs := [(.pointer (some ⟨b1, 0, none⟩)), (.int .i64 3)]) Tryz.func52 nm52 rfl rfl rfl ?_))
 refine dJ (tJ hX100.pins (((((hb49.below hl59).keptA hg71 (zG (congrArg some hk34) hb24.lt).symm).keptA hg80 (zG (congrArg some hk44) hb39.lt).symm).keptA hg89 (zG (congrArg some hk56) hb49.lt).symm).ext hx99) (hc.mono (dH hx27.le hx99.le)) (by omega) (by omega) (n := 3) (by omega)) ?_
 rintro _ w109 ⟨z106, a107, s108, rfl, hb110, hda111, hds112, hx113⟩
 refine ⟨_, rfl, ?_⟩
 have hX114 := hX100.trans hx113 (fun i hi => (zS hlo8) i hi)
 refine qe (zA ?_)
 refine c_if rfl rfl (fun h118 => ?_) (fun h118 => ?_)
 refine zD (zE ?_)
 refine qD rfl (zB (v := (.pointer (some ⟨b1, 0, none⟩))) rfl) (qD rfl (zB (v := (.string z95)) rfl) (qI rfl (zK (vs := [(.pointer (some ⟨b1, 0, none⟩)), (.string z95), (.string (⟨#[48, 32, 58, 44, 59, 49, 45]⟩ : ByteArray))]) Tryz.func53 nm53 rfl rfl rfl ?_)))
 refine dJ (spoilt_spec (t := z95) (x := (⟨#[48, 32, 58, 44, 59, 49, 45]⟩ : ByteArray)) hX114.pins hb110 (hc.mono (dH hx27.le hx99.le)) (by omega) (by omega) (by first | omega | exact ⟨by omega, by decide, by decide⟩)) ?_
 rintro _ w122 ⟨z119, a120, s121, rfl, hz123, hb124, hda125, hds126, hx127⟩
 refine ⟨_, rfl, ?_⟩
 have hX128 := hX114.trans hx127 (fun i hi => (zS hlo8) i hi)
 refine qD rfl (zC (v := (.string z119)) rfl) (qe (zA ?_))
 exact wp_ret (zQ (yA (v := (.string z119)) rfl rfl rfl (⟨_, _, rfl, hX128⟩)))
 refine wp_skip (zA (zD (zE ?_)))
 refine qD rfl (zB (v := (.string z95)) rfl) (qD rfl (zC (v := (.string z95)) rfl) (qe (zA ?_)))
 exact wp_ret (zQ (yA (v := (.string z95)) rfl rfl rfl (⟨_, _, rfl, hX114⟩)))
end PTH
end Go.Proofs.YtajkbplgbikgdaaGreatDoor
namespace Go.Proofs.YtajkbplgbikgdaaGreatDoor
namespace LPT
open Go.RowKit Go.GL Go.Proofs
open B1 C1 D1 E1 SF1 DR1 DR2 DV1 LX2 PT1 PT2 PT3 PT4 PT5 PT6 PT7 PT8 PT9 PTA PTB PTC PTD PTE PTF PTG PTH
variable {G : Pin} {v : Value} {code : List UInt8}
theorem vBig_spec {w : World} (hP : Pins G w) (hc : RSl eByte G v code) :
  Calls Tryz.prog 7 [v].toArray w fun e w' => e = .returned (.bool (decide ((65536 : Int) < (code.length : Int)))) ∧ Ext noS G w G w' := by
 refine yM (n := 6) Tryz.func7 Tryz.ntmps7 rfl rfl ?_
 have hX0 := exr noS hP
 have hm := hc.max
 refine zD (zE ?_)
 refine qD rfl (zC (v := (.bool false)) rfl) (qe (zA (zD (zE ?_))))
 refine qD rfl (zB (v := v) rfl) (qD rfl (run_len dG (v := v) rfl hc) (qD rfl (qV rfl rfl) (qD rfl (zC (v := (.bool (decide ((65536 : Int) < (code.length : Int))))) rfl) (qe (zA ?_)))))
 exact wp_ret (zQ (yA (v := (.bool (decide ((65536 : Int) < (code.length : Int))))) rfl rfl rfl (⟨rfl, hX0⟩)))
theorem law {w : World} (hP : Pins G w) (hc : RSl eByte G v code) (hT : TabW w) (hE : ErG 4 G) (hM : MxI 1 G) :
  Calls Tryz.prog 4 [v].toArray w fun e w' => ∃ G', e = .returned (.bool true) ∧ Ext noS G w G' w' := by
 refine yM (n := 75) Tryz.func4 Tryz.ntmps4 rfl rfl ?_
 have hX0 := exr noS hP
 have hm := hc.max
 refine zD (zE ?_)
 refine qD rfl (zC (v := (.bool false)) rfl) (qe (zA (zD (zD (zE ?_)))))
 refine qD rfl (zB (v := v) rfl) (qI rfl (zK (vs := [v]) Tryz.func7 nm7 rfl rfl rfl ?_))
 refine dJ (vBig_spec hX0.pins hc) ?_
 rintro _ w1 ⟨rfl, hx2⟩
 refine ⟨_, rfl, ?_⟩
 have hX3 := hX0.step hx2.pins hx2.below
 refine qe (zA ?_)
 refine yJ (p := ((65536 : Int) < (code.length : Int))) rfl rfl (fun h4 => ?_) (fun h4 => ?_)
 refine zD (zE ?_)
 refine qD rfl (zC (v := (.bool true)) rfl) (qe (zA ?_))
 exact wp_ret (zQ (yA (v := (.bool true)) rfl rfl rfl (⟨_, rfl, hX3⟩)))
 refine wp_skip (zA (zD (zE ?_)))
 refine qD rfl (zB (v := v) rfl) (qI rfl (zK (vs := [v]) Tryz.func15 nm15 rfl rfl rfl ?_))
 refine dJ (rH hX3.pins hc) ?_
 rintro _ w8 ⟨r5, ps6, G7, rfl, hr9, hlb10, hx11⟩
 refine ⟨_, rfl, ?_⟩
 have hX12 := hX3.tr hx11
 refine qI rfl (yL [(.slice none 0 0)] zr38 rfl hX12.pins (fun b13 w14 hk15 hb16 hp17 hl18 => ?_))
 have hX19 := hX12.step hp17 hl18
 have hlo20 : w.heap.size ≤ b13 := by have := hX12.size; omega
 refine q0 rfl rfl rfl (yD (cs' := [r5]) (us := [r5]) (v := (.agg [r5].toArray)) sz38 rfl rfl rfl (yE hr9.one) hX19.pins hb16 (dK rfl) rfl (fun w21 hb22 hp23 hg24 hz25 => ?_))
 have hX26 := hX19.write hp23 hg24 ((zS hlo20))
 refine qe (zA (zD (zE ?_)))
 refine qD rfl (zU (cs := [r5]) ag38 sz38 rfl (fun j u hj => hb22.cell (by simpa using hj))) (qI rfl (zK (vs := [(.agg [r5].toArray)]) Tryz.func16 nm16 rfl rfl rfl ?_))
 refine dJ (vK hX26.pins (hT.keep hX26) hr9 hlb10) ?_
 rintro _ w28 ⟨G27, rfl, hx29⟩
 refine ⟨_, rfl, ?_⟩
 have hX30 := hX26.tr hx29
 have hb31 := hb22.ext hx29
 refine qD rfl (zB (v := (.tuple #[(.string (txF ps6)), (.bool (tdB ps6))])) rfl) (qD rfl (yB (v := (.string (txF ps6))) rfl rfl) (qD rfl (yB (v := (.bool (tdB ps6))) rfl rfl) (qD rfl (zC (v := (.string (txF ps6))) rfl) (qD rfl (zC (v := (.bool (tdB ps6))) rfl) (qe (zA (zD (zE ?_))))))))
 refine qD rfl (zU (cs := [r5]) ag38 sz38 rfl (fun j u hj => hb31.cell (by simpa using hj))) (qI rfl (zK (vs := [(.agg [r5].toArray)]) Tryz.func17 nm17 rfl rfl rfl ?_))
 refine dJ (mI hX30.pins (hr9.mono hx29.le) hlb10) ?_
 rintro _ w33 ⟨G32, rfl, hx34⟩
 refine ⟨_, rfl, ?_⟩
 have hX35 := hX30.tr hx34
 refine qD rfl (zB (v := (.tuple #[(.string (txF ps6)), (.bool (tdB ps6))])) rfl) (qD rfl (yB (v := (.string (txF ps6))) rfl rfl) (qD rfl (yB (v := (.bool (tdB ps6))) rfl rfl) (qD rfl (zC (v := (.string (txF ps6))) rfl) (qD rfl (zC (v := (.bool (tdB ps6))) rfl) (qe (zA (zD (zE ?_))))))))
 refine qD rfl (zB (v := v) rfl) (qI rfl (zK (vs := [v]) Tryz.func18 nm18 rfl rfl rfl ?_))
 refine dJ (rG hX35.pins (hc.mono (dH (dH hx11.le hx29.le) hx34.le))) ?_
 rintro _ w39 ⟨z37, G38, rfl, hx40⟩
 refine ⟨_, rfl, ?_⟩
 have hX41 := hX35.tr hx40
 refine qD rfl (zC (v := (.string z37)) rfl) (qe (zA (zD (zE ?_))))
 refine qD rfl (zB (v := (.string z37)) rfl) (qI rfl (zK (vs := [(.string z37)]) Tryz.func19 nm19 rfl rfl rfl ?_))
 refine dJ (fO (s := z37) hX41.pins (hT.keep hX41) (hE.le (dH (dH (dH hx11.le hx29.le) hx34.le) hx40.le)) (hM.le (dH (dH (dH hx11.le hx29.le) hx34.le) hx40.le))) ?_
 rintro _ w47 ⟨u43, q44, ok45, G46, rfl, hr48, hrp49, hx50⟩
 refine ⟨_, rfl, ?_⟩
 have hX51 := hX41.tr hx50
 have hb52 := ((hb31.ext hx34).ext hx40).ext hx50
 refine qD rfl (zB (v := (.tuple #[(.agg [u43].toArray), (.bool ok45)])) rfl) (qD rfl (yB (v := (.agg [u43].toArray)) rfl rfl) (qD rfl (yB (v := (.bool ok45)) rfl rfl) (qI rfl (yL [(.slice none 0 0)] zr38 rfl hX51.pins (fun b53 w54 hk55 hb56 hp57 hl58 => ?_)))))
 have hX59 := hX51.step hp57 hl58
 have hlo62 : w.heap.size ≤ b53 := by have := hX51.size; omega
 refine q0 rfl rfl rfl (yD (cs' := [u43]) (us := [u43]) (v := (.agg [u43].toArray)) sz38 rfl rfl rfl (yE hr48.one) hX59.pins hb56 (dK rfl) rfl (fun w63 hb64 hp65 hg66 hz67 => ?_))
 have hX68 := hX59.write hp65 hg66 ((zS hlo62))
 refine qD rfl (zC (v := (.bool ok45)) rfl) (qe (zA (zD (zE ?_))))
 refine qD rfl (zB (v := (.string z37)) rfl) (qI rfl (zK (vs := [(.string z37)]) Tryz.func20 nm20 rfl rfl rfl ?_))
 refine dJ (mH (s := z37) hX68.pins) ?_
 rintro _ w74 ⟨u70, q71, ok72, G73, rfl, hr75, hrp76, hx77⟩
 refine ⟨_, rfl, ?_⟩
 have hX78 := hX68.tr hx77
 have hb79 := ((hb52.below hl58).keptA hg66 (zG (congrArg some hk55) hb52.lt).symm).ext hx77
 have hb80 := hb64.ext hx77
 refine qD rfl (zB (v := (.tuple #[(.agg [u70].toArray), (.bool ok72)])) rfl) (qD rfl (yB (v := (.agg [u70].toArray)) rfl rfl) (qD rfl (yB (v := (.bool ok72)) rfl rfl) (qI rfl (yL [(.slice none 0 0)] zr38 rfl hX78.pins (fun b81 w82 hk83 hb84 hp85 hl86 => ?_)))))
 have hX87 := hX78.step hp85 hl86
 have hlo92 : w.heap.size ≤ b81 := by have := hX78.size; omega
 refine q0 rfl rfl rfl (yD (cs' := [u70]) (us := [u70]) (v := (.agg [u70].toArray)) sz38 rfl rfl rfl (yE hr75.one) hX87.pins hb84 (dK rfl) rfl (fun w93 hb94 hp95 hg96 hz97 => ?_))
 have hX98 := hX87.write hp95 hg96 ((zS hlo92))
 refine qD rfl (zC (v := (.bool ok72)) rfl) (qe (zA (zD (zD (zE ?_)))))
 refine qD rfl (zB (v := (.string (txF ps6))) rfl) (qD rfl (zB (v := (.string (txF ps6))) rfl) (qD rfl (r_neqS_same rfl rfl) (qD rfl (zB (v := (.bool false)) rfl) (qdg rfl rfl rfl rfl rfl rfl (zB (v := (.bool (tdB ps6))) rfl) (qdg rfl rfl rfl rfl rfl rfl (zB (v := (.bool (tdB ps6))) rfl) (qdg rfl rfl rfl rfl rfl rfl (r_neqB_same Tryz.underlying4 rfl rfl) (qD rfl (yN (v := (.bool false)) rfl rfl) (qD rfl (zB (v := (.bool false)) rfl) (qdg rfl rfl rfl rfl rfl rfl (zB (v := (.bool ok45)) rfl) (qdg rfl rfl rfl rfl rfl rfl (zB (v := (.bool ok72)) rfl) (qdg rfl rfl rfl rfl rfl rfl (r_neqB Tryz.underlying4 rfl rfl) (qD rfl (yN (v := (.bool (ok45 != ok72))) rfl rfl) (qD rfl (zB (v := (.bool (ok45 != ok72))) rfl) (qb (t := 54) rfl (fun h101 => ?_) (fun h101 => ?_)))))))))))))))
 refine qs rfl rfl rfl rfl rfl rfl (qs rfl rfl rfl rfl rfl rfl (qs rfl rfl rfl rfl rfl rfl (qs rfl rfl rfl rfl rfl rfl (qD rfl (yG (v := (.bool true)) rfl rfl) (qe (zA ?_))))))
 refine qC rfl rfl (zD (zE ?_))
 refine qD rfl (zC (v := (.bool false)) rfl) (qe (zA ?_))
 refine wp_ret (zQ (yA (v := (.bool false)) rfl rfl rfl ?_))
 obtain ⟨eq1, eo1⟩ := hrp49.same hrp76
 exfalso
 simp_all
 refine qdg rfl rfl rfl rfl rfl rfl (zU (cs := [u43]) ag38 sz38 rfl (fun j u hj => ((hb80.below hl86).keptA hg96 (zG (congrArg some hk83) hb80.lt).symm).cell (by simpa using hj))) (qdg rfl rfl rfl rfl rfl rfl (zU (cs := [u70]) ag38 sz38 rfl (fun j u hj => hb94.cell (by simpa using hj))) (q1g rfl rfl rfl rfl rfl rfl (zK (vs := [(.agg [u43].toArray), (.agg [u70].toArray)]) Tryz.func21 nm21 rfl rfl rfl ?_)))
 refine dJ (rP hX98.pins (hr48.mono hx77.le) hr75) ?_
 rintro _ w103 ⟨G102, rfl, hx104⟩
 refine ⟨_, rfl, ?_⟩
 have hX105 := hX98.tr hx104
 refine qdg rfl rfl rfl rfl rfl rfl (xT rfl) (qD rfl (yN (v := (.bool (!(decide (q44 = q71))))) rfl rfl) (qe (zA ?_)))
 refine xV rfl rfl (fun h109 => ?_) (fun h109 => ?_)
 replace h109 := of_decide_eq_true h109
 refine wp_skip (zA (zD (zD (zE ?_))))
 refine qD rfl (zB (v := (.bool (tdB ps6))) rfl) (qD rfl (xT rfl) (qe (zA ?_)))
 refine xV rfl rfl (fun h110 => ?_) (fun h110 => ?_)
 refine wp_skip (zA (zD (zE ?_)))
 refine qD rfl (zB (v := (.string (txF ps6))) rfl) (qI rfl (zK (vs := [(.string (txF ps6))]) Tryz.func19 nm19 rfl rfl rfl ?_))
 refine dJ (fO (s := (txF ps6)) hX105.pins (hT.keep hX105) (hE.le (dH (dH (dH (dH (dH (dH hx11.le hx29.le) hx34.le) hx40.le) hx50.le) hx77.le) hx104.le)) (hM.le (dH (dH (dH (dH (dH (dH hx11.le hx29.le) hx34.le) hx40.le) hx50.le) hx77.le) hx104.le))) ?_
 rintro _ w115 ⟨u111, q112, ok113, G114, rfl, hr116, hrp117, hx118⟩
 refine ⟨_, rfl, ?_⟩
 have hX119 := hX105.tr hx118
 have hb120 := (((hb79.below hl86).keptA hg96 (zG (congrArg some hk83) hb79.lt).symm).ext hx104).ext hx118
 refine qD rfl (zB (v := (.tuple #[(.agg [u111].toArray), (.bool ok113)])) rfl) (qD rfl (yB (v := (.agg [u111].toArray)) rfl rfl) (qD rfl (yB (v := (.bool ok113)) rfl rfl) (qI rfl (yL [(.slice none 0 0)] zr38 rfl hX119.pins (fun b123 w124 hk125 hb126 hp127 hl128 => ?_)))))
 have hX129 := hX119.step hp127 hl128
 have hlo136 : w.heap.size ≤ b123 := by have := hX119.size; omega
 refine q0 rfl rfl rfl (yD (cs' := [u111]) (us := [u111]) (v := (.agg [u111].toArray)) sz38 rfl rfl rfl (yE hr116.one) hX129.pins hb126 (dK rfl) rfl (fun w137 hb138 hp139 hg140 hz141 => ?_))
 have hX142 := hX129.write hp139 hg140 ((zS hlo136))
 refine qD rfl (zC (v := (.bool ok113)) rfl) (qe (zA (zD (zE ?_))))
 refine qD rfl (zB (v := (.bool ok113)) rfl) (qD rfl (zB (v := (.bool ok113)) rfl) (qb (t := 70) rfl (fun h146 => ?_) (fun h146 => ?_)))
 refine qdg rfl rfl rfl rfl rfl rfl (zU (cs := [u111]) ag38 sz38 rfl (fun j u hj => hb138.cell (by simpa using hj))) (qdg rfl rfl rfl rfl rfl rfl (zU (cs := [r5]) ag38 sz38 rfl (fun j u hj => ((hb120.below hl128).keptA hg140 (zG (congrArg some hk125) hb120.lt).symm).cell (by simpa using hj))) (q1g rfl rfl rfl rfl rfl rfl (zK (vs := [(.agg [u111].toArray), (.agg [r5].toArray)]) Tryz.func21 nm21 rfl rfl rfl ?_)))
 refine dJ (rP hX142.pins hr116 (hr9.mono (dH (dH (dH (dH (dH (dH hx29.le hx34.le) hx40.le) hx50.le) hx77.le) hx104.le) hx118.le))) ?_
 rintro _ w148 ⟨G147, rfl, hx149⟩
 refine ⟨_, rfl, ?_⟩
 have hX150 := hX142.tr hx149
 refine qD rfl (yG (v := (.bool (decide (q112 = ps6)))) rfl rfl) (qD rfl (zC (v := (.bool (decide (q112 = ps6)))) rfl) (qe (zA ?_)))
 refine wp_ret (zQ (yA (v := (.bool (decide (q112 = ps6)))) rfl rfl rfl ?_))
 obtain ⟨eq1, eo1⟩ := hrp49.same hrp76
 obtain ⟨e3, o3⟩ := hrp117.all _ (decP_true.1 h110) (fW h110).symm
 exact ⟨_, congrArg (fun z => Ending.returned (Value.bool z)) (by first | rw [e3, o3] | (rw [o3]; simp [e3]) | simp_all), hX150⟩
 refine qs rfl rfl rfl rfl rfl rfl (qs rfl rfl rfl rfl rfl rfl (qs rfl rfl rfl rfl rfl rfl (qD rfl (yN (v := (.bool false)) rfl rfl) (qD rfl (zC (v := (.bool false)) rfl) (qe (zA ?_))))))
 refine wp_ret (zQ (yA (v := (.bool false)) rfl rfl rfl ?_))
 obtain ⟨eq1, eo1⟩ := hrp49.same hrp76
 obtain ⟨e3, o3⟩ := hrp117.all _ (decP_true.1 h110) (fW h110).symm
 exact absurd o3 (by rw [h146]; decide)
 refine zD (zE ?_)
 refine qD rfl (zB (v := (.string (txF ps6))) rfl) (qD rfl (r_eqlS rfl rfl) (qD rfl (zC (v := (.bool ((txF ps6).toList == (⟨#[]⟩ : ByteArray).toList))) rfl) (qe (zA ?_))))
 refine wp_ret (zQ (yA (v := (.bool ((txF ps6).toList == (⟨#[]⟩ : ByteArray).toList))) rfl rfl rfl ?_))
 obtain ⟨eq1, eo1⟩ := hrp49.same hrp76
 exact ⟨_, congrArg (fun z => Ending.returned (Value.bool z)) (by rw [kS h110]; exact beq_self_eq_true _), hX105⟩
 replace h109 := of_decide_eq_false h109
 refine zD (zE ?_)
 refine qD rfl (zC (v := (.bool false)) rfl) (qe (zA ?_))
 refine wp_ret (zQ (yA (v := (.bool false)) rfl rfl rfl ?_))
 obtain ⟨eq1, eo1⟩ := hrp49.same hrp76
 exfalso
 simp_all
end LPT
end Go.Proofs.YtajkbplgbikgdaaGreatDoor
