/- Texts of this claim in one file: TI2, LT1. -/
import Derived.Test.YtfnginkcmcfdfaaGreatDoorTf6
import Derived.Test.YtfnginkcmcfdfaaGreatDoorChecked
set_option maxRecDepth 20000
set_option maxHeartbeats 2000000
namespace Go.Proofs.YtfnginkcmcfdfaaGreatDoor
namespace TI2
open Go.RowKit Go.GL Go.Proofs
open Go.Proofs.YtfnginkcmcfdfaaGreatDoor.B1
open Go.Proofs.YtfnginkcmcfdfaaGreatDoor.C1
open Go.Proofs.YtfnginkcmcfdfaaGreatDoor.D1
open Go.Proofs.YtfnginkcmcfdfaaGreatDoor.E1
open Go.Proofs.YtfnginkcmcfdfaaGreatDoor.K1
open Go.Proofs.YtfnginkcmcfdfaaGreatDoor.PO1
open Go.Proofs.YtfnginkcmcfdfaaGreatDoor.PL1
open Go.Proofs.YtfnginkcmcfdfaaGreatDoor.PA1
open Go.Proofs.YtfnginkcmcfdfaaGreatDoor.SO1
open Go.Proofs.YtfnginkcmcfdfaaGreatDoor.OD1
open Go.Proofs.YtfnginkcmcfdfaaGreatDoor.FO1
open Go.Proofs.YtfnginkcmcfdfaaGreatDoor.NG1
open Go.Proofs.YtfnginkcmcfdfaaGreatDoor.NF1
open Go.Proofs.YtfnginkcmcfdfaaGreatDoor.SM1
open Go.Proofs.YtfnginkcmcfdfaaGreatDoor.MK1
open Go.Proofs.YtfnginkcmcfdfaaGreatDoor.TI1







theorem pl32 : (Tryz.prog.underlying 32).bind (placesD Tryz.prog) = some [(0, 1)] := by kernel_rfl




theorem iTinyForm_dspec {w : World} {G : Pin} {v : Value} {fs : List Nd} (hP : Pins G w) (hv : RSl eNode G v fs) :
  Calls Tryz.prog 41 [(.agg [v].toArray)].toArray w fun e w' => ∃ (u : Value) (G' : Pin), e = .returned (.tuple #[(.agg [u].toArray), .bool (tinB fs)]) ∧ DForm 99 3 G' w' w.heap.size w'.heap.size u (tinF fs) ∧ Ext noS G w G' w' := by
 refine zZ (n := 31) Tryz.func41 Tryz.ntmps41 rfl rfl ?_
 have hX0 : Ext noS G w G w := Ext.refl hP
 refine zD (zH ?_)
 refine qI rfl (xT [v] (v := (.agg [v].toArray)) rfl rfl hX0.pins (fun b1 w2 hk3 hb4 hp5 hl6 => ?_))
 have hX7 := hX0.step hp5 hl6
 have hlo8 : w.heap.size ≤ b1 := by have := hX0.size; omega
 obtain ⟨G9, hle10, hX11, hbp12, hf13⟩ := hb4.shut hX7 hlo8
 refine qI rfl (xA [(.slice none 0 0)] zr32 rfl hX11.pins (fun b14 w15 hk16 hb17 hp18 hl19 => ?_))
 have hX20 := hX11.step hp18 hl19
 have hlo21 : w.heap.size ≤ b14 := by have := hX11.size; omega
 refine qD rfl (zC (v := (.bool false)) rfl) ?_
 refine qe (zA (zD (zD (zH ?_))))
 refine qD rfl (xD (cs := [v]) ag32 sz32 rfl (fun j u hj => hX20.pins _ _ _ (hbp12 _ _ (by simpa using hj)))) ?_
 refine qI rfl (zO (vs := [(.agg [v].toArray)]) Tryz.func50 nm50 rfl rfl rfl ?_)
 refine Calls.mono (goodForm_spec hX20.pins (hv.mono hle10)) ?_
 rintro _ w23 ⟨G22, rfl, hx24⟩
 refine ⟨_, rfl, ?_⟩
 have hX25 := hX20.tr hx24
 have hb26 := hb17.ext hx24
 refine qD rfl (qB rfl) ?_
 refine qe (zA ?_)
 refine c_ifn rfl rfl (fun h27 => ?_) (fun h27 => ?_)
 ·skip
  refine wp_skip ?_
  refine zA (zD (zH ?_))
  have hgb : goodB fs = true := h27
  have hga : GoodP fs := goodB_true.1 hgb
  have hla := hga.lo
  have hha := hga.hi
  have hlb := last_bounds hga
  refine qI rfl (zO (vs := []) Tryz.func51 nm51 rfl rfl rfl ?_)
  refine Calls.mono (newPool_spec hX25.pins) ?_
  rintro _ w31 ⟨p28, mm29, G30, rfl, hpk32, hfr33, hx34⟩
  refine ⟨_, rfl, ?_⟩
  have hX38 := hX25.tr hx34
  have hb39 := hb26.ext hx34
  have hnp40 := np_fresh hfr33 (x := (some b14)) (box_lt hb26)
  have hpin41 : PIn w (noS) p28 (.slice none 0 0) (.slice none 0 0) (.slice none 0 0) mm29 := PIn.fresh hfr33 hX25.size
  obtain ⟨q35, hq36⟩ : ∃ q, q = (⟨[], [], [], [], [], [], []⟩ : PSt) := ⟨_, rfl⟩
  rw [← hq36] at hpk32
  have hok37 : PoolOk q35 := by rw [hq36]; exact PoolOk.empty
  have hq36l : q35.ns.length = 0 := by rw [hq36]; rfl
  obtain ⟨L42, R43, B44, eL42, eR43, eB44⟩ : ∃ (l r b : Value), l = .slice none 0 0 ∧ r = .slice none 0 0 ∧ b = .slice none 0 0 := ⟨_, _, _, rfl, rfl, rfl⟩
  have hpk322 : Pk 65 3 G30 w31 p28 L42 R43 B44 mm29 q35 := by rw [eL42, eR43, eB44]; exact hpk32
  have hpin412 : PIn w (noS) p28 L42 R43 B44 mm29 := by rw [eL42, eR43, eB44]; exact hpin41
  have hml45 : (q35.ns.map Nd.l).length = q35.ns.length ∧ (q35.ns.map Nd.r).length = q35.ns.length := ⟨List.length_map .., List.length_map ..⟩
  have hml46 : q35.bs.length = q35.ns.length ∧ q35.ns.length ≤ 1048576 := ⟨hok37.ar.ok.len, hok37.ar.ok.lim⟩
  have hnp40x : NP p28 L42 R43 B44 mm29 (some b14) := by rw [eL42, eR43, eB44]; exact hnp40
  refine qD rfl (zC (v := (.pointer (some ⟨p28, 0, none⟩))) rfl) ?_
  refine qe (zA (zD (zH ?_)))
  refine qD rfl (zB (v := (.pointer (some ⟨p28, 0, none⟩))) rfl) ?_
  refine qI rfl (zO (vs := [(.pointer (some ⟨p28, 0, none⟩)), (.slice none 0 0), (.slice none 0 0)]) Tryz.func79 nm79 rfl rfl rfl ?_)
  refine Calls.mono (node_spec hX38.pins hpk322 hok37 (qQ _ _) (qQ _ _) (by omega) ⟨by simp, by simp⟩ nil_at nil_at) ?_
  rintro _ w57 ⟨z47, L52, R53, B54, q55, G56, rfl, hpk58, hok59, hpx60, hlo61, hx62, hpl48, hpd49, hqn50, hcm51⟩
  refine ⟨_, rfl, ?_⟩
  have hX63 := hX38.trans hx62 hpin412
  have hb64 := hb39.extS hx62 (NP.notb hnp40x)
  have hnp65 := NP.call hnp40x hlo61 (box_lt hb39)
  have hpin66 := PIn.call hpin412 hlo61 hX38.size
  have hql67 := hpx60.len
  have hml68 : (q55.ns.map Nd.l).length = q55.ns.length ∧ (q55.ns.map Nd.r).length = q55.ns.length := ⟨List.length_map .., List.length_map ..⟩
  have hml69 : q55.bs.length = q55.ns.length ∧ q55.ns.length ≤ 1048576 := ⟨hok59.ar.ok.len, hok59.ar.ok.lim⟩
  have hng70 := hpd49.trans (show _ = mkG [] [] from rfl)
  refine qI rfl (yY (E := eInt) (e := 3) [(.int .i64 z47)] [z47] Tryz.underlying65 sz3 zr3 (by exact xV (by rfl)) (yZ (by rfl)) rfl rfl rfl rfl (by decide) hX63.pins (fun u71 w72 ho73 hp74 hl75 hk76 => ?_))
  have hX77 := hX63.step hp74 hl75
  have hb78 := hb64.below hl75
  have hpk79 := hpk58.below hl75 hp74
  have ha83 : Apart u71.ownBlock (some b14) := zN hk76 hb64.lt
  have ha85 := hpk58.new (x := u71.ownBlock) (fun k hk => by rw [hk76] at hk; cases hk; exact Nat.le_refl _)
  have ho86 : Own eInt 3 G56 w72 w.heap.size u71 ([z47]) := ho73.weaken hX63.size
  refine qD rfl (zC (v := u71) rfl) ?_
  refine qe (zA (zD (zH ?_)))
  refine qD rfl (zB (v := (.pointer (some ⟨p28, 0, none⟩))) rfl) ?_
  refine qD rfl (zB (v := (.pointer (some ⟨p28, 0, none⟩))) rfl) ?_
  refine qD rfl (zB (v := u71) rfl) ?_
  refine qD rfl (zB (v := (.pointer (some ⟨p28, 0, none⟩))) rfl) ?_
  refine qD rfl (zB (v := u71) rfl) ?_
  refine qD rfl (zB (v := (.pointer (some ⟨p28, 0, none⟩))) rfl) ?_
  refine qD rfl (zB (v := (.pointer (some ⟨p28, 0, none⟩))) rfl) ?_
  refine qD rfl (xD (cs := [v]) ag32 sz32 rfl (fun j u hj => (Pins.of_le hX77.pins (Pin.le_trans (Pin.le_trans hx24.le hx34.le) hx62.le)) _ _ _ (hbp12 _ _ (by simpa using hj)))) ?_
  refine qI rfl (zO (vs := [(.pointer (some ⟨p28, 0, none⟩)), (.agg [v].toArray)]) Tryz.func53 nm53 rfl rfl rfl ?_)
  refine Calls.mono (root_spec hX77.pins hpk79 hok59 (hv.mono (Pin.le_trans (Pin.le_trans (Pin.le_trans hle10 hx24.le) hx34.le) hx62.le)) (good_form hga) (by omega) hla) ?_
  rintro _ w96 ⟨z87, L91, R92, B93, q94, G95, rfl, hpk97, hok98, hpx99, hlo100, hx101, hpl88, hpd89, hqn90⟩
  refine ⟨_, rfl, ?_⟩
  have hX102 := hX77.trans hx101 hpin66
  have ho103 := ho86.extS hx101 ha85
  have hnp104 := NP.call ha85 hlo100 (xW ho86)
  have hb105 := hb78.extS hx101 (NP.notb hnp65)
  have hnp106 := NP.call hnp65 hlo100 (box_lt hb78)
  have hpin107 := PIn.call hpin66 hlo100 hX77.size
  have hql108 := hpx99.len
  have hml109 : (q94.ns.map Nd.l).length = q94.ns.length ∧ (q94.ns.map Nd.r).length = q94.ns.length := ⟨List.length_map .., List.length_map ..⟩
  have hml110 : q94.bs.length = q94.ns.length ∧ q94.ns.length ≤ 1048576 := ⟨hok98.ar.ok.len, hok98.ar.ok.lim⟩
  have hpz := hpd89
  refine qI rfl (zO (vs := [(.pointer (some ⟨p28, 0, none⟩)), (.int .i64 z87)]) Tryz.func82 nm82 rfl rfl rfl ?_)
  refine Calls.mono (neg_spec hX102.pins hpk97 hok98 hpl88 (qz := q94) (S := (subL fs).map negG) (Bud.start (by rw [List.length_map, subL_len]; omega)) (fun x hx => List.mem_map.2 ⟨x, subL_mem (good_sg hga) (by rw [hpz] at hx; exact hx), rfl⟩)) ?_
  rintro _ w120 ⟨z111, L115, R116, B117, q118, G119, rfl, hpk121, hok122, hpx123, hlo124, hx125, hpl112, hpd113, hbu114⟩
  refine ⟨_, rfl, ?_⟩
  have hX126 := hX102.trans hx125 hpin107
  have ho127 := ho103.extS hx125 hnp104
  have hnp128 := NP.call hnp104 hlo124 (xW ho103)
  have hb129 := hb105.extS hx125 (NP.notb hnp106)
  have hnp130 := NP.call hnp106 hlo124 (box_lt hb105)
  have hpin131 := PIn.call hpin107 hlo124 hX102.size
  have hql132 := hpx123.len
  have hml133 : (q118.ns.map Nd.l).length = q118.ns.length ∧ (q118.ns.map Nd.r).length = q118.ns.length := ⟨List.length_map .., List.length_map ..⟩
  have hml134 : q118.bs.length = q118.ns.length ∧ q118.ns.length ≤ 1048576 := ⟨hok122.ar.ok.len, hok122.ar.ok.lim⟩
  have hpn135 := hpd113.trans (by rw [hpz])
  have hbl136 := hbu114.len hok122
  rw [List.length_map, subL_len] at hbl136
  refine qI rfl (yY (E := eInt) (e := 3) [(.int .i64 z111)] [z111] Tryz.underlying65 sz3 zr3 (by exact xV (by rfl)) (yZ (by rfl)) rfl rfl rfl rfl (by decide) hX126.pins (fun u137 w138 ho139 hp140 hl141 hk142 => ?_))
  have hX143 := hX126.step hp140 hl141
  have ho144 := ho127.below hl141
  have hb145 := hb129.below hl141
  have hpk146 := hpk121.below hl141 hp140
  have ha147 : Apart u137.ownBlock u71.ownBlock := zK hk142 ho127.lt
  have ha151 : Apart u137.ownBlock (some b14) := zN hk142 hb129.lt
  have ha153 := hpk121.new (x := u137.ownBlock) (fun k hk => by rw [hk142] at hk; cases hk; exact Nat.le_refl _)
  have ho154 : Own eInt 3 G119 w138 w.heap.size u137 ([z111]) := ho139.weaken hX126.size
  obtain ⟨G155, hle158, hX157, hr156, hf159⟩ := ho144.sealed hX143
  have ho160 := ho154.moreO hle158 hf159 ha147
  have hb161 := hb145.moreO hf159 ha83.symm
  have hpk162 := hpk146.moreO hle158 hf159 hnp128
  obtain ⟨G163, hle166, hX165, hr164, hf167⟩ := ho160.sealed hX157
  have hb168 := hb161.moreO hf167 ha151.symm
  have hpk169 := hpk162.moreO hle166 hf167 ha153
  have hkg170 := (((PX.trans hpx99 hpx123).pd hok59 hok122 hpl48).trans hng70)
  have hkg171 := hpn135
  refine qI rfl (zO (vs := [(.pointer (some ⟨p28, 0, none⟩)), u71, u137]) Tryz.func79 nm79 rfl rfl rfl ?_)
  refine Calls.mono (node_spec hX165.pins hpk169 hok122 (hr156.mono hle166) hr164 (by omega) ⟨by simp, by simp⟩ (one_at ((PX.trans hpx99 hpx123).place hpl48)) (one_at hpl112)) ?_
  rintro _ w182 ⟨z172, L177, R178, B179, q180, G181, rfl, hpk183, hok184, hpx185, hlo186, hx187, hpl173, hpd174, hqn175, hcm176⟩
  refine ⟨_, rfl, ?_⟩
  have hX188 := hX165.trans hx187 hpin131
  have hb189 := hb168.extS hx187 (NP.notb hnp130)
  have hnp190 := NP.call hnp130 hlo186 (box_lt hb168)
  have hpin191 := PIn.call hpin131 hlo186 hX165.size
  have hql192 := hpx185.len
  have hml193 : (q180.ns.map Nd.l).length = q180.ns.length ∧ (q180.ns.map Nd.r).length = q180.ns.length := ⟨List.length_map .., List.length_map ..⟩
  have hml194 : q180.bs.length = q180.ns.length ∧ q180.ns.length ≤ 1048576 := ⟨hok184.ar.ok.len, hok184.ar.ok.lim⟩
  have hng195 := hpd174.trans (show _ = mkG [pd q118 z47] [pd q118 z111] from rfl)
  rw [hkg170] at hng195
  rw [hkg171] at hng195
  refine qI rfl (yY (E := eInt) (e := 3) [(.int .i64 z172)] [z172] Tryz.underlying65 sz3 zr3 (by exact xV (by rfl)) (yZ (by rfl)) rfl rfl rfl rfl (by decide) hX188.pins (fun u196 w197 ho198 hp199 hl200 hk201 => ?_))
  have hX202 := hX188.step hp199 hl200
  have hb203 := hb189.below hl200
  have hpk204 := hpk183.below hl200 hp199
  have ha208 : Apart u196.ownBlock (some b14) := zN hk201 hb189.lt
  have ha210 := hpk183.new (x := u196.ownBlock) (fun k hk => by rw [hk201] at hk; cases hk; exact Nat.le_refl _)
  have ho211 : Own eInt 3 G181 w197 w.heap.size u196 ([z172]) := ho198.weaken hX188.size
  obtain ⟨G212, hle215, hX214, hr213, hf216⟩ := ho211.sealed hX202
  have hb217 := hb203.moreO hf216 ha208.symm
  have hpk218 := hpk204.moreO hle215 hf216 ha210
  have hkg219 := (((PX.trans (PX.trans hpx99 hpx123) hpx185).pd hok59 hok184 hpl48).trans hng70)
  have hkg220 := hng195
  refine qI rfl (zO (vs := [(.pointer (some ⟨p28, 0, none⟩)), u71, u196]) Tryz.func79 nm79 rfl rfl rfl ?_)
  refine Calls.mono (node_spec hX214.pins hpk218 hok184 (hr156.mono (Pin.le_trans (Pin.le_trans hle166 hx187.le) hle215)) hr213 (by omega) ⟨by simp, by simp⟩ (one_at ((PX.trans (PX.trans hpx99 hpx123) hpx185).place hpl48)) (one_at hpl173)) ?_
  rintro _ w231 ⟨z221, L226, R227, B228, q229, G230, rfl, hpk232, hok233, hpx234, hlo235, hx236, hpl222, hpd223, hqn224, hcm225⟩
  refine ⟨_, rfl, ?_⟩
  have hX237 := hX214.trans hx236 hpin191
  have hb238 := hb217.extS hx236 (NP.notb hnp190)
  have hpin240 := PIn.call hpin191 hlo235 hX214.size
  have hql241 := hpx234.len
  have hml242 : (q229.ns.map Nd.l).length = q229.ns.length ∧ (q229.ns.map Nd.r).length = q229.ns.length := ⟨List.length_map .., List.length_map ..⟩
  have hml243 : q229.bs.length = q229.ns.length ∧ q229.ns.length ≤ 1048576 := ⟨hok233.ar.ok.len, hok233.ar.ok.lim⟩
  have hng244 := hpd223.trans (show _ = mkG [pd q180 z47] [pd q180 z172] from rfl)
  rw [hkg219] at hng244
  rw [hkg220] at hng244
  refine qI rfl (zO (vs := [(.pointer (some ⟨p28, 0, none⟩)), (.int .i64 z221)]) Tryz.func59 nm59 rfl rfl rfl ?_)
  refine Calls.mono (form_spec hX237.pins hpk232 hok233 hpl222) ?_
  rintro _ w247 ⟨u245, G246, rfl, hd248, hx249⟩
  refine ⟨_, rfl, ?_⟩
  have hX250 := hX237.tr hx249
  have hb251 := hb238.ext hx249
  have hone253 := hd248.one
  refine qD rfl (xL (v := (.agg [u245].toArray)) rfl rfl) ?_
  refine qD rfl (xL (v := (.bool (fitB (pd q229 z221)))) rfl rfl) ?_
  refine q0 rfl rfl rfl (xF (cs' := [u245]) (us := [u245]) (v := (.agg [u245].toArray)) sz32 rfl rfl rfl (yZ hone253) hX250.pins hb251 (Nat.le_of_ble_eq_true rfl) rfl (fun w254 hb255 hp256 hg257 hz258 => ?_))
  have hX259 := hX250.write hp256 hg257 ((yV hlo21))
  have hd260 := hd248.kept hg257 (Or.inr hb238.lt)
  have hs261 := Nat.le_trans (Nat.le_refl w247.heap.size) hg257.size
  refine qD rfl (zC (v := (.bool (fitB (pd q229 z221)))) rfl) ?_
  refine qe (zA ?_)
  refine wp_ret ?_
  refine zX ?_
  refine c_retct (cs := [u245]) (v := (.bool (fitB (pd q229 z221)))) rfl rfl rfl rfl rfl ag32 sz32 (fun j u hj => by rw [Nat.zero_add]; exact hb255.cell hj) ?_
  have hgz : pd q229 z221 = tinG fs := hng244.trans (tin_g hga).symm
  obtain ⟨e1, e2⟩ := tin_yes hgb
  rw [e1, e2, ← hgz]
  exact ⟨_, _, rfl, (hd260.wide hX237.size hs261), hX259⟩
 refine zD (zH ?_)
 refine qD rfl (xP [(.slice none 0 0)] [(.slice none 0 0)] [] Tryz.underlying32 zr32 rfl pl32 rfl (fun _ h => by cases h) rfl) ?_
 refine q0 rfl rfl rfl (xF (cs' := [(.slice none 0 0)]) (us := [(.slice none 0 0)]) (v := (.agg [(.slice none 0 0)].toArray)) sz32 rfl rfl rfl (yZ (by rfl)) hX25.pins hb26 (Nat.le_of_ble_eq_true rfl) rfl (fun w263 hb264 hp265 hg266 hz267 => ?_))
 have hX268 := hX25.write hp265 hg266 ((yV hlo21))
 refine qD rfl (zC (v := (.bool false)) rfl) ?_
 refine qe (zA ?_)
 refine wp_ret ?_
 refine zX ?_
 refine c_retct (cs := [(.slice none 0 0)]) (v := (.bool false)) rfl rfl rfl rfl rfl ag32 sz32 (fun j u hj => by rw [Nat.zero_add]; exact hb264.cell hj) ?_
 have hgb : goodB fs = false := h27
 obtain ⟨e1, e2⟩ := tin_no hgb
 rw [e1, e2]
 exact ⟨_, _, rfl, DForm.nil, hX268⟩

end TI2
end Go.Proofs.YtfnginkcmcfdfaaGreatDoor

set_option maxRecDepth 20000
set_option maxHeartbeats 2000000
namespace Go.Proofs.YtfnginkcmcfdfaaGreatDoor
namespace LT1
open Go.RowKit Go.GL Go.Proofs
open Go.Proofs.YtfnginkcmcfdfaaGreatDoor.B1
open Go.Proofs.YtfnginkcmcfdfaaGreatDoor.C1
open Go.Proofs.YtfnginkcmcfdfaaGreatDoor.D1
open Go.Proofs.YtfnginkcmcfdfaaGreatDoor.E1
open Go.Proofs.YtfnginkcmcfdfaaGreatDoor.G1
open Go.Proofs.YtfnginkcmcfdfaaGreatDoor.L1
open Go.Proofs.YtfnginkcmcfdfaaGreatDoor.NF1
open Go.Proofs.YtfnginkcmcfdfaaGreatDoor.SM1
open Go.Proofs.YtfnginkcmcfdfaaGreatDoor.MK1
open Go.Proofs.YtfnginkcmcfdfaaGreatDoor.TI1
open Go.Proofs.YtfnginkcmcfdfaaGreatDoor.TI2
























theorem szFormT_spec {w : World} {G : Pin} {v : Value} {ns : List Nd} {left : Int} (hP : Pins G w) (hv : RSl eNode G v ns) (hl : 0 ≤ left ∧ left ≤ 1048576) :
  Calls Tryz.prog 15 [(.agg [v].toArray), (.int .i64 left)].toArray w fun e w' => ∃ z G', e = .returned (.int .i64 z) ∧ (z < 0 ∨ 0 ≤ z ∧ z + totN ns ≤ left ∧ Small ns) ∧ Ext noS G w G' w' := by
 refine zZ (n := 12) Tryz.func15 Tryz.ntmps15 rfl rfl ?_
 have hX0 : Ext noS G w G w := Ext.refl hP
 refine zD (zH ?_)
 refine qI rfl (xT [v] (v := (.agg [v].toArray)) rfl rfl hX0.pins (fun b1 w2 hk3 hb4 hp5 hl6 => ?_))
 have hX7 := hX0.step hp5 hl6
 have hlo8 : w.heap.size ≤ b1 := by have := hX0.size; omega
 obtain ⟨G9, hle10, hX11, hbp12, hf13⟩ := hb4.shut hX7 hlo8
 refine qD rfl (zC (v := (.int .i64 0)) rfl) ?_
 refine qe (zA (zD (zH ?_)))
 refine qD rfl (zR (k := 0) rfl Tryz.underlying24 rfl nz22 rfl) ?_
 refine qD rfl (zU (u := v) ag22 rfl (hX11.pins _ _ _ (hbp12 0 _ rfl))) ?_
 refine qD rfl (zB (v := (.int .i64 left)) rfl) ?_
 refine qI rfl (zO (vs := [v, (.int .i64 left)]) Tryz.func46 nm46 rfl rfl rfl ?_)
 refine Calls.mono (szNodeS_spec hX11.pins (hv.mono hle10) (by omega)) ?_
 rintro _ w15 ⟨G14, rfl, hx16⟩
 refine ⟨_, rfl, ?_⟩
 have hX17 := hX11.tr hx16
 refine qD rfl (zC (v := (.int .i64 (szNds ns left))) rfl) ?_
 refine qe (zA (zD (zD (zH ?_))))
 refine qD rfl (zB (v := (.int .i64 (szNds ns left))) rfl) ?_
 refine qD rfl (yR rfl rfl) ?_
 refine qe (zA ?_)
 refine yG (p := (szNds ns left : Int) < 0) rfl rfl (fun h18 => ?_) (fun h18 => ?_)
 ·skip
  refine zD (zH ?_)
  refine qD rfl (zC (v := (.int .i64 (-1))) rfl) ?_
  refine qe (zA ?_)
  refine wp_ret ?_
  refine zX ?_
  refine zT (v := (.int .i64 (-1))) rfl rfl rfl ?_
  exact ⟨_, _, rfl, Or.inl (by omega), hX17⟩
 refine wp_skip ?_
 refine zA (zD (zH ?_))
 refine qD rfl (zB (v := (.int .i64 (szNds ns left))) rfl) ?_
 refine qD rfl (zC (v := (.int .i64 (szNds ns left))) rfl) ?_
 refine qe (zA ?_)
 refine wp_ret ?_
 refine zX ?_
 refine zT (v := (.int .i64 (szNds ns left))) rfl rfl rfl ?_
 have hzl := szNds_le h18
 have hzt := szNds_tot h18
 exact ⟨_, _, rfl, Or.inr ⟨by omega, by omega, small_le h18 hl.2⟩, hX17⟩

theorem markNodeX_spec {w : World} {G : Pin} {v : Value} {ps : List (Value × Value)} {ns : List Nd} {kz : Int} {lo hi : Nat} (hP : Pins G w) (ho : Own eVal2 99 G w 0 v ps) (hpl : ps.length = ns.length) (hav : ∀ u ∈ leafV ps, Apart u.ownBlock v.ownBlock) (hF : Lvs 3 G w lo hi (lvN ps ns)) (hsm : Small ns) (hk : 0 ≤ kz ∧ kz ≤ 1099511627776) :
  Calls Tryz.prog 60 [v, (.int .i64 kz)].toArray w fun e w' => e = .returned (.int .i64 (kz + totN ns)) ∧ Lvs 3 G w' lo hi (lvN ps (markN kz ns)) ∧ Ext (inV (leafV ps)) G w G w' := by
 refine zZ (n := 27) Tryz.func60 Tryz.ntmps60 rfl rfl ?_
 have hX0 : Ext (inV (leafV ps)) G w G w := Ext.refl hP
 have hln := hsm.len
 refine zD (zH ?_)
 refine qD rfl (zC (v := (.int .i64 0)) rfl) ?_
 refine qe (zA (zD (zD (zH ?_))))
 refine qD rfl (zC (v := (.int .i64 0)) rfl) ?_
 refine qe (zA ?_)
 refine yA ?_
 refine yS (fun (k : Nat) (en : Nat → Value) (W : World) => ∃ (env1 : Nat → Value) (j : Nat) (q : Int) (A : List Leaf), en = (upd (upd (upd (upd env1 0 v) 1 (.int .i64 q)) 4 (.int .i64 0)) 5 (.int .i64 (j : Int))) ∧ k = ps.length - j ∧ Ext (inV (leafV ps)) G w G W ∧ (j ≤ ps.length) ∧ (0 ≤ q ∧ q ≤ kz + 2097152 * (j : Int)) ∧ (kz + totN ns = q + totN (ns.drop j)) ∧ (lvN ps (markN kz ns) = A ++ lvN (ps.drop j) (markN q (ns.drop j))) ∧ (Lvs 3 G W lo hi (A ++ lvN (ps.drop j) (ns.drop j))) ∧ (Own eVal2 99 G W 0 v (ps))) _ ⟨_, 0, kz, [], (zG (x := 5) (zG (x := 4) (zG (x := 1) (zV (x := 0) rfl) rfl) rfl) rfl), rfl, hX0, Nat.zero_le _, (by omega), rfl, rfl, hF, ho⟩ ?_
 rintro k1 _ w2 ⟨env1, j, q, A, rfl, hk3, hX4, hj, hq, hqt, hA, hF1, hw5⟩
 refine zD (zD (zH ?_))
 refine qD rfl (zB (v := (.int .i64 (j : Int))) rfl) ?_
 refine qD rfl (zB (v := v) rfl) ?_
 refine qD rfl (zQ Tryz.underlying30 (v := v) rfl hw5.read) ?_
 refine qD rfl (yR rfl rfl) ?_
 refine qe (zA ?_)
 refine yG (p := ((j : Int) : Int) < (ps.length : Int)) rfl rfl (fun h6 => ?_) (fun h6 => ?_)
 ·skip
  have hso := hsm.opts j (by omega)
  refine wp_skip ?_
  refine zA (zD ?_)
  refine yA ?_
  refine zD (zH ?_)
  refine qD rfl (zB (v := v) rfl) ?_
  refine qD rfl (zB (v := (.int .i64 (j : Int))) rfl) ?_
  refine qD rfl (zM Tryz.underlying30 sz99 (v := v) rfl rfl hw5.read (by omega) (by omega)) ?_
  refine qD rfl (xK (off := 0) Tryz.underlying99 rfl rfl nz65 (z := (j : Int)) (k := 0) rfl hw5.read (by omega) (by omega)) ?_
  obtain ⟨cs7, hrep8, hagg9, hcell10⟩ := nm_el (j := j) default (hw5.at (z := (j : Int)) (by omega) (by omega)) rfl
  obtain ⟨rfl, hone13⟩ := hrep8
  obtain ⟨u11, hu12⟩ : ∃ u, u = (ps.getD j default).1 := ⟨_, rfl⟩
  refine qD rfl (hcell10 0 u11 (by rw [hu12]; rfl) ag65 rfl (Gadd.pins hX4.pins v)) ?_
  refine qD rfl (zB (v := (.int .i64 q)) rfl) ?_
  have hmem17 : u11 ∈ leafV ps := by rw [hu12]; exact (leafV_mem (by omega)).1
  have hL18 : Lvs 3 G w2 lo hi (A ++ (u11, (ns.getD j default).l) :: (((ps.getD j default).2, (ns.getD j default).r) :: lvN (ps.drop (j + 1)) (ns.drop (j + 1)))) := by rw [hu12, ← lvN_next (by omega) (by omega)]; exact hF1
  refine qI rfl (zO (vs := [u11, (.int .i64 q)]) Tryz.func108 nm108 rfl rfl rfl ?_)
  refine Calls.mono (markIntS_spec hX4.pins ((hL18.own _ (List.mem_append_right _ List.mem_cons_self)).weaken (Nat.zero_le _)) (by omega) (hso.1)) ?_
  rintro _ w14 ⟨rfl, ho15, hx16⟩
  refine ⟨_, rfl, ?_⟩
  have hg20 := mark_grown hx16
  have hX21 := hX4.write hx16.pins hg20 (fun k hk => Or.inr ⟨_, hmem17, hk⟩)
  have ho22 := hw5.keptA hg20 (hav _ hmem17).symm
  have hL19 := Lvs.step hL18 (ho15.up (fun k hk => ((hL18.own _ (List.mem_append_right _ List.mem_cons_self)).lt k hk).1)) hg20
  refine qD rfl (zC (v := (.int .i64 (q + ((ns.getD j default).l.length : Int)))) rfl) ?_
  refine qe (zA (zH ?_))
  refine qD rfl (zB (v := v) rfl) ?_
  refine qD rfl (zB (v := (.int .i64 (j : Int))) rfl) ?_
  refine qD rfl (zM Tryz.underlying30 sz99 (v := v) rfl rfl ho22.read (by omega) (by omega)) ?_
  refine qD rfl (xK (off := 1) Tryz.underlying99 rfl rfl nz65 (z := (j : Int)) (k := 0) rfl ho22.read (by omega) (by omega)) ?_
  obtain ⟨cs23, hrep24, hagg25, hcell26⟩ := nm_el (j := j) default (ho22.at (z := (j : Int)) (by omega) (by omega)) rfl
  obtain ⟨rfl, hone29⟩ := hrep24
  obtain ⟨u27, hu28⟩ : ∃ u, u = (ps.getD j default).2 := ⟨_, rfl⟩
  refine qD rfl (hcell26 1 u27 (by rw [hu28]; rfl) ag65 rfl (Gadd.pins hX21.pins v)) ?_
  refine qD rfl (zB (v := (.int .i64 (q + ((ns.getD j default).l.length : Int)))) rfl) ?_
  have hmem33 : u27 ∈ leafV ps := by rw [hu28]; exact (leafV_mem (by omega)).2
  have hL34 : Lvs 3 G w14 lo hi ((A ++ [(u11, upL (q) (ns.getD j default).l.length)]) ++ (u27, (ns.getD j default).r) :: lvN (ps.drop (j + 1)) (ns.drop (j + 1))) := by rw [hu28, List.append_assoc]; exact hL19
  refine qI rfl (zO (vs := [u27, (.int .i64 (q + ((ns.getD j default).l.length : Int)))]) Tryz.func108 nm108 rfl rfl rfl ?_)
  refine Calls.mono (markIntS_spec hX21.pins ((hL34.own _ (List.mem_append_right _ List.mem_cons_self)).weaken (Nat.zero_le _)) (by omega) (hso.2)) ?_
  rintro _ w30 ⟨rfl, ho31, hx32⟩
  refine ⟨_, rfl, ?_⟩
  have hg36 := mark_grown hx32
  have hX37 := hX21.write hx32.pins hg36 (fun k hk => Or.inr ⟨_, hmem33, hk⟩)
  have ho38 := ho22.keptA hg36 (hav _ hmem33).symm
  have hL35 := Lvs.step hL34 (ho31.up (fun k hk => ((hL34.own _ (List.mem_append_right _ List.mem_cons_self)).lt k hk).1)) hg36
  refine qD rfl (zC (v := (.int .i64 ((q + ((ns.getD j default).l.length : Int)) + ((ns.getD j default).r.length : Int)))) rfl) ?_
  refine qe ?_
  refine yN ?_
  refine zA (zH ?_)
  refine qD rfl (zB (v := (.int .i64 (j : Int))) rfl) ?_
  refine qD rfl (yT rfl rfl (by omega)) ?_
  refine qD rfl (zC (v := (.int .i64 ((j : Int) + 1))) rfl) ?_
  refine qe ?_
  refine yL ?_
  refine ⟨_, ?_, _, rfl, _, j + 1, (q + ((ns.getD j default).l.length : Int)) + ((ns.getD j default).r.length : Int), A ++ [(u11, upL (q) (ns.getD j default).l.length)] ++ [(u27, upL (q + ((ns.getD j default).l.length : Int)) (ns.getD j default).r.length)], (zG (x := 5) (zG (x := 4) (zG (x := 1) (zV (x := 0) rfl) rfl) rfl) rfl), rfl, hX37, (by omega), (by omega), (hqt.trans (by rw [totN_next (by omega)]; omega)), (hA.trans (by rw [lvN_markN (by omega) (by omega), List.append_assoc, List.append_assoc, ← hu12, ← hu28]; rfl)), (by rw [List.append_assoc]; exact hL35), ho38⟩
  omega
 refine wp_exit ?_
 refine yD ?_
 refine yP ?_
 refine yO ?_
 refine zA (zD (zH ?_))
 refine qD rfl (zB (v := (.int .i64 q)) rfl) ?_
 refine qD rfl (zC (v := (.int .i64 q)) rfl) ?_
 refine qe (zA ?_)
 refine wp_ret ?_
 refine zX ?_
 refine zT (v := (.int .i64 q)) rfl rfl rfl ?_
 rw [lvN_end (by omega), List.append_nil] at hA
 rw [lvN_end (by omega), List.append_nil] at hF1
 exact ⟨congrArg (fun z => Ending.returned (Value.int .i64 z)) (by rw [hqt, totN_end (by omega)]; omega), (by rw [hA]; exact hF1), hX4⟩

theorem markFormX_spec {w : World} {G : Pin} {v : Value} {ns : List Nd} {kz : Int} {lo hi : Nat} (hP : Pins G w) (hd : DForm 99 3 G w lo hi v ns) (hsz : hi ≤ w.heap.size) (hsm : Small ns) (hk : 0 ≤ kz ∧ kz ≤ 1099511627776) :
  Calls Tryz.prog 23 [(.agg [v].toArray), (.int .i64 kz)].toArray w fun e w' => e = .returned (.int .i64 (kz + totN ns)) ∧ DForm 99 3 G w' lo hi v (markN kz ns) ∧ Ext (inR lo hi) G w G w' := by
 refine zZ (n := 10) Tryz.func23 Tryz.ntmps23 rfl rfl ?_
 have hX0 : Ext (inR lo hi) G w G w := Ext.refl hP
 refine zD (zH ?_)
 refine qI rfl (xT [v] (v := (.agg [v].toArray)) rfl rfl hX0.pins (fun b1 w2 hk3 hb4 hp5 hl6 => ?_))
 have hX7 := hX0.step hp5 hl6
 have hd8 := hd.below hl6
 have hs9 := Nat.le_trans hsz hl6.size
 have ha10 : hi ≤ b1 ∨ b1 < lo := Or.inl (by have e := Option.some.inj (congrArg some hk3); have := hsz; omega)
 have hlo11 : w.heap.size ≤ b1 := by have := hX0.size; omega
 obtain ⟨G12, hle13, hX14, hbp15, hf16⟩ := hb4.shut hX7 hlo11
 have hd17 := hd8.more hle13 hf16 ha10
 refine qD rfl (zC (v := (.int .i64 0)) rfl) ?_
 refine qe (zA (zD (zH ?_)))
 refine qD rfl (zR (k := 0) rfl Tryz.underlying32 rfl nz30 rfl) ?_
 refine qD rfl (zU (u := v) ag30 rfl (hX14.pins _ _ _ (hbp15 0 _ rfl))) ?_
 refine qD rfl (zB (v := (.int .i64 kz)) rfl) ?_
 obtain ⟨ps18, ho19, hpl20, hav21, hL22, hin23, hst24⟩ := hd17.mark
 refine qI rfl (zO (vs := [v, (.int .i64 kz)]) Tryz.func60 nm60 rfl rfl rfl ?_)
 refine Calls.mono (markNodeX_spec hX14.pins ho19 hpl20 hav21 hL22 hsm hk) ?_
 rintro _ w25 ⟨rfl, hL26, hx27⟩
 refine ⟨_, rfl, ?_⟩
 have hX28 := hX14.trans hx27 (fun i hi => Or.inr (hin23 i hi))
 have hd29 := hst24 (markN_length _ _) hL26 hx27
 refine qD rfl (zC (v := (.int .i64 (kz + totN ns))) rfl) ?_
 refine qe (zA (zD (zH ?_)))
 refine qD rfl (zB (v := (.int .i64 (kz + totN ns))) rfl) ?_
 refine qD rfl (zC (v := (.int .i64 (kz + totN ns))) rfl) ?_
 refine qe (zA ?_)
 refine wp_ret ?_
 refine zX ?_
 refine zT (v := (.int .i64 (kz + totN ns))) rfl rfl rfl ?_
 exact ⟨rfl, hd29.anti hle13, hX28.shrink⟩

theorem heldNodeS_spec {w : World} {G : Pin} {v : Value} {ns : List Nd} {kz : Int} (hP : Pins G w) (hv : RSl eNode G v (markN kz ns)) (hsm : Small ns) (hk : 0 ≤ kz ∧ kz ≤ 1099511627776) :
  Calls Tryz.prog 61 [v, (.int .i64 kz)].toArray w fun e w' => e = .returned (.int .i64 (kz + totN ns)) ∧ w' = w := by
 refine zZ (n := 31) Tryz.func61 Tryz.ntmps61 rfl rfl ?_
 have hX0 : Ext noS G w G w := Ext.refl hP
 have hul := markN_length kz ns
 have hln := hsm.len
 refine zD (zH ?_)
 refine qD rfl (zC (v := (.int .i64 0)) rfl) ?_
 refine qe (zA (zD (zD (zH ?_))))
 refine qD rfl (zC (v := (.int .i64 0)) rfl) ?_
 refine qe (zA ?_)
 refine yA ?_
 refine yS (fun (k : Nat) (en : Nat → Value) (W : World) => ∃ (env1 : Nat → Value) (j : Nat) (q : Int), en = (upd (upd (upd env1 0 v) 1 (.int .i64 q)) 5 (.int .i64 (j : Int))) ∧ k = ns.length - j ∧ Ext noS G w G W ∧ (j ≤ ns.length) ∧ (W = w) ∧ (0 ≤ q ∧ q ≤ kz + 2097152 * (j : Int)) ∧ (kz + totN ns = q + totN (ns.drop j)) ∧ (markN kz ns).drop j = markN q (ns.drop j)) _ ⟨_, 0, kz, (zG (x := 5) (zG (x := 1) (zV (x := 0) rfl) rfl) rfl), rfl, hX0, Nat.zero_le _, rfl, (by omega), rfl, rfl⟩ ?_
 rintro k1 _ w2 ⟨env1, j, q, rfl, hk3, hX4, hj, hw, hq, hqt, hA⟩
 subst hw
 refine zD (zD (zH ?_))
 refine qD rfl (zB (v := (.int .i64 (j : Int))) rfl) ?_
 refine qD rfl (zB (v := v) rfl) ?_
 refine qD rfl (zQ Tryz.underlying30 (v := v) rfl hv) ?_
 refine qD rfl (yR rfl rfl) ?_
 refine qe (zA ?_)
 refine yG (p := ((j : Int) : Int) < ((markN kz ns).length : Int)) rfl rfl (fun h5 => ?_) (fun h5 => ?_)
 ·skip
  have hso := hsm.opts j (by omega)
  have hAj := markN_at (show j < ns.length by omega) hA
  refine wp_skip ?_
  refine zA (zD ?_)
  refine yA ?_
  refine zD (zH ?_)
  refine qD rfl (zB (v := v) rfl) ?_
  refine qD rfl (zB (v := (.int .i64 (j : Int))) rfl) ?_
  refine qD rfl (zM Tryz.underlying30 sz99 (v := v) rfl rfl hv (by omega) (by omega)) ?_
  refine qD rfl (xK (off := 0) Tryz.underlying99 rfl rfl nz65 (z := (j : Int)) (k := 0) rfl hv (by omega) (by omega)) ?_
  obtain ⟨u6, hr7, hl8⟩ := nm_nl (hv.at (z := (j : Int)) (by omega) (by omega)) (j := j) rfl
  have hm9 := hr7.max
  refine qD rfl (hl8 ag65 rfl hX4.pins) ?_
  refine qD rfl (zB (v := (.int .i64 q)) rfl) ?_
  refine qI rfl (zO (vs := [u6, (.int .i64 q)]) Tryz.func109 nm109 rfl rfl rfl ?_)
  refine Calls.mono (heldIntS_spec (n := (ns.getD j default).l.length) hX4.pins (by rw [← hAj.1]; exact hr7) (by omega) (hso.1)) ?_
  rintro _ _ ⟨rfl, rfl⟩
  refine ⟨_, rfl, ?_⟩
  refine qD rfl (zC (v := (.int .i64 (q + (((ns.getD j default).l.length : Int) : Int)))) rfl) ?_
  refine qe (zA (zD (zD (zH ?_))))
  refine qD rfl (zB (v := (.int .i64 (q + (((ns.getD j default).l.length : Int) : Int)))) rfl) ?_
  refine qD rfl (yR rfl rfl) ?_
  refine qe (zA ?_)
  refine yG (p := (q + (((ns.getD j default).l.length : Int) : Int) : Int) < 0) rfl rfl (fun h10 => ?_) (fun h10 => ?_)
  ·skip
   refine zD (zH ?_)
   refine qD rfl (zC (v := (.int .i64 (-1))) rfl) ?_
   refine qe (zA ?_)
   refine wp_ret ?_
   refine zX ?_
   refine zT (v := (.int .i64 (-1))) rfl rfl rfl ?_
   exact absurd h10 (by omega)
  refine wp_skip ?_
  refine zA (zD (zH ?_))
  refine qD rfl (zB (v := v) rfl) ?_
  refine qD rfl (zB (v := (.int .i64 (j : Int))) rfl) ?_
  refine qD rfl (zM Tryz.underlying30 sz99 (v := v) rfl rfl hv (by omega) (by omega)) ?_
  refine qD rfl (xK (off := 1) Tryz.underlying99 rfl rfl nz65 (z := (j : Int)) (k := 0) rfl hv (by omega) (by omega)) ?_
  obtain ⟨u11, hr12, hl13⟩ := nm_nr (hv.at (z := (j : Int)) (by omega) (by omega)) (j := j) rfl
  have hm14 := hr12.max
  refine qD rfl (hl13 ag65 rfl hX4.pins) ?_
  refine qD rfl (zB (v := (.int .i64 (q + (((ns.getD j default).l.length : Int) : Int)))) rfl) ?_
  refine qI rfl (zO (vs := [u11, (.int .i64 (q + (((ns.getD j default).l.length : Int) : Int)))]) Tryz.func109 nm109 rfl rfl rfl ?_)
  refine Calls.mono (heldIntS_spec (n := (ns.getD j default).r.length) hX4.pins (by rw [← hAj.2.1]; exact hr12) (by omega) (hso.2)) ?_
  rintro _ _ ⟨rfl, rfl⟩
  refine ⟨_, rfl, ?_⟩
  refine qD rfl (zC (v := (.int .i64 ((q + (((ns.getD j default).l.length : Int) : Int)) + (((ns.getD j default).r.length : Int) : Int)))) rfl) ?_
  refine qe (zA (zD (zH ?_)))
  refine qD rfl (zB (v := (.int .i64 ((q + (((ns.getD j default).l.length : Int) : Int)) + (((ns.getD j default).r.length : Int) : Int)))) rfl) ?_
  refine qD rfl (yR rfl rfl) ?_
  refine qe (zA ?_)
  refine yG (p := ((q + (((ns.getD j default).l.length : Int) : Int)) + (((ns.getD j default).r.length : Int) : Int) : Int) < 0) rfl rfl (fun h15 => ?_) (fun h15 => ?_)
  ·skip
   refine zD (zH ?_)
   refine qD rfl (zC (v := (.int .i64 (-1))) rfl) ?_
   refine qe (zA ?_)
   refine wp_ret ?_
   refine zX ?_
   refine zT (v := (.int .i64 (-1))) rfl rfl rfl ?_
   exact absurd h15 (by omega)
  refine wp_skip ?_
  refine yN ?_
  refine zA (zH ?_)
  refine qD rfl (zB (v := (.int .i64 (j : Int))) rfl) ?_
  refine qD rfl (yT rfl rfl (by omega)) ?_
  refine qD rfl (zC (v := (.int .i64 ((j : Int) + 1))) rfl) ?_
  refine qe ?_
  refine yL ?_
  refine ⟨_, ?_, _, rfl, _, j + 1, (q + (((ns.getD j default).l.length : Int) : Int)) + (((ns.getD j default).r.length : Int) : Int), (zG (x := 5) (zG (x := 1) (zV (x := 0) rfl) rfl) rfl), rfl, hX4, (by omega), rfl, (by omega), (hqt.trans (by rw [totN_next (by omega)]; omega)), hAj.2.2⟩
  omega
 refine wp_exit ?_
 refine yD ?_
 refine yP ?_
 refine yO ?_
 refine zA (zD (zH ?_))
 refine qD rfl (zB (v := (.int .i64 q)) rfl) ?_
 refine qD rfl (zC (v := (.int .i64 q)) rfl) ?_
 refine qe (zA ?_)
 refine wp_ret ?_
 refine zX ?_
 refine zT (v := (.int .i64 q)) rfl rfl rfl ?_
 exact ⟨congrArg (fun z => Ending.returned (Value.int .i64 z)) (by rw [hqt, totN_end (by omega)]; omega), rfl⟩

theorem heldFormX_spec {w : World} {G : Pin} {v : Value} {ns : List Nd} {kz : Int} (hP : Pins G w) (hv : RSl eNode G v (markN kz ns)) (hsm : Small ns) (hk : 0 ≤ kz ∧ kz ≤ 1099511627776) :
  Calls Tryz.prog 24 [(.agg [v].toArray), (.int .i64 kz)].toArray w fun e w' => ∃ G', e = .returned (.int .i64 (kz + totN ns)) ∧ Ext noS G w G' w' := by
 refine zZ (n := 12) Tryz.func24 Tryz.ntmps24 rfl rfl ?_
 have hX0 : Ext noS G w G w := Ext.refl hP
 have htn := totN_nonneg ns
 refine zD (zH ?_)
 refine qI rfl (xT [v] (v := (.agg [v].toArray)) rfl rfl hX0.pins (fun b1 w2 hk3 hb4 hp5 hl6 => ?_))
 have hX7 := hX0.step hp5 hl6
 have hlo8 : w.heap.size ≤ b1 := by have := hX0.size; omega
 obtain ⟨G9, hle10, hX11, hbp12, hf13⟩ := hb4.shut hX7 hlo8
 refine qD rfl (zC (v := (.int .i64 0)) rfl) ?_
 refine qe (zA (zD (zH ?_)))
 refine qD rfl (zR (k := 0) rfl Tryz.underlying32 rfl nz30 rfl) ?_
 refine qD rfl (zU (u := v) ag30 rfl (hX11.pins _ _ _ (hbp12 0 _ rfl))) ?_
 refine qD rfl (zB (v := (.int .i64 kz)) rfl) ?_
 refine qI rfl (zO (vs := [v, (.int .i64 kz)]) Tryz.func61 nm61 rfl rfl rfl ?_)
 refine Calls.mono (heldNodeS_spec hX11.pins (hv.mono hle10) hsm hk) ?_
 rintro _ _ ⟨rfl, rfl⟩
 refine ⟨_, rfl, ?_⟩
 refine qD rfl (zC (v := (.int .i64 (kz + totN ns))) rfl) ?_
 refine qe (zA (zD (zD (zH ?_))))
 refine qD rfl (zB (v := (.int .i64 (kz + totN ns))) rfl) ?_
 refine qD rfl (yR rfl rfl) ?_
 refine qe (zA ?_)
 refine yG (p := (kz + totN ns : Int) < 0) rfl rfl (fun h14 => ?_) (fun h14 => ?_)
 ·skip
  refine zD (zH ?_)
  refine qD rfl (zC (v := (.int .i64 (-1))) rfl) ?_
  refine qe (zA ?_)
  refine wp_ret ?_
  refine zX ?_
  refine zT (v := (.int .i64 (-1))) rfl rfl rfl ?_
  exact absurd h14 (by omega)
 refine wp_skip ?_
 refine zA (zD (zH ?_))
 refine qD rfl (zB (v := (.int .i64 (kz + totN ns))) rfl) ?_
 refine qD rfl (zC (v := (.int .i64 (kz + totN ns))) rfl) ?_
 refine qe (zA ?_)
 refine wp_ret ?_
 refine zX ?_
 refine zT (v := (.int .i64 (kz + totN ns))) rfl rfl rfl ?_
 exact ⟨_, rfl, hX11⟩

theorem eqForm_same {w : World} {G : Pin} {u v : Value} {xs : List Nd} (hP : Pins G w) (hu : RSl eNode G u xs) (hv : RSl eNode G v xs) :
  Calls Tryz.prog 20 [(.agg [u].toArray), (.agg [v].toArray)].toArray w fun e w' => ∃ G', e = .returned (.bool true) ∧ Ext noS G w G' w' := by
 refine (eqForm_spec hP hu hv).mono ?_
 rintro e w' ⟨G', rfl, hx⟩
 exact ⟨G', by simp, hx⟩

theorem iTinyForm_spec {w : World} {G : Pin} {u : Value} {ns : List Nd} (hP : Pins G w) (hu : RSl eNode G u ns) :
  Calls Tryz.prog 41 [(.agg [u].toArray)].toArray w fun e w' => ∃ (u : Value) (G' : Pin), e = .returned (.tuple #[.agg [u].toArray, .bool (tinB ns)]) ∧ RSl eNode G' u (tinF ns) ∧ Ext noS G w G' w' := by
 refine (iTinyForm_dspec hP hu).mono ?_
 rintro e w' ⟨u, G', rfl, hd, hx⟩
 obtain ⟨G'', h1, h2⟩ := hd.give hx
 exact ⟨u, G'', rfl, h1, h2⟩

theorem law {w : World} {G : Pin} {u : Value} {ns : List Nd} (hP : Pins G w) (hu : RSl eNode G u ns) :
  Calls Tryz.prog 12 [(.agg [u].toArray)].toArray w fun e w' => ∃ G', e = .returned (.bool true) ∧ Ext noS G w G' w' := by
 refine zZ (n := 96) Tryz.func12 Tryz.ntmps12 rfl rfl ?_
 have hX0 : Ext noS G w G w := Ext.refl hP
 have htzns := totN_nonneg ns
 refine zD (zH ?_)
 refine qI rfl (xT [u] (v := (.agg [u].toArray)) rfl rfl hX0.pins (fun b1 w2 hk3 hb4 hp5 hl6 => ?_))
 have hX7 := hX0.step hp5 hl6
 have hlo8 : w.heap.size ≤ b1 := by have := hX0.size; omega
 obtain ⟨G9, hle10, hX11, hbp12, hf13⟩ := hb4.shut hX7 hlo8
 refine qD rfl (zC (v := (.bool false)) rfl) ?_
 refine qe (zA (zD (zH ?_)))
 refine qD rfl (zC (v := (.int .i64 1048576)) rfl) ?_
 refine qe (zA (zD (zH ?_)))
 refine qD rfl (xD (cs := [u]) ag24 sz24 rfl (fun j u hj => hX11.pins _ _ _ (hbp12 _ _ (by simpa using hj)))) ?_
 refine qD rfl (zB (v := (.int .i64 1048576)) rfl) ?_
 refine qI rfl (zO (vs := [(.agg [u].toArray), (.int .i64 1048576)]) Tryz.func15 nm15 rfl rfl rfl ?_)
 refine Calls.mono (szFormT_spec hX11.pins (hu.mono hle10) (by omega)) ?_
 rintro _ w16 ⟨z14, G15, rfl, hz17, hx18⟩
 refine ⟨_, rfl, ?_⟩
 have hX19 := hX11.tr hx18
 refine qD rfl (zC (v := (.int .i64 z14)) rfl) ?_
 refine qe (zA (zD (zD (zH ?_))))
 refine qD rfl (zB (v := (.int .i64 z14)) rfl) ?_
 refine qD rfl (yR rfl rfl) ?_
 refine qe (zA ?_)
 refine yG (p := (z14 : Int) < 0) rfl rfl (fun h20 => ?_) (fun h20 => ?_)
 ·skip
  refine zD (zH ?_)
  refine qD rfl (zC (v := (.bool true)) rfl) ?_
  refine qe (zA ?_)
  refine wp_ret ?_
  refine zX ?_
  refine zT (v := (.bool true)) rfl rfl rfl ?_
  exact ⟨_, rfl, hX19⟩
 refine wp_skip ?_
 refine zA (zD (zH ?_))
 have hsnx : Small ns ∧ totN ns ≤ 1048576 ∧ 0 ≤ totN ns := ⟨by rcases hz17 with h | h <;> first | omega | exact h.2.2, by rcases hz17 with h | h <;> omega, totN_nonneg _⟩
 have hsn := hsnx.1
 have htxns := hsnx.2
 have htf := totN_nonneg (tinF ns)
 refine qD rfl (xD (cs := [u]) ag24 sz24 rfl (fun j u hj => (Pins.of_le hX19.pins hx18.le) _ _ _ (hbp12 _ _ (by simpa using hj)))) ?_
 refine qI rfl (zO (vs := [(.agg [u].toArray)]) Tryz.func17 nm17 rfl rfl rfl ?_)
 refine Calls.mono (toForm_spec hX19.pins (hu.mono (Pin.le_trans hle10 hx18.le)) hsn) ?_
 rintro _ w23 ⟨u21, G22, rfl, hr24, hx25⟩
 refine ⟨_, rfl, ?_⟩
 have hX26 := hX19.tr hx25
 refine qI rfl (zO (vs := [(.agg [u21].toArray)]) Tryz.func40 nm40 rfl rfl rfl ?_)
 refine Calls.mono (sTinyForm_spec hX26.pins hr24) ?_
 rintro _ w29 ⟨u27, G28, rfl, hr30, hx31⟩
 refine ⟨_, rfl, ?_⟩
 have hX32 := hX26.tr hx31
 refine qD rfl (zB (v := (.tuple #[(.agg [u27].toArray), (.bool (tinB ns))])) rfl) ?_
 refine qD rfl (xL (v := (.agg [u27].toArray)) rfl rfl) ?_
 refine qD rfl (xL (v := (.bool (tinB ns))) rfl rfl) ?_
 refine qI rfl (xA [(.slice none 0 0)] zr32 rfl hX32.pins (fun b33 w34 hk35 hb36 hp37 hl38 => ?_))
 have hX39 := hX32.step hp37 hl38
 have hlo40 : w.heap.size ≤ b33 := by have := hX32.size; omega
 refine q0 rfl rfl rfl (xF (cs' := [u27]) (us := [u27]) (v := (.agg [u27].toArray)) sz32 rfl rfl rfl (yZ hr30.one) hX39.pins hb36 (Nat.le_of_ble_eq_true rfl) rfl (fun w41 hb42 hp43 hg44 hz45 => ?_))
 have hX46 := hX39.write hp43 hg44 ((yV hlo40))
 obtain ⟨G47, hle48, hX49, hbp50, hf51⟩ := hb42.shut hX46 hlo40
 refine qD rfl (zC (v := (.bool (tinB ns))) rfl) ?_
 refine qe (zA (zD (zH ?_)))
 refine qD rfl (xD (cs := [u]) ag24 sz24 rfl (fun j u hj => (Pins.of_le hX49.pins (Pin.le_trans (Pin.le_trans (Pin.le_trans hx18.le hx25.le) hx31.le) hle48)) _ _ _ (hbp12 _ _ (by simpa using hj)))) ?_
 refine qI rfl (zO (vs := [(.agg [u].toArray)]) Tryz.func17 nm17 rfl rfl rfl ?_)
 refine Calls.mono (toForm_dspec hX49.pins (hu.mono (Pin.le_trans (Pin.le_trans (Pin.le_trans (Pin.le_trans hle10 hx18.le) hx25.le) hx31.le) hle48)) hsn) ?_
 rintro _ w54 ⟨u52, G53, rfl, hd55, hx56⟩
 refine ⟨_, rfl, ?_⟩
 have hX57 := hX49.tr hx56
 have hone58 := hd55.one
 refine qI rfl (xA [(.slice none 0 0)] zr32 rfl hX57.pins (fun b59 w60 hk61 hb62 hp63 hl64 => ?_))
 have hX65 := hX57.step hp63 hl64
 have hd66 := hd55.below hl64
 have hs67 := Nat.le_trans (Nat.le_refl w54.heap.size) hl64.size
 have ha68 : w54.heap.size ≤ b59 ∨ b59 < w41.heap.size := Or.inl (by have e := Option.some.inj (congrArg some hk61); have := (Nat.le_refl w54.heap.size); omega)
 have hlo69 : w.heap.size ≤ b59 := by have := hX57.size; omega
 refine q0 rfl rfl rfl (xF (cs' := [u52]) (us := [u52]) (v := (.agg [u52].toArray)) sz32 rfl rfl rfl (yZ hone58) hX65.pins hb62 (Nat.le_of_ble_eq_true rfl) rfl (fun w70 hb71 hp72 hg73 hz74 => ?_))
 have hX75 := hX65.write hp72 hg73 ((yV hlo69))
 have hd76 := hd66.kept hg73 ha68
 have hs77 := Nat.le_trans hs67 hg73.size
 obtain ⟨G78, hle79, hX80, hbp81, hf82⟩ := hb71.shut hX75 hlo69
 have hd83 := hd76.more hle79 hf82 ha68
 refine qe (zA (zD (zH ?_)))
 refine qD rfl (xD (cs := [u52]) ag32 sz32 rfl (fun j u hj => hX80.pins _ _ _ (hbp81 _ _ (by simpa using hj)))) ?_
 obtain ⟨G84, hle85, hp86, hr87, hf88⟩ := hd83.read hX80.pins
 refine qI rfl (zO (vs := [(.agg [u52].toArray)]) Tryz.func41 nm41 rfl rfl rfl ?_)
 refine Calls.mono (iTinyForm_dspec hp86 hr87) ?_
 rintro _ w91 ⟨u89, G90, rfl, hd92, hx93⟩
 refine ⟨_, rfl, ?_⟩
 have hgxu52 := hs77
 have hx94 := deep_back hX80.pins hx93
 have hX95 := hX80.step hx94.pins hx94.below
 have hd96 := hd83.below hx94.below
 have hs97 := Nat.le_trans hs77 hx94.below.size
 have hd98 := hd92.anti (Pin.le_trans hle85 hx93.le)
 have hone99 := hd98.one
 refine qD rfl (zB (v := (.tuple #[(.agg [u89].toArray), (.bool (tinB ns))])) rfl) ?_
 refine qD rfl (xL (v := (.agg [u89].toArray)) rfl rfl) ?_
 refine qD rfl (xL (v := (.bool (tinB ns))) rfl rfl) ?_
 refine qI rfl (xA [(.slice none 0 0)] zr32 rfl hX95.pins (fun b100 w101 hk102 hb103 hp104 hl105 => ?_))
 have hX106 := hX95.step hp104 hl105
 have hd107 := hd96.below hl105
 have hs108 := Nat.le_trans hs97 hl105.size
 have hd109 := hd98.below hl105
 have hs110 := Nat.le_trans (Nat.le_refl w91.heap.size) hl105.size
 have ha111 : w54.heap.size ≤ b100 ∨ b100 < w41.heap.size := Or.inl (by have e := Option.some.inj (congrArg some hk102); have := hs97; omega)
 have ha112 : w91.heap.size ≤ b100 ∨ b100 < w70.heap.size := Or.inl (by have e := Option.some.inj (congrArg some hk102); have := (Nat.le_refl w91.heap.size); omega)
 have hlo113 : w.heap.size ≤ b100 := by have := hX95.size; omega
 refine q0 rfl rfl rfl (xF (cs' := [u89]) (us := [u89]) (v := (.agg [u89].toArray)) sz32 rfl rfl rfl (yZ hone99) hX106.pins hb103 (Nat.le_of_ble_eq_true rfl) rfl (fun w114 hb115 hp116 hg117 hz118 => ?_))
 have hX119 := hX106.write hp116 hg117 ((yV hlo113))
 have hd120 := hd107.kept hg117 ha111
 have hs121 := Nat.le_trans hs108 hg117.size
 have hd122 := hd109.kept hg117 ha112
 have hs123 := Nat.le_trans hs110 hg117.size
 obtain ⟨G124, hle125, hX126, hbp127, hf128⟩ := hb115.shut hX119 hlo113
 have hd129 := hd120.more hle125 hf128 ha111
 have hd130 := hd122.more hle125 hf128 ha112
 refine qD rfl (zC (v := (.bool (tinB ns))) rfl) ?_
 refine qe (zA (zD (zD (zH ?_))))
 refine qD rfl (xD (cs := [u89]) ag32 sz32 rfl (fun j u hj => hX126.pins _ _ _ (hbp127 _ _ (by simpa using hj)))) ?_
 refine qD rfl (xD (cs := [u27]) ag32 sz32 rfl (fun j u hj => (Pins.of_le hX126.pins (Pin.le_trans (Pin.le_trans hx56.le hle79) hle125)) _ _ _ (hbp50 _ _ (by simpa using hj)))) ?_
 obtain ⟨G134, hle135, hp136, hr137, _⟩ := hd130.read hX126.pins
 refine qI rfl (zO (vs := [(.agg [u89].toArray), (.agg [u27].toArray)]) Tryz.func20 nm20 rfl rfl rfl ?_)
 refine Calls.mono (eqForm_same hp136 hr137 ((hr30.mono (Pin.le_trans (Pin.le_trans (Pin.le_trans hle48 hx56.le) hle79) hle125)).mono hle135)) ?_
 rintro _ w132 ⟨G131, rfl, hx133⟩
 refine ⟨_, rfl, ?_⟩
 have hx138 := deep_back hX126.pins hx133
 have hX139 := hX126.step hx138.pins hx138.below
 have hd140 := hd129.below hx138.below
 have hs141 := Nat.le_trans hs121 hx138.below.size
 have hd142 := hd130.below hx138.below
 have hs143 := Nat.le_trans hs123 hx138.below.size
 refine qD rfl (qB rfl) ?_
 refine qD rfl (zB (v := (.bool false)) rfl) ?_
 refine qdg rfl rfl rfl rfl rfl rfl (zB (v := (.bool (tinB ns))) rfl) ?_
 refine qdg rfl rfl rfl rfl rfl rfl (zB (v := (.bool (tinB ns))) rfl) ?_
 refine qdg rfl rfl rfl rfl rfl rfl (r_neqB_same Tryz.underlying4 rfl rfl) ?_
 refine qD rfl (xI (v := (.bool false)) rfl rfl) ?_
 refine qe (zA ?_)
 refine qR rfl rfl ?_
 refine wp_skip ?_
 refine zA (zD (zD ?_))
 refine xJ (S := fun wz => Pins G124 wz) (last := 5) (by kernel_rfl) rfl ?_
 have hl144 : Below w132.heap.size w132 w132.drew := (Below.refl _ _).drew
 have hp145 := hX139.pins.below hl144
 have hX146 := hX139.step hp145 hl144
 have hd147 := hd140.below hl144
 have hs148 := Nat.le_trans hs141 hl144.size
 have hd149 := hd142.below hl144
 have hs150 := Nat.le_trans hs143 hl144.size
 refine dT (i := 0) rfl rfl (by kernel_rfl) (fun _ hS => xD (cs := [u52]) ag32 sz32 rfl (fun j u hj => (Pins.of_le hS hle125) _ _ _ (hbp81 _ _ (by simpa using hj)))) hX146.pins ?_
 refine dT (i := 1) rfl rfl (by kernel_rfl) (fun _ hS => xD (cs := [u]) ag24 sz24 rfl (fun j u hj => (Pins.of_le hS (Pin.le_trans (Pin.le_trans (Pin.le_trans (Pin.le_trans (Pin.le_trans (Pin.le_trans hx18.le hx25.le) hx31.le) hle48) hx56.le) hle79) hle125)) _ _ _ (hbp12 _ _ (by simpa using hj)))) hX146.pins ?_
 refine zW (i := 2) (by kernel_rfl) (zY (i := 2) rfl rfl rfl (zI rfl _) (zO (vs := [(.agg [u].toArray)]) Tryz.func17 nm17 rfl rfl rfl ?_))
 refine Calls.mono (toForm_spec hX146.pins (hu.mono (Pin.le_trans (Pin.le_trans (Pin.le_trans (Pin.le_trans (Pin.le_trans (Pin.le_trans (Pin.le_trans hle10 hx18.le) hx25.le) hx31.le) hle48) hx56.le) hle79) hle125)) hsn) ?_
 rintro _ w153 ⟨u151, G152, rfl, hr154, hx155⟩
 refine ⟨_, rfl, ?_⟩
 have hX156 := hX146.tr hx155
 have hd157 := hd147.ext hx155
 have hs158 := Nat.le_trans hs148 hx155.size
 have hd159 := hd149.ext hx155
 have hs160 := Nat.le_trans hs150 hx155.size
 refine ⟨fun _ => (Pins.of_le hX156.pins hx155.le), ?_⟩
 obtain ⟨G164, hle165, hp166, hr167, _⟩ := hd157.read hX156.pins
 refine zW (i := 3) (by kernel_rfl) (zY (i := 3) rfl rfl rfl (zI rfl _) (zO (vs := [(.agg [u52].toArray), (.agg [u151].toArray)]) Tryz.func20 nm20 rfl rfl rfl ?_))
 refine Calls.mono (eqForm_same hp166 hr167 (hr154.mono hle165)) ?_
 rintro _ w162 ⟨G161, rfl, hx163⟩
 refine ⟨_, rfl, ?_⟩
 have hx168 := deep_back hX156.pins hx163
 have hX169 := hX156.step hx168.pins hx168.below
 have hd170 := hd157.below hx168.below
 have hs171 := Nat.le_trans hs158 hx168.below.size
 have hd172 := hd159.below hx168.below
 have hs173 := Nat.le_trans hs160 hx168.below.size
 refine ⟨fun _ => (Pins.of_le hX169.pins hx155.le), ?_⟩
 refine dT (i := 4) rfl rfl (by kernel_rfl) (fun _ _ => qB rfl) (Pins.of_le hX169.pins hx155.le) ?_
 refine yX (by kernel_rfl) ?_
 refine zA ?_
 refine qR rfl rfl ?_
 refine wp_skip ?_
 refine zA (zD (zH ?_))
 refine qD rfl (zC (v := (.int .i64 1)) rfl) ?_
 refine qe (zA (zD (zH ?_)))
 refine qD rfl (xD (cs := [u52]) ag32 sz32 rfl (fun j u hj => (Pins.of_le hX169.pins (Pin.le_trans hle125 hx155.le)) _ _ _ (hbp81 _ _ (by simpa using hj)))) ?_
 refine qD rfl (zB (v := (.int .i64 1)) rfl) ?_
 refine qI rfl (zO (vs := [(.agg [u52].toArray), (.int .i64 1)]) Tryz.func23 nm23 rfl rfl rfl ?_)
 refine Calls.mono (markFormX_spec (kz := 1) hX169.pins hd170 hs171 hsn (by omega)) ?_
 rintro _ w174 ⟨rfl, hd175, hx176⟩
 refine ⟨_, rfl, ?_⟩
 have hX177 := hX169.trans hx176 (fun i hi => Or.inl (Nat.le_trans hX49.size hi.1))
 have hd178 := hd172.extS hx176 (fun k h1 h2 h3 => by have := h3.1; have := h3.2; omega)
 have hs179 := Nat.le_trans hs173 hx176.size
 refine qD rfl (zC (v := (.int .i64 (1 + totN ns))) rfl) ?_
 refine qe (zA (zD (zD (zH ?_))))
 refine qD rfl (zB (v := (.int .i64 (1 + totN ns))) rfl) ?_
 refine qD rfl (yR rfl rfl) ?_
 refine qD rfl (zB (v := (.bool (decide ((1 + totN ns : Int) < 0)))) rfl) ?_
 refine qbd (p := (1 + totN ns : Int) < 0) (t := 51) rfl (fun h180 => ?_) (fun h180 => ?_)
 ·skip
  refine qs rfl rfl rfl rfl rfl rfl ?_
  refine qs rfl rfl rfl rfl rfl rfl ?_
  refine qs rfl rfl rfl rfl rfl rfl ?_
  refine qs rfl rfl rfl rfl rfl rfl ?_
  refine qD rfl (xQ (v := (.bool true)) rfl rfl) ?_
  refine qD rfl (zB (v := (.bool true)) rfl) ?_
  refine qs rfl rfl rfl rfl rfl rfl ?_
  refine qs rfl rfl rfl rfl rfl rfl ?_
  refine qs rfl rfl rfl rfl rfl rfl ?_
  refine qD rfl (xQ (v := (.bool true)) rfl rfl) ?_
  refine qe (zA ?_)
  refine c_ifT rfl rfl ?_
  refine zD (zH ?_)
  refine qD rfl (zC (v := (.bool false)) rfl) ?_
  refine qe (zA ?_)
  refine wp_ret ?_
  refine zX ?_
  refine zT (v := (.bool false)) rfl rfl rfl ?_
  exfalso; omega
 refine qdg rfl rfl rfl rfl rfl rfl (xD (cs := [u89]) ag32 sz32 rfl (fun j u hj => (Pins.of_le hX177.pins hx155.le) _ _ _ (hbp127 _ _ (by simpa using hj)))) ?_
 refine qdg rfl rfl rfl rfl rfl rfl (xD (cs := [u27]) ag32 sz32 rfl (fun j u hj => (Pins.of_le hX177.pins (Pin.le_trans (Pin.le_trans (Pin.le_trans hx56.le hle79) hle125) hx155.le)) _ _ _ (hbp50 _ _ (by simpa using hj)))) ?_
 obtain ⟨G184, hle185, hp186, hr187, _⟩ := hd178.read hX177.pins
 refine q1g rfl rfl rfl rfl rfl rfl (zO (vs := [(.agg [u89].toArray), (.agg [u27].toArray)]) Tryz.func20 nm20 rfl rfl rfl ?_)
 refine Calls.mono (eqForm_same hp186 hr187 ((hr30.mono (Pin.le_trans (Pin.le_trans (Pin.le_trans (Pin.le_trans hle48 hx56.le) hle79) hle125) hx155.le)).mono hle185)) ?_
 rintro _ w182 ⟨G181, rfl, hx183⟩
 refine ⟨_, rfl, ?_⟩
 have hx188 := deep_back hX177.pins hx183
 have hX189 := hX177.step hx188.pins hx188.below
 have hd190 := hd178.below hx188.below
 have hs191 := Nat.le_trans hs179 hx188.below.size
 refine qdg rfl rfl rfl rfl rfl rfl (qB rfl) ?_
 refine qD rfl (xI (v := (.bool false)) rfl rfl) ?_
 refine qD rfl (zB (v := (.bool false)) rfl) ?_
 refine qdg rfl rfl rfl rfl rfl rfl (zB (v := (.bool (tinB ns))) rfl) ?_
 refine qdg rfl rfl rfl rfl rfl rfl (zB (v := (.bool (tinB ns))) rfl) ?_
 refine qdg rfl rfl rfl rfl rfl rfl (r_neqB_same Tryz.underlying4 rfl rfl) ?_
 refine qD rfl (xI (v := (.bool false)) rfl rfl) ?_
 refine qe (zA ?_)
 refine qR rfl rfl ?_
 refine wp_skip ?_
 refine zA (zD (zH ?_))
 refine qD rfl (zC (v := (.int .i64 1)) rfl) ?_
 refine qe (zA (zD (zH ?_)))
 refine qD rfl (xD (cs := [u89]) ag32 sz32 rfl (fun j u hj => (Pins.of_le hX189.pins hx155.le) _ _ _ (hbp127 _ _ (by simpa using hj)))) ?_
 refine qD rfl (zB (v := (.int .i64 1)) rfl) ?_
 refine qI rfl (zO (vs := [(.agg [u89].toArray), (.int .i64 1)]) Tryz.func23 nm23 rfl rfl rfl ?_)
 refine Calls.mono (markFormX_spec (kz := 1) hX189.pins hd190 hs191 (tin_small _) (by omega)) ?_
 rintro _ w192 ⟨rfl, hd193, hx194⟩
 refine ⟨_, rfl, ?_⟩
 have hX195 := hX189.trans hx194 (fun i hi => Or.inl (Nat.le_trans hX80.size hi.1))
 obtain ⟨G196, hle197, hp198, hr199, hf200⟩ := hd193.read hX195.pins
 have hX201 := hX195.promise hle197 hp198 hf200 hX80.size
 refine qD rfl (zC (v := (.int .i64 (1 + totN (tinF ns)))) rfl) ?_
 refine qe (zA (zD (zH ?_)))
 refine qD rfl (zC (v := (.int .i64 1)) rfl) ?_
 refine qe (zA (zD (zH ?_)))
 refine qD rfl (xD (cs := [u89]) ag32 sz32 rfl (fun j u hj => (Pins.of_le hX201.pins (Pin.le_trans hx155.le hle197)) _ _ _ (hbp127 _ _ (by simpa using hj)))) ?_
 refine qD rfl (zB (v := (.int .i64 1)) rfl) ?_
 refine qI rfl (zO (vs := [(.agg [u89].toArray), (.int .i64 1)]) Tryz.func24 nm24 rfl rfl rfl ?_)
 refine Calls.mono (heldFormX_spec (kz := 1) (ns := tinF ns) hX201.pins hr199 (tin_small _) (by omega)) ?_
 rintro _ w203 ⟨G202, rfl, hx204⟩
 refine ⟨_, rfl, ?_⟩
 have hX205 := hX201.tr hx204
 refine qD rfl (zC (v := (.int .i64 (1 + totN (tinF ns)))) rfl) ?_
 refine qe (zA (zD (zD (zH ?_))))
 refine qD rfl (zB (v := (.int .i64 (1 + totN (tinF ns)))) rfl) ?_
 refine qD rfl (yR rfl rfl) ?_
 refine qe (zA ?_)
 refine yG (p := (1 + totN (tinF ns) : Int) < 0) rfl rfl (fun h206 => ?_) (fun h206 => ?_)
 ·skip
  refine zD (zH ?_)
  refine qD rfl (zC (v := (.bool false)) rfl) ?_
  refine qe (zA ?_)
  refine wp_ret ?_
  refine zX ?_
  refine zT (v := (.bool false)) rfl rfl rfl ?_
  exfalso; omega
 refine wp_skip ?_
 refine zA (zD (zD (zH ?_)))
 refine qD rfl (zB (v := (.int .i64 (1 + totN (tinF ns)))) rfl) ?_
 refine qD rfl (zB (v := (.int .i64 (1 + totN (tinF ns)))) rfl) ?_
 refine qD rfl (r_neq rfl rfl) ?_
 refine qe (zA ?_)
 refine yG (p := (1 + totN (tinF ns) : Int) ≠ (1 + totN (tinF ns))) rfl rfl (fun h207 => ?_) (fun h207 => ?_)
 ·skip
  refine zD (zH ?_)
  refine qD rfl (zC (v := (.bool false)) rfl) ?_
  refine qe (zA ?_)
  refine wp_ret ?_
  refine zX ?_
  refine zT (v := (.bool false)) rfl rfl rfl ?_
  exfalso; omega
 refine wp_skip ?_
 refine zA (zD (zH ?_))
 refine qD rfl (xD (cs := [u]) ag24 sz24 rfl (fun j u hj => (Pins.of_le hX205.pins (Pin.le_trans (Pin.le_trans (Pin.le_trans (Pin.le_trans (Pin.le_trans (Pin.le_trans (Pin.le_trans (Pin.le_trans (Pin.le_trans hx18.le hx25.le) hx31.le) hle48) hx56.le) hle79) hle125) hx155.le) hle197) hx204.le)) _ _ _ (hbp12 _ _ (by simpa using hj)))) ?_
 refine qI rfl (zO (vs := [(.agg [u].toArray)]) Tryz.func17 nm17 rfl rfl rfl ?_)
 refine Calls.mono (toForm_spec hX205.pins (hu.mono (Pin.le_trans (Pin.le_trans (Pin.le_trans (Pin.le_trans (Pin.le_trans (Pin.le_trans (Pin.le_trans (Pin.le_trans (Pin.le_trans (Pin.le_trans hle10 hx18.le) hx25.le) hx31.le) hle48) hx56.le) hle79) hle125) hx155.le) hle197) hx204.le)) hsn) ?_
 rintro _ w210 ⟨u208, G209, rfl, hr211, hx212⟩
 refine ⟨_, rfl, ?_⟩
 have hX213 := hX205.tr hx212
 refine qI rfl (zO (vs := [(.agg [u208].toArray)]) Tryz.func41 nm41 rfl rfl rfl ?_)
 refine Calls.mono (iTinyForm_spec hX213.pins hr211) ?_
 rintro _ w216 ⟨u214, G215, rfl, hr217, hx218⟩
 refine ⟨_, rfl, ?_⟩
 have hX219 := hX213.tr hx218
 refine qD rfl (zB (v := (.tuple #[(.agg [u214].toArray), (.bool (tinB ns))])) rfl) ?_
 refine qD rfl (xL (v := (.agg [u214].toArray)) rfl rfl) ?_
 refine qD rfl (xL (v := (.bool (tinB ns))) rfl rfl) ?_
 refine qI rfl (xA [(.slice none 0 0)] zr32 rfl hX219.pins (fun b220 w221 hk222 hb223 hp224 hl225 => ?_))
 have hX226 := hX219.step hp224 hl225
 have hlo227 : w.heap.size ≤ b220 := by have := hX219.size; omega
 refine q0 rfl rfl rfl (xF (cs' := [u214]) (us := [u214]) (v := (.agg [u214].toArray)) sz32 rfl rfl rfl (yZ hr217.one) hX226.pins hb223 (Nat.le_of_ble_eq_true rfl) rfl (fun w228 hb229 hp230 hg231 hz232 => ?_))
 have hX233 := hX226.write hp230 hg231 ((yV hlo227))
 obtain ⟨G234, hle235, hX236, hbp237, hf238⟩ := hb229.shut hX233 hlo227
 refine qD rfl (zC (v := (.bool (tinB ns))) rfl) ?_
 refine qe (zA (zD (zD (zH ?_))))
 refine qD rfl (xD (cs := [u214]) ag32 sz32 rfl (fun j u hj => hX236.pins _ _ _ (hbp237 _ _ (by simpa using hj)))) ?_
 refine qD rfl (xD (cs := [u27]) ag32 sz32 rfl (fun j u hj => (Pins.of_le hX236.pins (Pin.le_trans (Pin.le_trans (Pin.le_trans (Pin.le_trans (Pin.le_trans (Pin.le_trans (Pin.le_trans (Pin.le_trans hx56.le hle79) hle125) hx155.le) hle197) hx204.le) hx212.le) hx218.le) hle235)) _ _ _ (hbp50 _ _ (by simpa using hj)))) ?_
 refine qI rfl (zO (vs := [(.agg [u214].toArray), (.agg [u27].toArray)]) Tryz.func20 nm20 rfl rfl rfl ?_)
 refine Calls.mono (eqForm_same hX236.pins (hr217.mono hle235) (hr30.mono (Pin.le_trans (Pin.le_trans (Pin.le_trans (Pin.le_trans (Pin.le_trans (Pin.le_trans (Pin.le_trans (Pin.le_trans (Pin.le_trans hle48 hx56.le) hle79) hle125) hx155.le) hle197) hx204.le) hx212.le) hx218.le) hle235))) ?_
 rintro _ w240 ⟨G239, rfl, hx241⟩
 refine ⟨_, rfl, ?_⟩
 have hX242 := hX236.tr hx241
 refine qD rfl (qB rfl) ?_
 refine qD rfl (zB (v := (.bool false)) rfl) ?_
 refine qdg rfl rfl rfl rfl rfl rfl (zB (v := (.bool (tinB ns))) rfl) ?_
 refine qdg rfl rfl rfl rfl rfl rfl (zB (v := (.bool (tinB ns))) rfl) ?_
 refine qdg rfl rfl rfl rfl rfl rfl (r_neqB_same Tryz.underlying4 rfl rfl) ?_
 refine qD rfl (xI (v := (.bool false)) rfl rfl) ?_
 refine qe (zA ?_)
 refine qR rfl rfl ?_
 refine wp_skip ?_
 refine zA (zD (zH ?_))
 refine qD rfl (zC (v := (.int .i64 1)) rfl) ?_
 refine qe (zA (zD (zH ?_)))
 refine qD rfl (xD (cs := [u89]) ag32 sz32 rfl (fun j u hj => (Pins.of_le hX242.pins (Pin.le_trans (Pin.le_trans (Pin.le_trans (Pin.le_trans (Pin.le_trans (Pin.le_trans hx155.le hle197) hx204.le) hx212.le) hx218.le) hle235) hx241.le)) _ _ _ (hbp127 _ _ (by simpa using hj)))) ?_
 refine qD rfl (zB (v := (.int .i64 1)) rfl) ?_
 refine qI rfl (zO (vs := [(.agg [u89].toArray), (.int .i64 1)]) Tryz.func24 nm24 rfl rfl rfl ?_)
 refine Calls.mono (heldFormX_spec (kz := 1) (ns := tinF ns) hX242.pins (hr199.mono (Pin.le_trans (Pin.le_trans (Pin.le_trans (Pin.le_trans hx204.le hx212.le) hx218.le) hle235) hx241.le)) (tin_small _) (by omega)) ?_
 rintro _ w244 ⟨G243, rfl, hx245⟩
 refine ⟨_, rfl, ?_⟩
 have hX246 := hX242.tr hx245
 refine qD rfl (zC (v := (.int .i64 (1 + totN (tinF ns)))) rfl) ?_
 refine qe (zA (zD (zD (zH ?_))))
 refine qD rfl (zB (v := (.int .i64 (1 + totN (tinF ns)))) rfl) ?_
 refine qD rfl (yR rfl rfl) ?_
 refine qe (zA ?_)
 refine yG (p := (1 + totN (tinF ns) : Int) < 0) rfl rfl (fun h => absurd h h206) (fun _ => ?_)
 refine wp_skip ?_
 refine zA (zD (zD (zH ?_)))
 refine qD rfl (zB (v := (.int .i64 (1 + totN (tinF ns)))) rfl) ?_
 refine qD rfl (zB (v := (.int .i64 (1 + totN (tinF ns)))) rfl) ?_
 refine qD rfl (r_neq rfl rfl) ?_
 refine qe (zA ?_)
 refine yG (p := (1 + totN (tinF ns) : Int) ≠ (1 + totN (tinF ns))) rfl rfl (fun h => absurd h h207) (fun _ => ?_)
 refine wp_skip ?_
 refine zA (zD (zH ?_))
 refine qD rfl (zC (v := (.bool true)) rfl) ?_
 refine qe (zA ?_)
 refine wp_ret ?_
 refine zX ?_
 refine zT (v := (.bool true)) rfl rfl rfl ?_
 exact ⟨_, rfl, hX246⟩

end LT1
end Go.Proofs.YtfnginkcmcfdfaaGreatDoor
