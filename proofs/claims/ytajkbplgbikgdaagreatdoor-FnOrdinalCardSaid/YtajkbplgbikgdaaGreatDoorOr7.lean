/- Texts of this claim in one file: OS1, AT1, SO7, MK1, DO1, DO2, DO3. -/
import Derived.Test.YtajkbplgbikgdaaGreatDoorOr6
import Derived.Test.YtajkbplgbikgdaaGreatDoorChecked
set_option maxRecDepth 20000
set_option maxHeartbeats 2000000
namespace Go.Proofs.YtajkbplgbikgdaaGreatDoor
namespace OS1
open Go.RowKit Go.GL Go.Proofs
open B1 C1 D1 E1 K1 PO1 PL1 PA1 SO1 OD1 FO1 NG1 NF1 SM1
theorem pl119 : (Tryz.prog.underlying 119).bind (placesD Tryz.prog) = some [(0, 1), (1, 1)] := by kernel_rfl
theorem pl26 : (Tryz.prog.underlying 26).bind (placesD Tryz.prog) = some [(0, 1)] := by kernel_rfl
theorem mZ {w : World} {G : Pin} {u v : Value} {fs gs : List Nd} (hP : Pins G w) (hu : RSl eNode G u fs) (hv : RSl eNode G v gs) (hf : FormOk fs) (hg : FormOk gs) (h1 : 1 ≤ fs.length ∧ 1 ≤ gs.length) (hs : fs.length + gs.length ≤ 524288) (hfl : ∀ k, k < fs.length → (fs.getD k default).l.length ≤ 1000 ∧ (fs.getD k default).r.length ≤ 1000) (hgl : ∀ k, k < gs.length → (gs.getD k default).l.length ≤ 1000 ∧ (gs.getD k default).r.length ≤ 1000) :
  Calls Tryz.prog 38 [(.agg [u].toArray), (.agg [v].toArray)].toArray w fun e w' => ∃ (u : Value) (G' : Pin), e = .returned (.agg [u].toArray) ∧ RSl eNode G' u (formG (ordG (gOf fs) (gOf gs))) ∧ Ext noS G w G' w' := by
 refine yG (n := 74) Tryz.func38 Tryz.ntmps38 rfl rfl ?_
 have hX0 := exr noS hP
 have hmu := hu.max
 have hmv := hv.max
 have hfle := hf.len
 have hgle := hg.len
 have han := add_nk hf (by omega)
 have hfi : ((fs.length : Int) - 1).toNat = fs.length - 1 := by omega
 have hfo0 := xK hf.opts (show ((fs.length : Int) - 1).toNat < fs.length by omega)
 have hfo : (∀ z ∈ (fs.getD ((fs.length : Int) - 1).toNat default).l, 0 ≤ z ∧ z < (fs.length : Int)) ∧ (∀ z ∈ (fs.getD ((fs.length : Int) - 1).toNat default).r, 0 ≤ z ∧ z < (fs.length : Int)) := ⟨fun z hz => by have h := hfo0.1 z hz; omega, fun z hz => by have h := hfo0.2 z hz; omega⟩
 have hfe := hfl ((fs.length : Int) - 1).toNat (by omega)
 refine zG (zH ?_)
 refine qI rfl (xW [u] (v := (.agg [u].toArray)) rfl rfl hX0.pins (fun b1 w2 hk3 hb4 hp5 hl6 => ?_))
 have hX7 := hX0.step hp5 hl6
 have hlo8 : w.heap.size ≤ b1 := by have := hX0.size; omega
 obtain ⟨G9, hle10, hX11, hbp12, hf13⟩ := hb4.shut hX7 hlo8
 refine qI rfl (xW [v] (v := (.agg [v].toArray)) rfl rfl hX11.pins (fun b14 w15 hk16 hb17 hp18 hl19 => ?_))
 have hX20 := hX11.step hp18 hl19
 have hlo21 : w.heap.size ≤ b14 := by have := hX11.size; omega
 obtain ⟨G22, hle23, hX24, hbp25, hf26⟩ := hb17.shut hX20 hlo21
 refine qI rfl (yO [(.slice none 0 0)] zr26 rfl hX24.pins (fun b27 w28 hk29 hb30 hp31 hl32 => ?_))
 have hX33 := hX24.step hp31 hl32
 have hlo34 : w.heap.size ≤ b27 := by have := hX24.size; omega
 refine qe (zA (zG (zH ?_)))
 refine qD rfl (xQ [(.slice none 0 0), (.slice none 0 0)] [(.slice none 0 0), (.slice none 0 0)] [] dC zr119 rfl pl119 rfl (fun _ h => by cases h) rfl) (qI rfl (xW [(.slice none 0 0), (.slice none 0 0)] (v := (.agg [(.slice none 0 0), (.slice none 0 0)].toArray)) rfl rfl hX33.pins (fun b35 w36 hk37 hb38 hp39 hl40 => ?_)))
 have hX41 := hX33.step hp39 hl40
 have hb42 := hb30.below hl40
 have ha43 : Apart (some b35) (some b27) := zL (congrArg some hk37) hb30.lt
 have hlo44 : w.heap.size ≤ b35 := by have := hX33.size; omega
 refine qD rfl (zD (v := (.pointer (some ⟨b35, 0, none⟩))) rfl) (qe (zA (zG (zH ?_))))
 refine qD rfl (zB (v := (.pointer (some ⟨b35, 0, none⟩))) rfl) (qD rfl (yJ (cs := [u]) ag26 sz26 rfl (fun j u hj => (dO hX41.pins hle23) _ _ _ (hbp12 _ _ (by simpa using hj)))) (qI rfl (zM (vs := [(.pointer (some ⟨b35, 0, none⟩)), (.agg [u].toArray)]) Tryz.func76 nm76 rfl rfl rfl ?_)))
 refine dP (add_spec hX41.pins ⟨hb38, (Own.nil _ _ _ _ _), (Own.nil _ _ _ _ _), apart_none.symm, apart_none.symm, apart_none⟩ jC (hu.mono (dN hle10 hle23)) hf (by first | omega | (simp; omega))) ?_
 rintro _ w48 ⟨u53, u45, v46, G47, rfl, hr54, hbk49, hx50, hlu51, hlv52⟩
 refine ⟨_, rfl, ?_⟩
 have hin55 : ∀ i, inS b35 (.slice none 0 0) (.slice none 0 0) i → w.heap.size ≤ i ∨ noS i := fH (yC hlo44) (fO _ _) (fO _ _)
 have hX56 := hX41.trans hx50 hin55
 have hn57 := notS (u := (.slice none 0 0)) (v := (.slice none 0 0)) ha43.symm apart_none.symm apart_none.symm
 have ho58 := hb42.extS hx50 (notSb hn57)
 have ha59 : Apart (some b27) u45.ownBlock := xY hlu51 hn57 (vO hb42)
 have ha60 : Apart (some b27) v46.ownBlock := xY hlv52 hn57 (vO hb42)
 have hb61 := hbk49.bx
 have ho62 := hbk49.ou
 have ho63 := hbk49.ov
 have ha64 := hbk49.abu
 have ha65 := hbk49.abv
 have ha66 := hbk49.auv
 have hlo67 := qP hlu51 hin55 hX41.size
 have hlo68 := qP hlv52 hin55 hX41.size
 refine qD rfl (zD (v := u53) rfl) (qe (zA (zG (zH ?_))))
 refine qD rfl (zR (k := 0) rfl eW rfl nz24 rfl) (qD rfl (zS (u := u) ag24 rfl ((dO hX56.pins (dN hle23 hx50.le)) _ _ _ (hbp12 0 _ rfl))) (qD rfl (zR (k := 0) rfl eW rfl nz24 rfl) (qD rfl (zS (u := u) ag24 rfl ((dO hX56.pins (dN hle23 hx50.le)) _ _ _ (hbp12 0 _ rfl))) (qD rfl (zT eV (v := u) rfl hu) (qD rfl (jA rfl rfl (by omega)) (qD rfl (zN eV sz65 (v := u) rfl rfl hu (by omega) (by omega)) ?_))))))
 obtain ⟨u69, u70, hr71, hr72, hl73⟩ := jU (hu.at (z := ((fs.length : Int) - 1)) (by omega) (by omega)) (j := ((fs.length : Int) - 1).toNat) rfl
 have hm74 := hr71.max
 have hm75 := hr72.max
 refine qD rfl (hl73 ag65 sz65 rfl (dO hX56.pins (dN (dN hle10 hle23) hx50.le))) (qI rfl (yO [(.slice none 0 0), (.slice none 0 0)] zr65 rfl hX56.pins (fun b76 w77 hk78 hb79 hp80 hl81 => ?_)))
 have hX82 := hX56.step hp80 hl81
 have ho83 := ho62.below hl81
 have ho84 := ho63.below hl81
 have hb85 := ho58.below hl81
 have hb86 := hb61.below hl81
 have ha87 : Apart (some b76) u45.ownBlock := zK (congrArg some hk78) ho62.lt
 have ha88 : Apart (some b76) v46.ownBlock := zK (congrArg some hk78) ho63.lt
 have ha89 : Apart (some b76) (some b27) := zL (congrArg some hk78) ho58.lt
 have ha90 : Apart (some b76) (some b35) := zL (congrArg some hk78) hb61.lt
 have hlo91 : w.heap.size ≤ b76 := by have := hX56.size; omega
 refine q0 rfl rfl rfl (o_stp (cs' := [u69, u70]) (us := [u69, u70]) (v := (.agg [u69, u70].toArray)) sz65 rfl rfl rfl (jE hr71.one hr72.one) hX82.pins hb79 (dQ rfl) rfl (fun w92 hb93 hp94 hg95 hz96 => ?_))
 have hX97 := hX82.write hp94 hg95 ((yC hlo91))
 have ho98 := ho83.keptA hg95 ha87.symm
 have ho99 := ho84.keptA hg95 ha88.symm
 have hb100 := hb85.keptA hg95 ha89.symm
 have hb101 := hb86.keptA hg95 ha90.symm
 obtain ⟨G102, hle103, hX104, hbp105, hf106⟩ := hb93.shut hX97 hlo91
 have ho107 := ho98.moreA hle103 hf106 ha87.symm
 have ho108 := ho99.moreA hle103 hf106 ha88.symm
 have hb109 := hb100.moreA hf106 ha89.symm
 have hb110 := hb101.moreA hf106 ha90.symm
 refine qe (zA (zG (zH ?_)))
 refine qI rfl (xG (E := eInt) (e := 3) eU sz3 hX104.pins (fun u111 w112 ho113 hp114 hl115 hk116 => ?_))
 have hX117 := hX104.step hp114 hl115
 have ho118 := ho107.below hl115
 have ho119 := ho108.below hl115
 have hb120 := hb109.below hl115
 have hb121 := hb110.below hl115
 have ha122 : Apart u111.ownBlock u45.ownBlock := zK hk116 ho107.lt
 have ha123 : Apart u111.ownBlock v46.ownBlock := zK hk116 ho108.lt
 have ha124 : Apart u111.ownBlock (some b27) := zL hk116 hb109.lt
 have ha125 : Apart u111.ownBlock (some b35) := zL hk116 hb110.lt
 have ho126 := ho113.weaken hX104.size
 refine qD rfl (zD (v := u111) rfl) (qe (zA (zG (zG (zH ?_)))))
 refine qD rfl (zD (v := (.int .i64 0)) rfl) (qe (zA ?_))
 refine yH (yZ (fun (k : Nat) (en : Nat → Value) (W : World) => ∃ (env1 : Nat → Value) (k5 : Nat) (atB : Value) (atsB : List Int) (uB : Value) (vB : Value) (nsB : List Nd) (bsB : List Int) (GL1 : Pin), en = (upd (upd (upd (upd (upd (upd (upd env1 3 (.pointer (some ⟨b14, 0, none⟩))) 4 (.pointer (some ⟨b27, 0, none⟩))) 5 (.pointer (some ⟨b35, 0, none⟩))) 6 u53) 7 (.pointer (some ⟨b76, 0, none⟩))) 8 atB) 9 (.int .i64 (k5 : Int))) ∧ k = gs.length - k5 ∧ Ext noS G w GL1 W ∧ Pin.le G102 GL1 ∧ (k5 ≤ gs.length) ∧ (PoolOk (bkq nsB bsB)) ∧ (NkOk (bkq nsB bsB) (addM [] [] fs).1 fs.length (den fs)) ∧ (NkOk (bkq nsB bsB) atsB k5 (fun i => ordG (gOf fs) (den gs i))) ∧ (nsB.length ≤ fs.length + k5) ∧ (Own eInt 3 GL1 W w.heap.size atB (atsB)) ∧ (Own eNode 65 GL1 W 0 uB (nsB)) ∧ (Own eInt 3 GL1 W 0 vB (bsB)) ∧ (Bx GL1 W b27 [(.slice none 0 0)]) ∧ (Bx GL1 W b35 [uB, vB]) ∧ (Apart atB.ownBlock uB.ownBlock) ∧ (Apart atB.ownBlock vB.ownBlock) ∧ (Apart atB.ownBlock (some b27)) ∧ (Apart atB.ownBlock (some b35)) ∧ (Apart uB.ownBlock vB.ownBlock) ∧ (Apart uB.ownBlock (some b27)) ∧ (Apart uB.ownBlock (some b35)) ∧ (Apart vB.ownBlock (some b27)) ∧ (Apart vB.ownBlock (some b35)) ∧ (Lo w noS uB.ownBlock) ∧ (Lo w noS vB.ownBlock)) _ ⟨_, 0, u111, [], u45, v46, (addM ([]) ([]) fs).2.1, (addM ([]) ([]) fs).2.2, G102, (zC (x := 9) (zC (x := 8) (zC (x := 7) (zC (x := 6) (zC (x := 5) (zC (x := 4) (zX (x := 3) rfl) rfl) rfl) rfl) rfl) rfl) rfl), rfl, hX117, Pin.le_refl _, Nat.zero_le _, han.1, han.2.1, NkOk.start, han.2.2, ho126, ho118, ho119, hb120, hb121, ha122, ha123, ha124, ha125, ha66, ha59.symm, ha64.symm, ha60.symm, ha65.symm, hlo67, hlo68⟩ ?_)
 rintro k127 _ w128 ⟨env1, k5, atB, atsB, uB, vB, nsB, bsB, GL1, rfl, hk129, hX130, hlek127, hk5, hokb, hat0, hnk, hbl, hw131, hw132, hw133, hw134, hw135, ha136, ha137, ha138, ha139, ha140, ha141, ha142, ha143, ha144, hlo145, hlo146⟩
 have hnl := hnk.len
 have hal0 := hat0.len
 refine zG (zG (zH ?_))
 refine qD rfl (zB (v := (.int .i64 (k5 : Int))) rfl) (qD rfl (zR (k := 0) rfl eW rfl nz24 rfl) (qD rfl (zS (u := v) ag24 rfl ((dO hX130.pins (dN (dN hx50.le hle103) hlek127)) _ _ _ (hbp25 0 _ rfl))) (qD rfl (zT eV (v := v) rfl hv) (qD rfl (xB rfl rfl) (qe (zA ?_))))))
 refine yN (p := ((k5 : Int) : Int) < (gs.length : Int)) rfl rfl (fun h147 => ?_) (fun h147 => ?_)
 have og := xK hg.opts (show k5 < gs.length by omega)
 have hge := hgl k5 (by omega)
 have hof := hat0.opts hfo.1
 have hof2 := hat0.opts hfo.2
 have hol := hnk.opts og.1
 have hor := hnk.opts og.2
 have hi1 : ∀ i, i < (fs.getD ((fs.length : Int) - 1).toNat default).l.length → 0 ≤ (fs.getD ((fs.length : Int) - 1).toNat default).l.getD i 0 ∧ (fs.getD ((fs.length : Int) - 1).toNat default).l.getD i 0 < (addM [] [] fs).1.length := fun i hi => by have h := hfo.1 _ (yT (d := (0 : Int)) hi); omega
 have hi2 : ∀ i, i < (fs.getD ((fs.length : Int) - 1).toNat default).r.length → 0 ≤ (fs.getD ((fs.length : Int) - 1).toNat default).r.getD i 0 ∧ (fs.getD ((fs.length : Int) - 1).toNat default).r.getD i 0 < (addM [] [] fs).1.length := fun i hi => by have h := hfo.2 _ (yT (d := (0 : Int)) hi); omega
 have hi3 : ∀ i, i < (gs.getD k5 default).l.length → 0 ≤ (gs.getD k5 default).l.getD i 0 ∧ (gs.getD k5 default).l.getD i 0 < atsB.length := fun i hi => by have h := og.1 _ (yT (d := (0 : Int)) hi); omega
 have hi4 : ∀ i, i < (gs.getD k5 default).r.length → 0 ≤ (gs.getD k5 default).r.getD i 0 ∧ (gs.getD k5 default).r.getD i 0 < atsB.length := fun i hi => by have h := og.2 _ (yT (d := (0 : Int)) hi); omega
 have hlm1 : (atL (addM [] [] fs).1 (fs.getD ((fs.length : Int) - 1).toNat default).l).length = (fs.getD ((fs.length : Int) - 1).toNat default).l.length := xF
 have hlm2 : (atL (addM [] [] fs).1 (fs.getD ((fs.length : Int) - 1).toNat default).r).length = (fs.getD ((fs.length : Int) - 1).toNat default).r.length := xF
 have hlm3 : (atL atsB (gs.getD k5 default).l).length = (gs.getD k5 default).l.length := xF
 have hlm4 : (atL atsB (gs.getD k5 default).r).length = (gs.getD k5 default).r.length := xF
 have hpt := bk_put (xs := atL (addM [] [] fs).1 (fs.getD ((fs.length : Int) - 1).toNat default).l ++ atL atsB (gs.getD k5 default).l) (ys := atL (addM [] [] fs).1 (fs.getD ((fs.length : Int) - 1).toNat default).r ++ atL atsB (gs.getD k5 default).r) hokb (by omega) ⟨by rw [List.length_append]; omega, by rw [List.length_append]; omega⟩ (fun z hz => (List.mem_append.1 hz).elim (hof.1 z) (hol.1 z)) (fun z hz => (List.mem_append.1 hz).elim (hof2.1 z) (hor.1 z))
 refine wp_skip (zA (zG ?_))
 refine yH (zG (xD (S := fun wz => Pins GL1 wz) (last := 14) (by kernel_rfl) rfl ?_))
 have hl148 := bdr w128
 have hp149 := hX130.pins.below hl148
 have hX150 := hX130.step hp149 hl148
 have ho151 := hw131.below hl148
 have ho152 := hw132.below hl148
 have ho153 := hw133.below hl148
 have hb154 := hw134.below hl148
 have hb155 := hw135.below hl148
 refine dT (i := 0) rfl rfl (by kernel_rfl) (fun _ _ => zB (v := u53) rfl) hX150.pins ?_
 refine dT (i := 1) rfl rfl (by kernel_rfl) (fun _ _ => zR (k := 0) rfl eX rfl nz59 rfl) hX150.pins ?_
 refine dT (i := 2) rfl rfl (by kernel_rfl) (fun _ hS => zS (u := u69) ag59 rfl ((dO hS hlek127) _ _ _ (hbp105 0 _ rfl))) hX150.pins ?_
 refine dT (i := 4) rfl rfl (by kernel_rfl) (fun _ _ => zB (v := atB) rfl) hX150.pins ?_
 refine dT (i := 5) rfl rfl (by kernel_rfl) (fun _ _ => zR (k := 0) rfl eW rfl nz24 rfl) hX150.pins ?_
 refine dT (i := 6) rfl rfl (by kernel_rfl) (fun _ hS => zS (u := v) ag24 rfl ((dO hS (dN (dN hx50.le hle103) hlek127)) _ _ _ (hbp25 0 _ rfl))) hX150.pins ?_
 refine dT (i := 7) rfl rfl (by kernel_rfl) (fun _ _ => zB (v := (.int .i64 (k5 : Int))) rfl) hX150.pins ?_
 refine dT (i := 8) rfl rfl (by kernel_rfl) (fun _ _ => zN eV sz65 (v := v) rfl rfl hv (by omega) (by omega)) hX150.pins ?_
 refine dT (i := 9) rfl rfl (by kernel_rfl) (fun _ _ => xP (off := 0) eX rfl rfl nz59 (z := (k5 : Int)) (k := 0) rfl hv (by omega) (by omega)) hX150.pins ?_
 obtain ⟨u156, hr157, hl158⟩ := vZ (hv.at (z := (k5 : Int)) (by omega) (by omega)) (j := k5) rfl
 have hm159 := hr157.max
 refine dT (i := 10) rfl rfl (by kernel_rfl) (fun _ hS => hl158 ag59 rfl (dO hS (dN (dN (dN (dN hle10 hle23) hx50.le) hle103) hlek127))) hX150.pins ?_
 refine zQ (i := 3) (by kernel_rfl) (zU (i := 3) rfl rfl rfl (zI rfl _) (zM (vs := [u53, u69]) Tryz.func77 nm77 rfl rfl rfl ?_))
 refine dP (qK hX150.pins (hX150.pins) (hr54.mono (dN hle103 hlek127)) (hr71.mono (dN (dN (dN (dN hle10 hle23) hx50.le) hle103) hlek127)) (by omega) hi1) ?_
 rintro _ w162 ⟨u160, G161, rfl, ho163, hx164⟩
 refine ⟨_, rfl, ?_⟩
 have hX165 := hX150.tr hx164
 have ho166 := ho151.ext hx164
 have ho167 := ho152.ext hx164
 have ho168 := ho153.ext hx164
 have hb169 := hb154.ext hx164
 have hb170 := hb155.ext hx164
 have ha171 : Apart u160.ownBlock atB.ownBlock := zV ho163.lt ho151.lt
 have ha172 : Apart u160.ownBlock uB.ownBlock := zV ho163.lt ho152.lt
 have ha173 : Apart u160.ownBlock vB.ownBlock := zV ho163.lt ho153.lt
 have ha174 : Apart u160.ownBlock (some b27) := yA ho163.lt hb154.lt
 have ha175 : Apart u160.ownBlock (some b35) := yA ho163.lt hb155.lt
 have ho176 := ho163.weaken hX150.size
 refine ⟨fun _ => (dO hX165.pins hx164.le), ?_⟩
 refine zQ (i := 11) (by kernel_rfl) (zU (i := 11) rfl rfl rfl (zI rfl _) (zM (vs := [atB, u156]) Tryz.func77 nm77 rfl rfl rfl ?_))
 refine dP (qK hX165.pins (Gadd.pins hX165.pins atB) ho166.read (hr157.mono (dN (dN (dN (dN (dN hle10 hle23) hx50.le) hle103) hlek127) hx164.le)) (by omega) hi3) ?_
 rintro _ w179 ⟨u177, G178, rfl, ho180, hx181⟩
 refine ⟨_, rfl, ?_⟩
 have hX182 := hX165.tr hx181
 have ho183 := ho166.ext hx181
 have ho184 := ho167.ext hx181
 have ho185 := ho168.ext hx181
 have ho186 := ho176.ext hx181
 have hb187 := hb169.ext hx181
 have hb188 := hb170.ext hx181
 have ho195 := ho180.weaken hX165.size
 refine ⟨fun _ => (dO hX182.pins (dN hx164.le hx181.le)), ?_⟩
 refine zQ (i := 12) (by kernel_rfl) (zU (i := 12) rfl rfl rfl (zI rfl _) (zZ (E := eInt) (v := u160) (u := u177) 8 eU ap3 (by decide) rfl rfl hX182.pins ho186 ho195.src (by first | omega | (rw [List.nil_append]; omega) | (rw [List.length_nil]; omega) | (rw [List.length_append]; omega) | (simp; done) | (simp; omega) | (simp only [List.length_append, List.length_cons, List.length_nil]; omega)) (by first | omega | (rw [List.nil_append]; omega) | (rw [List.length_nil]; omega) | (rw [List.length_append]; omega) | (simp; done) | (simp; omega) | (simp only [List.length_append, List.length_cons, List.length_nil]; omega)) (hX182.size) (fun u196 w197 ho198 hp199 hg200 hw201 => ?_)))
 have hX202 := hX182.write hp199 hg200 ((yD ho186))
 have ho203 := ho183.keptA hg200 ha171.symm
 have ho204 := ho184.keptA hg200 ha172.symm
 have ho205 := ho185.keptA hg200 ha173.symm
 have hb207 := hb187.keptA hg200 ha174.symm
 have hb208 := hb188.keptA hg200 ha175.symm
 have ha209 : Apart atB.ownBlock u196.ownBlock := zJ ha171.symm hw201 ho183.lt
 have ha210 : Apart uB.ownBlock u196.ownBlock := zJ ha172.symm hw201 ho184.lt
 have ha211 : Apart vB.ownBlock u196.ownBlock := zJ ha173.symm hw201 ho185.lt
 have ha213 : Apart (some b27) u196.ownBlock := zP ha174.symm hw201 hb187.lt
 have ha214 : Apart (some b35) u196.ownBlock := zP ha175.symm hw201 hb188.lt
 have hm215 := la2 (atL ((addM ([]) ([]) fs).1) ((fs.getD ((fs.length : Int) - 1).toNat default).l)) (atL atsB ((gs.getD k5 default).l))
 refine ⟨fun _ => (dO hX202.pins (dN hx164.le hx181.le)), ?_⟩
 refine dT (i := 13) rfl rfl (by kernel_rfl) (fun _ _ => zD (v := u196) rfl) (dO hX202.pins (dN hx164.le hx181.le)) ?_
 refine yP (by kernel_rfl) (zA (zG ?_))
 refine xD (S := fun wz => Pins G178 wz) (last := 14) (by kernel_rfl) rfl ?_
 have hl216 := bdr w197
 have hp217 := hX202.pins.below hl216
 have hX218 := hX202.step hp217 hl216
 have ho219 := ho203.below hl216
 have ho220 := ho204.below hl216
 have ho221 := ho205.below hl216
 have ho222 := ho198.below hl216
 have hb223 := hb207.below hl216
 have hb224 := hb208.below hl216
 refine dT (i := 0) rfl rfl (by kernel_rfl) (fun _ _ => zB (v := u53) rfl) hX218.pins ?_
 refine dT (i := 1) rfl rfl (by kernel_rfl) (fun _ _ => zR (k := 1) rfl eX rfl nz59 rfl) hX218.pins ?_
 refine dT (i := 2) rfl rfl (by kernel_rfl) (fun _ hS => zS (u := u70) ag59 rfl ((dO hS (dN (dN hlek127 hx164.le) hx181.le)) _ _ _ (hbp105 1 _ rfl))) hX218.pins ?_
 refine dT (i := 4) rfl rfl (by kernel_rfl) (fun _ _ => zB (v := atB) rfl) hX218.pins ?_
 refine dT (i := 5) rfl rfl (by kernel_rfl) (fun _ _ => zR (k := 0) rfl eW rfl nz24 rfl) hX218.pins ?_
 refine dT (i := 6) rfl rfl (by kernel_rfl) (fun _ hS => zS (u := v) ag24 rfl ((dO hS (dN (dN (dN (dN hx50.le hle103) hlek127) hx164.le) hx181.le)) _ _ _ (hbp25 0 _ rfl))) hX218.pins ?_
 refine dT (i := 7) rfl rfl (by kernel_rfl) (fun _ _ => zB (v := (.int .i64 (k5 : Int))) rfl) hX218.pins ?_
 refine dT (i := 8) rfl rfl (by kernel_rfl) (fun _ _ => zN eV sz65 (v := v) rfl rfl hv (by omega) (by omega)) hX218.pins ?_
 refine dT (i := 9) rfl rfl (by kernel_rfl) (fun _ _ => xP (off := 1) eX rfl rfl nz59 (z := (k5 : Int)) (k := 0) rfl hv (by omega) (by omega)) hX218.pins ?_
 obtain ⟨u225, hr226, hl227⟩ := kG (hv.at (z := (k5 : Int)) (by omega) (by omega)) (j := k5) rfl
 have hm228 := hr226.max
 refine dT (i := 10) rfl rfl (by kernel_rfl) (fun _ hS => hl227 ag59 rfl (dO hS (dN (dN (dN (dN (dN (dN hle10 hle23) hx50.le) hle103) hlek127) hx164.le) hx181.le))) hX218.pins ?_
 refine zQ (i := 3) (by kernel_rfl) (zU (i := 3) rfl rfl rfl (zI rfl _) (zM (vs := [u53, u70]) Tryz.func77 nm77 rfl rfl rfl ?_))
 refine dP (qK hX218.pins (hX218.pins) (hr54.mono (dN (dN (dN hle103 hlek127) hx164.le) hx181.le)) (hr72.mono (dN (dN (dN (dN (dN (dN hle10 hle23) hx50.le) hle103) hlek127) hx164.le) hx181.le)) (by omega) hi2) ?_
 rintro _ w231 ⟨u229, G230, rfl, ho232, hx233⟩
 refine ⟨_, rfl, ?_⟩
 have hX234 := hX218.tr hx233
 have ho235 := ho219.ext hx233
 have ho236 := ho220.ext hx233
 have ho237 := ho221.ext hx233
 have ho238 := ho222.ext hx233
 have hb239 := hb223.ext hx233
 have hb240 := hb224.ext hx233
 have ha241 : Apart u229.ownBlock atB.ownBlock := zV ho232.lt ho219.lt
 have ha242 : Apart u229.ownBlock uB.ownBlock := zV ho232.lt ho220.lt
 have ha243 : Apart u229.ownBlock vB.ownBlock := zV ho232.lt ho221.lt
 have ha244 : Apart u229.ownBlock u196.ownBlock := zV ho232.lt ho222.lt
 have ha245 : Apart u229.ownBlock (some b27) := yA ho232.lt hb223.lt
 have ha246 : Apart u229.ownBlock (some b35) := yA ho232.lt hb224.lt
 have ho247 := ho232.weaken hX218.size
 refine ⟨fun _ => (dO hX234.pins hx233.le), ?_⟩
 refine zQ (i := 11) (by kernel_rfl) (zU (i := 11) rfl rfl rfl (zI rfl _) (zM (vs := [atB, u225]) Tryz.func77 nm77 rfl rfl rfl ?_))
 refine dP (qK hX234.pins (Gadd.pins hX234.pins atB) ho235.read (hr226.mono (dN (dN (dN (dN (dN (dN (dN hle10 hle23) hx50.le) hle103) hlek127) hx164.le) hx181.le) hx233.le)) (by omega) hi4) ?_
 rintro _ w250 ⟨u248, G249, rfl, ho251, hx252⟩
 refine ⟨_, rfl, ?_⟩
 have hX253 := hX234.tr hx252
 have ho254 := ho235.ext hx252
 have ho255 := ho236.ext hx252
 have ho256 := ho237.ext hx252
 have ho257 := ho238.ext hx252
 have ho258 := ho247.ext hx252
 have hb259 := hb239.ext hx252
 have hb260 := hb240.ext hx252
 have ho268 := ho251.weaken hX234.size
 refine ⟨fun _ => (dO hX253.pins (dN hx233.le hx252.le)), ?_⟩
 refine zQ (i := 12) (by kernel_rfl) (zU (i := 12) rfl rfl rfl (zI rfl _) (zZ (E := eInt) (v := u229) (u := u248) 8 eU ap3 (by decide) rfl rfl hX253.pins ho258 ho268.src (by first | omega | (rw [List.nil_append]; omega) | (rw [List.length_nil]; omega) | (rw [List.length_append]; omega) | (simp; done) | (simp; omega) | (simp only [List.length_append, List.length_cons, List.length_nil]; omega)) (by first | omega | (rw [List.nil_append]; omega) | (rw [List.length_nil]; omega) | (rw [List.length_append]; omega) | (simp; done) | (simp; omega) | (simp only [List.length_append, List.length_cons, List.length_nil]; omega)) (hX253.size) (fun u269 w270 ho271 hp272 hg273 hw274 => ?_)))
 have hX275 := hX253.write hp272 hg273 ((yD ho258))
 have ho276 := ho254.keptA hg273 ha241.symm
 have ho277 := ho255.keptA hg273 ha242.symm
 have ho278 := ho256.keptA hg273 ha243.symm
 have ho279 := ho257.keptA hg273 ha244.symm
 have hb281 := hb259.keptA hg273 ha245.symm
 have hb282 := hb260.keptA hg273 ha246.symm
 have ha283 : Apart atB.ownBlock u269.ownBlock := zJ ha241.symm hw274 ho254.lt
 have ha284 : Apart uB.ownBlock u269.ownBlock := zJ ha242.symm hw274 ho255.lt
 have ha285 : Apart vB.ownBlock u269.ownBlock := zJ ha243.symm hw274 ho256.lt
 have ha286 : Apart u196.ownBlock u269.ownBlock := zJ ha244.symm hw274 ho257.lt
 have ha288 : Apart (some b27) u269.ownBlock := zP ha245.symm hw274 hb259.lt
 have ha289 : Apart (some b35) u269.ownBlock := zP ha246.symm hw274 hb260.lt
 have hm290 := la2 (atL ((addM ([]) ([]) fs).1) ((fs.getD ((fs.length : Int) - 1).toNat default).r)) (atL atsB ((gs.getD k5 default).r))
 refine ⟨fun _ => (dO hX275.pins (dN hx233.le hx252.le)), ?_⟩
 refine dT (i := 13) rfl rfl (by kernel_rfl) (fun _ _ => zD (v := u269) rfl) (dO hX275.pins (dN hx233.le hx252.le)) ?_
 refine yP (by kernel_rfl) (zA (zH ?_))
 refine qD rfl (zB (v := atB) rfl) (qD rfl (zB (v := (.pointer (some ⟨b35, 0, none⟩))) rfl) (qD rfl (zB (v := u196) rfl) (qD rfl (zB (v := u269) rfl) ?_)))
 obtain ⟨G291, hle294, hX293, hr292, hf295⟩ := ho279.sealed hX275
 have ho296 := ho276.moreO hle294 hf295 ha209
 have ho297 := ho277.moreO hle294 hf295 ha210
 have ho298 := ho278.moreO hle294 hf295 ha211
 have ho299 := ho271.moreO hle294 hf295 ha286.symm
 have hb300 := hb281.moreO hf295 ha213
 have hb301 := hb282.moreO hf295 ha214
 obtain ⟨G302, hle305, hX304, hr303, hf306⟩ := ho299.sealed hX293
 have ho307 := ho296.moreO hle305 hf306 ha283
 have ho308 := ho297.moreO hle305 hf306 ha284
 have ho309 := ho298.moreO hle305 hf306 ha285
 have hb310 := hb300.moreO hf306 ha288
 have hb311 := hb301.moreO hf306 ha289
 refine qI rfl (zM (vs := [(.pointer (some ⟨b35, 0, none⟩)), u196, u269]) Tryz.func78 nm78 rfl rfl rfl ?_)
 refine dP (mN hX304.pins ⟨hb311, ho308, ho309, ha142.symm, ha144.symm, ha140⟩ hokb.ar.ok (hr292.mono hle305) hr303 ⟨by rw [List.length_append]; omega, by rw [List.length_append]; omega⟩ (qH fun z hz => (List.mem_append.1 hz).elim (hof.1 z) (hol.1 z)) (qH fun z hz => (List.mem_append.1 hz).elim (hof2.1 z) (hor.1 z))) ?_
 rintro _ w315 ⟨u312, v313, G314, rfl, hbk316, hx317, hlu318, hlv319⟩
 refine ⟨_, rfl, ?_⟩
 have hin322 : ∀ i, inS b35 uB vB i → w.heap.size ≤ i ∨ noS i := fH (yC hlo44) hlo145 hlo146
 have hX323 := hX304.trans hx317 hin322
 have hn324 := notS (u := uB) (v := vB) ha139 ha136 ha137
 have ho325 := ho307.extS hx317 hn324
 have ha326 : Apart atB.ownBlock u312.ownBlock := xY hlu318 hn324 (qX ho307)
 have ha327 : Apart atB.ownBlock v313.ownBlock := xY hlv319 hn324 (qX ho307)
 have hn328 := notS (u := uB) (v := vB) ha43.symm ha141.symm ha143.symm
 have ho329 := hb310.extS hx317 (notSb hn328)
 have ha330 : Apart (some b27) u312.ownBlock := xY hlu318 hn328 (vO hb310)
 have ha331 : Apart (some b27) v313.ownBlock := xY hlv319 hn328 (vO hb310)
 have hb332 := hbk316.bx
 have ho333 := hbk316.ou
 have ho334 := hbk316.ov
 have ha335 := hbk316.abu
 have ha336 := hbk316.abv
 have ha337 := hbk316.auv
 have hlo338 := qP hlu318 hin322 hX304.size
 have hlo339 := qP hlv319 hin322 hX304.size
 refine qI rfl (yY (E := eInt) (e := 3) [(.int .i64 (putK nsB bsB ((atL ((addM ([]) ([]) fs).1) ((fs.getD ((fs.length : Int) - 1).toNat default).l)) ++ (atL atsB ((gs.getD k5 default).l))) ((atL ((addM ([]) ([]) fs).1) ((fs.getD ((fs.length : Int) - 1).toNat default).r)) ++ (atL atsB ((gs.getD k5 default).r)))))] [putK nsB bsB ((atL ((addM ([]) ([]) fs).1) ((fs.getD ((fs.length : Int) - 1).toNat default).l)) ++ (atL atsB ((gs.getD k5 default).l))) ((atL ((addM ([]) ([]) fs).1) ((fs.getD ((fs.length : Int) - 1).toNat default).r)) ++ (atL atsB ((gs.getD k5 default).r)))] eU sz3 zr3 (by exact xT (by rfl)) (yM (by rfl)) rfl rfl rfl rfl (by decide) hX323.pins (fun u340 w341 ho342 hp343 hl344 hk345 => ?_))
 have hX346 := hX323.step hp343 hl344
 have ho347 := ho325.below hl344
 have ho348 := ho333.below hl344
 have ho349 := ho334.below hl344
 have hb350 := ho329.below hl344
 have hb351 := hb332.below hl344
 have ho357 := ho342.weaken hX323.size
 refine qI rfl (zZ (E := eInt) (v := atB) (u := u340) 8 eU ap3 (by decide) rfl rfl hX346.pins ho347 ho357.src (by first | omega | (rw [List.nil_append]; omega) | (rw [List.length_nil]; omega) | (rw [List.length_append]; omega) | (simp; done) | (simp; omega) | (simp only [List.length_append, List.length_cons, List.length_nil]; omega)) (by first | omega | (rw [List.nil_append]; omega) | (rw [List.length_nil]; omega) | (rw [List.length_append]; omega) | (simp; done) | (simp; omega) | (simp only [List.length_append, List.length_cons, List.length_nil]; omega)) (hX346.size) (fun u358 w359 ho360 hp361 hg362 hw363 => ?_))
 have hX364 := hX346.write hp361 hg362 ((yD ho347))
 have ho365 := ho348.keptA hg362 ha326.symm
 have ho366 := ho349.keptA hg362 ha327.symm
 have hb368 := hb350.keptA hg362 ha138.symm
 have hb369 := hb351.keptA hg362 ha139.symm
 have ha370 : Apart u312.ownBlock u358.ownBlock := zJ ha326.symm hw363 ho348.lt
 have ha371 : Apart v313.ownBlock u358.ownBlock := zJ ha327.symm hw363 ho349.lt
 have ha373 : Apart (some b27) u358.ownBlock := zP ha138.symm hw363 hb350.lt
 have ha374 : Apart (some b35) u358.ownBlock := zP ha139.symm hw363 hb351.lt
 have hm375 := la1 atsB (putK nsB bsB ((atL ((addM ([]) ([]) fs).1) ((fs.getD ((fs.length : Int) - 1).toNat default).l)) ++ (atL atsB ((gs.getD k5 default).l))) ((atL ((addM ([]) ([]) fs).1) ((fs.getD ((fs.length : Int) - 1).toNat default).r)) ++ (atL atsB ((gs.getD k5 default).r))))
 refine qD rfl (zD (v := u358) rfl) (qe (yQ (zA (zH ?_))))
 refine qD rfl (zB (v := (.int .i64 (k5 : Int))) rfl) (qD rfl (yX rfl rfl (by omega)) (qD rfl (zD (v := (.int .i64 ((k5 : Int) + 1))) rfl) (qe (yS (⟨_, ?_, _, rfl, _, k5 + 1, u358, atsB ++ ([putK nsB bsB ((atL ((addM ([]) ([]) fs).1) ((fs.getD ((fs.length : Int) - 1).toNat default).l)) ++ (atL atsB ((gs.getD k5 default).l))) ((atL ((addM ([]) ([]) fs).1) ((fs.getD ((fs.length : Int) - 1).toNat default).r)) ++ (atL atsB ((gs.getD k5 default).r)))]), u312, v313, putN nsB bsB ((atL ((addM ([]) ([]) fs).1) ((fs.getD ((fs.length : Int) - 1).toNat default).l)) ++ (atL atsB ((gs.getD k5 default).l))) ((atL ((addM ([]) ([]) fs).1) ((fs.getD ((fs.length : Int) - 1).toNat default).r)) ++ (atL atsB ((gs.getD k5 default).r))), putB nsB bsB ((atL ((addM ([]) ([]) fs).1) ((fs.getD ((fs.length : Int) - 1).toNat default).l)) ++ (atL atsB ((gs.getD k5 default).l))) ((atL ((addM ([]) ([]) fs).1) ((fs.getD ((fs.length : Int) - 1).toNat default).r)) ++ (atL atsB ((gs.getD k5 default).r))), G314, (zC (x := 9) (zC (x := 8) (zC (x := 7) (zC (x := 6) (zC (x := 5) (zC (x := 4) (zX (x := 3) rfl) rfl) rfl) rfl) rfl) rfl) rfl), rfl, hX364, (dN (dN (dN (dN (dN (dN (dN hlek127 hx164.le) hx181.le) hx233.le) hx252.le) hle294) hle305) hx317.le), (by omega), hpt.ok, (hat0.px hpt.px hokb hpt.ok), (hnk.snoc hpt.px hokb hpt.ok hpt.pl (hpt.pd.trans (by rw [List.map_append, List.map_append, hof.2, hof2.2, hol.2, hor.2]; unfold gOf; rw [← hfi]; exact (ord_den hf.opts hg.opts (i := ((fs.length : Int) - 1).toNat) (k := k5) (by omega) (by omega))))), (by have := hpt.len; omega), ho360, ho365, ho366, hb368, hb369, ha370.symm, ha371.symm, ha373.symm, ha374.symm, ha337, ha330.symm, ha335.symm, ha331.symm, ha336.symm, hlo338, hlo339⟩)))))
 omega
 refine wp_exit (yI (yW (yV (zA (zG (zH ?_))))))
 have hkn : k5 = gs.length := by omega
 have hrt := hnk.at_ (i := gs.length - 1) (by omega)
 rw [show gs.length - 1 = ((atsB.length : Int) - 1).toNat by omega] at hrt
 have hgo : ordG (gOf fs) (den gs ((atsB.length : Int) - 1).toNat) = ordG (gOf fs) (gOf gs) := by rw [show ((atsB.length : Int) - 1).toNat = gs.length - 1 by omega]; rfl
 rw [hgo] at hrt
 refine qD rfl (zB (v := (.pointer (some ⟨b35, 0, none⟩))) rfl) (qD rfl (zB (v := atB) rfl) (qD rfl (zB (v := atB) rfl) (qD rfl (zT eU (v := atB) rfl hw131.read) (qD rfl (jA rfl rfl (by omega)) (qD rfl (zN eU sz3 (v := atB) rfl rfl hw131.read (by omega) (by omega)) (qD rfl (zO (r := atsB.getD ((atsB.length : Int) - 1).toNat 0) rfl ag3 (z := ((atsB.length : Int) - 1)) rfl hw131.read (Gadd.pins hX130.pins atB) (by omega) (by omega)) (qI rfl (zM (vs := [(.pointer (some ⟨b35, 0, none⟩)), (.int .i64 (atsB.getD ((atsB.length : Int) - 1).toNat 0))]) Tryz.func79 nm79 rfl rfl rfl ?_))))))))
 refine dP (fR hX130.pins ⟨hw135, hw132, hw133, ha142.symm, ha144.symm, ha140⟩ hokb.ar.ok hrt.1) ?_
 rintro _ w378 ⟨u376, G377, rfl, hr379, hx380⟩
 refine ⟨_, rfl, ?_⟩
 have hX381 := hX130.tr hx380
 have hb385 := hw134.ext hx380
 refine q0 rfl rfl rfl (o_stp (cs' := [u376]) (us := [u376]) (v := (.agg [u376].toArray)) sz26 rfl rfl rfl (yM hr379.one) hX381.pins hb385 (dQ rfl) rfl (fun w387 hb388 hp389 hg390 hz391 => ?_))
 have hX392 := hX381.write hp389 hg390 ((yC hlo34))
 refine qe (zA ?_)
 exact wp_ret (zY (qT (cs := [u376]) rfl rfl rfl ag26 sz26 (fun j u hj => by rw [Nat.zero_add]; exact hb388.cell hj) (⟨_, _, rfl, (by rw [← hrt.2, ← rD hokb hrt.1]; exact hr379), hX392⟩)))
theorem tJ {w : World} {G : Pin} {u v : Value} {fs gs : List Nd} (hP : Pins G w) (hu : RSl eNode G u fs) (hv : RSl eNode G v gs) :
  Calls Tryz.prog 10 [(.agg [u].toArray), (.agg [v].toArray)].toArray w fun e w' => ∃ (u : Value) (G' : Pin), e = .returned (.tuple #[(.agg [u].toArray), .bool (ordB fs gs)]) ∧ RSl eNode G' u (ordF fs gs) ∧ Ext noS G w G' w' := by
 refine yG (n := 17) Tryz.func10 Tryz.ntmps10 rfl rfl ?_
 have hX0 := exr noS hP
 refine zG (zH ?_)
 refine qI rfl (xW [u] (v := (.agg [u].toArray)) rfl rfl hX0.pins (fun b1 w2 hk3 hb4 hp5 hl6 => ?_))
 have hX7 := hX0.step hp5 hl6
 have hlo8 : w.heap.size ≤ b1 := by have := hX0.size; omega
 obtain ⟨G9, hle10, hX11, hbp12, hf13⟩ := hb4.shut hX7 hlo8
 refine qI rfl (xW [v] (v := (.agg [v].toArray)) rfl rfl hX11.pins (fun b14 w15 hk16 hb17 hp18 hl19 => ?_))
 have hX20 := hX11.step hp18 hl19
 have hlo21 : w.heap.size ≤ b14 := by have := hX11.size; omega
 obtain ⟨G22, hle23, hX24, hbp25, hf26⟩ := hb17.shut hX20 hlo21
 refine qI rfl (yO [(.slice none 0 0)] zr26 rfl hX24.pins (fun b27 w28 hk29 hb30 hp31 hl32 => ?_))
 have hX33 := hX24.step hp31 hl32
 have hlo34 : w.heap.size ≤ b27 := by have := hX24.size; omega
 refine qD rfl (zD (v := (.bool false)) rfl) (qe (zA (zG (zG (zH ?_)))))
 refine qD rfl (yJ (cs := [u]) ag26 sz26 rfl (fun j u hj => (dO hX33.pins hle23) _ _ _ (hbp12 _ _ (by simpa using hj)))) (qD rfl (yJ (cs := [v]) ag26 sz26 rfl (fun j u hj => hX33.pins _ _ _ (hbp25 _ _ (by simpa using hj)))) (qI rfl (zM (vs := [(.agg [u].toArray), (.agg [v].toArray)]) Tryz.func36 nm36 rfl rfl rfl ?_)))
 refine dP (l5Pair_spec hX33.pins (hu.mono (dN hle10 hle23)) (hv.mono (dN hle10 hle23))) ?_
 rintro _ w36 ⟨G35, rfl, hx37⟩
 refine ⟨_, rfl, ?_⟩
 have hX38 := hX33.tr hx37
 have hb39 := hb30.ext hx37
 refine qD rfl (qR rfl) (qe (zA ?_))
 refine vN rfl rfl (fun h40 => ?_) (fun h40 => ?_)
 refine wp_skip (zA (zG (zH ?_)))
 have hpp := pair_iff.1 h40
 have hga := hpp.a
 have hgb := hpp.b
 have hle := hpp.le
 have hla := hga.lo
 have hlb := hgb.lo
 have hha := hga.hi
 have hhb := hgb.hi
 refine qD rfl (yJ (cs := [u]) ag26 sz26 rfl (fun j u hj => (dO hX38.pins (dN hle23 hx37.le)) _ _ _ (hbp12 _ _ (by simpa using hj)))) (qD rfl (yJ (cs := [v]) ag26 sz26 rfl (fun j u hj => (dO hX38.pins hx37.le) _ _ _ (hbp25 _ _ (by simpa using hj)))) (qI rfl (zM (vs := [(.agg [u].toArray), (.agg [v].toArray)]) Tryz.func38 nm38 rfl rfl rfl ?_)))
 refine dP (mZ hX38.pins (hu.mono (dN (dN hle10 hle23) hx37.le)) (hv.mono (dN (dN hle10 hle23) hx37.le)) (jR hga) (jR hgb) ⟨by omega, by omega⟩ (by omega) (nH hga) (nH hgb)) ?_
 rintro _ w43 ⟨u41, G42, rfl, hr44, hx45⟩
 refine ⟨_, rfl, ?_⟩
 have hX46 := hX38.tr hx45
 have hb47 := hb39.ext hx45
 refine qI rfl (zM (vs := [(.agg [u41].toArray)]) Tryz.func37 nm37 rfl rfl rfl ?_)
 refine dP (l3If_spec hX46.pins hr44) ?_
 rintro _ w50 ⟨u48, G49, rfl, hr51, hx52⟩
 refine ⟨_, rfl, ?_⟩
 have hX53 := hX46.tr hx52
 have hb54 := hb47.ext hx52
 refine qD rfl (yR (v := (.agg [u48].toArray)) rfl rfl) (qD rfl (yR (v := (.bool (decP (FitsP (formG (ordG (gOf fs) (gOf gs))))))) rfl rfl) (q0 rfl rfl rfl (o_stp (cs' := [u48]) (us := [u48]) (v := (.agg [u48].toArray)) sz26 rfl rfl rfl (yM hr51.one) hX53.pins hb54 (dQ rfl) rfl (fun w55 hb56 hp57 hg58 hz59 => ?_))))
 have hX60 := hX53.write hp57 hg58 ((yC hlo34))
 refine qD rfl (zD (v := (.bool (decP (FitsP (formG (ordG (gOf fs) (gOf gs))))))) rfl) (qe (zA ?_))
 refine wp_ret (zY (jW (cs := [u48]) (v := (.bool (decP (FitsP (formG (ordG (gOf fs) (gOf gs))))))) rfl rfl rfl rfl rfl ag26 sz26 (fun j u hj => by rw [Nat.zero_add]; exact hb56.cell hj) ?_))
 obtain ⟨e1, e2⟩ := gP (pair_iff.2 hpp)
 rw [e1, e2]
 exact ⟨_, _, rfl, hr51, hX60⟩
 refine zG (zH ?_)
 refine qD rfl (xQ [(.slice none 0 0)] [(.slice none 0 0)] [] eW zr26 rfl pl26 rfl (fun _ h => by cases h) rfl) (q0 rfl rfl rfl (o_stp (cs' := [(.slice none 0 0)]) (us := [(.slice none 0 0)]) (v := (.agg [(.slice none 0 0)].toArray)) sz26 rfl rfl rfl (yM (by rfl)) hX38.pins hb39 (dQ rfl) rfl (fun w61 hb62 hp63 hg64 hz65 => ?_)))
 have hX66 := hX38.write hp63 hg64 ((yC hlo34))
 refine qD rfl (zD (v := (.bool false)) rfl) (qe (zA ?_))
 refine wp_ret (zY (jW (cs := [(.slice none 0 0)]) (v := (.bool false)) rfl rfl rfl rfl rfl ag26 sz26 (fun j u hj => by rw [Nat.zero_add]; exact hb62.cell hj) ?_))
 obtain ⟨e1, e2⟩ := ord_no (h40)
 rw [e1, e2]
 exact ⟨_, _, rfl, (qJ _ _), hX66⟩
theorem sK {w : World} {G : Pin} {p : Nat} {L R B : Value} {mm : PM} {q : PSt} (hP : Pins G w) (hpk : Pk 59 3 G w p L R B mm q) (hok : PoolOk q) {x : Value} {ats : List Int} {fa : Int} {gs : List Nd} (hx : RSl eInt G x ats) (hfa : PlaceOk q fa) (hat : NkOk q ats gs.length (den gs)) (hgo : OptsOk gs) (h1 : 1 ≤ gs.length) (hl : q.ns.length + gs.length ≤ 524288) :
  Calls Tryz.prog 33 [(.pointer (some ⟨p, 0, none⟩)), (.int .i64 fa), x].toArray w fun e w' => ∃ (z : Int) (L' R' B' : Value) (q' : PSt) (G' : Pin), e = .returned (.int .i64 z) ∧ Pk 59 3 G' w' p L' R' B' mm q' ∧ PoolOk q' ∧ PX q q' ∧ PLo w p L R B mm L' R' B' ∧ Ext (inP p L R B mm) G w G' w' ∧ PlaceOk q' z ∧ pd q' z = ordG (pd q fa) (gOf gs) ∧ q'.ns.length ≤ q.ns.length + gs.length := by
 refine yG (n := 90) Tryz.func33 Tryz.ntmps33 rfl rfl ?_
 have hX0 := exr (inP p L R B mm) hP
 have hpin : PIn w (inP p L R B mm) p L R B mm := PIn.self
 have hml1 := pkl q
 have hml2 := pkb hok
 have hm := hx.max
 have hatn := hat.len
 have hfa0 := hfa.1
 have hfa1 := hfa.2
 refine zG (zH ?_)
 refine qD rfl (zD (v := (.int .i64 0)) rfl) (qe (zA (zG (zH ?_))))
 refine qI rfl (jF (fun k : Int => Value.int .i64 k) (fun v : Int => Value.int .i64 v) hX0.pins (fun m3 w4 hk5 hm6 hp7 hl8 => ?_))
 have hX9 := hX0.step hp7 hl8
 have hpk10 := hpk.below hl8 hp7
 have hnp11 := hpk.new (x := some m3) (fun k hk => by cases hk; omega)
 have hlo12 : w.heap.size ≤ m3 := by have := hX0.size; omega
 refine qD rfl (zD (v := (.map (some m3))) rfl) (qe (zA (zG (zH ?_))))
 refine qD rfl (zB (v := (.int .i64 fa)) rfl) (qD rfl (zD (v := (.int .i64 fa)) rfl) (qe (zA (zG (zG (zH ?_))))))
 refine qD rfl (zB (v := x) rfl) (qD rfl (zT eU (v := x) rfl hx) (qD rfl (zB (v := (.int .i64 0)) rfl) (qe (zA ?_))))
 refine yH (yZ (fun (k : Nat) (en : Nat → Value) (W : World) => ∃ (env1 : Nat → Value) (k1 : Nat) (az : Int) (sm : List (Int × Int)) (L13 : Value) (R14 : Value) (B15 : Value) (q16 : PSt) (GL1 : Pin), en = (upd (upd (upd (upd (upd (upd (upd (upd env1 0 (.pointer (some ⟨p, 0, none⟩))) 1 (.int .i64 fa)) 6 (.int .i64 0)) 7 (.map (some m3))) 8 (.int .i64 az)) 19 x) 20 (.int .i64 (ats.length : Int))) 21 (.int .i64 (k1 : Int))) ∧ k = ats.length - k1 ∧ Ext (inP p L R B mm) G w GL1 W ∧ Pin.le G GL1 ∧ (k1 ≤ ats.length) ∧ (NkOk q16 ats gs.length (den gs)) ∧ (OmOk q16 sm ats k1 (pd q fa) gs) ∧ (1 ≤ k1 → PlaceOk q16 az ∧ pd q16 az = ordG (pd q fa) (den gs (k1 - 1))) ∧ (q16.ns.length ≤ q.ns.length + k1) ∧ (Mp (fun k : Int => Value.int .i64 k) (fun v : Int => Value.int .i64 v) W m3 (sm)) ∧ (Pk 59 3 GL1 W p L13 R14 B15 mm q16) ∧ (PIn w ((inP p L R B mm)) p L13 R14 B15 mm) ∧ (PoolOk q16) ∧ (PX q q16) ∧ (NP p L13 R14 B15 mm (some m3))) _ ⟨_, 0, fa, [], L, R, B, q, G, (zC (x := 21) (zC (x := 20) (zC (x := 19) (zC (x := 8) (zC (x := 7) (zC (x := 6) (zC (x := 1) (zX (x := 0) rfl) rfl) rfl) rfl) rfl) rfl) rfl) rfl), rfl, hX9, Pin.le_refl _, Nat.zero_le _, hat, OmOk.start, (fun h => absurd h (by omega)), Nat.le_refl _, hm6, hpk10, hpin, hok, (PX.refl _), hnp11⟩ ?_)
 rintro k17 _ w18 ⟨env1, k1, az, sm, L13, R14, B15, q16, GL1, rfl, hk19, hX20, hlek17, hk1, hatl, homl, haz, hnq, hm21, hpk22, hpin23, hok24, hpx25, hnp26⟩
 have hql27 := hpx25.len
 have hml28 := pkl q16
 have hml29 := pkb hok24
 refine zG (zH ?_)
 refine qD rfl (xB rfl rfl) (qe (zA (zG ?_)))
 refine yN (p := ((k1 : Int) : Int) < (ats.length : Int)) rfl rfl (fun h30 => ?_) (fun h30 => ?_)
 refine wp_skip (zA (zG ?_))
 refine yH (zG (zH ?_))
 have hZ := hatl.at_ (i := k1) (by omega)
 have hZ0 := hZ.1.1
 have hZ1 := hZ.1.2
 have hfl := hpx25.place hfa
 have hf0 := hfl.1
 have hf1 := hfl.2
 have hpf : pd q16 fa = pd q fa := hpx25.pd hok hok24 hfa
 have hlZ := len_half hok24 hZ.1
 have hlf := len_half hok24 hfl
 refine qD rfl (zN eU sz3 (v := x) rfl rfl hx (by omega) (by omega)) (qD rfl (zO (r := ats.getD k1 0) rfl ag3 (z := (k1 : Int)) rfl hx (dO hX20.pins hlek17) (by omega) (by omega)) (qD rfl (zD (v := (.int .i64 (ats.getD k1 0))) rfl) (qe (zA (zG ?_)))))
 have hq31 := Gadd.pins hX20.pins L13
 have hq32 := Gadd.pins hX20.pins R14
 have hr33 := hpk22.ol.read
 have hr34 := hpk22.rr.read
 refine xD (S := fun wz => BxR wz p [L13, R14, B15, (.map (some mm.f)), (.map (some mm.o)), (.map (some mm.c)), (.map (some mm.s)), (.map (some mm.n))] ∧ Pins (Gadd GL1 w18 L13) wz ∧ Pins (Gadd GL1 w18 R14) wz) (last := 20) (by kernel_rfl) rfl ?_
 have hl35 := bdr w18
 have hp36 := hX20.pins.below hl35
 have hX37 := hX20.step hp36 hl35
 have hm38 := hm21.below hl35
 have hpk39 := hpk22.below hl35 hp36
 have hq40 := hq31.below hl35
 have hq41 := hq32.below hl35
 refine dT (i := 1) rfl rfl (by kernel_rfl) (fun _ _ => zB (v := (.pointer (some ⟨p, 0, none⟩))) rfl) ⟨hpk39.bx.reads, hq40, hq41⟩ ?_
 refine dT (i := 2) rfl rfl (by kernel_rfl) (fun _ _ => xC rfl) ⟨hpk39.bx.reads, hq40, hq41⟩ ?_
 refine dT (i := 3) rfl rfl (by kernel_rfl) (fun _ _ => zR (k := 0) rfl eY rfl jK rfl) ⟨hpk39.bx.reads, hq40, hq41⟩ ?_
 refine dT (i := 4) rfl rfl (by kernel_rfl) (fun _ hS => zS (u := L13) vH rfl (hS.1 0 _ rfl)) ⟨hpk39.bx.reads, hq40, hq41⟩ ?_
 refine dT (i := 5) rfl rfl (by kernel_rfl) (fun _ _ => zB (v := (.int .i64 fa)) rfl) ⟨hpk39.bx.reads, hq40, hq41⟩ ?_
 refine dT (i := 6) rfl rfl (by kernel_rfl) (fun _ _ => zN dE sz59 (v := L13) rfl rfl hr33 (by omega) (by omega)) ⟨hpk39.bx.reads, hq40, hq41⟩ ?_
 obtain ⟨u42, hr43, hl44⟩ := vY (hpk22.ol.at (z := fa) (by omega) (by omega)) (j := (fa).toNat) rfl
 rw [jP] at hr43
 have hm45 := hr43.max
 refine dT (i := 7) rfl rfl (by kernel_rfl) (fun _ hS => hl44 ag59 rfl hS.2.1) ⟨hpk39.bx.reads, hq40, hq41⟩ ?_
 refine dT (i := 10) rfl rfl (by kernel_rfl) (fun _ _ => zB (v := (.pointer (some ⟨p, 0, none⟩))) rfl) ⟨hpk39.bx.reads, hq40, hq41⟩ ?_
 refine dT (i := 11) rfl rfl (by kernel_rfl) (fun _ _ => xC rfl) ⟨hpk39.bx.reads, hq40, hq41⟩ ?_
 refine dT (i := 12) rfl rfl (by kernel_rfl) (fun _ _ => zR (k := 1) rfl eY rfl jK rfl) ⟨hpk39.bx.reads, hq40, hq41⟩ ?_
 refine dT (i := 13) rfl rfl (by kernel_rfl) (fun _ hS => zS (u := R14) vH rfl (hS.1 1 _ rfl)) ⟨hpk39.bx.reads, hq40, hq41⟩ ?_
 refine dT (i := 14) rfl rfl (by kernel_rfl) (fun _ _ => zB (v := (.int .i64 fa)) rfl) ⟨hpk39.bx.reads, hq40, hq41⟩ ?_
 refine dT (i := 15) rfl rfl (by kernel_rfl) (fun _ _ => zN dE sz59 (v := R14) rfl rfl hr34 (by omega) (by omega)) ⟨hpk39.bx.reads, hq40, hq41⟩ ?_
 obtain ⟨u46, hr47, hl48⟩ := vY (hpk22.rr.at (z := fa) (by omega) (by omega)) (j := (fa).toNat) rfl
 rw [jO] at hr47
 have hm49 := hr47.max
 refine dT (i := 16) rfl rfl (by kernel_rfl) (fun _ hS => hl48 ag59 rfl hS.2.2) ⟨hpk39.bx.reads, hq40, hq41⟩ ?_
 refine qG (i := 0) (j := 9) (by kernel_rfl) ?_ ?_
 refine (zU (i := 0) rfl rfl rfl (zI rfl _) (xG (E := eInt) (e := 3) eU sz3 hX37.pins (fun u50 w51 ho52 hp53 hl54 hk55 => ?_)))
 have hX56 := hX37.step hp53 hl54
 have hm57 := hm38.below hl54
 have hpk58 := hpk39.below hl54 hp53
 have ha63 := hpk39.new (x := u50.ownBlock) (fun k hk => by rw [hk55] at hk; cases hk; exact Nat.le_refl _)
 have ho64 := ho52.weaken hX37.size
 have hq65 := hq40.below hl54
 have hq66 := hq41.below hl54
 refine ⟨fun _ => ⟨hpk58.bx.reads, hq65, hq66⟩, ?_⟩
 refine qG (i := 8) (j := 9) (by kernel_rfl) ?_ ?_
 refine (zU (i := 8) rfl rfl rfl (zI rfl _) (zZ (E := eInt) (v := u50) (u := u42) 8 eU ap3 (by decide) rfl rfl hX56.pins ho64 ((hr43.mono (Pin.le_refl _)).src hX56.pins (by decide)) (by first | omega | (rw [List.nil_append]; omega) | (rw [List.length_nil]; omega) | (rw [List.length_append]; omega) | (simp; done) | (simp; omega) | (simp only [List.length_append, List.length_cons, List.length_nil]; omega)) (by first | omega | (rw [List.nil_append]; omega) | (rw [List.length_nil]; omega) | (rw [List.length_append]; omega) | (simp; done) | (simp; omega) | (simp only [List.length_append, List.length_cons, List.length_nil]; omega)) (hX56.size) (fun u67 w68 ho69 hp70 hg71 hw72 => ?_)))
 have hX73 := hX56.write hp70 hg71 ((yD ho64))
 have hm74 := hm57.kept hg71 (yF hm57 ho64)
 have hpk75 := hpk58.kept hg71 hp70 ha63
 have hnp76 := qQ ha63 hpk58 hw72
 have hm77 := la2 ([]) ((q16.ns.getD (fa).toNat default).l)
 have hq78 := Gadd.turn hq65 (dO hX73.pins (Pin.le_refl _)) (Ext.one hp70 hg71) (notO (NP.hl ha63).symm)
 have hq79 := Gadd.turn hq66 (dO hX73.pins (Pin.le_refl _)) (Ext.one hp70 hg71) (notO (NP.hr ha63).symm)
 refine ⟨fun _ => ⟨hpk75.bx.reads, hq78, hq79⟩, ?_⟩
 refine zQ (i := 9) (by kernel_rfl) (zU (i := 9) rfl rfl rfl (zI rfl _) (xG (E := eInt) (e := 3) eU sz3 hX73.pins (fun u80 w81 ho82 hp83 hl84 hk85 => ?_)))
 have hX86 := hX73.step hp83 hl84
 have ho87 := ho69.below hl84
 have hm88 := hm74.below hl84
 have hpk89 := hpk75.below hl84 hp83
 have ha93 : Apart u80.ownBlock u67.ownBlock := zK hk85 ho69.lt
 have ha95 := hpk75.new (x := u80.ownBlock) (fun k hk => by rw [hk85] at hk; cases hk; exact Nat.le_refl _)
 have ho96 := ho82.weaken hX73.size
 have hq97 := hq78.below hl84
 have hq98 := hq79.below hl84
 refine ⟨fun _ => ⟨hpk89.bx.reads, hq97, hq98⟩, ?_⟩
 refine zQ (i := 17) (by kernel_rfl) (zU (i := 17) rfl rfl rfl (zI rfl _) (zZ (E := eInt) (v := u80) (u := u46) 8 eU ap3 (by decide) rfl rfl hX86.pins ho96 ((hr47.mono (Pin.le_refl _)).src hX86.pins (by decide)) (by first | omega | (rw [List.nil_append]; omega) | (rw [List.length_nil]; omega) | (rw [List.length_append]; omega) | (simp; done) | (simp; omega) | (simp only [List.length_append, List.length_cons, List.length_nil]; omega)) (by first | omega | (rw [List.nil_append]; omega) | (rw [List.length_nil]; omega) | (rw [List.length_append]; omega) | (simp; done) | (simp; omega) | (simp only [List.length_append, List.length_cons, List.length_nil]; omega)) (hX86.size) (fun u99 w100 ho101 hp102 hg103 hw104 => ?_)))
 have hX105 := hX86.write hp102 hg103 ((yD ho96))
 have ho106 := ho87.keptA hg103 ha93.symm
 have hm107 := hm88.kept hg103 (yF hm88 ho96)
 have hpk108 := hpk89.kept hg103 hp102 ha95
 have ha109 : Apart u67.ownBlock u99.ownBlock := zJ ha93.symm hw104 ho87.lt
 have hnp110 := qQ ha95 hpk89 hw104
 have hm111 := la2 ([]) ((q16.ns.getD (fa).toNat default).r)
 have hq112 := Gadd.turn hq97 (dO hX105.pins (Pin.le_refl _)) (Ext.one hp102 hg103) (notO (NP.hl ha95).symm)
 have hq113 := Gadd.turn hq98 (dO hX105.pins (Pin.le_refl _)) (Ext.one hp102 hg103) (notO (NP.hr ha95).symm)
 refine ⟨fun _ => ⟨hpk108.bx.reads, hq112, hq113⟩, ?_⟩
 refine dT (i := 18) rfl rfl (by kernel_rfl) (fun _ _ => zD (v := u67) rfl) ⟨hpk108.bx.reads, hq112, hq113⟩ ?_
 refine dT (i := 19) rfl rfl (by kernel_rfl) (fun _ _ => zD (v := u99) rfl) ⟨hpk108.bx.reads, hq112, hq113⟩ ?_
 refine yP (by kernel_rfl) (zA (zG (zG (zH ?_))))
 refine qD rfl (zB (v := (.pointer (some ⟨p, 0, none⟩))) rfl) (qD rfl (xC rfl) (qD rfl (zR (k := 0) rfl eY rfl jK rfl) (qD rfl (zS (u := L13) vH rfl (hpk108.bx.cell (o := 0) rfl)) (qD rfl (zB (v := (.int .i64 (ats.getD k1 0))) rfl) (qD rfl (zN dE sz59 (v := L13) rfl rfl hpk108.ol.read (by omega) (by omega)) ?_)))))
 obtain ⟨u114, hr115, hl116⟩ := vY (hpk108.ol.at (z := (ats.getD k1 0)) (by omega) (by omega)) (j := (ats.getD k1 0).toNat) rfl
 rw [jP] at hr115
 have hm117 := hr115.max
 refine qD rfl (hl116 ag59 rfl (Gadd.pins hX105.pins L13)) (qD rfl (zT eU (v := u114) rfl hr115) (qD rfl (zB (v := (.int .i64 0)) rfl) (qe (zA ?_))))
 refine yH (yZ (fun (k : Nat) (en : Nat → Value) (W : World) => ∃ (env1 : Nat → Value) (j2 : Nat) (lv2 : Value) (ls2 : List Int) (GL2 : Pin), en = (upd (upd (upd (upd (upd (upd (upd (upd (upd (upd (upd (upd (upd (upd env1 0 (.pointer (some ⟨p, 0, none⟩))) 1 (.int .i64 fa)) 6 (.int .i64 0)) 7 (.map (some m3))) 8 (.int .i64 az)) 10 (.int .i64 (ats.getD k1 0))) 11 lv2) 12 u99) 19 x) 20 (.int .i64 (ats.length : Int))) 21 (.int .i64 (k1 : Int))) 49 u114) 50 (.int .i64 (((q16.ns.getD (ats.getD k1 0).toNat default).l).length : Int))) 51 (.int .i64 (j2 : Int))) ∧ k = (q16.ns.getD ((ats.getD k1 0)).toNat default).l.length - j2 ∧ Ext (inP p L R B mm) G w GL2 W ∧ Pin.le GL1 GL2 ∧ (j2 ≤ (q16.ns.getD ((ats.getD k1 0)).toNat default).l.length) ∧ (GsOk q16 ls2 (((q16.ns.getD (fa).toNat default).l.map (pd q16)) ++ ((q16.ns.getD ((ats.getD k1 0)).toNat default).l.take j2).map (fun o => ordG (pd q fa) (pd q16 o)))) ∧ (Own eInt 3 GL2 W w.heap.size lv2 (ls2)) ∧ (Own eInt 3 GL2 W w.heap.size u99 (([]) ++ ((q16.ns.getD (fa).toNat default).r))) ∧ (Apart lv2.ownBlock u99.ownBlock) ∧ (Mp (fun k : Int => Value.int .i64 k) (fun v : Int => Value.int .i64 v) W m3 (sm)) ∧ (Pk 59 3 GL2 W p L13 R14 B15 mm q16) ∧ (NP p L13 R14 B15 mm lv2.ownBlock)) _ ⟨_, 0, u67, ([]) ++ ((q16.ns.getD (fa).toNat default).l), GL1, (zC (x := 51) (zC (x := 50) (zC (x := 49) (zC (x := 21) (zC (x := 20) (zC (x := 19) (zC (x := 12) (zC (x := 11) (zC (x := 10) (zC (x := 8) (zC (x := 7) (zC (x := 6) (zC (x := 1) (zX (x := 0) rfl) rfl) rfl) rfl) rfl) rfl) rfl) rfl) rfl) rfl) rfl) rfl) rfl) rfl), rfl, hX105, Pin.le_refl _, Nat.zero_le _, (by rw [List.take_zero, List.map_nil, List.append_nil]; exact ⟨fun z hz => (jB hok24 hfl).1 z (by simpa using hz), by simp⟩), ho106, ho101, ha109, hm107, hpk108, hnp76⟩ ?_)
 rintro k122 _ w123 ⟨env1, j2, lv2, ls2, GL2, rfl, hk124, hX125, hlek122, hkj2, hg2, hw126, hw127, ha128, hm129, hpk130, hnp131⟩
 have hgl2 := hg2.lenj hkj2
 rw [List.length_map] at hgl2
 refine zG (zH ?_)
 refine qD rfl (xB rfl rfl) (qe (zA (zG ?_)))
 refine yN (p := ((j2 : Int) : Int) < (((q16.ns.getD (ats.getD k1 0).toNat default).l).length : Int)) rfl rfl (fun h132 => ?_) (fun h132 => ?_)
 have hmj : (q16.ns.getD ((ats.getD k1 0)).toNat default).l.getD j2 0 ∈ (q16.ns.getD ((ats.getD k1 0)).toNat default).l := yT (show j2 < (q16.ns.getD ((ats.getD k1 0)).toNat default).l.length by omega)
 have hol := homl.opt hok24 hgo rfl hatl (show k1 < gs.length by omega) (Or.inl hmj)
 refine wp_skip (zA (zG ?_))
 refine yH (zG (zH ?_))
 refine qD rfl (zN eU sz3 (v := u114) rfl rfl hr115 (by omega) (by omega)) (qD rfl (zO (r := ((q16.ns.getD (ats.getD k1 0).toNat default).l).getD j2 0) rfl ag3 (z := (j2 : Int)) rfl hr115 (dO hX125.pins hlek122) (by omega) (by omega)) (qD rfl (zD (v := (.int .i64 (((q16.ns.getD (ats.getD k1 0).toNat default).l).getD j2 0))) rfl) (qe (zA (zH ?_)))))
 refine qD rfl (zB (v := lv2) rfl) (qD rfl (zB (v := (.map (some m3))) rfl) (qD rfl (zB (v := (.int .i64 (((q16.ns.getD (ats.getD k1 0).toNat default).l).getD j2 0))) rfl) (qD rfl (qN (k := (((q16.ns.getD (ats.getD k1 0).toNat default).l).getD j2 0)) (qS dB) dF zr3 hm129 rfl rfl) (qI rfl (yY (E := eInt) (e := 3) [(.int .i64 ((Go.GL.look sm (((q16.ns.getD (ats.getD k1 0).toNat default).l).getD j2 0)).getD 0))] [(Go.GL.look sm (((q16.ns.getD (ats.getD k1 0).toNat default).l).getD j2 0)).getD 0] eU sz3 zr3 (by exact xT (by rfl)) (yM (by rfl)) rfl rfl rfl rfl (by decide) hX125.pins (fun u133 w134 ho135 hp136 hl137 hk138 => ?_))))))
 have hX139 := hX125.step hp136 hl137
 have ho140 := hw126.below hl137
 have ho141 := hw127.below hl137
 have hm142 := hm129.below hl137
 have hpk143 := hpk130.below hl137 hp136
 have ho151 := ho135.weaken hX125.size
 refine qI rfl (zZ (E := eInt) (v := lv2) (u := u133) 8 eU ap3 (by decide) rfl rfl hX139.pins ho140 ho151.src (by first | omega | (rw [List.nil_append]; omega) | (rw [List.length_nil]; omega) | (rw [List.length_append]; omega) | (simp; done) | (simp; omega) | (simp only [List.length_append, List.length_cons, List.length_nil]; omega)) (by first | omega | (rw [List.nil_append]; omega) | (rw [List.length_nil]; omega) | (rw [List.length_append]; omega) | (simp; done) | (simp; omega) | (simp only [List.length_append, List.length_cons, List.length_nil]; omega)) (hX139.size) (fun u152 w153 ho154 hp155 hg156 hw157 => ?_))
 have hX158 := hX139.write hp155 hg156 ((yD ho140))
 have ho159 := ho141.keptA hg156 ha128.symm
 have hm161 := hm142.kept hg156 (yF hm142 ho140)
 have hpk162 := hpk143.kept hg156 hp155 hnp131
 have ha163 : Apart u99.ownBlock u152.ownBlock := zJ ha128.symm hw157 ho141.lt
 have hnp165 := qQ hnp131 hpk143 hw157
 have hm166 := la1 ls2 ((Go.GL.look sm (((q16.ns.getD (ats.getD k1 0).toNat default).l).getD j2 0)).getD 0)
 refine qD rfl (zD (v := u152) rfl) (qe (yQ (zA (zH ?_))))
 refine qD rfl (yX rfl rfl (by omega)) (qD rfl (zB (v := (.int .i64 ((j2 : Int) + 1))) rfl) (qe (yS (⟨_, ?_, _, rfl, _, j2 + 1, u152, ls2 ++ ([(Go.GL.look sm (((q16.ns.getD (ats.getD k1 0).toNat default).l).getD j2 0)).getD 0]), GL2, (zC (x := 51) (zC (x := 50) (zC (x := 49) (zC (x := 21) (zC (x := 20) (zC (x := 19) (zC (x := 12) (zC (x := 11) (zC (x := 10) (zC (x := 8) (zC (x := 7) (zC (x := 6) (zC (x := 1) (zX (x := 0) rfl) rfl) rfl) rfl) rfl) rfl) rfl) rfl) rfl) rfl) rfl) rfl) rfl) rfl), rfl, hX158, hlek122, (by omega), (hg2.next (PX.refl _) hok24 hok24 hol.1 (by omega) hol.2), ho154, ho159, ha163.symm, hm161, hpk162, hnp165⟩))))
 omega
 refine wp_exit (yI (yW (yV (zA (zG (zG (zH ?_)))))))
 refine qD rfl (zB (v := (.pointer (some ⟨p, 0, none⟩))) rfl) (qD rfl (xC rfl) (qD rfl (zR (k := 1) rfl eY rfl jK rfl) (qD rfl (zS (u := R14) vH rfl (hpk130.bx.cell (o := 1) rfl)) (qD rfl (zB (v := (.int .i64 (ats.getD k1 0))) rfl) (qD rfl (zN dE sz59 (v := R14) rfl rfl hpk130.rr.read (by omega) (by omega)) ?_)))))
 obtain ⟨u167, hr168, hl169⟩ := vY (hpk130.rr.at (z := (ats.getD k1 0)) (by omega) (by omega)) (j := (ats.getD k1 0).toNat) rfl
 rw [jO] at hr168
 have hm170 := hr168.max
 refine qD rfl (hl169 ag59 rfl (Gadd.pins hX125.pins R14)) (qD rfl (zT eU (v := u167) rfl hr168) (qD rfl (zB (v := (.int .i64 0)) rfl) (qe (zA ?_))))
 refine yH (yZ (fun (k : Nat) (en : Nat → Value) (W : World) => ∃ (env1 : Nat → Value) (j3 : Nat) (lv3 : Value) (ls3 : List Int) (GL3 : Pin), en = (upd (upd (upd (upd (upd (upd (upd (upd (upd (upd (upd (upd (upd (upd env1 0 (.pointer (some ⟨p, 0, none⟩))) 1 (.int .i64 fa)) 6 (.int .i64 0)) 7 (.map (some m3))) 8 (.int .i64 az)) 10 (.int .i64 (ats.getD k1 0))) 11 lv2) 12 lv3) 19 x) 20 (.int .i64 (ats.length : Int))) 21 (.int .i64 (k1 : Int))) 68 u167) 69 (.int .i64 (((q16.ns.getD (ats.getD k1 0).toNat default).r).length : Int))) 70 (.int .i64 (j3 : Int))) ∧ k = (q16.ns.getD ((ats.getD k1 0)).toNat default).r.length - j3 ∧ Ext (inP p L R B mm) G w GL3 W ∧ Pin.le GL2 GL3 ∧ (j3 ≤ (q16.ns.getD ((ats.getD k1 0)).toNat default).r.length) ∧ (GsOk q16 ls3 (((q16.ns.getD (fa).toNat default).r.map (pd q16)) ++ ((q16.ns.getD ((ats.getD k1 0)).toNat default).r.take j3).map (fun o => ordG (pd q fa) (pd q16 o)))) ∧ (Own eInt 3 GL3 W w.heap.size lv3 (ls3)) ∧ (Own eInt 3 GL3 W w.heap.size lv2 (ls2)) ∧ (Apart lv3.ownBlock lv2.ownBlock) ∧ (Mp (fun k : Int => Value.int .i64 k) (fun v : Int => Value.int .i64 v) W m3 (sm)) ∧ (Pk 59 3 GL3 W p L13 R14 B15 mm q16) ∧ (NP p L13 R14 B15 mm lv3.ownBlock)) _ ⟨_, 0, u99, ([]) ++ ((q16.ns.getD (fa).toNat default).r), GL2, (zC (x := 70) (zC (x := 69) (zC (x := 68) (zC (x := 21) (zC (x := 20) (zC (x := 19) (zC (x := 12) (zC (x := 11) (zC (x := 10) (zC (x := 8) (zC (x := 7) (zC (x := 6) (zC (x := 1) (zX (x := 0) rfl) rfl) rfl) rfl) rfl) rfl) rfl) rfl) rfl) rfl) rfl) rfl) rfl) rfl), rfl, hX125, Pin.le_refl _, Nat.zero_le _, (by rw [List.take_zero, List.map_nil, List.append_nil]; exact ⟨fun z hz => (jB hok24 hfl).2 z (by simpa using hz), by simp⟩), hw127, hw126, ha128.symm, hm129, hpk130, hnp110⟩ ?_)
 rintro k175 _ w176 ⟨env1, j3, lv3, ls3, GL3, rfl, hk177, hX178, hlek175, hkj3, hg3, hw179, hw180, ha181, hm182, hpk183, hnp184⟩
 have hgl3 := hg3.lenj hkj3
 rw [List.length_map] at hgl3
 refine zG (zH ?_)
 refine qD rfl (xB rfl rfl) (qe (zA (zG ?_)))
 refine yN (p := ((j3 : Int) : Int) < (((q16.ns.getD (ats.getD k1 0).toNat default).r).length : Int)) rfl rfl (fun h185 => ?_) (fun h185 => ?_)
 have hmj : (q16.ns.getD ((ats.getD k1 0)).toNat default).r.getD j3 0 ∈ (q16.ns.getD ((ats.getD k1 0)).toNat default).r := yT (show j3 < (q16.ns.getD ((ats.getD k1 0)).toNat default).r.length by omega)
 have hol := homl.opt hok24 hgo rfl hatl (show k1 < gs.length by omega) (Or.inr hmj)
 refine wp_skip (zA (zG ?_))
 refine yH (zG (zH ?_))
 refine qD rfl (zN eU sz3 (v := u167) rfl rfl hr168 (by omega) (by omega)) (qD rfl (zO (r := ((q16.ns.getD (ats.getD k1 0).toNat default).r).getD j3 0) rfl ag3 (z := (j3 : Int)) rfl hr168 (dO hX178.pins hlek175) (by omega) (by omega)) (qD rfl (zD (v := (.int .i64 (((q16.ns.getD (ats.getD k1 0).toNat default).r).getD j3 0))) rfl) (qe (zA (zH ?_)))))
 refine qD rfl (zB (v := lv3) rfl) (qD rfl (zB (v := (.map (some m3))) rfl) (qD rfl (zB (v := (.int .i64 (((q16.ns.getD (ats.getD k1 0).toNat default).r).getD j3 0))) rfl) (qD rfl (qN (k := (((q16.ns.getD (ats.getD k1 0).toNat default).r).getD j3 0)) (qS dB) dF zr3 hm182 rfl rfl) (qI rfl (yY (E := eInt) (e := 3) [(.int .i64 ((Go.GL.look sm (((q16.ns.getD (ats.getD k1 0).toNat default).r).getD j3 0)).getD 0))] [(Go.GL.look sm (((q16.ns.getD (ats.getD k1 0).toNat default).r).getD j3 0)).getD 0] eU sz3 zr3 (by exact xT (by rfl)) (yM (by rfl)) rfl rfl rfl rfl (by decide) hX178.pins (fun u186 w187 ho188 hp189 hl190 hk191 => ?_))))))
 have hX192 := hX178.step hp189 hl190
 have ho193 := hw179.below hl190
 have ho194 := hw180.below hl190
 have hm195 := hm182.below hl190
 have hpk196 := hpk183.below hl190 hp189
 have ho204 := ho188.weaken hX178.size
 refine qI rfl (zZ (E := eInt) (v := lv3) (u := u186) 8 eU ap3 (by decide) rfl rfl hX192.pins ho193 ho204.src (by first | omega | (rw [List.nil_append]; omega) | (rw [List.length_nil]; omega) | (rw [List.length_append]; omega) | (simp; done) | (simp; omega) | (simp only [List.length_append, List.length_cons, List.length_nil]; omega)) (by first | omega | (rw [List.nil_append]; omega) | (rw [List.length_nil]; omega) | (rw [List.length_append]; omega) | (simp; done) | (simp; omega) | (simp only [List.length_append, List.length_cons, List.length_nil]; omega)) (hX192.size) (fun u205 w206 ho207 hp208 hg209 hw210 => ?_))
 have hX211 := hX192.write hp208 hg209 ((yD ho193))
 have ho212 := ho194.keptA hg209 ha181.symm
 have hm214 := hm195.kept hg209 (yF hm195 ho193)
 have hpk215 := hpk196.kept hg209 hp208 hnp184
 have ha216 : Apart lv2.ownBlock u205.ownBlock := zJ ha181.symm hw210 ho194.lt
 have hnp218 := qQ hnp184 hpk196 hw210
 have hm219 := la1 ls3 ((Go.GL.look sm (((q16.ns.getD (ats.getD k1 0).toNat default).r).getD j3 0)).getD 0)
 refine qD rfl (zD (v := u205) rfl) (qe (yQ (zA (zH ?_))))
 refine qD rfl (yX rfl rfl (by omega)) (qD rfl (zB (v := (.int .i64 ((j3 : Int) + 1))) rfl) (qe (yS (⟨_, ?_, _, rfl, _, j3 + 1, u205, ls3 ++ ([(Go.GL.look sm (((q16.ns.getD (ats.getD k1 0).toNat default).r).getD j3 0)).getD 0]), GL3, (zC (x := 70) (zC (x := 69) (zC (x := 68) (zC (x := 21) (zC (x := 20) (zC (x := 19) (zC (x := 12) (zC (x := 11) (zC (x := 10) (zC (x := 8) (zC (x := 7) (zC (x := 6) (zC (x := 1) (zX (x := 0) rfl) rfl) rfl) rfl) rfl) rfl) rfl) rfl) rfl) rfl) rfl) rfl) rfl) rfl), rfl, hX211, hlek175, (by omega), (hg3.next (PX.refl _) hok24 hok24 hol.1 (by omega) hol.2), ho207, ho212, ha216.symm, hm214, hpk215, hnp218⟩))))
 omega
 refine wp_exit (yI (yW (yV (zA (zG (zH ?_))))))
 refine qD rfl (zB (v := (.pointer (some ⟨p, 0, none⟩))) rfl) (qD rfl (zB (v := lv2) rfl) (qD rfl (zB (v := lv3) rfl) ?_))
 obtain ⟨G220, hle223, hX222, hr221, hf224⟩ := hw180.sealed hX178
 have ho225 := hw179.moreO hle223 hf224 ha181
 have hpk226 := hpk183.moreO hle223 hf224 hnp131
 obtain ⟨G227, hle230, hX229, hr228, hf231⟩ := ho225.sealed hX222
 have hpk232 := hpk226.moreO hle230 hf231 hnp184
 have hj2n : j2 = (q16.ns.getD ((ats.getD k1 0)).toNat default).l.length := by omega
 have hj3n : j3 = (q16.ns.getD ((ats.getD k1 0)).toNat default).r.length := by omega
 have hg2d := hg2.done hj2n
 have hg3d := hg3.done hj3n
 refine qI rfl (zM (vs := [(.pointer (some ⟨p, 0, none⟩)), lv2, lv3]) Tryz.func72 nm72 rfl rfl rfl ?_)
 refine dP (fN hX229.pins hpk232 hok24 (hr221.mono hle230) hr228 (by omega) ⟨by omega, by omega⟩ (qH hg2d.pl) (qH hg3d.pl)) ?_
 rintro _ w243 ⟨z233, L238, R239, B240, q241, G242, rfl, hpk244, hok245, hpx246, hlo247, hx248, hpl234, hpd235, hqn236, hcm237⟩
 refine ⟨_, rfl, ?_⟩
 have hX249 := hX229.trans hx248 hpin23
 have hm250 := hm182.extS hx248 (NP.notb hnp26)
 have hnp251 := NP.call hnp26 hlo247 (fun j hj => by cases hj; exact hm182.lt)
 have hpin252 := PIn.call hpin23 hlo247 hX229.size
 have hql253 := hpx246.len
 have hml254 := pkl q241
 have hml255 := pkb hok245
 have hng : pd q241 z233 = ordG (pd q fa) (den gs k1) := by rw [hpd235, hg2d.eq, hg3d.eq, ← hZ.2, ← hpf]; exact mS hok24 hfl hZ.1
 refine qD rfl (zD (v := (.int .i64 z233)) rfl) (qe (zA (zH ?_)))
 refine qD rfl (zB (v := (.map (some m3))) rfl) (qD rfl (zB (v := (.int .i64 (ats.getD k1 0))) rfl) (qD rfl (zB (v := (.int .i64 z233)) rfl) (q0 rfl rfl rfl (qA (val := (fun v : Int => Value.int .i64 v)) (k := (ats.getD k1 0)) (v := z233) (qS dB) dF rfl rfl rfl hX249.pins hm250 (fun w256 hm257 hp258 hg259 hz260 => ?_)))))
 have hX261 := hX249.write hp258 hg259 ((yC hlo12))
 have hpk262 := hpk244.kept hg259 hp258 hnp251
 refine qe (yQ (zA (zH ?_)))
 refine qD rfl (yX rfl rfl (by omega)) (qD rfl (zB (v := (.int .i64 ((k1 : Int) + 1))) rfl) (qe (yS (⟨_, ?_, _, rfl, _, k1 + 1, z233, putE sm (ats.getD k1 0) z233, L238, R239, B240, q241, G242, (zC (x := 21) (zC (x := 20) (zC (x := 19) (zC (x := 8) (zC (x := 7) (zC (x := 6) (zC (x := 1) (zX (x := 0) rfl) rfl) rfl) rfl) rfl) rfl) rfl) rfl), rfl, hX261, (dN (dN (dN (dN (dN hlek17 hlek122) hlek175) hle223) hle230) hx248.le), (by omega), (hatl.px hpx246 hok24 hok245), ((homl.px hpx246 hok24 hok245).put (hatl.px hpx246 hok24 hok245) (by omega) hpl234 hng), (fun _ => ⟨hpl234, by rw [Nat.add_sub_cancel]; exact hng⟩), (by omega), hm257, hpk262, hpin252, hok245, (PX.trans hpx25 hpx246), hnp251⟩))))
 omega
 refine (zU (i := 9) rfl rfl rfl (zI rfl _) (xG (E := eInt) (e := 3) eU sz3 hX56.pins (fun u263 w264 ho265 hp266 hl267 hk268 => ?_)))
 have hX269 := hX56.step hp266 hl267
 have ho270 := ho64.below hl267
 have hm271 := hm57.below hl267
 have hpk272 := hpk58.below hl267 hp266
 have ha276 : Apart u263.ownBlock u50.ownBlock := zK hk268 ho64.lt
 have ha278 := hpk58.new (x := u263.ownBlock) (fun k hk => by rw [hk268] at hk; cases hk; exact Nat.le_refl _)
 have ho279 := ho265.weaken hX56.size
 have hq280 := hq65.below hl267
 have hq281 := hq66.below hl267
 refine ⟨fun _ => ⟨hpk272.bx.reads, hq280, hq281⟩, ?_⟩
 refine zQ (i := 8) (by kernel_rfl) (zU (i := 8) rfl rfl rfl (zI rfl _) (zZ (E := eInt) (v := u50) (u := u42) 8 eU ap3 (by decide) rfl rfl hX269.pins ho270 ((hr43.mono (Pin.le_refl _)).src hX269.pins (by decide)) (by first | omega | (rw [List.nil_append]; omega) | (rw [List.length_nil]; omega) | (rw [List.length_append]; omega) | (simp; done) | (simp; omega) | (simp only [List.length_append, List.length_cons, List.length_nil]; omega)) (by first | omega | (rw [List.nil_append]; omega) | (rw [List.length_nil]; omega) | (rw [List.length_append]; omega) | (simp; done) | (simp; omega) | (simp only [List.length_append, List.length_cons, List.length_nil]; omega)) (hX269.size) (fun u282 w283 ho284 hp285 hg286 hw287 => ?_)))
 have hX288 := hX269.write hp285 hg286 ((yD ho270))
 have ho289 := ho279.keptA hg286 ha276
 have hm290 := hm271.kept hg286 (yF hm271 ho270)
 have hpk291 := hpk272.kept hg286 hp285 ha63
 have ha292 : Apart u263.ownBlock u282.ownBlock := zJ ha276 hw287 ho279.lt
 have hnp293 := qQ ha63 hpk272 hw287
 have hm294 := la2 ([]) ((q16.ns.getD (fa).toNat default).l)
 have hq295 := Gadd.turn hq280 (dO hX288.pins (Pin.le_refl _)) (Ext.one hp285 hg286) (notO (NP.hl ha63).symm)
 have hq296 := Gadd.turn hq281 (dO hX288.pins (Pin.le_refl _)) (Ext.one hp285 hg286) (notO (NP.hr ha63).symm)
 refine ⟨fun _ => ⟨hpk291.bx.reads, hq295, hq296⟩, ?_⟩
 refine zQ (i := 17) (by kernel_rfl) (zU (i := 17) rfl rfl rfl (zI rfl _) (zZ (E := eInt) (v := u263) (u := u46) 8 eU ap3 (by decide) rfl rfl hX288.pins ho289 ((hr47.mono (Pin.le_refl _)).src hX288.pins (by decide)) (by first | omega | (rw [List.nil_append]; omega) | (rw [List.length_nil]; omega) | (rw [List.length_append]; omega) | (simp; done) | (simp; omega) | (simp only [List.length_append, List.length_cons, List.length_nil]; omega)) (by first | omega | (rw [List.nil_append]; omega) | (rw [List.length_nil]; omega) | (rw [List.length_append]; omega) | (simp; done) | (simp; omega) | (simp only [List.length_append, List.length_cons, List.length_nil]; omega)) (hX288.size) (fun u297 w298 ho299 hp300 hg301 hw302 => ?_)))
 have hX303 := hX288.write hp300 hg301 ((yD ho289))
 have ho304 := ho284.keptA hg301 ha292.symm
 have hm305 := hm290.kept hg301 (yF hm290 ho289)
 have hpk306 := hpk291.kept hg301 hp300 ha278
 have ha307 : Apart u282.ownBlock u297.ownBlock := zJ ha292.symm hw302 ho284.lt
 have hnp308 := qQ ha278 hpk291 hw302
 have hm309 := la2 ([]) ((q16.ns.getD (fa).toNat default).r)
 have hq310 := Gadd.turn hq295 (dO hX303.pins (Pin.le_refl _)) (Ext.one hp300 hg301) (notO (NP.hl ha278).symm)
 have hq311 := Gadd.turn hq296 (dO hX303.pins (Pin.le_refl _)) (Ext.one hp300 hg301) (notO (NP.hr ha278).symm)
 refine ⟨fun _ => ⟨hpk306.bx.reads, hq310, hq311⟩, ?_⟩
 refine dT (i := 18) rfl rfl (by kernel_rfl) (fun _ _ => zD (v := u282) rfl) ⟨hpk306.bx.reads, hq310, hq311⟩ ?_
 refine dT (i := 19) rfl rfl (by kernel_rfl) (fun _ _ => zD (v := u297) rfl) ⟨hpk306.bx.reads, hq310, hq311⟩ ?_
 refine yP (by kernel_rfl) (zA (zG (zG (zH ?_))))
 refine qD rfl (zB (v := (.pointer (some ⟨p, 0, none⟩))) rfl) (qD rfl (xC rfl) (qD rfl (zR (k := 0) rfl eY rfl jK rfl) (qD rfl (zS (u := L13) vH rfl (hpk306.bx.cell (o := 0) rfl)) (qD rfl (zB (v := (.int .i64 (ats.getD k1 0))) rfl) (qD rfl (zN dE sz59 (v := L13) rfl rfl hpk306.ol.read (by omega) (by omega)) ?_)))))
 obtain ⟨u312, hr313, hl314⟩ := vY (hpk306.ol.at (z := (ats.getD k1 0)) (by omega) (by omega)) (j := (ats.getD k1 0).toNat) rfl
 rw [jP] at hr313
 have hm315 := hr313.max
 refine qD rfl (hl314 ag59 rfl (Gadd.pins hX303.pins L13)) (qD rfl (zT eU (v := u312) rfl hr313) (qD rfl (zB (v := (.int .i64 0)) rfl) (qe (zA ?_))))
 refine yH (yZ (fun (k : Nat) (en : Nat → Value) (W : World) => ∃ (env1 : Nat → Value) (j2 : Nat) (lv2 : Value) (ls2 : List Int) (GL2 : Pin), en = (upd (upd (upd (upd (upd (upd (upd (upd (upd (upd (upd (upd (upd (upd env1 0 (.pointer (some ⟨p, 0, none⟩))) 1 (.int .i64 fa)) 6 (.int .i64 0)) 7 (.map (some m3))) 8 (.int .i64 az)) 10 (.int .i64 (ats.getD k1 0))) 11 lv2) 12 u297) 19 x) 20 (.int .i64 (ats.length : Int))) 21 (.int .i64 (k1 : Int))) 49 u312) 50 (.int .i64 (((q16.ns.getD (ats.getD k1 0).toNat default).l).length : Int))) 51 (.int .i64 (j2 : Int))) ∧ k = (q16.ns.getD ((ats.getD k1 0)).toNat default).l.length - j2 ∧ Ext (inP p L R B mm) G w GL2 W ∧ Pin.le GL1 GL2 ∧ (j2 ≤ (q16.ns.getD ((ats.getD k1 0)).toNat default).l.length) ∧ (GsOk q16 ls2 (((q16.ns.getD (fa).toNat default).l.map (pd q16)) ++ ((q16.ns.getD ((ats.getD k1 0)).toNat default).l.take j2).map (fun o => ordG (pd q fa) (pd q16 o)))) ∧ (Own eInt 3 GL2 W w.heap.size lv2 (ls2)) ∧ (Own eInt 3 GL2 W w.heap.size u297 (([]) ++ ((q16.ns.getD (fa).toNat default).r))) ∧ (Apart lv2.ownBlock u297.ownBlock) ∧ (Mp (fun k : Int => Value.int .i64 k) (fun v : Int => Value.int .i64 v) W m3 (sm)) ∧ (Pk 59 3 GL2 W p L13 R14 B15 mm q16) ∧ (NP p L13 R14 B15 mm lv2.ownBlock)) _ ⟨_, 0, u282, ([]) ++ ((q16.ns.getD (fa).toNat default).l), GL1, (zC (x := 51) (zC (x := 50) (zC (x := 49) (zC (x := 21) (zC (x := 20) (zC (x := 19) (zC (x := 12) (zC (x := 11) (zC (x := 10) (zC (x := 8) (zC (x := 7) (zC (x := 6) (zC (x := 1) (zX (x := 0) rfl) rfl) rfl) rfl) rfl) rfl) rfl) rfl) rfl) rfl) rfl) rfl) rfl) rfl), rfl, hX303, Pin.le_refl _, Nat.zero_le _, (by rw [List.take_zero, List.map_nil, List.append_nil]; exact ⟨fun z hz => (jB hok24 hfl).1 z (by simpa using hz), by simp⟩), ho304, ho299, ha307, hm305, hpk306, hnp293⟩ ?_)
 rintro k320 _ w321 ⟨env1, j2, lv2, ls2, GL2, rfl, hk322, hX323, hlek320, hkj2, hg2, hw324, hw325, ha326, hm327, hpk328, hnp329⟩
 have hgl2 := hg2.lenj hkj2
 rw [List.length_map] at hgl2
 refine zG (zH ?_)
 refine qD rfl (xB rfl rfl) (qe (zA (zG ?_)))
 refine yN (p := ((j2 : Int) : Int) < (((q16.ns.getD (ats.getD k1 0).toNat default).l).length : Int)) rfl rfl (fun h330 => ?_) (fun h330 => ?_)
 have hmj : (q16.ns.getD ((ats.getD k1 0)).toNat default).l.getD j2 0 ∈ (q16.ns.getD ((ats.getD k1 0)).toNat default).l := yT (show j2 < (q16.ns.getD ((ats.getD k1 0)).toNat default).l.length by omega)
 have hol := homl.opt hok24 hgo rfl hatl (show k1 < gs.length by omega) (Or.inl hmj)
 refine wp_skip (zA (zG ?_))
 refine yH (zG (zH ?_))
 refine qD rfl (zN eU sz3 (v := u312) rfl rfl hr313 (by omega) (by omega)) (qD rfl (zO (r := ((q16.ns.getD (ats.getD k1 0).toNat default).l).getD j2 0) rfl ag3 (z := (j2 : Int)) rfl hr313 (dO hX323.pins hlek320) (by omega) (by omega)) (qD rfl (zD (v := (.int .i64 (((q16.ns.getD (ats.getD k1 0).toNat default).l).getD j2 0))) rfl) (qe (zA (zH ?_)))))
 refine qD rfl (zB (v := lv2) rfl) (qD rfl (zB (v := (.map (some m3))) rfl) (qD rfl (zB (v := (.int .i64 (((q16.ns.getD (ats.getD k1 0).toNat default).l).getD j2 0))) rfl) (qD rfl (qN (k := (((q16.ns.getD (ats.getD k1 0).toNat default).l).getD j2 0)) (qS dB) dF zr3 hm327 rfl rfl) (qI rfl (yY (E := eInt) (e := 3) [(.int .i64 ((Go.GL.look sm (((q16.ns.getD (ats.getD k1 0).toNat default).l).getD j2 0)).getD 0))] [(Go.GL.look sm (((q16.ns.getD (ats.getD k1 0).toNat default).l).getD j2 0)).getD 0] eU sz3 zr3 (by exact xT (by rfl)) (yM (by rfl)) rfl rfl rfl rfl (by decide) hX323.pins (fun u331 w332 ho333 hp334 hl335 hk336 => ?_))))))
 have hX337 := hX323.step hp334 hl335
 have ho338 := hw324.below hl335
 have ho339 := hw325.below hl335
 have hm340 := hm327.below hl335
 have hpk341 := hpk328.below hl335 hp334
 have ho349 := ho333.weaken hX323.size
 refine qI rfl (zZ (E := eInt) (v := lv2) (u := u331) 8 eU ap3 (by decide) rfl rfl hX337.pins ho338 ho349.src (by first | omega | (rw [List.nil_append]; omega) | (rw [List.length_nil]; omega) | (rw [List.length_append]; omega) | (simp; done) | (simp; omega) | (simp only [List.length_append, List.length_cons, List.length_nil]; omega)) (by first | omega | (rw [List.nil_append]; omega) | (rw [List.length_nil]; omega) | (rw [List.length_append]; omega) | (simp; done) | (simp; omega) | (simp only [List.length_append, List.length_cons, List.length_nil]; omega)) (hX337.size) (fun u350 w351 ho352 hp353 hg354 hw355 => ?_))
 have hX356 := hX337.write hp353 hg354 ((yD ho338))
 have ho357 := ho339.keptA hg354 ha326.symm
 have hm359 := hm340.kept hg354 (yF hm340 ho338)
 have hpk360 := hpk341.kept hg354 hp353 hnp329
 have ha361 : Apart u297.ownBlock u350.ownBlock := zJ ha326.symm hw355 ho339.lt
 have hnp363 := qQ hnp329 hpk341 hw355
 have hm364 := la1 ls2 ((Go.GL.look sm (((q16.ns.getD (ats.getD k1 0).toNat default).l).getD j2 0)).getD 0)
 refine qD rfl (zD (v := u350) rfl) (qe (yQ (zA (zH ?_))))
 refine qD rfl (yX rfl rfl (by omega)) (qD rfl (zB (v := (.int .i64 ((j2 : Int) + 1))) rfl) (qe (yS (⟨_, ?_, _, rfl, _, j2 + 1, u350, ls2 ++ ([(Go.GL.look sm (((q16.ns.getD (ats.getD k1 0).toNat default).l).getD j2 0)).getD 0]), GL2, (zC (x := 51) (zC (x := 50) (zC (x := 49) (zC (x := 21) (zC (x := 20) (zC (x := 19) (zC (x := 12) (zC (x := 11) (zC (x := 10) (zC (x := 8) (zC (x := 7) (zC (x := 6) (zC (x := 1) (zX (x := 0) rfl) rfl) rfl) rfl) rfl) rfl) rfl) rfl) rfl) rfl) rfl) rfl) rfl) rfl), rfl, hX356, hlek320, (by omega), (hg2.next (PX.refl _) hok24 hok24 hol.1 (by omega) hol.2), ho352, ho357, ha361.symm, hm359, hpk360, hnp363⟩))))
 omega
 refine wp_exit (yI (yW (yV (zA (zG (zG (zH ?_)))))))
 refine qD rfl (zB (v := (.pointer (some ⟨p, 0, none⟩))) rfl) (qD rfl (xC rfl) (qD rfl (zR (k := 1) rfl eY rfl jK rfl) (qD rfl (zS (u := R14) vH rfl (hpk328.bx.cell (o := 1) rfl)) (qD rfl (zB (v := (.int .i64 (ats.getD k1 0))) rfl) (qD rfl (zN dE sz59 (v := R14) rfl rfl hpk328.rr.read (by omega) (by omega)) ?_)))))
 obtain ⟨u365, hr366, hl367⟩ := vY (hpk328.rr.at (z := (ats.getD k1 0)) (by omega) (by omega)) (j := (ats.getD k1 0).toNat) rfl
 rw [jO] at hr366
 have hm368 := hr366.max
 refine qD rfl (hl367 ag59 rfl (Gadd.pins hX323.pins R14)) (qD rfl (zT eU (v := u365) rfl hr366) (qD rfl (zB (v := (.int .i64 0)) rfl) (qe (zA ?_))))
 refine yH (yZ (fun (k : Nat) (en : Nat → Value) (W : World) => ∃ (env1 : Nat → Value) (j3 : Nat) (lv3 : Value) (ls3 : List Int) (GL3 : Pin), en = (upd (upd (upd (upd (upd (upd (upd (upd (upd (upd (upd (upd (upd (upd env1 0 (.pointer (some ⟨p, 0, none⟩))) 1 (.int .i64 fa)) 6 (.int .i64 0)) 7 (.map (some m3))) 8 (.int .i64 az)) 10 (.int .i64 (ats.getD k1 0))) 11 lv2) 12 lv3) 19 x) 20 (.int .i64 (ats.length : Int))) 21 (.int .i64 (k1 : Int))) 68 u365) 69 (.int .i64 (((q16.ns.getD (ats.getD k1 0).toNat default).r).length : Int))) 70 (.int .i64 (j3 : Int))) ∧ k = (q16.ns.getD ((ats.getD k1 0)).toNat default).r.length - j3 ∧ Ext (inP p L R B mm) G w GL3 W ∧ Pin.le GL2 GL3 ∧ (j3 ≤ (q16.ns.getD ((ats.getD k1 0)).toNat default).r.length) ∧ (GsOk q16 ls3 (((q16.ns.getD (fa).toNat default).r.map (pd q16)) ++ ((q16.ns.getD ((ats.getD k1 0)).toNat default).r.take j3).map (fun o => ordG (pd q fa) (pd q16 o)))) ∧ (Own eInt 3 GL3 W w.heap.size lv3 (ls3)) ∧ (Own eInt 3 GL3 W w.heap.size lv2 (ls2)) ∧ (Apart lv3.ownBlock lv2.ownBlock) ∧ (Mp (fun k : Int => Value.int .i64 k) (fun v : Int => Value.int .i64 v) W m3 (sm)) ∧ (Pk 59 3 GL3 W p L13 R14 B15 mm q16) ∧ (NP p L13 R14 B15 mm lv3.ownBlock)) _ ⟨_, 0, u297, ([]) ++ ((q16.ns.getD (fa).toNat default).r), GL2, (zC (x := 70) (zC (x := 69) (zC (x := 68) (zC (x := 21) (zC (x := 20) (zC (x := 19) (zC (x := 12) (zC (x := 11) (zC (x := 10) (zC (x := 8) (zC (x := 7) (zC (x := 6) (zC (x := 1) (zX (x := 0) rfl) rfl) rfl) rfl) rfl) rfl) rfl) rfl) rfl) rfl) rfl) rfl) rfl) rfl), rfl, hX323, Pin.le_refl _, Nat.zero_le _, (by rw [List.take_zero, List.map_nil, List.append_nil]; exact ⟨fun z hz => (jB hok24 hfl).2 z (by simpa using hz), by simp⟩), hw325, hw324, ha326.symm, hm327, hpk328, hnp308⟩ ?_)
 rintro k373 _ w374 ⟨env1, j3, lv3, ls3, GL3, rfl, hk375, hX376, hlek373, hkj3, hg3, hw377, hw378, ha379, hm380, hpk381, hnp382⟩
 have hgl3 := hg3.lenj hkj3
 rw [List.length_map] at hgl3
 refine zG (zH ?_)
 refine qD rfl (xB rfl rfl) (qe (zA (zG ?_)))
 refine yN (p := ((j3 : Int) : Int) < (((q16.ns.getD (ats.getD k1 0).toNat default).r).length : Int)) rfl rfl (fun h383 => ?_) (fun h383 => ?_)
 have hmj : (q16.ns.getD ((ats.getD k1 0)).toNat default).r.getD j3 0 ∈ (q16.ns.getD ((ats.getD k1 0)).toNat default).r := yT (show j3 < (q16.ns.getD ((ats.getD k1 0)).toNat default).r.length by omega)
 have hol := homl.opt hok24 hgo rfl hatl (show k1 < gs.length by omega) (Or.inr hmj)
 refine wp_skip (zA (zG ?_))
 refine yH (zG (zH ?_))
 refine qD rfl (zN eU sz3 (v := u365) rfl rfl hr366 (by omega) (by omega)) (qD rfl (zO (r := ((q16.ns.getD (ats.getD k1 0).toNat default).r).getD j3 0) rfl ag3 (z := (j3 : Int)) rfl hr366 (dO hX376.pins hlek373) (by omega) (by omega)) (qD rfl (zD (v := (.int .i64 (((q16.ns.getD (ats.getD k1 0).toNat default).r).getD j3 0))) rfl) (qe (zA (zH ?_)))))
 refine qD rfl (zB (v := lv3) rfl) (qD rfl (zB (v := (.map (some m3))) rfl) (qD rfl (zB (v := (.int .i64 (((q16.ns.getD (ats.getD k1 0).toNat default).r).getD j3 0))) rfl) (qD rfl (qN (k := (((q16.ns.getD (ats.getD k1 0).toNat default).r).getD j3 0)) (qS dB) dF zr3 hm380 rfl rfl) (qI rfl (yY (E := eInt) (e := 3) [(.int .i64 ((Go.GL.look sm (((q16.ns.getD (ats.getD k1 0).toNat default).r).getD j3 0)).getD 0))] [(Go.GL.look sm (((q16.ns.getD (ats.getD k1 0).toNat default).r).getD j3 0)).getD 0] eU sz3 zr3 (by exact xT (by rfl)) (yM (by rfl)) rfl rfl rfl rfl (by decide) hX376.pins (fun u384 w385 ho386 hp387 hl388 hk389 => ?_))))))
 have hX390 := hX376.step hp387 hl388
 have ho391 := hw377.below hl388
 have ho392 := hw378.below hl388
 have hm393 := hm380.below hl388
 have hpk394 := hpk381.below hl388 hp387
 have ho402 := ho386.weaken hX376.size
 refine qI rfl (zZ (E := eInt) (v := lv3) (u := u384) 8 eU ap3 (by decide) rfl rfl hX390.pins ho391 ho402.src (by first | omega | (rw [List.nil_append]; omega) | (rw [List.length_nil]; omega) | (rw [List.length_append]; omega) | (simp; done) | (simp; omega) | (simp only [List.length_append, List.length_cons, List.length_nil]; omega)) (by first | omega | (rw [List.nil_append]; omega) | (rw [List.length_nil]; omega) | (rw [List.length_append]; omega) | (simp; done) | (simp; omega) | (simp only [List.length_append, List.length_cons, List.length_nil]; omega)) (hX390.size) (fun u403 w404 ho405 hp406 hg407 hw408 => ?_))
 have hX409 := hX390.write hp406 hg407 ((yD ho391))
 have ho410 := ho392.keptA hg407 ha379.symm
 have hm412 := hm393.kept hg407 (yF hm393 ho391)
 have hpk413 := hpk394.kept hg407 hp406 hnp382
 have ha414 : Apart lv2.ownBlock u403.ownBlock := zJ ha379.symm hw408 ho392.lt
 have hnp416 := qQ hnp382 hpk394 hw408
 have hm417 := la1 ls3 ((Go.GL.look sm (((q16.ns.getD (ats.getD k1 0).toNat default).r).getD j3 0)).getD 0)
 refine qD rfl (zD (v := u403) rfl) (qe (yQ (zA (zH ?_))))
 refine qD rfl (yX rfl rfl (by omega)) (qD rfl (zB (v := (.int .i64 ((j3 : Int) + 1))) rfl) (qe (yS (⟨_, ?_, _, rfl, _, j3 + 1, u403, ls3 ++ ([(Go.GL.look sm (((q16.ns.getD (ats.getD k1 0).toNat default).r).getD j3 0)).getD 0]), GL3, (zC (x := 70) (zC (x := 69) (zC (x := 68) (zC (x := 21) (zC (x := 20) (zC (x := 19) (zC (x := 12) (zC (x := 11) (zC (x := 10) (zC (x := 8) (zC (x := 7) (zC (x := 6) (zC (x := 1) (zX (x := 0) rfl) rfl) rfl) rfl) rfl) rfl) rfl) rfl) rfl) rfl) rfl) rfl) rfl) rfl), rfl, hX409, hlek373, (by omega), (hg3.next (PX.refl _) hok24 hok24 hol.1 (by omega) hol.2), ho405, ho410, ha414.symm, hm412, hpk413, hnp416⟩))))
 omega
 refine wp_exit (yI (yW (yV (zA (zG (zH ?_))))))
 refine qD rfl (zB (v := (.pointer (some ⟨p, 0, none⟩))) rfl) (qD rfl (zB (v := lv2) rfl) (qD rfl (zB (v := lv3) rfl) ?_))
 obtain ⟨G418, hle421, hX420, hr419, hf422⟩ := hw378.sealed hX376
 have ho423 := hw377.moreO hle421 hf422 ha379
 have hpk424 := hpk381.moreO hle421 hf422 hnp329
 obtain ⟨G425, hle428, hX427, hr426, hf429⟩ := ho423.sealed hX420
 have hpk430 := hpk424.moreO hle428 hf429 hnp382
 have hj2n : j2 = (q16.ns.getD ((ats.getD k1 0)).toNat default).l.length := by omega
 have hj3n : j3 = (q16.ns.getD ((ats.getD k1 0)).toNat default).r.length := by omega
 have hg2d := hg2.done hj2n
 have hg3d := hg3.done hj3n
 refine qI rfl (zM (vs := [(.pointer (some ⟨p, 0, none⟩)), lv2, lv3]) Tryz.func72 nm72 rfl rfl rfl ?_)
 refine dP (fN hX427.pins hpk430 hok24 (hr419.mono hle428) hr426 (by omega) ⟨by omega, by omega⟩ (qH hg2d.pl) (qH hg3d.pl)) ?_
 rintro _ w441 ⟨z431, L436, R437, B438, q439, G440, rfl, hpk442, hok443, hpx444, hlo445, hx446, hpl432, hpd433, hqn434, hcm435⟩
 refine ⟨_, rfl, ?_⟩
 have hX447 := hX427.trans hx446 hpin23
 have hm448 := hm380.extS hx446 (NP.notb hnp26)
 have hnp449 := NP.call hnp26 hlo445 (fun j hj => by cases hj; exact hm380.lt)
 have hpin450 := PIn.call hpin23 hlo445 hX427.size
 have hql451 := hpx444.len
 have hml452 := pkl q439
 have hml453 := pkb hok443
 have hng : pd q439 z431 = ordG (pd q fa) (den gs k1) := by rw [hpd433, hg2d.eq, hg3d.eq, ← hZ.2, ← hpf]; exact mS hok24 hfl hZ.1
 refine qD rfl (zD (v := (.int .i64 z431)) rfl) (qe (zA (zH ?_)))
 refine qD rfl (zB (v := (.map (some m3))) rfl) (qD rfl (zB (v := (.int .i64 (ats.getD k1 0))) rfl) (qD rfl (zB (v := (.int .i64 z431)) rfl) (q0 rfl rfl rfl (qA (val := (fun v : Int => Value.int .i64 v)) (k := (ats.getD k1 0)) (v := z431) (qS dB) dF rfl rfl rfl hX447.pins hm448 (fun w454 hm455 hp456 hg457 hz458 => ?_)))))
 have hX459 := hX447.write hp456 hg457 ((yC hlo12))
 have hpk460 := hpk442.kept hg457 hp456 hnp449
 refine qe (yQ (zA (zH ?_)))
 refine qD rfl (yX rfl rfl (by omega)) (qD rfl (zB (v := (.int .i64 ((k1 : Int) + 1))) rfl) (qe (yS (⟨_, ?_, _, rfl, _, k1 + 1, z431, putE sm (ats.getD k1 0) z431, L436, R437, B438, q439, G440, (zC (x := 21) (zC (x := 20) (zC (x := 19) (zC (x := 8) (zC (x := 7) (zC (x := 6) (zC (x := 1) (zX (x := 0) rfl) rfl) rfl) rfl) rfl) rfl) rfl) rfl), rfl, hX459, (dN (dN (dN (dN (dN hlek17 hlek320) hlek373) hle421) hle428) hx446.le), (by omega), (hatl.px hpx444 hok24 hok443), ((homl.px hpx444 hok24 hok443).put (hatl.px hpx444 hok24 hok443) (by omega) hpl432 hng), (fun _ => ⟨hpl432, by rw [Nat.add_sub_cancel]; exact hng⟩), (by omega), hm455, hpk460, hpin450, hok443, (PX.trans hpx25 hpx444), hnp449⟩))))
 omega
 refine (zU (i := 9) rfl rfl rfl (zI rfl _) (xG (E := eInt) (e := 3) eU sz3 hX37.pins (fun u461 w462 ho463 hp464 hl465 hk466 => ?_)))
 have hX467 := hX37.step hp464 hl465
 have hm468 := hm38.below hl465
 have hpk469 := hpk39.below hl465 hp464
 have ha474 := hpk39.new (x := u461.ownBlock) (fun k hk => by rw [hk466] at hk; cases hk; exact Nat.le_refl _)
 have ho475 := ho463.weaken hX37.size
 have hq476 := hq40.below hl465
 have hq477 := hq41.below hl465
 refine ⟨fun _ => ⟨hpk469.bx.reads, hq476, hq477⟩, ?_⟩
 refine zQ (i := 0) (by kernel_rfl) (zU (i := 0) rfl rfl rfl (zI rfl _) (xG (E := eInt) (e := 3) eU sz3 hX467.pins (fun u478 w479 ho480 hp481 hl482 hk483 => ?_)))
 have hX484 := hX467.step hp481 hl482
 have ho485 := ho475.below hl482
 have hm486 := hm468.below hl482
 have hpk487 := hpk469.below hl482 hp481
 have ha491 : Apart u478.ownBlock u461.ownBlock := zK hk483 ho475.lt
 have ha493 := hpk469.new (x := u478.ownBlock) (fun k hk => by rw [hk483] at hk; cases hk; exact Nat.le_refl _)
 have ho494 := ho480.weaken hX467.size
 have hq495 := hq476.below hl482
 have hq496 := hq477.below hl482
 refine ⟨fun _ => ⟨hpk487.bx.reads, hq495, hq496⟩, ?_⟩
 refine zQ (i := 8) (by kernel_rfl) (zU (i := 8) rfl rfl rfl (zI rfl _) (zZ (E := eInt) (v := u478) (u := u42) 8 eU ap3 (by decide) rfl rfl hX484.pins ho494 ((hr43.mono (Pin.le_refl _)).src hX484.pins (by decide)) (by first | omega | (rw [List.nil_append]; omega) | (rw [List.length_nil]; omega) | (rw [List.length_append]; omega) | (simp; done) | (simp; omega) | (simp only [List.length_append, List.length_cons, List.length_nil]; omega)) (by first | omega | (rw [List.nil_append]; omega) | (rw [List.length_nil]; omega) | (rw [List.length_append]; omega) | (simp; done) | (simp; omega) | (simp only [List.length_append, List.length_cons, List.length_nil]; omega)) (hX484.size) (fun u497 w498 ho499 hp500 hg501 hw502 => ?_)))
 have hX503 := hX484.write hp500 hg501 ((yD ho494))
 have ho504 := ho485.keptA hg501 ha491.symm
 have hm505 := hm486.kept hg501 (yF hm486 ho494)
 have hpk506 := hpk487.kept hg501 hp500 ha493
 have ha507 : Apart u461.ownBlock u497.ownBlock := zJ ha491.symm hw502 ho485.lt
 have hnp508 := qQ ha493 hpk487 hw502
 have hm509 := la2 ([]) ((q16.ns.getD (fa).toNat default).l)
 have hq510 := Gadd.turn hq495 (dO hX503.pins (Pin.le_refl _)) (Ext.one hp500 hg501) (notO (NP.hl ha493).symm)
 have hq511 := Gadd.turn hq496 (dO hX503.pins (Pin.le_refl _)) (Ext.one hp500 hg501) (notO (NP.hr ha493).symm)
 refine ⟨fun _ => ⟨hpk506.bx.reads, hq510, hq511⟩, ?_⟩
 refine zQ (i := 17) (by kernel_rfl) (zU (i := 17) rfl rfl rfl (zI rfl _) (zZ (E := eInt) (v := u461) (u := u46) 8 eU ap3 (by decide) rfl rfl hX503.pins ho504 ((hr47.mono (Pin.le_refl _)).src hX503.pins (by decide)) (by first | omega | (rw [List.nil_append]; omega) | (rw [List.length_nil]; omega) | (rw [List.length_append]; omega) | (simp; done) | (simp; omega) | (simp only [List.length_append, List.length_cons, List.length_nil]; omega)) (by first | omega | (rw [List.nil_append]; omega) | (rw [List.length_nil]; omega) | (rw [List.length_append]; omega) | (simp; done) | (simp; omega) | (simp only [List.length_append, List.length_cons, List.length_nil]; omega)) (hX503.size) (fun u512 w513 ho514 hp515 hg516 hw517 => ?_)))
 have hX518 := hX503.write hp515 hg516 ((yD ho504))
 have ho519 := ho499.keptA hg516 ha507.symm
 have hm520 := hm505.kept hg516 (yF hm505 ho504)
 have hpk521 := hpk506.kept hg516 hp515 ha474
 have ha522 : Apart u497.ownBlock u512.ownBlock := zJ ha507.symm hw517 ho499.lt
 have hnp523 := qQ ha474 hpk506 hw517
 have hm524 := la2 ([]) ((q16.ns.getD (fa).toNat default).r)
 have hq525 := Gadd.turn hq510 (dO hX518.pins (Pin.le_refl _)) (Ext.one hp515 hg516) (notO (NP.hl ha474).symm)
 have hq526 := Gadd.turn hq511 (dO hX518.pins (Pin.le_refl _)) (Ext.one hp515 hg516) (notO (NP.hr ha474).symm)
 refine ⟨fun _ => ⟨hpk521.bx.reads, hq525, hq526⟩, ?_⟩
 refine dT (i := 18) rfl rfl (by kernel_rfl) (fun _ _ => zD (v := u497) rfl) ⟨hpk521.bx.reads, hq525, hq526⟩ ?_
 refine dT (i := 19) rfl rfl (by kernel_rfl) (fun _ _ => zD (v := u512) rfl) ⟨hpk521.bx.reads, hq525, hq526⟩ ?_
 refine yP (by kernel_rfl) (zA (zG (zG (zH ?_))))
 refine qD rfl (zB (v := (.pointer (some ⟨p, 0, none⟩))) rfl) (qD rfl (xC rfl) (qD rfl (zR (k := 0) rfl eY rfl jK rfl) (qD rfl (zS (u := L13) vH rfl (hpk521.bx.cell (o := 0) rfl)) (qD rfl (zB (v := (.int .i64 (ats.getD k1 0))) rfl) (qD rfl (zN dE sz59 (v := L13) rfl rfl hpk521.ol.read (by omega) (by omega)) ?_)))))
 obtain ⟨u527, hr528, hl529⟩ := vY (hpk521.ol.at (z := (ats.getD k1 0)) (by omega) (by omega)) (j := (ats.getD k1 0).toNat) rfl
 rw [jP] at hr528
 have hm530 := hr528.max
 refine qD rfl (hl529 ag59 rfl (Gadd.pins hX518.pins L13)) (qD rfl (zT eU (v := u527) rfl hr528) (qD rfl (zB (v := (.int .i64 0)) rfl) (qe (zA ?_))))
 refine yH (yZ (fun (k : Nat) (en : Nat → Value) (W : World) => ∃ (env1 : Nat → Value) (j2 : Nat) (lv2 : Value) (ls2 : List Int) (GL2 : Pin), en = (upd (upd (upd (upd (upd (upd (upd (upd (upd (upd (upd (upd (upd (upd env1 0 (.pointer (some ⟨p, 0, none⟩))) 1 (.int .i64 fa)) 6 (.int .i64 0)) 7 (.map (some m3))) 8 (.int .i64 az)) 10 (.int .i64 (ats.getD k1 0))) 11 lv2) 12 u512) 19 x) 20 (.int .i64 (ats.length : Int))) 21 (.int .i64 (k1 : Int))) 49 u527) 50 (.int .i64 (((q16.ns.getD (ats.getD k1 0).toNat default).l).length : Int))) 51 (.int .i64 (j2 : Int))) ∧ k = (q16.ns.getD ((ats.getD k1 0)).toNat default).l.length - j2 ∧ Ext (inP p L R B mm) G w GL2 W ∧ Pin.le GL1 GL2 ∧ (j2 ≤ (q16.ns.getD ((ats.getD k1 0)).toNat default).l.length) ∧ (GsOk q16 ls2 (((q16.ns.getD (fa).toNat default).l.map (pd q16)) ++ ((q16.ns.getD ((ats.getD k1 0)).toNat default).l.take j2).map (fun o => ordG (pd q fa) (pd q16 o)))) ∧ (Own eInt 3 GL2 W w.heap.size lv2 (ls2)) ∧ (Own eInt 3 GL2 W w.heap.size u512 (([]) ++ ((q16.ns.getD (fa).toNat default).r))) ∧ (Apart lv2.ownBlock u512.ownBlock) ∧ (Mp (fun k : Int => Value.int .i64 k) (fun v : Int => Value.int .i64 v) W m3 (sm)) ∧ (Pk 59 3 GL2 W p L13 R14 B15 mm q16) ∧ (NP p L13 R14 B15 mm lv2.ownBlock)) _ ⟨_, 0, u497, ([]) ++ ((q16.ns.getD (fa).toNat default).l), GL1, (zC (x := 51) (zC (x := 50) (zC (x := 49) (zC (x := 21) (zC (x := 20) (zC (x := 19) (zC (x := 12) (zC (x := 11) (zC (x := 10) (zC (x := 8) (zC (x := 7) (zC (x := 6) (zC (x := 1) (zX (x := 0) rfl) rfl) rfl) rfl) rfl) rfl) rfl) rfl) rfl) rfl) rfl) rfl) rfl) rfl), rfl, hX518, Pin.le_refl _, Nat.zero_le _, (by rw [List.take_zero, List.map_nil, List.append_nil]; exact ⟨fun z hz => (jB hok24 hfl).1 z (by simpa using hz), by simp⟩), ho519, ho514, ha522, hm520, hpk521, hnp508⟩ ?_)
 rintro k535 _ w536 ⟨env1, j2, lv2, ls2, GL2, rfl, hk537, hX538, hlek535, hkj2, hg2, hw539, hw540, ha541, hm542, hpk543, hnp544⟩
 have hgl2 := hg2.lenj hkj2
 rw [List.length_map] at hgl2
 refine zG (zH ?_)
 refine qD rfl (xB rfl rfl) (qe (zA (zG ?_)))
 refine yN (p := ((j2 : Int) : Int) < (((q16.ns.getD (ats.getD k1 0).toNat default).l).length : Int)) rfl rfl (fun h545 => ?_) (fun h545 => ?_)
 have hmj : (q16.ns.getD ((ats.getD k1 0)).toNat default).l.getD j2 0 ∈ (q16.ns.getD ((ats.getD k1 0)).toNat default).l := yT (show j2 < (q16.ns.getD ((ats.getD k1 0)).toNat default).l.length by omega)
 have hol := homl.opt hok24 hgo rfl hatl (show k1 < gs.length by omega) (Or.inl hmj)
 refine wp_skip (zA (zG ?_))
 refine yH (zG (zH ?_))
 refine qD rfl (zN eU sz3 (v := u527) rfl rfl hr528 (by omega) (by omega)) (qD rfl (zO (r := ((q16.ns.getD (ats.getD k1 0).toNat default).l).getD j2 0) rfl ag3 (z := (j2 : Int)) rfl hr528 (dO hX538.pins hlek535) (by omega) (by omega)) (qD rfl (zD (v := (.int .i64 (((q16.ns.getD (ats.getD k1 0).toNat default).l).getD j2 0))) rfl) (qe (zA (zH ?_)))))
 refine qD rfl (zB (v := lv2) rfl) (qD rfl (zB (v := (.map (some m3))) rfl) (qD rfl (zB (v := (.int .i64 (((q16.ns.getD (ats.getD k1 0).toNat default).l).getD j2 0))) rfl) (qD rfl (qN (k := (((q16.ns.getD (ats.getD k1 0).toNat default).l).getD j2 0)) (qS dB) dF zr3 hm542 rfl rfl) (qI rfl (yY (E := eInt) (e := 3) [(.int .i64 ((Go.GL.look sm (((q16.ns.getD (ats.getD k1 0).toNat default).l).getD j2 0)).getD 0))] [(Go.GL.look sm (((q16.ns.getD (ats.getD k1 0).toNat default).l).getD j2 0)).getD 0] eU sz3 zr3 (by exact xT (by rfl)) (yM (by rfl)) rfl rfl rfl rfl (by decide) hX538.pins (fun u546 w547 ho548 hp549 hl550 hk551 => ?_))))))
 have hX552 := hX538.step hp549 hl550
 have ho553 := hw539.below hl550
 have ho554 := hw540.below hl550
 have hm555 := hm542.below hl550
 have hpk556 := hpk543.below hl550 hp549
 have ho564 := ho548.weaken hX538.size
 refine qI rfl (zZ (E := eInt) (v := lv2) (u := u546) 8 eU ap3 (by decide) rfl rfl hX552.pins ho553 ho564.src (by first | omega | (rw [List.nil_append]; omega) | (rw [List.length_nil]; omega) | (rw [List.length_append]; omega) | (simp; done) | (simp; omega) | (simp only [List.length_append, List.length_cons, List.length_nil]; omega)) (by first | omega | (rw [List.nil_append]; omega) | (rw [List.length_nil]; omega) | (rw [List.length_append]; omega) | (simp; done) | (simp; omega) | (simp only [List.length_append, List.length_cons, List.length_nil]; omega)) (hX552.size) (fun u565 w566 ho567 hp568 hg569 hw570 => ?_))
 have hX571 := hX552.write hp568 hg569 ((yD ho553))
 have ho572 := ho554.keptA hg569 ha541.symm
 have hm574 := hm555.kept hg569 (yF hm555 ho553)
 have hpk575 := hpk556.kept hg569 hp568 hnp544
 have ha576 : Apart u512.ownBlock u565.ownBlock := zJ ha541.symm hw570 ho554.lt
 have hnp578 := qQ hnp544 hpk556 hw570
 have hm579 := la1 ls2 ((Go.GL.look sm (((q16.ns.getD (ats.getD k1 0).toNat default).l).getD j2 0)).getD 0)
 refine qD rfl (zD (v := u565) rfl) (qe (yQ (zA (zH ?_))))
 refine qD rfl (yX rfl rfl (by omega)) (qD rfl (zB (v := (.int .i64 ((j2 : Int) + 1))) rfl) (qe (yS (⟨_, ?_, _, rfl, _, j2 + 1, u565, ls2 ++ ([(Go.GL.look sm (((q16.ns.getD (ats.getD k1 0).toNat default).l).getD j2 0)).getD 0]), GL2, (zC (x := 51) (zC (x := 50) (zC (x := 49) (zC (x := 21) (zC (x := 20) (zC (x := 19) (zC (x := 12) (zC (x := 11) (zC (x := 10) (zC (x := 8) (zC (x := 7) (zC (x := 6) (zC (x := 1) (zX (x := 0) rfl) rfl) rfl) rfl) rfl) rfl) rfl) rfl) rfl) rfl) rfl) rfl) rfl) rfl), rfl, hX571, hlek535, (by omega), (hg2.next (PX.refl _) hok24 hok24 hol.1 (by omega) hol.2), ho567, ho572, ha576.symm, hm574, hpk575, hnp578⟩))))
 omega
 refine wp_exit (yI (yW (yV (zA (zG (zG (zH ?_)))))))
 refine qD rfl (zB (v := (.pointer (some ⟨p, 0, none⟩))) rfl) (qD rfl (xC rfl) (qD rfl (zR (k := 1) rfl eY rfl jK rfl) (qD rfl (zS (u := R14) vH rfl (hpk543.bx.cell (o := 1) rfl)) (qD rfl (zB (v := (.int .i64 (ats.getD k1 0))) rfl) (qD rfl (zN dE sz59 (v := R14) rfl rfl hpk543.rr.read (by omega) (by omega)) ?_)))))
 obtain ⟨u580, hr581, hl582⟩ := vY (hpk543.rr.at (z := (ats.getD k1 0)) (by omega) (by omega)) (j := (ats.getD k1 0).toNat) rfl
 rw [jO] at hr581
 have hm583 := hr581.max
 refine qD rfl (hl582 ag59 rfl (Gadd.pins hX538.pins R14)) (qD rfl (zT eU (v := u580) rfl hr581) (qD rfl (zB (v := (.int .i64 0)) rfl) (qe (zA ?_))))
 refine yH (yZ (fun (k : Nat) (en : Nat → Value) (W : World) => ∃ (env1 : Nat → Value) (j3 : Nat) (lv3 : Value) (ls3 : List Int) (GL3 : Pin), en = (upd (upd (upd (upd (upd (upd (upd (upd (upd (upd (upd (upd (upd (upd env1 0 (.pointer (some ⟨p, 0, none⟩))) 1 (.int .i64 fa)) 6 (.int .i64 0)) 7 (.map (some m3))) 8 (.int .i64 az)) 10 (.int .i64 (ats.getD k1 0))) 11 lv2) 12 lv3) 19 x) 20 (.int .i64 (ats.length : Int))) 21 (.int .i64 (k1 : Int))) 68 u580) 69 (.int .i64 (((q16.ns.getD (ats.getD k1 0).toNat default).r).length : Int))) 70 (.int .i64 (j3 : Int))) ∧ k = (q16.ns.getD ((ats.getD k1 0)).toNat default).r.length - j3 ∧ Ext (inP p L R B mm) G w GL3 W ∧ Pin.le GL2 GL3 ∧ (j3 ≤ (q16.ns.getD ((ats.getD k1 0)).toNat default).r.length) ∧ (GsOk q16 ls3 (((q16.ns.getD (fa).toNat default).r.map (pd q16)) ++ ((q16.ns.getD ((ats.getD k1 0)).toNat default).r.take j3).map (fun o => ordG (pd q fa) (pd q16 o)))) ∧ (Own eInt 3 GL3 W w.heap.size lv3 (ls3)) ∧ (Own eInt 3 GL3 W w.heap.size lv2 (ls2)) ∧ (Apart lv3.ownBlock lv2.ownBlock) ∧ (Mp (fun k : Int => Value.int .i64 k) (fun v : Int => Value.int .i64 v) W m3 (sm)) ∧ (Pk 59 3 GL3 W p L13 R14 B15 mm q16) ∧ (NP p L13 R14 B15 mm lv3.ownBlock)) _ ⟨_, 0, u512, ([]) ++ ((q16.ns.getD (fa).toNat default).r), GL2, (zC (x := 70) (zC (x := 69) (zC (x := 68) (zC (x := 21) (zC (x := 20) (zC (x := 19) (zC (x := 12) (zC (x := 11) (zC (x := 10) (zC (x := 8) (zC (x := 7) (zC (x := 6) (zC (x := 1) (zX (x := 0) rfl) rfl) rfl) rfl) rfl) rfl) rfl) rfl) rfl) rfl) rfl) rfl) rfl) rfl), rfl, hX538, Pin.le_refl _, Nat.zero_le _, (by rw [List.take_zero, List.map_nil, List.append_nil]; exact ⟨fun z hz => (jB hok24 hfl).2 z (by simpa using hz), by simp⟩), hw540, hw539, ha541.symm, hm542, hpk543, hnp523⟩ ?_)
 rintro k588 _ w589 ⟨env1, j3, lv3, ls3, GL3, rfl, hk590, hX591, hlek588, hkj3, hg3, hw592, hw593, ha594, hm595, hpk596, hnp597⟩
 have hgl3 := hg3.lenj hkj3
 rw [List.length_map] at hgl3
 refine zG (zH ?_)
 refine qD rfl (xB rfl rfl) (qe (zA (zG ?_)))
 refine yN (p := ((j3 : Int) : Int) < (((q16.ns.getD (ats.getD k1 0).toNat default).r).length : Int)) rfl rfl (fun h598 => ?_) (fun h598 => ?_)
 have hmj : (q16.ns.getD ((ats.getD k1 0)).toNat default).r.getD j3 0 ∈ (q16.ns.getD ((ats.getD k1 0)).toNat default).r := yT (show j3 < (q16.ns.getD ((ats.getD k1 0)).toNat default).r.length by omega)
 have hol := homl.opt hok24 hgo rfl hatl (show k1 < gs.length by omega) (Or.inr hmj)
 refine wp_skip (zA (zG ?_))
 refine yH (zG (zH ?_))
 refine qD rfl (zN eU sz3 (v := u580) rfl rfl hr581 (by omega) (by omega)) (qD rfl (zO (r := ((q16.ns.getD (ats.getD k1 0).toNat default).r).getD j3 0) rfl ag3 (z := (j3 : Int)) rfl hr581 (dO hX591.pins hlek588) (by omega) (by omega)) (qD rfl (zD (v := (.int .i64 (((q16.ns.getD (ats.getD k1 0).toNat default).r).getD j3 0))) rfl) (qe (zA (zH ?_)))))
 refine qD rfl (zB (v := lv3) rfl) (qD rfl (zB (v := (.map (some m3))) rfl) (qD rfl (zB (v := (.int .i64 (((q16.ns.getD (ats.getD k1 0).toNat default).r).getD j3 0))) rfl) (qD rfl (qN (k := (((q16.ns.getD (ats.getD k1 0).toNat default).r).getD j3 0)) (qS dB) dF zr3 hm595 rfl rfl) (qI rfl (yY (E := eInt) (e := 3) [(.int .i64 ((Go.GL.look sm (((q16.ns.getD (ats.getD k1 0).toNat default).r).getD j3 0)).getD 0))] [(Go.GL.look sm (((q16.ns.getD (ats.getD k1 0).toNat default).r).getD j3 0)).getD 0] eU sz3 zr3 (by exact xT (by rfl)) (yM (by rfl)) rfl rfl rfl rfl (by decide) hX591.pins (fun u599 w600 ho601 hp602 hl603 hk604 => ?_))))))
 have hX605 := hX591.step hp602 hl603
 have ho606 := hw592.below hl603
 have ho607 := hw593.below hl603
 have hm608 := hm595.below hl603
 have hpk609 := hpk596.below hl603 hp602
 have ho617 := ho601.weaken hX591.size
 refine qI rfl (zZ (E := eInt) (v := lv3) (u := u599) 8 eU ap3 (by decide) rfl rfl hX605.pins ho606 ho617.src (by first | omega | (rw [List.nil_append]; omega) | (rw [List.length_nil]; omega) | (rw [List.length_append]; omega) | (simp; done) | (simp; omega) | (simp only [List.length_append, List.length_cons, List.length_nil]; omega)) (by first | omega | (rw [List.nil_append]; omega) | (rw [List.length_nil]; omega) | (rw [List.length_append]; omega) | (simp; done) | (simp; omega) | (simp only [List.length_append, List.length_cons, List.length_nil]; omega)) (hX605.size) (fun u618 w619 ho620 hp621 hg622 hw623 => ?_))
 have hX624 := hX605.write hp621 hg622 ((yD ho606))
 have ho625 := ho607.keptA hg622 ha594.symm
 have hm627 := hm608.kept hg622 (yF hm608 ho606)
 have hpk628 := hpk609.kept hg622 hp621 hnp597
 have ha629 : Apart lv2.ownBlock u618.ownBlock := zJ ha594.symm hw623 ho607.lt
 have hnp631 := qQ hnp597 hpk609 hw623
 have hm632 := la1 ls3 ((Go.GL.look sm (((q16.ns.getD (ats.getD k1 0).toNat default).r).getD j3 0)).getD 0)
 refine qD rfl (zD (v := u618) rfl) (qe (yQ (zA (zH ?_))))
 refine qD rfl (yX rfl rfl (by omega)) (qD rfl (zB (v := (.int .i64 ((j3 : Int) + 1))) rfl) (qe (yS (⟨_, ?_, _, rfl, _, j3 + 1, u618, ls3 ++ ([(Go.GL.look sm (((q16.ns.getD (ats.getD k1 0).toNat default).r).getD j3 0)).getD 0]), GL3, (zC (x := 70) (zC (x := 69) (zC (x := 68) (zC (x := 21) (zC (x := 20) (zC (x := 19) (zC (x := 12) (zC (x := 11) (zC (x := 10) (zC (x := 8) (zC (x := 7) (zC (x := 6) (zC (x := 1) (zX (x := 0) rfl) rfl) rfl) rfl) rfl) rfl) rfl) rfl) rfl) rfl) rfl) rfl) rfl) rfl), rfl, hX624, hlek588, (by omega), (hg3.next (PX.refl _) hok24 hok24 hol.1 (by omega) hol.2), ho620, ho625, ha629.symm, hm627, hpk628, hnp631⟩))))
 omega
 refine wp_exit (yI (yW (yV (zA (zG (zH ?_))))))
 refine qD rfl (zB (v := (.pointer (some ⟨p, 0, none⟩))) rfl) (qD rfl (zB (v := lv2) rfl) (qD rfl (zB (v := lv3) rfl) ?_))
 obtain ⟨G633, hle636, hX635, hr634, hf637⟩ := hw593.sealed hX591
 have ho638 := hw592.moreO hle636 hf637 ha594
 have hpk639 := hpk596.moreO hle636 hf637 hnp544
 obtain ⟨G640, hle643, hX642, hr641, hf644⟩ := ho638.sealed hX635
 have hpk645 := hpk639.moreO hle643 hf644 hnp597
 have hj2n : j2 = (q16.ns.getD ((ats.getD k1 0)).toNat default).l.length := by omega
 have hj3n : j3 = (q16.ns.getD ((ats.getD k1 0)).toNat default).r.length := by omega
 have hg2d := hg2.done hj2n
 have hg3d := hg3.done hj3n
 refine qI rfl (zM (vs := [(.pointer (some ⟨p, 0, none⟩)), lv2, lv3]) Tryz.func72 nm72 rfl rfl rfl ?_)
 refine dP (fN hX642.pins hpk645 hok24 (hr634.mono hle643) hr641 (by omega) ⟨by omega, by omega⟩ (qH hg2d.pl) (qH hg3d.pl)) ?_
 rintro _ w656 ⟨z646, L651, R652, B653, q654, G655, rfl, hpk657, hok658, hpx659, hlo660, hx661, hpl647, hpd648, hqn649, hcm650⟩
 refine ⟨_, rfl, ?_⟩
 have hX662 := hX642.trans hx661 hpin23
 have hm663 := hm595.extS hx661 (NP.notb hnp26)
 have hnp664 := NP.call hnp26 hlo660 (fun j hj => by cases hj; exact hm595.lt)
 have hpin665 := PIn.call hpin23 hlo660 hX642.size
 have hql666 := hpx659.len
 have hml667 := pkl q654
 have hml668 := pkb hok658
 have hng : pd q654 z646 = ordG (pd q fa) (den gs k1) := by rw [hpd648, hg2d.eq, hg3d.eq, ← hZ.2, ← hpf]; exact mS hok24 hfl hZ.1
 refine qD rfl (zD (v := (.int .i64 z646)) rfl) (qe (zA (zH ?_)))
 refine qD rfl (zB (v := (.map (some m3))) rfl) (qD rfl (zB (v := (.int .i64 (ats.getD k1 0))) rfl) (qD rfl (zB (v := (.int .i64 z646)) rfl) (q0 rfl rfl rfl (qA (val := (fun v : Int => Value.int .i64 v)) (k := (ats.getD k1 0)) (v := z646) (qS dB) dF rfl rfl rfl hX662.pins hm663 (fun w669 hm670 hp671 hg672 hz673 => ?_)))))
 have hX674 := hX662.write hp671 hg672 ((yC hlo12))
 have hpk675 := hpk657.kept hg672 hp671 hnp664
 refine qe (yQ (zA (zH ?_)))
 refine qD rfl (yX rfl rfl (by omega)) (qD rfl (zB (v := (.int .i64 ((k1 : Int) + 1))) rfl) (qe (yS (⟨_, ?_, _, rfl, _, k1 + 1, z646, putE sm (ats.getD k1 0) z646, L651, R652, B653, q654, G655, (zC (x := 21) (zC (x := 20) (zC (x := 19) (zC (x := 8) (zC (x := 7) (zC (x := 6) (zC (x := 1) (zX (x := 0) rfl) rfl) rfl) rfl) rfl) rfl) rfl) rfl), rfl, hX674, (dN (dN (dN (dN (dN hlek17 hlek535) hlek588) hle636) hle643) hx661.le), (by omega), (hatl.px hpx659 hok24 hok658), ((homl.px hpx659 hok24 hok658).put (hatl.px hpx659 hok24 hok658) (by omega) hpl647 hng), (fun _ => ⟨hpl647, by rw [Nat.add_sub_cancel]; exact hng⟩), (by omega), hm670, hpk675, hpin665, hok658, (PX.trans hpx25 hpx659), hnp664⟩))))
 omega
 refine wp_exit (yI (yW (yV (zA (zG (zH ?_))))))
 refine qD rfl (zB (v := (.int .i64 az)) rfl) (qD rfl (zD (v := (.int .i64 az)) rfl) (qe (zA ?_)))
 refine wp_ret (zY (zW (v := (.int .i64 az)) rfl rfl rfl ?_))
 have hkn : k1 = gs.length := by omega
 have hz := haz (by omega)
 exact ⟨_, L13, R14, B15, q16, GL1, rfl, hpk22, hok24, hpx25, PIn.lo hpin23 rfl, hX20, hz.1, (by rw [hz.2, hkn]; rfl), (by omega)⟩
theorem gV {w : World} {G : Pin} {u v : Value} {fs gs : List Nd} (hP : Pins G w) (hu : RSl eNode G u fs) (hv : RSl eNode G v gs) :
  Calls Tryz.prog 9 [(.agg [u].toArray), (.agg [v].toArray)].toArray w fun e w' => ∃ (u : Value) (G' : Pin), e = .returned (.tuple #[(.agg [u].toArray), .bool (ordB fs gs)]) ∧ DForm 65 3 G' w' w.heap.size w'.heap.size u (ordF fs gs) ∧ Ext noS G w G' w' := by
 refine yG (n := 25) Tryz.func9 Tryz.ntmps9 rfl rfl ?_
 have hX0 := exr noS hP
 refine zG (zH ?_)
 refine qI rfl (xW [u] (v := (.agg [u].toArray)) rfl rfl hX0.pins (fun b1 w2 hk3 hb4 hp5 hl6 => ?_))
 have hX7 := hX0.step hp5 hl6
 have hlo8 : w.heap.size ≤ b1 := by have := hX0.size; omega
 obtain ⟨G9, hle10, hX11, hbp12, hf13⟩ := hb4.shut hX7 hlo8
 refine qI rfl (xW [v] (v := (.agg [v].toArray)) rfl rfl hX11.pins (fun b14 w15 hk16 hb17 hp18 hl19 => ?_))
 have hX20 := hX11.step hp18 hl19
 have hlo21 : w.heap.size ≤ b14 := by have := hX11.size; omega
 obtain ⟨G22, hle23, hX24, hbp25, hf26⟩ := hb17.shut hX20 hlo21
 refine qI rfl (yO [(.slice none 0 0)] zr26 rfl hX24.pins (fun b27 w28 hk29 hb30 hp31 hl32 => ?_))
 have hX33 := hX24.step hp31 hl32
 have hlo34 : w.heap.size ≤ b27 := by have := hX24.size; omega
 refine qD rfl (zD (v := (.bool false)) rfl) (qe (zA (zG (zG (zH ?_)))))
 refine qD rfl (yJ (cs := [u]) ag26 sz26 rfl (fun j u hj => (dO hX33.pins hle23) _ _ _ (hbp12 _ _ (by simpa using hj)))) (qD rfl (yJ (cs := [v]) ag26 sz26 rfl (fun j u hj => hX33.pins _ _ _ (hbp25 _ _ (by simpa using hj)))) (qI rfl (zM (vs := [(.agg [u].toArray), (.agg [v].toArray)]) Tryz.func30 nm30 rfl rfl rfl ?_)))
 refine dP (pairs_spec hX33.pins (hu.mono (dN hle10 hle23)) (hv.mono (dN hle10 hle23))) ?_
 rintro _ w36 ⟨G35, rfl, hx37⟩
 refine ⟨_, rfl, ?_⟩
 have hX38 := hX33.tr hx37
 have hb39 := hb30.ext hx37
 refine qD rfl (qR rfl) (qe (zA ?_))
 refine vN rfl rfl (fun h40 => ?_) (fun h40 => ?_)
 refine wp_skip (zA (zG (zH ?_)))
 have hpp := pair_iff.1 h40
 have hga := hpp.a
 have hgb := hpp.b
 have hle := hpp.le
 have hla := hga.lo
 have hlb := hgb.lo
 have hha := hga.hi
 have hhb := hgb.hi
 refine qI rfl (zM (vs := []) Tryz.func31 nm31 rfl rfl rfl ?_)
 refine dP (gS hX38.pins) ?_
 rintro _ w44 ⟨p41, mm42, G43, rfl, hpk45, hfr46, hx47⟩
 refine ⟨_, rfl, ?_⟩
 have hX51 := hX38.tr hx47
 have hb52 := hb39.ext hx47
 have hnp53 := np_fresh hfr46 (x := (some b27)) (vO hb39)
 have hpin54 : PIn w (noS) p41 (.slice none 0 0) (.slice none 0 0) (.slice none 0 0) mm42 := PIn.fresh hfr46 hX38.size
 obtain ⟨q48, hq49⟩ : ∃ q, q = (⟨[], [], [], [], [], [], []⟩ : PSt) := ⟨_, rfl⟩
 rw [← hq49] at hpk45
 have hok50 : PoolOk q48 := by rw [hq49]; exact PoolOk.empty
 have hq49l : q48.ns.length = 0 := by rw [hq49]; rfl
 obtain ⟨L55, R56, B57, eL55, eR56, eB57⟩ : ∃ (l r b : Value), l = .slice none 0 0 ∧ r = .slice none 0 0 ∧ b = .slice none 0 0 := ⟨_, _, _, rfl, rfl, rfl⟩
 have hpk452 : Pk 59 3 G43 w44 p41 L55 R56 B57 mm42 q48 := by rw [eL55, eR56, eB57]; exact hpk45
 have hpin542 : PIn w (noS) p41 L55 R56 B57 mm42 := by rw [eL55, eR56, eB57]; exact hpin54
 have hml58 := pkl q48
 have hml59 := pkb hok50
 have hnp53x : NP p41 L55 R56 B57 mm42 (some b27) := by rw [eL55, eR56, eB57]; exact hnp53
 refine qD rfl (zD (v := (.pointer (some ⟨p41, 0, none⟩))) rfl) (qe (zA (zG ?_)))
 refine xD (S := fun wz => Pins G43 wz) (last := 14) (by kernel_rfl) rfl ?_
 have hl60 := bdr w44
 have hp61 := hX51.pins.below hl60
 have hX62 := hX51.step hp61 hl60
 have hb63 := hb52.below hl60
 have hpk64 := hpk452.below hl60 hp61
 refine dT (i := 0) rfl rfl (by kernel_rfl) (fun _ _ => zB (v := (.pointer (some ⟨p41, 0, none⟩))) rfl) hX62.pins ?_
 refine dT (i := 1) rfl rfl (by kernel_rfl) (fun _ _ => zB (v := (.pointer (some ⟨p41, 0, none⟩))) rfl) hX62.pins ?_
 refine dT (i := 2) rfl rfl (by kernel_rfl) (fun _ _ => zB (v := (.pointer (some ⟨p41, 0, none⟩))) rfl) hX62.pins ?_
 refine dT (i := 3) rfl rfl (by kernel_rfl) (fun _ hS => yJ (cs := [u]) ag26 sz26 rfl (fun j u hj => (dO hS (dN (dN hle23 hx37.le) hx47.le)) _ _ _ (hbp12 _ _ (by simpa using hj)))) hX62.pins ?_
 refine dT (i := 5) rfl rfl (by kernel_rfl) (fun _ _ => zB (v := (.pointer (some ⟨p41, 0, none⟩))) rfl) hX62.pins ?_
 refine dT (i := 6) rfl rfl (by kernel_rfl) (fun _ hS => yJ (cs := [v]) ag26 sz26 rfl (fun j u hj => (dO hS (dN hx37.le hx47.le)) _ _ _ (hbp25 _ _ (by simpa using hj)))) hX62.pins ?_
 refine zQ (i := 4) (by kernel_rfl) (zU (i := 4) rfl rfl rfl (zI rfl _) (zM (vs := [(.pointer (some ⟨p41, 0, none⟩)), (.agg [u].toArray)]) Tryz.func34 nm34 rfl rfl rfl ?_))
 refine dP (jM hX62.pins hpk64 hok50 (hu.mono (dN (dN (dN hle10 hle23) hx37.le) hx47.le)) (jR hga) (by omega) hla) ?_
 rintro _ w74 ⟨z65, L69, R70, B71, q72, G73, rfl, hpk75, hok76, hpx77, hlo78, hx79, hpl66, hpd67, hqn68⟩
 refine ⟨_, rfl, ?_⟩
 have hX80 := hX62.trans hx79 hpin542
 have hb81 := hb63.extS hx79 (NP.notb hnp53x)
 have hnp82 := NP.call hnp53x hlo78 (vO hb63)
 have hpin83 := PIn.call hpin542 hlo78 hX62.size
 have hql84 := hpx77.len
 have hml85 := pkl q72
 have hml86 := pkb hok76
 refine ⟨fun _ => (dO hX80.pins hx79.le), ?_⟩
 refine zQ (i := 7) (by kernel_rfl) (zU (i := 7) rfl rfl rfl (zI rfl _) (zM (vs := [(.pointer (some ⟨p41, 0, none⟩)), (.agg [v].toArray)]) Tryz.func35 nm35 rfl rfl rfl ?_))
 refine dP (pR hX80.pins hpk75 hok76 (hv.mono (dN (dN (dN (dN hle10 hle23) hx37.le) hx47.le) hx79.le)) (jR hgb) (by omega)) ?_
 rintro _ w93 ⟨u87, ats, L88, R89, B90, q91, G92, rfl, hpk95, hok96, hpx97, hlo98, hx99, ho94, hnp101, hld100⟩
 refine ⟨_, rfl, ?_⟩
 have hX102 := hX80.trans hx99 hpin83
 have hb103 := hb81.extS hx99 (NP.notb hnp82)
 have hnp104 := NP.call hnp82 hlo98 (vO hb81)
 have hpin105 := PIn.call hpin83 hlo98 hX80.size
 have hql106 := hpx97.len
 have hml107 := pkl q91
 have hml108 := pkb hok96
 have ha109 : Apart u87.ownBlock (some b27) := yA ho94.lt hb81.lt
 have ho110 := ho94.weaken hX80.size
 have hll111 := hld100.len
 refine ⟨fun _ => (dO hX102.pins (dN hx79.le hx99.le)), ?_⟩
 have hlh112 := hld100.hi
 obtain ⟨G113, hle116, hX115, hr114, hf117⟩ := ho110.sealed hX102
 have hb118 := hb103.moreO hf117 ha109.symm
 have hpk119 := hpk95.moreO hle116 hf117 hnp101
 have hpza := ((hpx97.pd hok76 hok96 hpl66).trans hpd67)
 refine zQ (i := 8) (by kernel_rfl) (zU (i := 8) rfl rfl rfl (zI rfl _) (zM (vs := [(.pointer (some ⟨p41, 0, none⟩)), (.int .i64 z65), u87]) Tryz.func33 nm33 rfl rfl rfl ?_))
 refine dP (sK hX115.pins hpk119 hok96 hr114 ((hpx97.place hpl66)) (LdOk.nk hld100) (jR hgb).opts (by omega) (by omega)) ?_
 rintro _ w129 ⟨z120, L124, R125, B126, q127, G128, rfl, hpk130, hok131, hpx132, hlo133, hx134, hpl121, hpd122, hqn123⟩
 refine ⟨_, rfl, ?_⟩
 have hX135 := hX115.trans hx134 hpin105
 have hb136 := hb118.extS hx134 (NP.notb hnp104)
 have hpin138 := PIn.call hpin105 hlo133 hX115.size
 have hql139 := hpx132.len
 have hml140 := pkl q127
 have hml141 := pkb hok131
 refine ⟨fun _ => (dO hX135.pins (dN (dN (dN hx79.le hx99.le) hle116) hx134.le)), ?_⟩
 refine zQ (i := 9) (by kernel_rfl) (zU (i := 9) rfl rfl rfl (zI rfl _) (zM (vs := [(.pointer (some ⟨p41, 0, none⟩)), (.int .i64 z120)]) Tryz.func32 nm32 rfl rfl rfl ?_))
 refine dP (fR hX135.pins hpk130 hok131 hpl121) ?_
 rintro _ w144 ⟨u142, G143, rfl, hd145, hx146⟩
 refine ⟨_, rfl, ?_⟩
 have hX147 := hX135.tr hx146
 have hb148 := hb136.ext hx146
 have hone150 := hd145.one
 refine ⟨fun _ => (dO hX147.pins (dN (dN (dN (dN hx79.le hx99.le) hle116) hx134.le) hx146.le)), ?_⟩
 refine dT (i := 10) rfl rfl (by kernel_rfl) (fun _ _ => yR (v := (.agg [u142].toArray)) rfl rfl) (dO hX147.pins (dN (dN (dN (dN hx79.le hx99.le) hle116) hx134.le) hx146.le)) ?_
 refine dT (i := 11) rfl rfl (by kernel_rfl) (fun _ _ => yR (v := (.bool (fitB (pd q127 z120)))) rfl rfl) (dO hX147.pins (dN (dN (dN (dN hx79.le hx99.le) hle116) hx134.le) hx146.le)) ?_
 refine zQ (i := 12) (by kernel_rfl) (qC (i := 12) rfl rfl rfl (zI rfl _) (o_stp (cs' := [u142]) (us := [u142]) (v := (.agg [u142].toArray)) sz26 rfl rfl rfl (yM hone150) hX147.pins hb148 (dQ rfl) rfl (fun w151 hb152 hp153 hg154 hz155 => ?_)))
 have hX156 := hX147.write hp153 hg154 ((yC hlo34))
 have hd157 := hd145.kept hg154 (Or.inr hb136.lt)
 have hs158 := Nat.le_trans (Nat.le_refl w144.heap.size) hg154.size
 refine ⟨fun _ => (dO hX156.pins (dN (dN (dN (dN hx79.le hx99.le) hle116) hx134.le) hx146.le)), ?_⟩
 refine dT (i := 13) rfl rfl (by kernel_rfl) (fun _ _ => zD (v := (.bool (fitB (pd q127 z120)))) rfl) (dO hX156.pins (dN (dN (dN (dN hx79.le hx99.le) hle116) hx134.le) hx146.le)) ?_
 refine yP (by kernel_rfl) (zA (wp_ret (zY (jW (cs := [u142]) (v := (.bool (fitB (pd q127 z120)))) rfl rfl rfl rfl rfl ag26 sz26 (fun j u hj => by rw [Nat.zero_add]; exact hb152.cell hj) ?_))))
 have hgz : pd q127 z120 = ordG (gOf fs) (gOf gs) := hpd122.trans (by rw [hpza])
 obtain ⟨e1, e2⟩ := gP (pair_iff.2 hpp)
 rw [e1, e2, ← hgz]
 exact ⟨_, _, rfl, (hd157.wide hX135.size hs158), hX156⟩
 refine zG (zH ?_)
 refine qD rfl (xQ [(.slice none 0 0)] [(.slice none 0 0)] [] eW zr26 rfl pl26 rfl (fun _ h => by cases h) rfl) (q0 rfl rfl rfl (o_stp (cs' := [(.slice none 0 0)]) (us := [(.slice none 0 0)]) (v := (.agg [(.slice none 0 0)].toArray)) sz26 rfl rfl rfl (yM (by rfl)) hX38.pins hb39 (dQ rfl) rfl (fun w160 hb161 hp162 hg163 hz164 => ?_)))
 have hX165 := hX38.write hp162 hg163 ((yC hlo34))
 refine qD rfl (zD (v := (.bool false)) rfl) (qe (zA ?_))
 refine wp_ret (zY (jW (cs := [(.slice none 0 0)]) (v := (.bool false)) rfl rfl rfl rfl rfl ag26 sz26 (fun j u hj => by rw [Nat.zero_add]; exact hb161.cell hj) ?_))
 obtain ⟨e1, e2⟩ := ord_no (h40)
 rw [e1, e2]
 exact ⟨_, _, rfl, DForm.nil, hX165⟩
end OS1
end Go.Proofs.YtajkbplgbikgdaaGreatDoor
namespace Go.Proofs.YtajkbplgbikgdaaGreatDoor
namespace AT1
open Go.RowKit Go.GL Go.Proofs
open B1 K1 PO1 PL1
theorem fX {w : World} {G : Pin} {u v : Value} {ax bs : List Nd} (hP : Pins G w) (hu : RSl eNode G u ax) (hv : RSl eNode G v bs) :
  Calls Tryz.prog 14 [(.agg [u].toArray), (.agg [v].toArray)].toArray w fun e w' => ∃ G', e = .returned (.tuple #[.bool (alB ax bs), .bool (goodB ax && goodB bs)]) ∧ Ext noS G w G' w' := by
 refine yG (n := 24) Tryz.func14 Tryz.ntmps14 rfl rfl ?_
 have hX0 := exr noS hP
 refine zG (zH ?_)
 refine qI rfl (xW [u] (v := (.agg [u].toArray)) rfl rfl hX0.pins (fun b1 w2 hk3 hb4 hp5 hl6 => ?_))
 have hX7 := hX0.step hp5 hl6
 have hlo8 : w.heap.size ≤ b1 := by have := hX0.size; omega
 obtain ⟨G9, hle10, hX11, hbp12, hf13⟩ := hb4.shut hX7 hlo8
 refine qI rfl (xW [v] (v := (.agg [v].toArray)) rfl rfl hX11.pins (fun b14 w15 hk16 hb17 hp18 hl19 => ?_))
 have hX20 := hX11.step hp18 hl19
 have hlo21 : w.heap.size ≤ b14 := by have := hX11.size; omega
 obtain ⟨G22, hle23, hX24, hbp25, hf26⟩ := hb17.shut hX20 hlo21
 refine qD rfl (zD (v := (.bool false)) rfl) (qD rfl (zD (v := (.bool false)) rfl) (qe (zA (zG (zG (zH ?_))))))
 refine qD rfl (yJ (cs := [u]) ag26 sz26 rfl (fun j u hj => (dO hX24.pins hle23) _ _ _ (hbp12 _ _ (by simpa using hj)))) (qI rfl (zM (vs := [(.agg [u].toArray)]) Tryz.func42 nm42 rfl rfl rfl ?_))
 refine dP (jV hX24.pins (hu.mono (dN hle10 hle23))) ?_
 rintro _ w28 ⟨G27, rfl, hx29⟩
 refine ⟨_, rfl, ?_⟩
 have hX30 := hX24.tr hx29
 refine qD rfl (qR rfl) (qD rfl (zB (v := (.bool (!(goodB ax)))) rfl) (qbn (t := 10) rfl (fun h31 => ?_) (fun h31 => ?_)))
 refine qdg rfl rfl rfl rfl rfl rfl (yJ (cs := [v]) ag26 sz26 rfl (fun j u hj => (dO hX30.pins hx29.le) _ _ _ (hbp25 _ _ (by simpa using hj)))) (q1g rfl rfl rfl rfl rfl rfl (zM (vs := [(.agg [v].toArray)]) Tryz.func42 nm42 rfl rfl rfl ?_))
 refine dP (jV hX30.pins (hv.mono (dN (dN hle10 hle23) hx29.le))) ?_
 rintro _ w33 ⟨G32, rfl, hx34⟩
 refine ⟨_, rfl, ?_⟩
 have hX35 := hX30.tr hx34
 refine qdg rfl rfl rfl rfl rfl rfl (qR rfl) (qD rfl (xA (v := (.bool (!(goodB bs)))) rfl rfl) (qe (zA ?_)))
 refine vN rfl rfl (fun h36 => ?_) (fun h36 => ?_)
 refine wp_skip (zA (zG (zH ?_)))
 have hga : GoodP ax := goodB_true.1 h31
 have hgb : GoodP bs := goodB_true.1 h36
 have hla := hga.lo
 have hlb := hgb.lo
 have hha := hga.hi
 have hhb := hgb.hi
 refine qI rfl (zM (vs := []) Tryz.func31 nm31 rfl rfl rfl ?_)
 refine dP (gS hX35.pins) ?_
 rintro _ w40 ⟨p37, mm38, G39, rfl, hpk41, hfr42, hx43⟩
 refine ⟨_, rfl, ?_⟩
 have hX47 := hX35.tr hx43
 have hpin48 : PIn w (noS) p37 (.slice none 0 0) (.slice none 0 0) (.slice none 0 0) mm38 := PIn.fresh hfr42 hX35.size
 obtain ⟨q44, hq45⟩ : ∃ q, q = (⟨[], [], [], [], [], [], []⟩ : PSt) := ⟨_, rfl⟩
 rw [← hq45] at hpk41
 have hok46 : PoolOk q44 := by rw [hq45]; exact PoolOk.empty
 have hq45l : q44.ns.length = 0 := by rw [hq45]; rfl
 obtain ⟨L49, R50, B51, eL49, eR50, eB51⟩ : ∃ (l r b : Value), l = .slice none 0 0 ∧ r = .slice none 0 0 ∧ b = .slice none 0 0 := ⟨_, _, _, rfl, rfl, rfl⟩
 have hpk412 : Pk 59 3 G39 w40 p37 L49 R50 B51 mm38 q44 := by rw [eL49, eR50, eB51]; exact hpk41
 have hpin482 : PIn w (noS) p37 L49 R50 B51 mm38 := by rw [eL49, eR50, eB51]; exact hpin48
 have hml52 := pkl q44
 have hml53 := pkb hok46
 refine qD rfl (zD (v := (.pointer (some ⟨p37, 0, none⟩))) rfl) (qe (zA (zG ?_)))
 refine xD (S := fun wz => Pins G39 wz) (last := 10) (by kernel_rfl) rfl ?_
 have hl54 := bdr w40
 have hp55 := hX47.pins.below hl54
 have hX56 := hX47.step hp55 hl54
 have hpk57 := hpk412.below hl54 hp55
 refine dT (i := 0) rfl rfl (by kernel_rfl) (fun _ _ => zB (v := (.pointer (some ⟨p37, 0, none⟩))) rfl) hX56.pins ?_
 refine dT (i := 1) rfl rfl (by kernel_rfl) (fun _ _ => zB (v := (.pointer (some ⟨p37, 0, none⟩))) rfl) hX56.pins ?_
 refine dT (i := 2) rfl rfl (by kernel_rfl) (fun _ hS => yJ (cs := [u]) ag26 sz26 rfl (fun j u hj => (dO hS (dN (dN (dN hle23 hx29.le) hx34.le) hx43.le)) _ _ _ (hbp12 _ _ (by simpa using hj)))) hX56.pins ?_
 refine dT (i := 4) rfl rfl (by kernel_rfl) (fun _ _ => zB (v := (.pointer (some ⟨p37, 0, none⟩))) rfl) hX56.pins ?_
 refine dT (i := 5) rfl rfl (by kernel_rfl) (fun _ hS => yJ (cs := [v]) ag26 sz26 rfl (fun j u hj => (dO hS (dN (dN hx29.le hx34.le) hx43.le)) _ _ _ (hbp25 _ _ (by simpa using hj)))) hX56.pins ?_
 refine zQ (i := 3) (by kernel_rfl) (zU (i := 3) rfl rfl rfl (zI rfl _) (zM (vs := [(.pointer (some ⟨p37, 0, none⟩)), (.agg [u].toArray)]) Tryz.func34 nm34 rfl rfl rfl ?_))
 refine dP (jM hX56.pins hpk57 hok46 (hu.mono (dN (dN (dN (dN hle10 hle23) hx29.le) hx34.le) hx43.le)) (jR hga) (by omega) hla) ?_
 rintro _ w67 ⟨z58, L62, R63, B64, q65, G66, rfl, hpk68, hok69, hpx70, hlo71, hx72, hpl59, hpd60, hqn61⟩
 refine ⟨_, rfl, ?_⟩
 have hX73 := hX56.trans hx72 hpin482
 have hpin74 := PIn.call hpin482 hlo71 hX56.size
 have hql75 := hpx70.len
 have hml76 := pkl q65
 have hml77 := pkb hok69
 refine ⟨fun _ => (dO hX73.pins hx72.le), ?_⟩
 refine zQ (i := 6) (by kernel_rfl) (zU (i := 6) rfl rfl rfl (zI rfl _) (zM (vs := [(.pointer (some ⟨p37, 0, none⟩)), (.agg [v].toArray)]) Tryz.func34 nm34 rfl rfl rfl ?_))
 refine dP (jM hX73.pins hpk68 hok69 (hv.mono (dN (dN (dN (dN (dN hle10 hle23) hx29.le) hx34.le) hx43.le) hx72.le)) (jR hgb) (by omega) hlb) ?_
 rintro _ w87 ⟨z78, L82, R83, B84, q85, G86, rfl, hpk88, hok89, hpx90, hlo91, hx92, hpl79, hpd80, hqn81⟩
 refine ⟨_, rfl, ?_⟩
 have hX93 := hX73.trans hx92 hpin74
 have hpin94 := PIn.call hpin74 hlo91 hX73.size
 have hql95 := hpx90.len
 have hml96 := pkl q85
 have hml97 := pkb hok89
 refine ⟨fun _ => (dO hX93.pins (dN hx72.le hx92.le)), ?_⟩
 refine zQ (i := 7) (by kernel_rfl) (zU (i := 7) rfl rfl rfl (zI rfl _) (zM (vs := [(.pointer (some ⟨p37, 0, none⟩)), (.int .i64 z58), (.int .i64 z78)]) Tryz.func43 nm43 rfl rfl rfl ?_))
 refine dP (ge_spec hX93.pins hpk88 hok89 (hpx90.place hpl59) hpl79) ?_
 rintro _ w100 ⟨q98, G99, rfl, hpk101, hok102, hpx103, hqn104, hx105⟩
 refine ⟨_, rfl, ?_⟩
 have hX106 := hX93.trans hx105 (fun i hi => (PIn.o hpin94) i hi)
 have hql107 := hpx103.len
 have hml108 := pkl q98
 have hml109 := pkb hok102
 have hql110 := congrArg List.length hqn104.1
 refine ⟨fun _ => (dO hX106.pins (dN (dN hx72.le hx92.le) hx105.le)), ?_⟩
 refine dT (i := 8) rfl rfl (by kernel_rfl) (fun _ _ => zD (v := (.bool (geB q85.ns z58 z78))) rfl) (dO hX106.pins (dN (dN hx72.le hx92.le) hx105.le)) ?_
 refine dT (i := 9) rfl rfl (by kernel_rfl) (fun _ _ => zD (v := (.bool true)) rfl) (dO hX106.pins (dN (dN hx72.le hx92.le) hx105.le)) ?_
 refine yP (by kernel_rfl) (zA (wp_ret (zY (nN (v := (.bool (geB q85.ns z58 z78))) (u := (.bool true)) rfl rfl rfl rfl rfl ?_))))
 have hr1 := (hpx90.pd hok69 hok89 hpl59).trans hpd60
 have hr2 := hpd80
 obtain ⟨e1, e2⟩ := nQ hga hgb
 rw [e1, e2]
 exact ⟨_, congrArg (fun z => Ending.returned (Value.tuple #[Value.bool z, Value.bool true])) (geB_roots hr1 hr2), hX106⟩
 refine zG (zH ?_)
 refine qD rfl (zD (v := (.bool false)) rfl) (qD rfl (zD (v := (.bool false)) rfl) (qe (zA ?_)))
 refine wp_ret (zY (nN (v := (.bool false)) (u := (.bool false)) rfl rfl rfl rfl rfl ?_))
 obtain ⟨e1, e2⟩ := alB_bad (Or.inr h36)
 rw [e1, e2]
 exact ⟨_, rfl, hX35⟩
 refine qs rfl rfl rfl rfl rfl rfl (qs rfl rfl rfl rfl rfl rfl (qs rfl rfl rfl rfl rfl rfl (qD rfl (xI (v := (.bool true)) rfl rfl) (qe (zA ?_)))))
 refine kB rfl rfl (zG (zH ?_))
 refine qD rfl (zD (v := (.bool false)) rfl) (qD rfl (zD (v := (.bool false)) rfl) (qe (zA ?_)))
 refine wp_ret (zY (nN (v := (.bool false)) (u := (.bool false)) rfl rfl rfl rfl rfl ?_))
 obtain ⟨e1, e2⟩ := alB_bad (Or.inl h31)
 rw [e1, e2]
 exact ⟨_, rfl, hX30⟩
end AT1
end Go.Proofs.YtajkbplgbikgdaaGreatDoor
namespace Go.Proofs.YtajkbplgbikgdaaGreatDoor
namespace SO7
open Go.RowKit Go.GL Go.Proofs
open B1 C1 D1 E1
theorem mB {w : World} {G : Pin} {u v : Value} {xs ys : List Int} (hP : Pins G w) (hu : RSl eInt G u xs) (hv : RSl eInt G v ys) :
  Calls Tryz.prog 39 [u, v].toArray w fun e w' => e = .returned (.bool (decide (xs = ys))) ∧ Ext noS G w G w' := by
 refine yG (n := 26) Tryz.func39 Tryz.ntmps39 rfl rfl ?_
 have hX0 := exr noS hP
 have hm := hu.max
 refine zG (zH ?_)
 refine qD rfl (zD (v := (.bool false)) rfl) (qe (zA (zG (zG (zH ?_)))))
 refine qD rfl (zB (v := u) rfl) (qD rfl (zT eU (v := u) rfl hu) (qD rfl (zB (v := v) rfl) (qD rfl (zT eU (v := v) rfl hv) (qD rfl (kY rfl rfl) (qe (zA ?_))))))
 refine yN (p := ((xs.length : Int) : Int) ≠ (ys.length : Int)) rfl rfl (fun h1 => ?_) (fun h1 => ?_)
 refine zG (zH ?_)
 refine qD rfl (zD (v := (.bool false)) rfl) (qe (zA ?_))
 exact wp_ret (zY (zW (v := (.bool false)) rfl rfl rfl (⟨congrArg (fun z => Ending.returned (Value.bool z)) (decide_eq_false (fun e => h1 (by rw [e]))).symm, hX0⟩)))
 refine wp_skip (zA (zG (zG (zH ?_))))
 refine qD rfl (zD (v := (.int .i64 0)) rfl) (qe (zA ?_))
 refine yH (yZ (fun (k : Nat) (en : Nat → Value) (W : World) => ∃ (env1 : Nat → Value) (j : Nat), en = (upd (upd (upd env1 0 u) 1 v) 5 (.int .i64 (j : Int))) ∧ k = xs.length - j ∧ Ext noS G w G W ∧ (j ≤ xs.length) ∧ (xs.length = ys.length) ∧ (∀ i, i < j → xs.getD i 0 = ys.getD i 0)) _ ⟨_, 0, (zC (x := 5) (zC (x := 1) (zX (x := 0) rfl) rfl) rfl), rfl, hX0, Nat.zero_le _, (by omega), (fun i hi => absurd hi (Nat.not_lt_zero i))⟩ ?_)
 rintro k2 _ w3 ⟨env1, j, rfl, hk4, hX5, hj, heq, hp⟩
 refine zG (zG (zH ?_))
 refine qD rfl (zB (v := (.int .i64 (j : Int))) rfl) (qD rfl (zB (v := u) rfl) (qD rfl (zT eU (v := u) rfl hu) (qD rfl (xB rfl rfl) (qe (zA ?_)))))
 refine yN (p := ((j : Int) : Int) < (xs.length : Int)) rfl rfl (fun h6 => ?_) (fun h6 => ?_)
 refine wp_skip (zA (zG ?_))
 refine yH (zG (xD (S := fun wz => Pins G wz) (last := 9) (by kernel_rfl) rfl ?_))
 have hl7 := bdr w3
 have hp8 := hX5.pins.below hl7
 have hX9 := hX5.step hp8 hl7
 refine dT (i := 0) rfl rfl (by kernel_rfl) (fun _ _ => zB (v := u) rfl) hX9.pins ?_
 refine dT (i := 1) rfl rfl (by kernel_rfl) (fun _ _ => zB (v := (.int .i64 (j : Int))) rfl) hX9.pins ?_
 refine dT (i := 2) rfl rfl (by kernel_rfl) (fun _ _ => zN eU sz3 (v := u) rfl rfl hu (by omega) (by omega)) hX9.pins ?_
 refine dT (i := 3) rfl rfl (by kernel_rfl) (fun _ hS => zO (r := xs.getD j 0) rfl ag3 (z := (j : Int)) rfl hu hS (by omega) (by omega)) hX9.pins ?_
 refine dT (i := 4) rfl rfl (by kernel_rfl) (fun _ _ => zB (v := v) rfl) hX9.pins ?_
 refine dT (i := 5) rfl rfl (by kernel_rfl) (fun _ _ => zB (v := (.int .i64 (j : Int))) rfl) hX9.pins ?_
 refine dT (i := 6) rfl rfl (by kernel_rfl) (fun _ _ => zN eU sz3 (v := v) rfl rfl hv (by omega) (by omega)) hX9.pins ?_
 refine dT (i := 7) rfl rfl (by kernel_rfl) (fun _ hS => zO (r := ys.getD j 0) rfl ag3 (z := (j : Int)) rfl hv hS (by omega) (by omega)) hX9.pins ?_
 refine dT (i := 8) rfl rfl (by kernel_rfl) (fun _ _ => kY rfl rfl) hX9.pins ?_
 refine yP (by kernel_rfl) (zA (yN (p := (xs.getD j 0 : Int) ≠ (ys.getD j 0)) rfl rfl (fun h10 => ?_) (fun h10 => ?_)))
 refine zG (zH ?_)
 refine qD rfl (zD (v := (.bool false)) rfl) (qe (zA ?_))
 exact wp_ret (zY (zW (v := (.bool false)) rfl rfl rfl (⟨congrArg (fun z => Ending.returned (Value.bool z)) (decide_eq_false (fun e => h10 (by rw [e]))).symm, hX9⟩)))
 refine wp_skip (yQ (zA (zH ?_)))
 refine qD rfl (zB (v := (.int .i64 (j : Int))) rfl) (qD rfl (yX rfl rfl (by omega)) (qD rfl (zD (v := (.int .i64 ((j : Int) + 1))) rfl) (qe (yS (⟨_, ?_, _, rfl, _, j + 1, (zC (x := 5) (zC (x := 1) (zX (x := 0) rfl) rfl) rfl), rfl, hX9, (by omega), heq, (eqstep hp h10)⟩)))))
 omega
 refine wp_exit (yI (yW (yV (zA (zG (zH ?_))))))
 refine qD rfl (zD (v := (.bool true)) rfl) (qe (zA ?_))
 exact wp_ret (zY (zW (v := (.bool true)) rfl rfl rfl (⟨congrArg (fun z => Ending.returned (Value.bool z)) (decide_eq_true (eqdone heq (by omega) hp)).symm, hX5⟩)))
theorem fZ {w : World} {G : Pin} {u v : Value} {xs ys : List Nd} (hP : Pins G w) (hu : RSl eNode G u xs) (hv : RSl eNode G v ys) :
  Calls Tryz.prog 11 [(.agg [u].toArray), (.agg [v].toArray)].toArray w fun e w' => ∃ G', e = .returned (.bool (decide (xs = ys))) ∧ Ext noS G w G' w' := by
 refine yG (n := 50) Tryz.func11 Tryz.ntmps11 rfl rfl ?_
 have hX0 := exr noS hP
 have hm := hu.max
 refine zG (zH ?_)
 refine qI rfl (xW [u] (v := (.agg [u].toArray)) rfl rfl hX0.pins (fun b1 w2 hk3 hb4 hp5 hl6 => ?_))
 have hX7 := hX0.step hp5 hl6
 have hlo8 : w.heap.size ≤ b1 := by have := hX0.size; omega
 obtain ⟨G9, hle10, hX11, hbp12, hf13⟩ := hb4.shut hX7 hlo8
 refine qI rfl (xW [v] (v := (.agg [v].toArray)) rfl rfl hX11.pins (fun b14 w15 hk16 hb17 hp18 hl19 => ?_))
 have hX20 := hX11.step hp18 hl19
 have hlo21 : w.heap.size ≤ b14 := by have := hX11.size; omega
 obtain ⟨G22, hle23, hX24, hbp25, hf26⟩ := hb17.shut hX20 hlo21
 refine qD rfl (zD (v := (.bool false)) rfl) (qe (zA (zG (zG (zH ?_)))))
 refine qD rfl (zR (k := 0) rfl eW rfl nz24 rfl) (qD rfl (zS (u := u) ag24 rfl ((dO hX24.pins hle23) _ _ _ (hbp12 0 _ rfl))) (qD rfl (zT eV (v := u) rfl hu) (qD rfl (zR (k := 0) rfl eW rfl nz24 rfl) (qD rfl (zS (u := v) ag24 rfl (hX24.pins _ _ _ (hbp25 0 _ rfl))) (qD rfl (zT eV (v := v) rfl hv) (qD rfl (kY rfl rfl) (qe (zA ?_))))))))
 refine yN (p := ((xs.length : Int) : Int) ≠ (ys.length : Int)) rfl rfl (fun h27 => ?_) (fun h27 => ?_)
 refine zG (zH ?_)
 refine qD rfl (zD (v := (.bool false)) rfl) (qe (zA ?_))
 exact wp_ret (zY (zW (v := (.bool false)) rfl rfl rfl (⟨_, congrArg (fun z => Ending.returned (Value.bool z)) (decide_eq_false (fun e => h27 (by rw [e]))).symm, hX24⟩)))
 refine wp_skip (zA (zG (zG (zH ?_))))
 refine qD rfl (zD (v := (.int .i64 0)) rfl) (qe (zA ?_))
 refine yH (yZ (fun (k : Nat) (en : Nat → Value) (W : World) => ∃ (env1 : Nat → Value) (j : Nat) (GL1 : Pin), en = (upd (upd (upd env1 2 (.pointer (some ⟨b1, 0, none⟩))) 3 (.pointer (some ⟨b14, 0, none⟩))) 5 (.int .i64 (j : Int))) ∧ k = xs.length - j ∧ Ext noS G w GL1 W ∧ Pin.le G22 GL1 ∧ (j ≤ xs.length) ∧ (xs.length = ys.length) ∧ (∀ i, i < j → xs.getD i default = ys.getD i default)) _ ⟨_, 0, G22, (zC (x := 5) (zC (x := 3) (zX (x := 2) rfl) rfl) rfl), rfl, hX24, Pin.le_refl _, Nat.zero_le _, (by omega), (fun i hi => absurd hi (Nat.not_lt_zero i))⟩ ?_)
 rintro k28 _ w29 ⟨env1, j, GL1, rfl, hk30, hX31, hlek28, hj, heq, hp⟩
 refine zG (zG (zH ?_))
 refine qD rfl (zB (v := (.int .i64 (j : Int))) rfl) (qD rfl (zR (k := 0) rfl eW rfl nz24 rfl) (qD rfl (zS (u := u) ag24 rfl ((dO hX31.pins (dN hle23 hlek28)) _ _ _ (hbp12 0 _ rfl))) (qD rfl (zT eV (v := u) rfl hu) (qD rfl (xB rfl rfl) (qe (zA ?_))))))
 refine yN (p := ((j : Int) : Int) < (xs.length : Int)) rfl rfl (fun h32 => ?_) (fun h32 => ?_)
 refine wp_skip (zA (zG ?_))
 refine yH (zG (xD (S := fun wz => Pins GL1 wz) (last := 30) (by kernel_rfl) rfl ?_))
 have hl33 := bdr w29
 have hp34 := hX31.pins.below hl33
 have hX35 := hX31.step hp34 hl33
 refine dT (i := 0) rfl rfl (by kernel_rfl) (fun _ _ => zR (k := 0) rfl eW rfl nz24 rfl) hX35.pins ?_
 refine dT (i := 1) rfl rfl (by kernel_rfl) (fun _ hS => zS (u := u) ag24 rfl ((dO hS (dN hle23 hlek28)) _ _ _ (hbp12 0 _ rfl))) hX35.pins ?_
 refine dT (i := 2) rfl rfl (by kernel_rfl) (fun _ _ => zB (v := (.int .i64 (j : Int))) rfl) hX35.pins ?_
 refine dT (i := 3) rfl rfl (by kernel_rfl) (fun _ _ => zN eV sz65 (v := u) rfl rfl hu (by omega) (by omega)) hX35.pins ?_
 refine dT (i := 4) rfl rfl (by kernel_rfl) (fun _ _ => xP (off := 0) eX rfl rfl nz59 (z := (j : Int)) (k := 0) rfl hu (by omega) (by omega)) hX35.pins ?_
 obtain ⟨u36, hr37, hl38⟩ := vZ (hu.at (z := (j : Int)) (by omega) (by omega)) (j := j) rfl
 have hm39 := hr37.max
 refine dT (i := 5) rfl rfl (by kernel_rfl) (fun _ hS => hl38 ag59 rfl (dO hS (dN (dN hle10 hle23) hlek28))) hX35.pins ?_
 refine dT (i := 6) rfl rfl (by kernel_rfl) (fun _ _ => zR (k := 0) rfl eW rfl nz24 rfl) hX35.pins ?_
 refine dT (i := 7) rfl rfl (by kernel_rfl) (fun _ hS => zS (u := v) ag24 rfl ((dO hS hlek28) _ _ _ (hbp25 0 _ rfl))) hX35.pins ?_
 refine dT (i := 8) rfl rfl (by kernel_rfl) (fun _ _ => zB (v := (.int .i64 (j : Int))) rfl) hX35.pins ?_
 refine dT (i := 9) rfl rfl (by kernel_rfl) (fun _ _ => zN eV sz65 (v := v) rfl rfl hv (by omega) (by omega)) hX35.pins ?_
 refine dT (i := 10) rfl rfl (by kernel_rfl) (fun _ _ => xP (off := 0) eX rfl rfl nz59 (z := (j : Int)) (k := 0) rfl hv (by omega) (by omega)) hX35.pins ?_
 obtain ⟨u40, hr41, hl42⟩ := vZ (hv.at (z := (j : Int)) (by omega) (by omega)) (j := j) rfl
 have hm43 := hr41.max
 refine dT (i := 11) rfl rfl (by kernel_rfl) (fun _ hS => hl42 ag59 rfl (dO hS (dN (dN hle10 hle23) hlek28))) hX35.pins ?_
 refine zQ (i := 12) (by kernel_rfl) (zU (i := 12) rfl rfl rfl (zI rfl _) (zM (vs := [u36, u40]) Tryz.func39 nm39 rfl rfl rfl ?_))
 refine dP (mB hX35.pins (hr37.mono (dN (dN hle10 hle23) hlek28)) (hr41.mono (dN (dN hle10 hle23) hlek28))) ?_
 rintro _ w44 ⟨rfl, hx45⟩
 refine ⟨_, rfl, ?_⟩
 have hX46 := hX35.step hx45.pins hx45.below
 refine ⟨fun _ => hX46.pins, ?_⟩
 refine dT (i := 13) rfl rfl (by kernel_rfl) (fun _ _ => qR rfl) hX46.pins ?_
 refine dT (i := 14) rfl rfl (by kernel_rfl) (fun _ _ => zB (v := (.bool (!(decide (((xs.getD j default).l) = ((ys.getD j default).l)))))) rfl) hX46.pins ?_
 refine drbn (t := 34) rfl (fun h47 => ?_) (fun h47 => ?_)
 replace h47 := of_decide_eq_true h47
 refine yL (i := 15) rfl rfl rfl (yB rfl rfl rfl rfl) (by kernel_rfl) (fun _ _ => zR (k := 0) rfl eW rfl nz24 rfl) hX46.pins (yL (i := 16) rfl rfl rfl (yB rfl rfl rfl rfl) (by kernel_rfl) (fun _ hS => zS (u := u) ag24 rfl ((dO hS (dN hle23 hlek28)) _ _ _ (hbp12 0 _ rfl))) hX46.pins (yL (i := 17) rfl rfl rfl (yB rfl rfl rfl rfl) (by kernel_rfl) (fun _ _ => zB (v := (.int .i64 (j : Int))) rfl) hX46.pins (yL (i := 18) rfl rfl rfl (yB rfl rfl rfl rfl) (by kernel_rfl) (fun _ _ => zN eV sz65 (v := u) rfl rfl hu (by omega) (by omega)) hX46.pins (yL (i := 19) rfl rfl rfl (yB rfl rfl rfl rfl) (by kernel_rfl) (fun _ _ => xP (off := 1) eX rfl rfl nz59 (z := (j : Int)) (k := 0) rfl hu (by omega) (by omega)) hX46.pins ?_))))
 obtain ⟨u48, hr49, hl50⟩ := kG (hu.at (z := (j : Int)) (by omega) (by omega)) (j := j) rfl
 have hm51 := hr49.max
 refine yL (i := 20) rfl rfl rfl (yB rfl rfl rfl rfl) (by kernel_rfl) (fun _ hS => hl50 ag59 rfl (dO hS (dN (dN hle10 hle23) hlek28))) hX46.pins (yL (i := 21) rfl rfl rfl (yB rfl rfl rfl rfl) (by kernel_rfl) (fun _ _ => zR (k := 0) rfl eW rfl nz24 rfl) hX46.pins (yL (i := 22) rfl rfl rfl (yB rfl rfl rfl rfl) (by kernel_rfl) (fun _ hS => zS (u := v) ag24 rfl ((dO hS hlek28) _ _ _ (hbp25 0 _ rfl))) hX46.pins (yL (i := 23) rfl rfl rfl (yB rfl rfl rfl rfl) (by kernel_rfl) (fun _ _ => zB (v := (.int .i64 (j : Int))) rfl) hX46.pins (yL (i := 24) rfl rfl rfl (yB rfl rfl rfl rfl) (by kernel_rfl) (fun _ _ => zN eV sz65 (v := v) rfl rfl hv (by omega) (by omega)) hX46.pins (yL (i := 25) rfl rfl rfl (yB rfl rfl rfl rfl) (by kernel_rfl) (fun _ _ => xP (off := 1) eX rfl rfl nz59 (z := (j : Int)) (k := 0) rfl hv (by omega) (by omega)) hX46.pins ?_)))))
 obtain ⟨u52, hr53, hl54⟩ := kG (hv.at (z := (j : Int)) (by omega) (by omega)) (j := j) rfl
 have hm55 := hr53.max
 refine yL (i := 26) rfl rfl rfl (yB rfl rfl rfl rfl) (by kernel_rfl) (fun _ hS => hl54 ag59 rfl (dO hS (dN (dN hle10 hle23) hlek28))) hX46.pins (zQ (i := 27) (by kernel_rfl) (zU (i := 27) rfl rfl rfl (yB rfl rfl rfl rfl) (zM (vs := [u48, u52]) Tryz.func39 nm39 rfl rfl rfl ?_)))
 refine dP (mB hX46.pins (hr49.mono (dN (dN hle10 hle23) hlek28)) (hr53.mono (dN (dN hle10 hle23) hlek28))) ?_
 rintro _ w56 ⟨rfl, hx57⟩
 refine ⟨_, rfl, ?_⟩
 have hX58 := hX46.step hx57.pins hx57.below
 refine ⟨fun _ => hX58.pins, ?_⟩
 refine yL (i := 28) rfl rfl rfl (yB rfl rfl rfl rfl) (by kernel_rfl) (fun _ _ => qR rfl) hX58.pins (dT (i := 29) rfl rfl (by kernel_rfl) (fun _ _ => xA (v := (.bool (!(decide (((xs.getD j default).r) = ((ys.getD j default).r)))))) rfl rfl) hX58.pins ?_)
 refine yP (by kernel_rfl) (zA (vN rfl rfl (fun h59 => ?_) (fun h59 => ?_)))
 replace h59 := of_decide_eq_true h59
 refine wp_skip (yQ (zA (zH ?_)))
 refine qD rfl (zB (v := (.int .i64 (j : Int))) rfl) (qD rfl (yX rfl rfl (by omega)) (qD rfl (zD (v := (.int .i64 ((j : Int) + 1))) rfl) (qe (yS (⟨_, ?_, _, rfl, _, j + 1, GL1, (zC (x := 5) (zC (x := 3) (zX (x := 2) rfl) rfl) rfl), rfl, hX58, hlek28, (by omega), heq, (eqstepN hp h47 h59)⟩)))))
 omega
 replace h59 := of_decide_eq_false h59
 refine zG (zH ?_)
 refine qD rfl (zD (v := (.bool false)) rfl) (qe (zA ?_))
 exact wp_ret (zY (zW (v := (.bool false)) rfl rfl rfl (⟨_, congrArg (fun z => Ending.returned (Value.bool z)) (decide_eq_false (fun e => h59 (by rw [e]))).symm, hX58⟩)))
 replace h47 := of_decide_eq_false h47
 refine yE (i := 15) rfl rfl (yK rfl rfl rfl rfl rfl) (by kernel_rfl) hX46.pins (yE (i := 16) rfl rfl (yK rfl rfl rfl rfl rfl) (by kernel_rfl) hX46.pins (yE (i := 17) rfl rfl (yK rfl rfl rfl rfl rfl) (by kernel_rfl) hX46.pins (yE (i := 18) rfl rfl (yK rfl rfl rfl rfl rfl) (by kernel_rfl) hX46.pins (yE (i := 19) rfl rfl (yK rfl rfl rfl rfl rfl) (by kernel_rfl) hX46.pins (yE (i := 20) rfl rfl (yK rfl rfl rfl rfl rfl) (by kernel_rfl) hX46.pins (yE (i := 21) rfl rfl (yK rfl rfl rfl rfl rfl) (by kernel_rfl) hX46.pins (yE (i := 22) rfl rfl (yK rfl rfl rfl rfl rfl) (by kernel_rfl) hX46.pins (yE (i := 23) rfl rfl (yK rfl rfl rfl rfl rfl) (by kernel_rfl) hX46.pins (yE (i := 24) rfl rfl (yK rfl rfl rfl rfl rfl) (by kernel_rfl) hX46.pins (yE (i := 25) rfl rfl (yK rfl rfl rfl rfl rfl) (by kernel_rfl) hX46.pins (yE (i := 26) rfl rfl (yK rfl rfl rfl rfl rfl) (by kernel_rfl) hX46.pins (yE (i := 27) rfl rfl (yK rfl rfl rfl rfl rfl) (by kernel_rfl) hX46.pins (yE (i := 28) rfl rfl (yK rfl rfl rfl rfl rfl) (by kernel_rfl) hX46.pins (dT (i := 29) rfl rfl (by kernel_rfl) (fun _ _ => xI (v := (.bool true)) rfl rfl) hX46.pins ?_))))))))))))))
 refine yP (by kernel_rfl) (zA (kB rfl rfl (zG (zH ?_))))
 refine qD rfl (zD (v := (.bool false)) rfl) (qe (zA ?_))
 exact wp_ret (zY (zW (v := (.bool false)) rfl rfl rfl (⟨_, congrArg (fun z => Ending.returned (Value.bool z)) (decide_eq_false (fun e => h47 (by rw [e]))).symm, hX46⟩)))
 refine wp_exit (yI (yW (yV (zA (zG (zH ?_))))))
 refine qD rfl (zD (v := (.bool true)) rfl) (qe (zA ?_))
 exact wp_ret (zY (zW (v := (.bool true)) rfl rfl rfl (⟨_, congrArg (fun z => Ending.returned (Value.bool z)) (decide_eq_true (sX heq (by omega) hp)).symm, hX31⟩)))
end SO7
end Go.Proofs.YtajkbplgbikgdaaGreatDoor
namespace Go.Proofs.YtajkbplgbikgdaaGreatDoor
namespace MK1
open Go.RowKit Go.GL Go.Proofs
open B1 C1 D1 E1
theorem pl119 : (Tryz.prog.underlying 119).bind (placesD Tryz.prog) = some [(0, 1), (1, 1)] := by kernel_rfl
theorem nA {w : World} {G : Pin} {u v : Value} {fs gs : List (List Nd)} (hP : Pins G w) (hu : RSl (eSl eNode) G u fs) (hv : RSl (eSl eNode) G v gs) (hfa : AllW fs) (hga : AllW gs) :
  Calls Tryz.prog 131 [u, v].toArray w fun e w' => ∃ (u : Value) (G' : Pin), e = .returned (.agg [u].toArray) ∧ RSl eNode G' u (formG (mkGm fs gs)) ∧ Ext noS G w G' w' ∧ ∃ Gi, Own eNode 65 Gi w' w.heap.size u (formG (mkGm fs gs)) ∧ Pin.le Gi G' := by
 refine yG (n := 50) Tryz.func131 Tryz.ntmps131 rfl rfl ?_
 have hX0 := exr noS hP
 have hmu := hu.max
 have hmv := hv.max
 have hfle := hfa.len
 have hgle := hga.len
 refine zG (zH ?_)
 refine qI rfl (yO [(.slice none 0 0)] zr26 rfl hX0.pins (fun b1 w2 hk3 hb4 hp5 hl6 => ?_))
 have hX7 := hX0.step hp5 hl6
 have hlo8 : w.heap.size ≤ b1 := by have := hX0.size; omega
 refine qe (zA (zG (zH ?_)))
 refine qD rfl (xQ [(.slice none 0 0), (.slice none 0 0)] [(.slice none 0 0), (.slice none 0 0)] [] dC zr119 rfl pl119 rfl (fun _ h => by cases h) rfl) (qI rfl (xW [(.slice none 0 0), (.slice none 0 0)] (v := (.agg [(.slice none 0 0), (.slice none 0 0)].toArray)) rfl rfl hX7.pins (fun b9 w10 hk11 hb12 hp13 hl14 => ?_)))
 have hX15 := hX7.step hp13 hl14
 have hb16 := hb4.below hl14
 have ha17 : Apart (some b9) (some b1) := zL (congrArg some hk11) hb4.lt
 have hlo18 : w.heap.size ≤ b9 := by have := hX7.size; omega
 refine qD rfl (zD (v := (.pointer (some ⟨b9, 0, none⟩))) rfl) (qe (zA (zG (zH ?_))))
 refine qI rfl (xG (E := eInt) (e := 3) eU sz3 hX15.pins (fun u19 w20 ho21 hp22 hl23 hk24 => ?_))
 have hX25 := hX15.step hp22 hl23
 have hb26 := hb16.below hl23
 have hb27 := hb12.below hl23
 have ha28 : Apart u19.ownBlock (some b1) := zL hk24 hb16.lt
 have ha29 : Apart u19.ownBlock (some b9) := zL hk24 hb12.lt
 have ho30 := ho21.weaken hX15.size
 refine qI rfl (xG (E := eInt) (e := 3) eU sz3 hX25.pins (fun u31 w32 ho33 hp34 hl35 hk36 => ?_))
 have hX37 := hX25.step hp34 hl35
 have ho38 := ho30.below hl35
 have hb39 := hb26.below hl35
 have hb40 := hb27.below hl35
 have ha41 : Apart u31.ownBlock u19.ownBlock := zK hk36 ho30.lt
 have ha42 : Apart u31.ownBlock (some b1) := zL hk36 hb26.lt
 have ha43 : Apart u31.ownBlock (some b9) := zL hk36 hb27.lt
 have ho44 := ho33.weaken hX25.size
 refine qD rfl (zD (v := u19) rfl) (qD rfl (zD (v := u31) rfl) (qe (zA (zG (zG (zH ?_))))))
 refine qD rfl (zD (v := (.int .i64 0)) rfl) (qe (zA ?_))
 refine yH (yZ (fun (k : Nat) (en : Nat → Value) (W : World) => ∃ (env1 : Nat → Value) (i5 : Nat) (atA : Value) (atsA : List Int) (uA : Value) (vA : Value) (nsA : List Nd) (bsA : List Int) (GLA : Pin), en = (upd (upd (upd (upd (upd (upd (upd env1 0 u) 1 v) 4 (.pointer (some ⟨b1, 0, none⟩))) 5 (.pointer (some ⟨b9, 0, none⟩))) 6 atA) 7 u31) 8 (.int .i64 (i5 : Int))) ∧ k = fs.length - i5 ∧ Ext noS G w GLA W ∧ Pin.le G GLA ∧ (i5 ≤ fs.length) ∧ (PoolOk (bkq nsA bsA)) ∧ (GsOk (bkq nsA bsA) atsA ((fs.take i5).map gOf)) ∧ (nsA.length ≤ 1000 * i5) ∧ (Own eInt 3 GLA W w.heap.size atA (atsA)) ∧ (Own eNode 65 GLA W 0 uA (nsA)) ∧ (Own eInt 3 GLA W 0 vA (bsA)) ∧ (Own eInt 3 GLA W w.heap.size u31 ([])) ∧ (Bx GLA W b1 [(.slice none 0 0)]) ∧ (Bx GLA W b9 [uA, vA]) ∧ (Apart atA.ownBlock uA.ownBlock) ∧ (Apart atA.ownBlock vA.ownBlock) ∧ (Apart atA.ownBlock u31.ownBlock) ∧ (Apart atA.ownBlock (some b1)) ∧ (Apart atA.ownBlock (some b9)) ∧ (Apart uA.ownBlock vA.ownBlock) ∧ (Apart uA.ownBlock u31.ownBlock) ∧ (Apart uA.ownBlock (some b1)) ∧ (Apart uA.ownBlock (some b9)) ∧ (Apart vA.ownBlock u31.ownBlock) ∧ (Apart vA.ownBlock (some b1)) ∧ (Apart vA.ownBlock (some b9)) ∧ (Lo w noS uA.ownBlock) ∧ (Lo w noS vA.ownBlock)) _ ⟨_, 0, u19, [], (.slice none 0 0), (.slice none 0 0), [], [], G, (zC (x := 8) (zC (x := 7) (zC (x := 6) (zC (x := 5) (zC (x := 4) (zC (x := 1) (zX (x := 0) rfl) rfl) rfl) rfl) rfl) rfl) rfl), rfl, hX37, Pin.le_refl _, Nat.zero_le _, (nO Ar.empty), GsOk.nil, (by simp), ho38, (Own.nil _ _ _ _ _), (Own.nil _ _ _ _ _), ho44, hb39, hb40, apart_none.symm, apart_none.symm, ha41.symm, ha28, ha29, apart_none, apart_none, apart_none, apart_none, apart_none, apart_none, apart_none, (fO _ _), (fO _ _)⟩ ?_)
 rintro k45 _ w46 ⟨env1, i5, atA, atsA, uA, vA, nsA, bsA, GLA, rfl, hk47, hX48, hlek45, hki5, hokA, hgsA, hblA, hw49, hw50, hw51, hw52, hw53, hw54, ha55, ha56, ha57, ha58, ha59, ha60, ha61, ha62, ha63, ha64, ha65, ha66, hlo67, hlo68⟩
 have hglA := hgsA.len
 rw [List.length_map, List.length_take] at hglA
 refine zG (zG (zH ?_))
 refine qD rfl (zB (v := (.int .i64 (i5 : Int))) rfl) (qD rfl (zB (v := u) rfl) (qD rfl (zT eZ (v := u) rfl hu) (qD rfl (xB rfl rfl) (qe (zA ?_)))))
 refine yN (p := ((i5 : Int) : Int) < (fs.length : Int)) rfl rfl (fun h69 => ?_) (fun h69 => ?_)
 have hgd := hfa.ok i5 (by omega)
 have hgdl := hgd.2.1
 have hgdh := hgd.2.2
 have hrk := eH (fs := fs.getD i5 []) hokA hgd.1 (by omega) (by omega)
 refine wp_skip (zA (zG ?_))
 refine yH (zH (qD rfl (zB (v := atA) rfl) (qD rfl (zB (v := (.pointer (some ⟨b9, 0, none⟩))) rfl) (qD rfl (zB (v := u) rfl) (qD rfl (zB (v := (.int .i64 (i5 : Int))) rfl) (qD rfl (zN eZ sz26 (v := u) rfl rfl hu (by omega) (by omega)) ?_))))))
 obtain ⟨u70, hr71, hl72⟩ := nm_form (hu.at (z := (i5 : Int)) (by omega) (by omega)) (j := i5) rfl
 have hm73 := hr71.max
 refine qD rfl (hl72 ag26 sz26 rfl (dO hX48.pins hlek45)) (qI rfl (zM (vs := [(.pointer (some ⟨b9, 0, none⟩)), (.agg [u70].toArray)]) Tryz.func124 nm124 rfl rfl rfl ?_))
 refine dP (jM hX48.pins ⟨hw54, hw50, hw51, ha63.symm, ha66.symm, ha60⟩ hokA.ar.ok (hr71.mono hlek45) ⟨hgd.1, hgdl⟩ (by first | omega | (simp; omega))) ?_
 rintro _ w77 ⟨u74, v75, G76, rfl, hbk78, hx79, hlu80, hlv81⟩
 refine ⟨_, rfl, ?_⟩
 have hin84 : ∀ i, inS b9 uA vA i → w.heap.size ≤ i ∨ noS i := fH (yC hlo18) hlo67 hlo68
 have hX85 := hX48.trans hx79 hin84
 have hn86 := notS (u := uA) (v := vA) ha59 ha55 ha56
 have ho87 := hw49.extS hx79 hn86
 have ha88 : Apart atA.ownBlock u74.ownBlock := xY hlu80 hn86 (qX hw49)
 have ha89 : Apart atA.ownBlock v75.ownBlock := xY hlv81 hn86 (qX hw49)
 have hn90 := notS (u := uA) (v := vA) ha43 ha61.symm ha64.symm
 have ho91 := hw52.extS hx79 hn90
 have ha92 : Apart u31.ownBlock u74.ownBlock := xY hlu80 hn90 (qX hw52)
 have ha93 : Apart u31.ownBlock v75.ownBlock := xY hlv81 hn90 (qX hw52)
 have hn94 := notS (u := uA) (v := vA) ha17.symm ha62.symm ha65.symm
 have ho95 := hw53.extS hx79 (notSb hn94)
 have ha96 : Apart (some b1) u74.ownBlock := xY hlu80 hn94 (vO hw53)
 have ha97 : Apart (some b1) v75.ownBlock := xY hlv81 hn94 (vO hw53)
 have hb98 := hbk78.bx
 have ho99 := hbk78.ou
 have ho100 := hbk78.ov
 have ha101 := hbk78.abu
 have ha102 := hbk78.abv
 have ha103 := hbk78.auv
 have hlo104 := qP hlu80 hin84 hX48.size
 have hlo105 := qP hlv81 hin84 hX48.size
 refine qI rfl (yY (E := eInt) (e := 3) [(.int .i64 (rootM nsA bsA (fs.getD i5 [])))] [rootM nsA bsA (fs.getD i5 [])] eU sz3 zr3 (by exact xT (by rfl)) (yM (by rfl)) rfl rfl rfl rfl (by decide) hX85.pins (fun u106 w107 ho108 hp109 hl110 hk111 => ?_))
 have hX112 := hX85.step hp109 hl110
 have ho113 := ho87.below hl110
 have ho114 := ho91.below hl110
 have ho115 := ho99.below hl110
 have ho116 := ho100.below hl110
 have hb117 := ho95.below hl110
 have hb118 := hb98.below hl110
 have ho125 := ho108.weaken hX85.size
 refine qI rfl (zZ (E := eInt) (v := atA) (u := u106) 8 eU ap3 (by decide) rfl rfl hX112.pins ho113 ho125.src (by first | omega | (rw [List.nil_append]; omega) | (rw [List.length_nil]; omega) | (rw [List.length_append]; omega) | (simp; done) | (simp; omega) | (simp only [List.length_append, List.length_cons, List.length_nil]; omega)) (by first | omega | (rw [List.nil_append]; omega) | (rw [List.length_nil]; omega) | (rw [List.length_append]; omega) | (simp; done) | (simp; omega) | (simp only [List.length_append, List.length_cons, List.length_nil]; omega)) (hX112.size) (fun u126 w127 ho128 hp129 hg130 hw131 => ?_))
 have hX132 := hX112.write hp129 hg130 ((yD ho113))
 have ho133 := ho114.keptA hg130 ha57.symm
 have ho134 := ho115.keptA hg130 ha88.symm
 have ho135 := ho116.keptA hg130 ha89.symm
 have hb137 := hb117.keptA hg130 ha58.symm
 have hb138 := hb118.keptA hg130 ha59.symm
 have ha139 : Apart u31.ownBlock u126.ownBlock := zJ ha57.symm hw131 ho114.lt
 have ha140 : Apart u74.ownBlock u126.ownBlock := zJ ha88.symm hw131 ho115.lt
 have ha141 : Apart v75.ownBlock u126.ownBlock := zJ ha89.symm hw131 ho116.lt
 have ha143 : Apart (some b1) u126.ownBlock := zP ha58.symm hw131 hb117.lt
 have ha144 : Apart (some b9) u126.ownBlock := zP ha59.symm hw131 hb118.lt
 have hm145 := la1 atsA (rootM nsA bsA (fs.getD i5 []))
 refine qD rfl (zD (v := u126) rfl) (qe (yQ (zA (zH ?_))))
 refine qD rfl (zB (v := (.int .i64 (i5 : Int))) rfl) (qD rfl (yX rfl rfl (by omega)) (qD rfl (zD (v := (.int .i64 ((i5 : Int) + 1))) rfl) (qe (yS (⟨_, ?_, _, rfl, _, i5 + 1, u126, atsA ++ ([rootM nsA bsA (fs.getD i5 [])]), u74, v75, (addM nsA bsA (fs.getD i5 [])).2.1, (addM nsA bsA (fs.getD i5 [])).2.2, G76, (zC (x := 8) (zC (x := 7) (zC (x := 6) (zC (x := 5) (zC (x := 4) (zC (x := 1) (zX (x := 0) rfl) rfl) rfl) rfl) rfl) rfl) rfl), rfl, hX132, (dN hlek45 hx79.le), (by omega), hrk.ok, (by rw [eQ (by omega)]; exact (hgsA.px hrk.px hokA hrk.ok).snoc hrk.pl hrk.pd), (by have h8 := hrk.len; have h9 := hgd.2.2; omega), ho128, ho134, ho135, ho133, hb137, hb138, ha140.symm, ha141.symm, ha139.symm, ha143.symm, ha144.symm, ha103, ha92.symm, ha96.symm, ha101.symm, ha93.symm, ha97.symm, ha102.symm, hlo104, hlo105⟩)))))
 omega
 refine wp_exit (yI (yW (yV (zA (zG (zG (zH ?_)))))))
 refine qD rfl (zD (v := (.int .i64 0)) rfl) (qe (zA ?_))
 refine yH ?_
 have hi5n : i5 = fs.length := by omega
 have hgsF : GsOk (bkq nsA bsA) atsA (fs.map gOf) := by rw [hi5n, List.take_length] at hgsA; exact hgsA
 refine yZ (fun (k : Nat) (en : Nat → Value) (W : World) => ∃ (env1 : Nat → Value) (j5 : Nat) (atB : Value) (atsB : List Int) (uB : Value) (vB : Value) (nsB : List Nd) (bsB : List Int) (GLB : Pin), en = (upd (upd (upd (upd (upd (upd env1 1 v) 4 (.pointer (some ⟨b1, 0, none⟩))) 5 (.pointer (some ⟨b9, 0, none⟩))) 6 atA) 7 atB) 9 (.int .i64 (j5 : Int))) ∧ k = gs.length - j5 ∧ Ext noS G w GLB W ∧ Pin.le GLA GLB ∧ (j5 ≤ gs.length) ∧ (PoolOk (bkq nsB bsB)) ∧ (GsOk (bkq nsB bsB) atsB ((gs.take j5).map gOf)) ∧ (nsB.length ≤ 100000 + 1000 * j5) ∧ (GsOk (bkq nsB bsB) atsA (fs.map gOf)) ∧ (Own eInt 3 GLB W w.heap.size atB (atsB)) ∧ (Own eNode 65 GLB W 0 uB (nsB)) ∧ (Own eInt 3 GLB W 0 vB (bsB)) ∧ (Own eInt 3 GLB W w.heap.size atA (atsA)) ∧ (Bx GLB W b1 [(.slice none 0 0)]) ∧ (Bx GLB W b9 [uB, vB]) ∧ (Apart atB.ownBlock uB.ownBlock) ∧ (Apart atB.ownBlock vB.ownBlock) ∧ (Apart atB.ownBlock atA.ownBlock) ∧ (Apart atB.ownBlock (some b1)) ∧ (Apart atB.ownBlock (some b9)) ∧ (Apart uB.ownBlock vB.ownBlock) ∧ (Apart uB.ownBlock atA.ownBlock) ∧ (Apart uB.ownBlock (some b1)) ∧ (Apart uB.ownBlock (some b9)) ∧ (Apart vB.ownBlock atA.ownBlock) ∧ (Apart vB.ownBlock (some b1)) ∧ (Apart vB.ownBlock (some b9)) ∧ (Lo w noS uB.ownBlock) ∧ (Lo w noS vB.ownBlock)) _ ⟨_, 0, u31, [], uA, vA, nsA, bsA, GLA, (zC (x := 9) (zC (x := 7) (zC (x := 6) (zC (x := 5) (zC (x := 4) (zX (x := 1) rfl) rfl) rfl) rfl) rfl) rfl), rfl, hX48, Pin.le_refl _, Nat.zero_le _, hokA, GsOk.nil, (by omega), hgsF, hw52, hw50, hw51, hw49, hw53, hw54, ha61.symm, ha64.symm, ha57.symm, ha42, ha43, ha60, ha55.symm, ha62, ha63, ha56.symm, ha65, ha66, hlo67, hlo68⟩ ?_
 rintro k146 _ w147 ⟨env1, j5, atB, atsB, uB, vB, nsB, bsB, GLB, rfl, hk148, hX149, hlek146, hkj5, hokB, hgsB, hblB, hgsL, hw150, hw151, hw152, hw153, hw154, hw155, ha156, ha157, ha158, ha159, ha160, ha161, ha162, ha163, ha164, ha165, ha166, ha167, hlo168, hlo169⟩
 have hglB := hgsB.len
 rw [List.length_map, List.length_take] at hglB
 refine zG (zG (zH ?_))
 refine qD rfl (zB (v := (.int .i64 (j5 : Int))) rfl) (qD rfl (zB (v := v) rfl) (qD rfl (zT eZ (v := v) rfl hv) (qD rfl (xB rfl rfl) (qe (zA ?_)))))
 refine yN (p := ((j5 : Int) : Int) < (gs.length : Int)) rfl rfl (fun h170 => ?_) (fun h170 => ?_)
 have hgd := hga.ok j5 (by omega)
 have hgdl := hgd.2.1
 have hgdh := hgd.2.2
 have hrk := eH (fs := gs.getD j5 []) hokB hgd.1 (by omega) (by omega)
 refine wp_skip (zA (zG ?_))
 refine yH (zH (qD rfl (zB (v := atB) rfl) (qD rfl (zB (v := (.pointer (some ⟨b9, 0, none⟩))) rfl) (qD rfl (zB (v := v) rfl) (qD rfl (zB (v := (.int .i64 (j5 : Int))) rfl) (qD rfl (zN eZ sz26 (v := v) rfl rfl hv (by omega) (by omega)) ?_))))))
 obtain ⟨u171, hr172, hl173⟩ := nm_form (hv.at (z := (j5 : Int)) (by omega) (by omega)) (j := j5) rfl
 have hm174 := hr172.max
 refine qD rfl (hl173 ag26 sz26 rfl (dO hX149.pins (dN hlek45 hlek146))) (qI rfl (zM (vs := [(.pointer (some ⟨b9, 0, none⟩)), (.agg [u171].toArray)]) Tryz.func124 nm124 rfl rfl rfl ?_))
 refine dP (jM hX149.pins ⟨hw155, hw151, hw152, ha164.symm, ha167.symm, ha161⟩ hokB.ar.ok (hr172.mono (dN hlek45 hlek146)) ⟨hgd.1, hgdl⟩ (by first | omega | (simp; omega))) ?_
 rintro _ w178 ⟨u175, v176, G177, rfl, hbk179, hx180, hlu181, hlv182⟩
 refine ⟨_, rfl, ?_⟩
 have hin185 : ∀ i, inS b9 uB vB i → w.heap.size ≤ i ∨ noS i := fH (yC hlo18) hlo168 hlo169
 have hX186 := hX149.trans hx180 hin185
 have hn187 := notS (u := uB) (v := vB) ha160 ha156 ha157
 have ho188 := hw150.extS hx180 hn187
 have ha189 : Apart atB.ownBlock u175.ownBlock := xY hlu181 hn187 (qX hw150)
 have ha190 : Apart atB.ownBlock v176.ownBlock := xY hlv182 hn187 (qX hw150)
 have hn191 := notS (u := uB) (v := vB) ha59 ha162.symm ha165.symm
 have ho192 := hw153.extS hx180 hn191
 have ha193 : Apart atA.ownBlock u175.ownBlock := xY hlu181 hn191 (qX hw153)
 have ha194 : Apart atA.ownBlock v176.ownBlock := xY hlv182 hn191 (qX hw153)
 have hn195 := notS (u := uB) (v := vB) ha17.symm ha163.symm ha166.symm
 have ho196 := hw154.extS hx180 (notSb hn195)
 have ha197 : Apart (some b1) u175.ownBlock := xY hlu181 hn195 (vO hw154)
 have ha198 : Apart (some b1) v176.ownBlock := xY hlv182 hn195 (vO hw154)
 have hb199 := hbk179.bx
 have ho200 := hbk179.ou
 have ho201 := hbk179.ov
 have ha202 := hbk179.abu
 have ha203 := hbk179.abv
 have ha204 := hbk179.auv
 have hlo205 := qP hlu181 hin185 hX149.size
 have hlo206 := qP hlv182 hin185 hX149.size
 refine qI rfl (yY (E := eInt) (e := 3) [(.int .i64 (rootM nsB bsB (gs.getD j5 [])))] [rootM nsB bsB (gs.getD j5 [])] eU sz3 zr3 (by exact xT (by rfl)) (yM (by rfl)) rfl rfl rfl rfl (by decide) hX186.pins (fun u207 w208 ho209 hp210 hl211 hk212 => ?_))
 have hX213 := hX186.step hp210 hl211
 have ho214 := ho188.below hl211
 have ho215 := ho192.below hl211
 have ho216 := ho200.below hl211
 have ho217 := ho201.below hl211
 have hb218 := ho196.below hl211
 have hb219 := hb199.below hl211
 have ho226 := ho209.weaken hX186.size
 refine qI rfl (zZ (E := eInt) (v := atB) (u := u207) 8 eU ap3 (by decide) rfl rfl hX213.pins ho214 ho226.src (by first | omega | (rw [List.nil_append]; omega) | (rw [List.length_nil]; omega) | (rw [List.length_append]; omega) | (simp; done) | (simp; omega) | (simp only [List.length_append, List.length_cons, List.length_nil]; omega)) (by first | omega | (rw [List.nil_append]; omega) | (rw [List.length_nil]; omega) | (rw [List.length_append]; omega) | (simp; done) | (simp; omega) | (simp only [List.length_append, List.length_cons, List.length_nil]; omega)) (hX213.size) (fun u227 w228 ho229 hp230 hg231 hw232 => ?_))
 have hX233 := hX213.write hp230 hg231 ((yD ho214))
 have ho234 := ho215.keptA hg231 ha158.symm
 have ho235 := ho216.keptA hg231 ha189.symm
 have ho236 := ho217.keptA hg231 ha190.symm
 have hb238 := hb218.keptA hg231 ha159.symm
 have hb239 := hb219.keptA hg231 ha160.symm
 have ha240 : Apart atA.ownBlock u227.ownBlock := zJ ha158.symm hw232 ho215.lt
 have ha241 : Apart u175.ownBlock u227.ownBlock := zJ ha189.symm hw232 ho216.lt
 have ha242 : Apart v176.ownBlock u227.ownBlock := zJ ha190.symm hw232 ho217.lt
 have ha244 : Apart (some b1) u227.ownBlock := zP ha159.symm hw232 hb218.lt
 have ha245 : Apart (some b9) u227.ownBlock := zP ha160.symm hw232 hb219.lt
 have hm246 := la1 atsB (rootM nsB bsB (gs.getD j5 []))
 refine qD rfl (zD (v := u227) rfl) (qe (yQ (zA (zH ?_))))
 refine qD rfl (zB (v := (.int .i64 (j5 : Int))) rfl) (qD rfl (yX rfl rfl (by omega)) (qD rfl (zD (v := (.int .i64 ((j5 : Int) + 1))) rfl) (qe (yS (⟨_, ?_, _, rfl, _, j5 + 1, u227, atsB ++ ([rootM nsB bsB (gs.getD j5 [])]), u175, v176, (addM nsB bsB (gs.getD j5 [])).2.1, (addM nsB bsB (gs.getD j5 [])).2.2, G177, (zC (x := 9) (zC (x := 7) (zC (x := 6) (zC (x := 5) (zC (x := 4) (zX (x := 1) rfl) rfl) rfl) rfl) rfl) rfl), rfl, hX233, (dN hlek146 hx180.le), (by omega), hrk.ok, (by rw [eQ (by omega)]; exact (hgsB.px hrk.px hokB hrk.ok).snoc hrk.pl hrk.pd), (by have h8 := hrk.len; have h9 := hgd.2.2; omega), (hgsL.px hrk.px hokB hrk.ok), ho229, ho235, ho236, ho234, hb238, hb239, ha241.symm, ha242.symm, ha240.symm, ha244.symm, ha245.symm, ha204, ha193.symm, ha197.symm, ha202.symm, ha194.symm, ha198.symm, ha203.symm, hlo205, hlo206⟩)))))
 omega
 refine wp_exit (yI (yW (yV (zA (zG (zH ?_))))))
 have hj5n : j5 = gs.length := by omega
 have hgsR : GsOk (bkq nsB bsB) atsB (gs.map gOf) := by rw [hj5n, List.take_length] at hgsB; exact hgsB
 have hl1 := hgsL.len
 have hl2 := hgsR.len
 rw [List.length_map] at hl1 hl2
 have hpt := bk_put (xs := atsA) (ys := atsB) hokB (by omega) ⟨by omega, by omega⟩ hgsL.pl hgsR.pl
 have hpd := hpt.pd
 rw [hgsL.eq, hgsR.eq] at hpd
 refine qD rfl (zB (v := (.pointer (some ⟨b9, 0, none⟩))) rfl) (qD rfl (zB (v := (.pointer (some ⟨b9, 0, none⟩))) rfl) (qD rfl (zB (v := atA) rfl) (qD rfl (zB (v := atB) rfl) ?_)))
 obtain ⟨G247, hle250, hX249, hr248, hf251⟩ := hw153.sealed hX149
 have ho252 := hw150.moreO hle250 hf251 ha158
 have ho253 := hw151.moreO hle250 hf251 ha162
 have ho254 := hw152.moreO hle250 hf251 ha165
 have hb255 := hw154.moreO hf251 ha58.symm
 have hb256 := hw155.moreO hf251 ha59.symm
 obtain ⟨G257, hle260, hX259, hr258, hf261⟩ := ho252.sealed hX249
 have ho262 := ho253.moreO hle260 hf261 ha156.symm
 have ho263 := ho254.moreO hle260 hf261 ha157.symm
 have hb264 := hb255.moreO hf261 ha159.symm
 have hb265 := hb256.moreO hf261 ha160.symm
 refine qI rfl (zM (vs := [(.pointer (some ⟨b9, 0, none⟩)), atA, atB]) Tryz.func78 nm78 rfl rfl rfl ?_)
 refine dP (mN hX259.pins ⟨hb265, ho262, ho263, ha164.symm, ha167.symm, ha161⟩ hokB.ar.ok (hr248.mono hle260) hr258 ⟨by omega, by omega⟩ (qH hgsL.pl) (qH hgsR.pl)) ?_
 rintro _ w269 ⟨u266, v267, G268, rfl, hbk270, hx271, hlu272, hlv273⟩
 refine ⟨_, rfl, ?_⟩
 have hin276 : ∀ i, inS b9 uB vB i → w.heap.size ≤ i ∨ noS i := fH (yC hlo18) hlo168 hlo169
 have hX277 := hX259.trans hx271 hin276
 have hn278 := notS (u := uB) (v := vB) ha17.symm ha163.symm ha166.symm
 have ho279 := hb264.extS hx271 (notSb hn278)
 have hb282 := hbk270.bx
 have ho283 := hbk270.ou
 have ho284 := hbk270.ov
 have ha285 := hbk270.abu
 have ha286 := hbk270.abv
 have ha287 := hbk270.auv
 have hlo288 := qP hlu272 hin276 hX259.size
 have hlo289 := qP hlv273 hin276 hX259.size
 refine qI rfl (zM (vs := [(.pointer (some ⟨b9, 0, none⟩)), (.int .i64 (putK nsB bsB atsA atsB))]) Tryz.func79 nm79 rfl rfl rfl ?_)
 refine dP (form_own hX277.pins ⟨hb282, ho283, ho284, ha285, ha286, ha287⟩ hpt.ok.ar.ok hpt.pl) ?_
 rintro _ w292 ⟨u290, G291, rfl, hr293, hx294, hfr295⟩
 refine ⟨_, rfl, ?_⟩
 have hlb296 : b1 < w269.heap.size := ho279.lt
 have hlb297 : b9 < w269.heap.size := hb282.lt
 have hX298 := hX277.tr hx294
 have hb301 := ho279.ext hx294
 refine q0 rfl rfl rfl (o_stp (cs' := [u290]) (us := [u290]) (v := (.agg [u290].toArray)) sz26 rfl rfl rfl (yM hr293.one) hX298.pins hb301 (dQ rfl) rfl (fun w303 hb304 hp305 hg306 hz307 => ?_))
 have hX308 := hX298.write hp305 hg306 ((yC hlo8))
 have hgi312 : ∃ Gi, Own eNode 65 Gi w303 w269.heap.size u290 (formM (putN nsB bsB atsA atsB) (putB nsB bsB atsA atsB) (putK nsB bsB atsA atsB).toNat) ∧ Pin.le Gi G291 := let ⟨Gi, a, b⟩ := hfr295; ⟨Gi, a.keptA hg306 (fun k hk1 hk2 => by cases hk2; have := (a.lt _ hk1).1; omega), b⟩
 refine qe (zA ?_)
 refine wp_ret (zY (qT (cs := [u290]) rfl rfl rfl ag26 sz26 (fun j u hj => by rw [Nat.zero_add]; exact hb304.cell hj) ?_))
 have hfe : mkGm fs gs = _ := hpd.symm
 obtain ⟨Gi, hoi, hli⟩ := hgi312
 exact ⟨_, _, rfl, (by rw [hfe, ← rD hpt.ok hpt.pl]; exact hr293), hX308, (by rw [hfe, ← rD hpt.ok hpt.pl]; exact ⟨Gi, hoi.weaken hX277.size, hli⟩)⟩
theorem l3Make_spec {w : World} {G : Pin} {u v : Value} {fs gs : List (List Nd)} (hP : Pins G w) (hu : RSl (eSl eNode) G u fs) (hv : RSl (eSl eNode) G v gs) (hfa : AllW fs) (hga : AllW gs) :
  Calls Tryz.prog 131 [u, v].toArray w fun e w' => ∃ (u : Value) (G' : Pin), e = .returned (.agg [u].toArray) ∧ RSl eNode G' u (formG (mkGm fs gs)) ∧ Ext noS G w G' w' :=
 (nA hP hu hv hfa hga).mono fun _ _ ⟨u, G', h1, h2, h3, _⟩ => ⟨u, G', h1, h2, h3⟩
end MK1
end Go.Proofs.YtajkbplgbikgdaaGreatDoor
namespace Go.Proofs.YtajkbplgbikgdaaGreatDoor
namespace DO1
open Go.RowKit Go.GL Go.Proofs
open B1
theorem pP {w : World} {G : Pin} {c : Nat} {cv : Value} {code : List UInt8} {a s : Int} (hP : Pins G w) (hB : Bx G w c [cv, .int .i64 a, .int .u64 s]) (hc : RSl eByte G cv code) (ha : 0 ≤ a ∧ a + 1 ≤ 1000000) (_ : 0 ≤ s ∧ s < 18446744073709551616) :
  Calls Tryz.prog 144 [(.pointer (some ⟨c, 0, none⟩))].toArray w fun e w' => ∃ (z : Int) (a' s' : Int), e = .returned (.int .i64 z) ∧ (0 ≤ z ∧ z ≤ 255) ∧ (z, a', s') = nextF code (a, s) ∧ Bx G w' c [cv, .int .i64 a', .int .u64 s'] ∧ (a ≤ a' ∧ a' ≤ a + 1) ∧ (0 ≤ s' ∧ s' < 18446744073709551616) ∧ Ext (inO (some c)) G w G w' := by
 refine yG (n := 62) Tryz.func144 Tryz.ntmps144 rfl rfl ?_
 have hX0 := exr (inO (some c)) hP
 have hm := hc.max
 refine zG (zH ?_)
 refine qD rfl (zD (v := (.int .i64 0)) rfl) (qe (zA (zG (zH ?_))))
 refine qD rfl (zD (v := (.int .i64 0)) rfl) (qe (zA (zG (zG ?_))))
 refine xD (S := fun wz => BxR wz c [cv, (.int .i64 a), (.int .u64 s)]) (last := 10) (by kernel_rfl) rfl ?_
 have hl1 := bdr w
 have hp2 := hX0.pins.below hl1
 have hX3 := hX0.step hp2 hl1
 have hb4 := hB.below hl1
 refine dT (i := 0) rfl rfl (by kernel_rfl) (fun _ _ => zB (v := (.pointer (some ⟨c, 0, none⟩))) rfl) hb4.reads ?_
 refine dT (i := 1) rfl rfl (by kernel_rfl) (fun _ _ => xC rfl) hb4.reads ?_
 refine dT (i := 2) rfl rfl (by kernel_rfl) (fun _ _ => zR (k := 1) rfl dD rfl nz3 rfl) hb4.reads ?_
 refine dT (i := 3) rfl rfl (by kernel_rfl) (fun _ hS => zS (u := (.int .i64 a)) ag3 rfl (hS 1 _ rfl)) hb4.reads ?_
 refine dT (i := 4) rfl rfl (by kernel_rfl) (fun _ _ => zB (v := (.pointer (some ⟨c, 0, none⟩))) rfl) hb4.reads ?_
 refine dT (i := 5) rfl rfl (by kernel_rfl) (fun _ _ => xC rfl) hb4.reads ?_
 refine dT (i := 6) rfl rfl (by kernel_rfl) (fun _ _ => zR (k := 0) rfl dD rfl nz22 rfl) hb4.reads ?_
 refine dT (i := 7) rfl rfl (by kernel_rfl) (fun _ hS => zS (u := cv) ag22 rfl (hS 0 _ rfl)) hb4.reads ?_
 refine dT (i := 8) rfl rfl (by kernel_rfl) (fun _ _ => zT dA (v := cv) rfl hc) hb4.reads ?_
 refine dT (i := 9) rfl rfl (by kernel_rfl) (fun _ _ => xB rfl rfl) hb4.reads ?_
 refine yP (by kernel_rfl) (zA (yN (p := (a : Int) < (code.length : Int)) rfl rfl (fun h5 => ?_) (fun h5 => ?_)))
 have h255 := (code.getD a.toNat 0).toNat_lt
 refine xD (S := fun wz => BxR wz c [cv, (.int .i64 a), (.int .u64 s)] ∧ Pins G wz) (last := 12) (by kernel_rfl) rfl ?_
 have hl6 : Below w.drew.heap.size w.drew w.drew.drew := (Below.refl _ _).drew
 have hp7 := hX3.pins.below hl6
 have hX8 := hX3.step hp7 hl6
 have hb9 := hb4.below hl6
 refine dT (i := 0) rfl rfl (by kernel_rfl) (fun _ _ => zB (v := (.pointer (some ⟨c, 0, none⟩))) rfl) ⟨hb9.reads, hX8.pins⟩ ?_
 refine dT (i := 1) rfl rfl (by kernel_rfl) (fun _ _ => xC rfl) ⟨hb9.reads, hX8.pins⟩ ?_
 refine dT (i := 2) rfl rfl (by kernel_rfl) (fun _ _ => zR (k := 0) rfl dD rfl nz22 rfl) ⟨hb9.reads, hX8.pins⟩ ?_
 refine dT (i := 3) rfl rfl (by kernel_rfl) (fun _ hS => zS (u := cv) ag22 rfl (hS.1 0 _ rfl)) ⟨hb9.reads, hX8.pins⟩ ?_
 refine dT (i := 4) rfl rfl (by kernel_rfl) (fun _ _ => zB (v := (.pointer (some ⟨c, 0, none⟩))) rfl) ⟨hb9.reads, hX8.pins⟩ ?_
 refine dT (i := 5) rfl rfl (by kernel_rfl) (fun _ _ => xC rfl) ⟨hb9.reads, hX8.pins⟩ ?_
 refine dT (i := 6) rfl rfl (by kernel_rfl) (fun _ _ => zR (k := 1) rfl dD rfl nz3 rfl) ⟨hb9.reads, hX8.pins⟩ ?_
 refine dT (i := 7) rfl rfl (by kernel_rfl) (fun _ hS => zS (u := (.int .i64 a)) ag3 rfl (hS.1 1 _ rfl)) ⟨hb9.reads, hX8.pins⟩ ?_
 refine dT (i := 8) rfl rfl (by kernel_rfl) (fun _ _ => zN dA sz5 (v := cv) rfl rfl hc (by omega) (by omega)) ⟨hb9.reads, hX8.pins⟩ ?_
 refine dT (i := 9) rfl rfl (by kernel_rfl) (fun _ hS => nU (r := code.getD (a).toNat 0) rfl ag5 (z := a) rfl hc hS.2 (by omega) (by omega)) ⟨hb9.reads, hX8.pins⟩ ?_
 refine dT (i := 10) rfl rfl (by kernel_rfl) (fun _ _ => kO (j := ((code.getD (a).toNat 0).toNat : Int)) dL dB rfl (wrapI (by omega))) ⟨hb9.reads, hX8.pins⟩ ?_
 refine dT (i := 11) rfl rfl (by kernel_rfl) (fun _ _ => zD (v := (.int .i64 ((code.getD (a).toNat 0).toNat : Int))) rfl) ⟨hb9.reads, hX8.pins⟩ ?_
 refine yP (by kernel_rfl) (zA (zG (zH ?_)))
 refine qD rfl (zB (v := (.pointer (some ⟨c, 0, none⟩))) rfl) (qD rfl (xC rfl) (qD rfl (zR (k := 1) rfl dD rfl nz3 rfl) (qD rfl (zS (u := (.int .i64 a)) ag3 rfl (hb9.cell (o := 1) rfl)) (qD rfl (yX rfl rfl (by omega)) (qD rfl (xC rfl) (qD rfl (zR (k := 1) rfl dD rfl nz3 rfl) (q0 rfl rfl rfl (o_stp (cs' := [cv, (.int .i64 (a + 1)), (.int .u64 s)]) (us := [(.int .i64 (a + 1))]) (v := (.int .i64 (a + 1))) sz3 rfl rfl rfl (yM (by rfl)) hX8.pins hb9 (dQ rfl) rfl (fun w10 hb11 hp12 hg13 hz14 => ?_)))))))))
 have hX15 := hX8.write hp12 hg13 (xL)
 refine qe (zA (zG (zH ?_)))
 refine qD rfl (zB (v := (.pointer (some ⟨c, 0, none⟩))) rfl) (qD rfl (zB (v := (.pointer (some ⟨c, 0, none⟩))) rfl) (qD rfl (xC rfl) (qD rfl (zR (k := 2) rfl dD rfl nz79 rfl) (qD rfl (zS (u := (.int .u64 s)) ag79 rfl (hb11.cell (o := 2) rfl)) (qD rfl (r_mulU rfl rfl) (qD rfl (zB (v := (.int .i64 ((code.getD (a).toNat 0).toNat : Int))) rfl) (qD rfl (kO (j := ((code.getD (a).toNat 0).toNat : Int)) dB dJ rfl (rG (by omega))) (qD rfl (sI rfl rfl) (qD rfl (sI rfl rfl) (qD rfl (xC rfl) (qD rfl (zR (k := 2) rfl dD rfl nz79 rfl) (q0 rfl rfl rfl (o_stp (cs' := [cv, (.int .i64 (a + 1)), (.int .u64 (IntKind.u64.wrap ((IntKind.u64.wrap ((IntKind.u64.wrap (s * 6364136223846793005)) + ((code.getD (a).toNat 0).toNat : Int))) + 868868)))]) (us := [(.int .u64 (IntKind.u64.wrap ((IntKind.u64.wrap ((IntKind.u64.wrap (s * 6364136223846793005)) + ((code.getD (a).toNat 0).toNat : Int))) + 868868)))]) (v := (.int .u64 (IntKind.u64.wrap ((IntKind.u64.wrap ((IntKind.u64.wrap (s * 6364136223846793005)) + ((code.getD (a).toNat 0).toNat : Int))) + 868868)))) sz79 rfl rfl rfl (yM (by rfl)) hX15.pins hb11 (dQ rfl) rfl (fun w16 hb17 hp18 hg19 hz20 => ?_))))))))))))))
 have hX21 := hX15.write hp18 hg19 (xL)
 refine qe (zA (zG (zG ?_)))
 refine xD (S := fun wz => BxR wz c [cv, (.int .i64 (a + 1)), (.int .u64 (IntKind.u64.wrap ((IntKind.u64.wrap ((IntKind.u64.wrap (s * 6364136223846793005)) + ((code.getD (a).toNat 0).toNat : Int))) + 868868)))]) (last := 10) (by kernel_rfl) rfl ?_
 have hl22 := bdr w16
 have hp23 := hX21.pins.below hl22
 have hX24 := hX21.step hp23 hl22
 have hb25 := hb17.below hl22
 refine dT (i := 0) rfl rfl (by kernel_rfl) (fun _ _ => zB (v := (.pointer (some ⟨c, 0, none⟩))) rfl) hb25.reads ?_
 refine dT (i := 1) rfl rfl (by kernel_rfl) (fun _ _ => xC rfl) hb25.reads ?_
 refine dT (i := 2) rfl rfl (by kernel_rfl) (fun _ _ => zR (k := 1) rfl dD rfl nz3 rfl) hb25.reads ?_
 refine dT (i := 3) rfl rfl (by kernel_rfl) (fun _ hS => zS (u := (.int .i64 (a + 1))) ag3 rfl (hS 1 _ rfl)) hb25.reads ?_
 refine dT (i := 4) rfl rfl (by kernel_rfl) (fun _ _ => zB (v := (.pointer (some ⟨c, 0, none⟩))) rfl) hb25.reads ?_
 refine dT (i := 5) rfl rfl (by kernel_rfl) (fun _ _ => xC rfl) hb25.reads ?_
 refine dT (i := 6) rfl rfl (by kernel_rfl) (fun _ _ => zR (k := 0) rfl dD rfl nz22 rfl) hb25.reads ?_
 refine dT (i := 7) rfl rfl (by kernel_rfl) (fun _ hS => zS (u := cv) ag22 rfl (hS 0 _ rfl)) hb25.reads ?_
 refine dT (i := 8) rfl rfl (by kernel_rfl) (fun _ _ => zT dA (v := cv) rfl hc) hb25.reads ?_
 refine dT (i := 9) rfl rfl (by kernel_rfl) (fun _ _ => fV rfl rfl) hb25.reads ?_
 refine yP (by kernel_rfl) (zA (yN (p := (a + 1 : Int) ≤ (code.length : Int)) rfl rfl (fun h26 => ?_) (fun h26 => ?_)))
 refine zG (zH ?_)
 refine qD rfl (zB (v := (.int .i64 ((code.getD (a).toNat 0).toNat : Int))) rfl) (qD rfl (zD (v := (.int .i64 ((code.getD (a).toNat 0).toNat : Int))) rfl) (qe (zA ?_)))
 refine wp_ret (zY (zW (v := (.int .i64 ((code.getD (a).toNat 0).toNat : Int))) rfl rfl rfl ?_))
 have hwr := gH (((IntKind.u64.wrap ((IntKind.u64.wrap (s * 6364136223846793005)) + ((code.getD (a).toNat 0).toNat : Int))) + 868868))
 have hnb : nxB code a = ((code.getD a.toNat 0).toNat : Int) := by unfold nxB; rw [if_pos h5]
 exact ⟨_, _, _, rfl, (by omega), (by show _ = (if a + 1 ≤ (code.length : Int) then nxB code a else _, a + 1, nxS code a s); unfold nxS; rw [if_pos h26, hnb]), hb25, (by omega), (by omega), hX24⟩
 refine wp_skip (zA (zG (zH ?_)))
 refine qD rfl (zB (v := (.pointer (some ⟨c, 0, none⟩))) rfl) (qD rfl (xC rfl) (qD rfl (zR (k := 2) rfl dD rfl nz79 rfl) (qD rfl (zS (u := (.int .u64 (IntKind.u64.wrap ((IntKind.u64.wrap ((IntKind.u64.wrap (s * 6364136223846793005)) + ((code.getD (a).toNat 0).toNat : Int))) + 868868)))) ag79 rfl (hb25.cell (o := 2) rfl)) (qD rfl (r_shrU rfl rfl (by omega)) (qD rfl (r_and rfl rfl) ?_)))))
 have hl827 := low8_lt (Int.fdiv (IntKind.u64.wrap ((IntKind.u64.wrap ((IntKind.u64.wrap (s * 6364136223846793005)) + ((code.getD (a).toNat 0).toNat : Int))) + 868868)) (2 ^ (min (40 : Int).toNat 64)))
 refine qD rfl (kO (j := andW .u64 (Int.fdiv (IntKind.u64.wrap ((IntKind.u64.wrap ((IntKind.u64.wrap (s * 6364136223846793005)) + ((code.getD (a).toNat 0).toNat : Int))) + 868868)) (2 ^ (min (40 : Int).toNat 64))) 255) dJ dB rfl (wrapI (by omega))) (qD rfl (zD (v := (.int .i64 (andW .u64 (Int.fdiv (IntKind.u64.wrap ((IntKind.u64.wrap ((IntKind.u64.wrap (s * 6364136223846793005)) + ((code.getD (a).toNat 0).toNat : Int))) + 868868)) (2 ^ (min (40 : Int).toNat 64))) 255))) rfl) (qe (zA ?_)))
 refine wp_ret (zY (zW (v := (.int .i64 (andW .u64 (Int.fdiv (IntKind.u64.wrap ((IntKind.u64.wrap ((IntKind.u64.wrap (s * 6364136223846793005)) + ((code.getD (a).toNat 0).toNat : Int))) + 868868)) (2 ^ (min (40 : Int).toNat 64))) 255))) rfl rfl rfl ?_))
 have hwr := gH (((IntKind.u64.wrap ((IntKind.u64.wrap (s * 6364136223846793005)) + ((code.getD (a).toNat 0).toNat : Int))) + 868868))
 have hnb : nxB code a = ((code.getD a.toNat 0).toNat : Int) := by unfold nxB; rw [if_pos h5]
 exact ⟨_, _, _, rfl, (by omega), (by show _ = (if a + 1 ≤ (code.length : Int) then nxB code a else _, a + 1, nxS code a s); unfold nxS; rw [if_neg h26, hnb]), hb25, (by omega), (by omega), hX24⟩
 refine wp_skip (zA (zG (zH ?_)))
 refine qD rfl (zB (v := (.pointer (some ⟨c, 0, none⟩))) rfl) (qD rfl (xC rfl) (qD rfl (zR (k := 1) rfl dD rfl nz3 rfl) (qD rfl (zS (u := (.int .i64 a)) ag3 rfl (hb4.cell (o := 1) rfl)) (qD rfl (yX rfl rfl (by omega)) (qD rfl (xC rfl) (qD rfl (zR (k := 1) rfl dD rfl nz3 rfl) (q0 rfl rfl rfl (o_stp (cs' := [cv, (.int .i64 (a + 1)), (.int .u64 s)]) (us := [(.int .i64 (a + 1))]) (v := (.int .i64 (a + 1))) sz3 rfl rfl rfl (yM (by rfl)) hX3.pins hb4 (dQ rfl) rfl (fun w28 hb29 hp30 hg31 hz32 => ?_)))))))))
 have hX33 := hX3.write hp30 hg31 (xL)
 refine qe (zA (zG (zH ?_)))
 refine qD rfl (zB (v := (.pointer (some ⟨c, 0, none⟩))) rfl) (qD rfl (zB (v := (.pointer (some ⟨c, 0, none⟩))) rfl) (qD rfl (xC rfl) (qD rfl (zR (k := 2) rfl dD rfl nz79 rfl) (qD rfl (zS (u := (.int .u64 s)) ag79 rfl (hb29.cell (o := 2) rfl)) (qD rfl (r_mulU rfl rfl) (qD rfl (zB (v := (.int .i64 0)) rfl) (qD rfl (kO (j := 0) dB dJ rfl (rG (by omega))) (qD rfl (sI rfl rfl) (qD rfl (sI rfl rfl) (qD rfl (xC rfl) (qD rfl (zR (k := 2) rfl dD rfl nz79 rfl) (q0 rfl rfl rfl (o_stp (cs' := [cv, (.int .i64 (a + 1)), (.int .u64 (IntKind.u64.wrap ((IntKind.u64.wrap ((IntKind.u64.wrap (s * 6364136223846793005)) + 0)) + 868868)))]) (us := [(.int .u64 (IntKind.u64.wrap ((IntKind.u64.wrap ((IntKind.u64.wrap (s * 6364136223846793005)) + 0)) + 868868)))]) (v := (.int .u64 (IntKind.u64.wrap ((IntKind.u64.wrap ((IntKind.u64.wrap (s * 6364136223846793005)) + 0)) + 868868)))) sz79 rfl rfl rfl (yM (by rfl)) hX33.pins hb29 (dQ rfl) rfl (fun w34 hb35 hp36 hg37 hz38 => ?_))))))))))))))
 have hX39 := hX33.write hp36 hg37 (xL)
 refine qe (zA (zG (zG ?_)))
 refine xD (S := fun wz => BxR wz c [cv, (.int .i64 (a + 1)), (.int .u64 (IntKind.u64.wrap ((IntKind.u64.wrap ((IntKind.u64.wrap (s * 6364136223846793005)) + 0)) + 868868)))]) (last := 10) (by kernel_rfl) rfl ?_
 have hl40 := bdr w34
 have hp41 := hX39.pins.below hl40
 have hX42 := hX39.step hp41 hl40
 have hb43 := hb35.below hl40
 refine dT (i := 0) rfl rfl (by kernel_rfl) (fun _ _ => zB (v := (.pointer (some ⟨c, 0, none⟩))) rfl) hb43.reads ?_
 refine dT (i := 1) rfl rfl (by kernel_rfl) (fun _ _ => xC rfl) hb43.reads ?_
 refine dT (i := 2) rfl rfl (by kernel_rfl) (fun _ _ => zR (k := 1) rfl dD rfl nz3 rfl) hb43.reads ?_
 refine dT (i := 3) rfl rfl (by kernel_rfl) (fun _ hS => zS (u := (.int .i64 (a + 1))) ag3 rfl (hS 1 _ rfl)) hb43.reads ?_
 refine dT (i := 4) rfl rfl (by kernel_rfl) (fun _ _ => zB (v := (.pointer (some ⟨c, 0, none⟩))) rfl) hb43.reads ?_
 refine dT (i := 5) rfl rfl (by kernel_rfl) (fun _ _ => xC rfl) hb43.reads ?_
 refine dT (i := 6) rfl rfl (by kernel_rfl) (fun _ _ => zR (k := 0) rfl dD rfl nz22 rfl) hb43.reads ?_
 refine dT (i := 7) rfl rfl (by kernel_rfl) (fun _ hS => zS (u := cv) ag22 rfl (hS 0 _ rfl)) hb43.reads ?_
 refine dT (i := 8) rfl rfl (by kernel_rfl) (fun _ _ => zT dA (v := cv) rfl hc) hb43.reads ?_
 refine dT (i := 9) rfl rfl (by kernel_rfl) (fun _ _ => fV rfl rfl) hb43.reads ?_
 refine yP (by kernel_rfl) (zA (yN (p := (a + 1 : Int) ≤ (code.length : Int)) rfl rfl (fun h44 => ?_) (fun h44 => ?_)))
 refine zG (zH ?_)
 refine qD rfl (zB (v := (.int .i64 0)) rfl) (qD rfl (zD (v := (.int .i64 0)) rfl) (qe (zA ?_)))
 refine wp_ret (zY (zW (v := (.int .i64 0)) rfl rfl rfl ?_))
 have hwr := gH (((IntKind.u64.wrap ((IntKind.u64.wrap (s * 6364136223846793005)) + 0)) + 868868))
 have hnb : nxB code a = 0 := by unfold nxB; rw [if_neg h5]
 exact ⟨_, _, _, rfl, (by omega), (by show _ = (if a + 1 ≤ (code.length : Int) then nxB code a else _, a + 1, nxS code a s); unfold nxS; rw [if_pos h44, hnb]), hb43, (by omega), (by omega), hX42⟩
 refine wp_skip (zA (zG (zH ?_)))
 refine qD rfl (zB (v := (.pointer (some ⟨c, 0, none⟩))) rfl) (qD rfl (xC rfl) (qD rfl (zR (k := 2) rfl dD rfl nz79 rfl) (qD rfl (zS (u := (.int .u64 (IntKind.u64.wrap ((IntKind.u64.wrap ((IntKind.u64.wrap (s * 6364136223846793005)) + 0)) + 868868)))) ag79 rfl (hb43.cell (o := 2) rfl)) (qD rfl (r_shrU rfl rfl (by omega)) (qD rfl (r_and rfl rfl) ?_)))))
 have hl845 := low8_lt (Int.fdiv (IntKind.u64.wrap ((IntKind.u64.wrap ((IntKind.u64.wrap (s * 6364136223846793005)) + 0)) + 868868)) (2 ^ (min (40 : Int).toNat 64)))
 refine qD rfl (kO (j := andW .u64 (Int.fdiv (IntKind.u64.wrap ((IntKind.u64.wrap ((IntKind.u64.wrap (s * 6364136223846793005)) + 0)) + 868868)) (2 ^ (min (40 : Int).toNat 64))) 255) dJ dB rfl (wrapI (by omega))) (qD rfl (zD (v := (.int .i64 (andW .u64 (Int.fdiv (IntKind.u64.wrap ((IntKind.u64.wrap ((IntKind.u64.wrap (s * 6364136223846793005)) + 0)) + 868868)) (2 ^ (min (40 : Int).toNat 64))) 255))) rfl) (qe (zA ?_)))
 refine wp_ret (zY (zW (v := (.int .i64 (andW .u64 (Int.fdiv (IntKind.u64.wrap ((IntKind.u64.wrap ((IntKind.u64.wrap (s * 6364136223846793005)) + 0)) + 868868)) (2 ^ (min (40 : Int).toNat 64))) 255))) rfl rfl rfl ?_))
 have hwr := gH (((IntKind.u64.wrap ((IntKind.u64.wrap (s * 6364136223846793005)) + 0)) + 868868))
 have hnb : nxB code a = 0 := by unfold nxB; rw [if_neg h5]
 exact ⟨_, _, _, rfl, (by omega), (by show _ = (if a + 1 ≤ (code.length : Int) then nxB code a else _, a + 1, nxS code a s); unfold nxS; rw [if_neg h44, hnb]), hb43, (by omega), (by omega), hX42⟩
theorem jN {w : World} {G : Pin} {c : Nat} {cv : Value} {code : List UInt8} {a s : Int} {n : Int} (hP : Pins G w) (hB : Bx G w c [cv, .int .i64 a, .int .u64 s]) (hc : RSl eByte G cv code) (ha : 0 ≤ a ∧ a + 2 ≤ 1000000) (hs : 0 ≤ s ∧ s < 18446744073709551616) (hn : n ≤ 1000) :
  Calls Tryz.prog 101 [(.pointer (some ⟨c, 0, none⟩)), (.int .i64 n)].toArray w fun e w' => ∃ (z : Int) (a' s' : Int), e = .returned (.int .i64 z) ∧ (0 ≤ z ∧ (z < n ∨ z = 0)) ∧ (z, a', s') = pickF code n (a, s) ∧ Bx G w' c [cv, .int .i64 a', .int .u64 s'] ∧ (a ≤ a' ∧ a' ≤ a + 2) ∧ (0 ≤ s' ∧ s' < 18446744073709551616) ∧ Ext (inO (some c)) G w G w' := by
 refine yG (n := 20) Tryz.func101 Tryz.ntmps101 rfl rfl ?_
 have hX0 := exr (inO (some c)) hP
 have hm := hc.max
 refine zG (zH ?_)
 refine qD rfl (zD (v := (.int .i64 0)) rfl) (qe (zA (zG (zG (zH ?_)))))
 refine qD rfl (zB (v := (.int .i64 n)) rfl) (qD rfl (fV rfl rfl) (qe (zA ?_)))
 refine yN (p := (n : Int) ≤ 1) rfl rfl (fun h1 => ?_) (fun h1 => ?_)
 refine zG (zH ?_)
 refine qD rfl (zD (v := (.int .i64 0)) rfl) (qe (zA ?_))
 exact wp_ret (zY (zW (v := (.int .i64 0)) rfl rfl rfl (⟨_, _, _, rfl, (by omega), (pick_small h1), hB, (by omega), (by omega), hX0⟩)))
 refine wp_skip (zA (zG (zH ?_)))
 refine qD rfl (zB (v := (.pointer (some ⟨c, 0, none⟩))) rfl) (qI rfl (zM (vs := [(.pointer (some ⟨c, 0, none⟩))]) Tryz.func144 nm144 rfl rfl rfl ?_))
 refine dP (pP hX0.pins hB hc (by omega) (by omega)) ?_
 rintro _ w7 ⟨z2, a5, s6, rfl, hz3, hdf4, hb8, hda9, hds10, hx11⟩
 refine ⟨_, rfl, ?_⟩
 have hX12 := hX0.trans hx11 (fun i hi => xL i hi)
 refine qD rfl (zD (v := (.int .i64 z2)) rfl) (qe (zA (zG (zG (zH ?_)))))
 refine qD rfl (zB (v := (.int .i64 n)) rfl) (qD rfl (jY rfl rfl) (qe (zA ?_)))
 refine yN (p := (200 : Int) < n) rfl rfl (fun h13 => ?_) (fun h13 => ?_)
 refine zH (qD rfl (zB (v := (.int .i64 z2)) rfl) (qD rfl (r_mul rfl rfl (by omega)) (qD rfl (zB (v := (.pointer (some ⟨c, 0, none⟩))) rfl) (qI rfl (zM (vs := [(.pointer (some ⟨c, 0, none⟩))]) Tryz.func144 nm144 rfl rfl rfl ?_)))))
 refine dP (pP hX12.pins hb8 hc (by omega) (by omega)) ?_
 rintro _ w19 ⟨z14, a17, s18, rfl, hz15, hdf16, hb20, hda21, hds22, hx23⟩
 refine ⟨_, rfl, ?_⟩
 have hX24 := hX12.trans hx23 (fun i hi => xL i hi)
 refine qD rfl (yX rfl rfl (by omega)) (qD rfl (zD (v := (.int .i64 ((z2 * 256) + z14))) rfl) (qe (zA (zG (zH ?_)))))
 refine qD rfl (zB (v := (.int .i64 ((z2 * 256) + z14))) rfl) (qD rfl (zB (v := (.int .i64 n)) rfl) (qD rfl (r_rem rfl rfl (by omega) (by omega)) (qD rfl (zD (v := (.int .i64 (((z2 * 256) + z14) % n))) rfl) (qe (zA ?_)))))
 refine wp_ret (zY (zW (v := (.int .i64 (((z2 * 256) + z14) % n))) rfl rfl rfl ?_))
 have hr1 := Int.emod_nonneg (((z2 * 256) + z14)) (show n ≠ 0 by omega)
 have hr2 := Int.emod_lt_of_pos (((z2 * 256) + z14)) (show 0 < n by omega)
 exact ⟨_, _, _, rfl, (by omega), (pick_two h1 h13 hdf4 hdf16), hb20, (by omega), (by omega), hX24⟩
 refine wp_skip (zA (zG (zH ?_)))
 refine qD rfl (zB (v := (.int .i64 z2)) rfl) (qD rfl (zB (v := (.int .i64 n)) rfl) (qD rfl (r_rem rfl rfl (by omega) (by omega)) (qD rfl (zD (v := (.int .i64 (z2 % n))) rfl) (qe (zA ?_)))))
 refine wp_ret (zY (zW (v := (.int .i64 (z2 % n))) rfl rfl rfl ?_))
 have hr1 := Int.emod_nonneg (z2) (show n ≠ 0 by omega)
 have hr2 := Int.emod_lt_of_pos (z2) (show 0 < n by omega)
 exact ⟨_, _, _, rfl, (by omega), (pick_one h1 h13 hdf4), hb8, (by omega), (by omega), hX12⟩
theorem mU {w : World} {G : Pin} {c : Nat} {cv : Value} {code : List UInt8} {a s : Int} {n : Int} (hP : Pins G w) (hB : Bx G w c [cv, .int .i64 a, .int .u64 s]) (hc : RSl eByte G cv code) (ha : 0 ≤ a ∧ a + 2 ≤ 1000000) (hs : 0 ≤ s ∧ s < 18446744073709551616) (hn : n ≤ 1000) :
  Calls Tryz.prog 52 [(.pointer (some ⟨c, 0, none⟩)), (.int .i64 n)].toArray w fun e w' => ∃ (z : Bool) (a' s' : Int), e = .returned (.bool z) ∧ (z, a', s') = oneF code n (a, s) ∧ Bx G w' c [cv, .int .i64 a', .int .u64 s'] ∧ (a ≤ a' ∧ a' ≤ a + 2) ∧ (0 ≤ s' ∧ s' < 18446744073709551616) ∧ Ext (inO (some c)) G w G w' := by
 refine yG (n := 9) Tryz.func52 Tryz.ntmps52 rfl rfl ?_
 have hX0 := exr (inO (some c)) hP
 have hm := hc.max
 refine zG (zH ?_)
 refine qD rfl (zD (v := (.bool false)) rfl) (qe (zA (zG (zH ?_))))
 refine qD rfl (zB (v := (.pointer (some ⟨c, 0, none⟩))) rfl) (qD rfl (zB (v := (.int .i64 n)) rfl) (qI rfl (zM (vs := [(.pointer (some ⟨c, 0, none⟩)), (.int .i64 n)]) Tryz.func101 mW rfl rfl rfl ?_)))
 refine dP (jN hX0.pins hB hc (by omega) (by omega) (n := n) (by omega)) ?_
 rintro _ w6 ⟨z1, a4, s5, rfl, hz2, hdf3, hb7, hda8, hds9, hx10⟩
 refine ⟨_, rfl, ?_⟩
 have hX11 := hX0.trans hx10 (fun i hi => xL i hi)
 refine qD rfl (kZ rfl rfl) (qD rfl (zD (v := (.bool (decide ((z1 : Int) = 0)))) rfl) (qe (zA ?_)))
 exact wp_ret (zY (zW (v := (.bool (decide ((z1 : Int) = 0)))) rfl rfl rfl (⟨_, _, _, rfl, one_of hdf3, hb7, (by omega), (by omega), hX11⟩)))
theorem gG {w : World} {G : Pin} {c : Nat} {cv : Value} {code : List UInt8} {a s : Int} {l : Value} {xs : List Int} (hP : Pins G w) (hB : Bx G w c [cv, .int .i64 a, .int .u64 s]) (hc : RSl eByte G cv code) (ha : 0 ≤ a ∧ a + 2 ≤ 1000000) (hs : 0 ≤ s ∧ s < 18446744073709551616) (hl : RSl eInt G l xs) (hx : 1 ≤ xs.length ∧ xs.length ≤ 1000) :
  Calls Tryz.prog 68 [(.pointer (some ⟨c, 0, none⟩)), l].toArray w fun e w' => ∃ (z : Int) (a' s' : Int), e = .returned (.int .i64 z) ∧ z ∈ xs ∧ (z, a', s') = amongF code xs (a, s) ∧ Bx G w' c [cv, .int .i64 a', .int .u64 s'] ∧ (a ≤ a' ∧ a' ≤ a + 2) ∧ (0 ≤ s' ∧ s' < 18446744073709551616) ∧ Ext (inO (some c)) G w G w' := by
 refine yG (n := 12) Tryz.func68 Tryz.ntmps68 rfl rfl ?_
 have hX0 := exr (inO (some c)) hP
 have hm := hc.max
 have hml := hl.max
 refine zG (zH ?_)
 refine qD rfl (zD (v := (.int .i64 0)) rfl) (qe (zA (zG (zH ?_))))
 refine qD rfl (zB (v := l) rfl) (qD rfl (zB (v := (.pointer (some ⟨c, 0, none⟩))) rfl) (qD rfl (zB (v := l) rfl) (qD rfl (zT eU (v := l) rfl hl) (qI rfl (zM (vs := [(.pointer (some ⟨c, 0, none⟩)), (.int .i64 (xs.length : Int))]) Tryz.func101 mW rfl rfl rfl ?_)))))
 refine dP (jN hX0.pins hB hc (by omega) (by omega) (n := (xs.length : Int)) (by omega)) ?_
 rintro _ w6 ⟨z1, a4, s5, rfl, hz2, hdf3, hb7, hda8, hds9, hx10⟩
 refine ⟨_, rfl, ?_⟩
 have hX11 := hX0.trans hx10 (fun i hi => xL i hi)
 refine qD rfl (zN eU sz3 (v := l) rfl rfl hl (by omega) (by omega)) (qD rfl (zO (r := xs.getD (z1).toNat 0) rfl ag3 (z := z1) rfl hl hX11.pins (by omega) (by omega)) (qD rfl (zD (v := (.int .i64 (xs.getD (z1).toNat 0))) rfl) (qe (zA ?_))))
 exact wp_ret (zY (zW (v := (.int .i64 (xs.getD (z1).toNat 0))) rfl rfl rfl (⟨_, _, _, rfl, yT (by omega), among_of hdf3, hb7, (by omega), (by omega), hX11⟩)))
end DO1
end Go.Proofs.YtajkbplgbikgdaaGreatDoor
namespace Go.Proofs.YtajkbplgbikgdaaGreatDoor
namespace DO2
open Go.RowKit Go.GL Go.Proofs
open B1 C1 D1 E1 MK1 DO1
theorem xV {w : World} {G : Pin} {base : Nat} {ps qs rs : List VG} {u v : Value} (hP : Pins G w) (hF : FrP 65 base G w ps) (hq : KQ (ps.map Prod.snd)) (hl : (ps.map Prod.snd).length ≤ 60) (hb : base ≤ w.heap.size)
  (hu : RSl eVal G u (qs.map Prod.fst)) (hv : RSl eVal G v (rs.map Prod.fst)) (hmu : ∀ p ∈ qs, p ∈ ps) (hmv : ∀ p ∈ rs, p ∈ ps) (hlu : qs.length ≤ 100) (hlv : rs.length ≤ 100) :
  Calls Tryz.prog 131 [u, v].toArray w fun e w' => ∃ (x : Value) (g : Nat) (G' : Pin), e = .returned (.agg [x].toArray) ∧ g = mkG (qs.map Prod.snd) (rs.map Prod.snd) ∧ KQ (g :: ps.map Prod.snd) ∧ FrP 65 base G' w' ((x, g) :: ps) ∧ Ext noS G w G' w' := by
 have g2 : ∀ g ∈ qs.map Prod.snd, g ∈ ps.map Prod.snd := fun g hg => by
  obtain ⟨p, hp, rfl⟩ := List.mem_map.1 hg
  exact List.mem_map.2 ⟨p, hmu p hp, rfl⟩
 have h2 : ∀ g ∈ rs.map Prod.snd, g ∈ ps.map Prod.snd := fun g hg => by
  obtain ⟨p, hp, rfl⟩ := List.mem_map.1 hg
  exact List.mem_map.2 ⟨p, hmv p hp, rfl⟩
 have ru := pB hu (by simp) (hF.mem hmu).reads
 have rv := pB hv (by simp) (hF.mem hmv).reads
 have wu := hq.allW (by omega) g2 (by simpa using hlu)
 have wv := hq.allW (by omega) h2 (by simpa using hlv)
 refine (nA hP ru rv wu wv).mono fun e w' ⟨x, G', e1, hr, hx, Gi, ho, hle⟩ => ?_
 have hk := hq.add (by omega) g2 h2 (by simpa using hlu) (by simpa using hlv)
 have hm := hk.is _ List.mem_cons_self
 have eG : mkGm ((qs.map Prod.snd).map formG) ((rs.map Prod.snd).map formG) = mkG (qs.map Prod.snd) (rs.map Prod.snd) := by unfold mkGm; rw [hq.gof g2, hq.gof h2]
 exact ⟨x, _, G', e1, eG, hk, (hF.ext hx).cons ⟨⟨Gi, ho.weaken hb, hle⟩, hr, hm.1.lo⟩, hx⟩
theorem sT {w : World} {G : Pin} (hP : Pins G w) :
  Calls Tryz.prog 138 [].toArray w fun e w' => ∃ (u : Value) (ps : List VG) (G' : Pin), e = .returned u ∧ Own eVal 26 G' w' w.heap.size u (ps.map Prod.fst) ∧ FrP 65 w.heap.size G' w' ps ∧ KQ (ps.map Prod.snd) ∧ ps.map Prod.snd = smallQ ∧ Ext noS G w G' w' := by
 refine yG (n := 59) Tryz.func138 Tryz.ntmps138 rfl rfl ?_
 have hX0 := exr noS hP
 have hfr0 : FrP 65 w.heap.size G w [] := FrP.nil
 have hkq0 : KQ (([] : List VG).map Prod.snd) := KQ.nil
 refine zG (zH ?_)
 refine qD rfl (zD (v := (.slice none 0 0)) rfl) (qe (zA (zG (zH ?_))))
 refine qI rfl (zM (vs := [(.slice none 0 0), (.slice none 0 0)]) Tryz.func131 fE rfl rfl rfl ?_)
 refine dP (xV (qs := []) (rs := []) hX0.pins hfr0 hkq0 (by first | omega | (simp; done) | (simp; omega)) hX0.size (qJ _ _) (qJ _ _) (by simp) (by simp) (by first | omega | (simp; done) | (simp; omega)) (by first | omega | (simp; done) | (simp; omega))) ?_
 rintro _ w4 ⟨x1, g2, G3, rfl, heq5, hkq6, hfr7, hx8⟩
 refine ⟨_, rfl, ?_⟩
 have hX9 := hX0.tr hx8
 have hone11 : x1.oneCell' = true := hfr7.one List.mem_cons_self
 have heg12 : g2 = sq0 := by rw [heq5]; show mkG _ _ = _; rfl
 refine qI rfl (yO [(.slice none 0 0)] zr26 rfl hX9.pins (fun b13 w14 hk15 hb16 hp17 hl18 => ?_))
 have hX19 := hX9.step hp17 hl18
 have hfr20 := hfr7.below hl18
 have hlo21 : w.heap.size ≤ b13 := by have := hX9.size; omega
 refine q0 rfl rfl rfl (o_stp (cs' := [x1]) (us := [x1]) (v := (.agg [x1].toArray)) sz26 rfl rfl rfl (yM hone11) hX19.pins hb16 (dQ rfl) rfl (fun w22 hb23 hp24 hg25 hz26 => ?_))
 have hX27 := hX19.write hp24 hg25 ((yC hlo21))
 have hfr28 := hfr20.kept hg25 (fun k hk o u => by cases hk; exact hb16.free o u)
 obtain ⟨G29, hle30, hX31, hbp32, hf33⟩ := hb23.shut hX27 hlo21
 have hfr34 := hfr28.le hle30
 refine qe (zA (zG (zH ?_)))
 refine qD rfl (yJ (cs := [x1]) ag26 sz26 rfl (fun j u hj => hX31.pins _ _ _ (hbp32 _ _ (by simpa using hj)))) (qI rfl (xJ (E := eVal) (e := 26) [x1] x1 eZ sz26 zr26 ⟨rfl, hone11⟩ rfl (by decide) hX31.pins (fun u35 w36 ho37 hp38 hl39 hk40 => ?_)))
 have hX41 := hX31.step hp38 hl39
 have hfr42 := hfr34.below hl39
 have ho43 := ho37.weaken hX31.size
 obtain ⟨G44, hle47, hX46, hr45, hf48⟩ := ho43.sealed hX41
 have hfr49 := hfr42.le hle47
 refine qI rfl (zM (vs := [u35, (.slice none 0 0)]) Tryz.func131 fE rfl rfl rfl ?_)
 refine dP (xV (qs := [(x1, g2)]) (rs := []) hX46.pins hfr49 hkq6 (by first | omega | (simp; done) | (simp; omega)) hX46.size hr45 (qJ _ _) (by simp) (by simp) (by first | omega | (simp; done) | (simp; omega)) (by first | omega | (simp; done) | (simp; omega))) ?_
 rintro _ w53 ⟨x50, g51, G52, rfl, heq54, hkq55, hfr56, hx57⟩
 refine ⟨_, rfl, ?_⟩
 have hX58 := hX46.tr hx57
 have hone60 : x50.oneCell' = true := hfr56.one List.mem_cons_self
 have heg61 : g51 = sq1 := by rw [heq54]; show mkG _ _ = _; (try rw [heg12]); rfl
 refine qI rfl (yO [(.slice none 0 0)] zr26 rfl hX58.pins (fun b62 w63 hk64 hb65 hp66 hl67 => ?_))
 have hX68 := hX58.step hp66 hl67
 have hfr69 := hfr56.below hl67
 have hlo70 : w.heap.size ≤ b62 := by have := hX58.size; omega
 refine q0 rfl rfl rfl (o_stp (cs' := [x50]) (us := [x50]) (v := (.agg [x50].toArray)) sz26 rfl rfl rfl (yM hone60) hX68.pins hb65 (dQ rfl) rfl (fun w71 hb72 hp73 hg74 hz75 => ?_))
 have hX76 := hX68.write hp73 hg74 ((yC hlo70))
 have hfr77 := hfr69.kept hg74 (fun k hk o u => by cases hk; exact hb65.free o u)
 obtain ⟨G78, hle79, hX80, hbp81, hf82⟩ := hb72.shut hX76 hlo70
 have hfr83 := hfr77.le hle79
 refine qe (zA (zG (zH ?_)))
 refine qD rfl (yJ (cs := [x1]) ag26 sz26 rfl (fun j u hj => (dO hX80.pins (dN (dN hle47 hx57.le) hle79)) _ _ _ (hbp32 _ _ (by simpa using hj)))) (qI rfl (xJ (E := eVal) (e := 26) [x1] x1 eZ sz26 zr26 ⟨rfl, hone11⟩ rfl (by decide) hX80.pins (fun u84 w85 ho86 hp87 hl88 hk89 => ?_)))
 have hX90 := hX80.step hp87 hl88
 have hfr91 := hfr83.below hl88
 have ho92 := ho86.weaken hX80.size
 obtain ⟨G93, hle96, hX95, hr94, hf97⟩ := ho92.sealed hX90
 have hfr98 := hfr91.le hle96
 refine qI rfl (zM (vs := [(.slice none 0 0), u84]) Tryz.func131 fE rfl rfl rfl ?_)
 refine dP (xV (qs := []) (rs := [(x1, g2)]) hX95.pins hfr98 hkq55 (by first | omega | (simp; done) | (simp; omega)) hX95.size (qJ _ _) hr94 (by simp) (by simp) (by first | omega | (simp; done) | (simp; omega)) (by first | omega | (simp; done) | (simp; omega))) ?_
 rintro _ w102 ⟨x99, g100, G101, rfl, heq103, hkq104, hfr105, hx106⟩
 refine ⟨_, rfl, ?_⟩
 have hX107 := hX95.tr hx106
 have hone109 : x99.oneCell' = true := hfr105.one List.mem_cons_self
 have heg110 : g100 = sq2 := by rw [heq103]; show mkG _ _ = _; (try rw [heg12]); (try rw [heg61]); rfl
 refine qI rfl (yO [(.slice none 0 0)] zr26 rfl hX107.pins (fun b111 w112 hk113 hb114 hp115 hl116 => ?_))
 have hX117 := hX107.step hp115 hl116
 have hfr118 := hfr105.below hl116
 have hlo119 : w.heap.size ≤ b111 := by have := hX107.size; omega
 refine q0 rfl rfl rfl (o_stp (cs' := [x99]) (us := [x99]) (v := (.agg [x99].toArray)) sz26 rfl rfl rfl (yM hone109) hX117.pins hb114 (dQ rfl) rfl (fun w120 hb121 hp122 hg123 hz124 => ?_))
 have hX125 := hX117.write hp122 hg123 ((yC hlo119))
 have hfr126 := hfr118.kept hg123 (fun k hk o u => by cases hk; exact hb114.free o u)
 obtain ⟨G127, hle128, hX129, hbp130, hf131⟩ := hb121.shut hX125 hlo119
 have hfr132 := hfr126.le hle128
 refine qe (zA (zG (zH ?_)))
 refine qD rfl (yJ (cs := [x1]) ag26 sz26 rfl (fun j u hj => (dO hX129.pins (dN (dN (dN (dN (dN hle47 hx57.le) hle79) hle96) hx106.le) hle128)) _ _ _ (hbp32 _ _ (by simpa using hj)))) (qI rfl (xJ (E := eVal) (e := 26) [x1] x1 eZ sz26 zr26 ⟨rfl, hone11⟩ rfl (by decide) hX129.pins (fun u133 w134 ho135 hp136 hl137 hk138 => ?_)))
 have hX139 := hX129.step hp136 hl137
 have hfr140 := hfr132.below hl137
 have ho141 := ho135.weaken hX129.size
 refine qD rfl (yJ (cs := [x1]) ag26 sz26 rfl (fun j u hj => (dO hX139.pins (dN (dN (dN (dN (dN hle47 hx57.le) hle79) hle96) hx106.le) hle128)) _ _ _ (hbp32 _ _ (by simpa using hj)))) (qI rfl (xJ (E := eVal) (e := 26) [x1] x1 eZ sz26 zr26 ⟨rfl, hone11⟩ rfl (by decide) hX139.pins (fun u142 w143 ho144 hp145 hl146 hk147 => ?_)))
 have hX148 := hX139.step hp145 hl146
 have ho149 := ho141.below hl146
 have hfr150 := hfr140.below hl146
 have ha151 : Apart u142.ownBlock u133.ownBlock := zK hk147 ho141.lt
 have ho152 := ho144.weaken hX139.size
 obtain ⟨G153, hle156, hX155, hr154, hf157⟩ := ho149.sealed hX148
 have ho158 := ho152.moreO hle156 hf157 ha151
 have hfr159 := hfr150.le hle156
 obtain ⟨G160, hle163, hX162, hr161, hf164⟩ := ho158.sealed hX155
 have hfr165 := hfr159.le hle163
 refine qI rfl (zM (vs := [u133, u142]) Tryz.func131 fE rfl rfl rfl ?_)
 refine dP (xV (qs := [(x1, g2)]) (rs := [(x1, g2)]) hX162.pins hfr165 hkq104 (by first | omega | (simp; done) | (simp; omega)) hX162.size (hr154.mono hle163) hr161 (by simp) (by simp) (by first | omega | (simp; done) | (simp; omega)) (by first | omega | (simp; done) | (simp; omega))) ?_
 rintro _ w169 ⟨x166, g167, G168, rfl, heq170, hkq171, hfr172, hx173⟩
 refine ⟨_, rfl, ?_⟩
 have hX174 := hX162.tr hx173
 have hone176 : x166.oneCell' = true := hfr172.one List.mem_cons_self
 have heg177 : g167 = sq3 := by rw [heq170]; show mkG _ _ = _; (try rw [heg12]); (try rw [heg61]); (try rw [heg110]); rfl
 refine qI rfl (yO [(.slice none 0 0)] zr26 rfl hX174.pins (fun b178 w179 hk180 hb181 hp182 hl183 => ?_))
 have hX184 := hX174.step hp182 hl183
 have hfr185 := hfr172.below hl183
 have hlo186 : w.heap.size ≤ b178 := by have := hX174.size; omega
 refine q0 rfl rfl rfl (o_stp (cs' := [x166]) (us := [x166]) (v := (.agg [x166].toArray)) sz26 rfl rfl rfl (yM hone176) hX184.pins hb181 (dQ rfl) rfl (fun w187 hb188 hp189 hg190 hz191 => ?_))
 have hX192 := hX184.write hp189 hg190 ((yC hlo186))
 have hfr193 := hfr185.kept hg190 (fun k hk o u => by cases hk; exact hb181.free o u)
 obtain ⟨G194, hle195, hX196, hbp197, hf198⟩ := hb188.shut hX192 hlo186
 have hfr199 := hfr193.le hle195
 refine qe (zA (zG (zH ?_)))
 refine qD rfl (yJ (cs := [x1]) ag26 sz26 rfl (fun j u hj => (dO hX196.pins (dN (dN (dN (dN (dN (dN (dN (dN (dN hle47 hx57.le) hle79) hle96) hx106.le) hle128) hle156) hle163) hx173.le) hle195)) _ _ _ (hbp32 _ _ (by simpa using hj)))) (qI rfl (xJ (E := eVal) (e := 26) [x1] x1 eZ sz26 zr26 ⟨rfl, hone11⟩ rfl (by decide) hX196.pins (fun u200 w201 ho202 hp203 hl204 hk205 => ?_)))
 have hX206 := hX196.step hp203 hl204
 have hfr207 := hfr199.below hl204
 have ho208 := ho202.weaken hX196.size
 refine qD rfl (yJ (cs := [x166]) ag26 sz26 rfl (fun j u hj => hX206.pins _ _ _ (hbp197 _ _ (by simpa using hj)))) (qI rfl (xJ (E := eVal) (e := 26) [x166] x166 eZ sz26 zr26 ⟨rfl, hone176⟩ rfl (by decide) hX206.pins (fun u209 w210 ho211 hp212 hl213 hk214 => ?_)))
 have hX215 := hX206.step hp212 hl213
 have ho216 := ho208.below hl213
 have hfr217 := hfr207.below hl213
 have ha218 : Apart u209.ownBlock u200.ownBlock := zK hk214 ho208.lt
 have ho219 := ho211.weaken hX206.size
 obtain ⟨G220, hle223, hX222, hr221, hf224⟩ := ho216.sealed hX215
 have ho225 := ho219.moreO hle223 hf224 ha218
 have hfr226 := hfr217.le hle223
 obtain ⟨G227, hle230, hX229, hr228, hf231⟩ := ho225.sealed hX222
 have hfr232 := hfr226.le hle230
 refine qI rfl (zM (vs := [u200, u209]) Tryz.func131 fE rfl rfl rfl ?_)
 refine dP (xV (qs := [(x1, g2)]) (rs := [(x166, g167)]) hX229.pins hfr232 hkq171 (by first | omega | (simp; done) | (simp; omega)) hX229.size (hr221.mono hle230) hr228 (by simp) (by simp) (by first | omega | (simp; done) | (simp; omega)) (by first | omega | (simp; done) | (simp; omega))) ?_
 rintro _ w236 ⟨x233, g234, G235, rfl, heq237, hkq238, hfr239, hx240⟩
 refine ⟨_, rfl, ?_⟩
 have hX241 := hX229.tr hx240
 have hone243 : x233.oneCell' = true := hfr239.one List.mem_cons_self
 have heg244 : g234 = sq4 := by rw [heq237]; show mkG _ _ = _; (try rw [heg12]); (try rw [heg61]); (try rw [heg110]); (try rw [heg177]); rfl
 refine qI rfl (yO [(.slice none 0 0)] zr26 rfl hX241.pins (fun b245 w246 hk247 hb248 hp249 hl250 => ?_))
 have hX251 := hX241.step hp249 hl250
 have hfr252 := hfr239.below hl250
 have hlo253 : w.heap.size ≤ b245 := by have := hX241.size; omega
 refine q0 rfl rfl rfl (o_stp (cs' := [x233]) (us := [x233]) (v := (.agg [x233].toArray)) sz26 rfl rfl rfl (yM hone243) hX251.pins hb248 (dQ rfl) rfl (fun w254 hb255 hp256 hg257 hz258 => ?_))
 have hX259 := hX251.write hp256 hg257 ((yC hlo253))
 have hfr260 := hfr252.kept hg257 (fun k hk o u => by cases hk; exact hb248.free o u)
 obtain ⟨G261, hle262, hX263, hbp264, hf265⟩ := hb255.shut hX259 hlo253
 have hfr266 := hfr260.le hle262
 refine qe (zA (zG (zH ?_)))
 refine qD rfl (yJ (cs := [x1]) ag26 sz26 rfl (fun j u hj => (dO hX263.pins (dN (dN (dN (dN (dN (dN (dN (dN (dN (dN (dN (dN (dN hle47 hx57.le) hle79) hle96) hx106.le) hle128) hle156) hle163) hx173.le) hle195) hle223) hle230) hx240.le) hle262)) _ _ _ (hbp32 _ _ (by simpa using hj)))) (qI rfl (xJ (E := eVal) (e := 26) [x1] x1 eZ sz26 zr26 ⟨rfl, hone11⟩ rfl (by decide) hX263.pins (fun u267 w268 ho269 hp270 hl271 hk272 => ?_)))
 have hX273 := hX263.step hp270 hl271
 have hfr274 := hfr266.below hl271
 have ho275 := ho269.weaken hX263.size
 refine qD rfl (yJ (cs := [x50]) ag26 sz26 rfl (fun j u hj => (dO hX273.pins (dN (dN (dN (dN (dN (dN (dN (dN (dN (dN hle96 hx106.le) hle128) hle156) hle163) hx173.le) hle195) hle223) hle230) hx240.le) hle262)) _ _ _ (hbp81 _ _ (by simpa using hj)))) (qI rfl (xJ (E := eVal) (e := 26) [x50] x50 eZ sz26 zr26 ⟨rfl, hone60⟩ rfl (by decide) hX273.pins (fun u276 w277 ho278 hp279 hl280 hk281 => ?_)))
 have hX282 := hX273.step hp279 hl280
 have ho283 := ho275.below hl280
 have hfr284 := hfr274.below hl280
 have ha285 : Apart u276.ownBlock u267.ownBlock := zK hk281 ho275.lt
 have ho286 := ho278.weaken hX273.size
 obtain ⟨G287, hle290, hX289, hr288, hf291⟩ := ho283.sealed hX282
 have ho292 := ho286.moreO hle290 hf291 ha285
 have hfr293 := hfr284.le hle290
 obtain ⟨G294, hle297, hX296, hr295, hf298⟩ := ho292.sealed hX289
 have hfr299 := hfr293.le hle297
 refine qI rfl (zM (vs := [u267, u276]) Tryz.func131 fE rfl rfl rfl ?_)
 refine dP (xV (qs := [(x1, g2)]) (rs := [(x50, g51)]) hX296.pins hfr299 hkq238 (by first | omega | (simp; done) | (simp; omega)) hX296.size (hr288.mono hle297) hr295 (by simp) (by simp) (by first | omega | (simp; done) | (simp; omega)) (by first | omega | (simp; done) | (simp; omega))) ?_
 rintro _ w303 ⟨x300, g301, G302, rfl, heq304, hkq305, hfr306, hx307⟩
 refine ⟨_, rfl, ?_⟩
 have hX308 := hX296.tr hx307
 have hone310 : x300.oneCell' = true := hfr306.one List.mem_cons_self
 have heg311 : g301 = sq5 := by rw [heq304]; show mkG _ _ = _; (try rw [heg12]); (try rw [heg61]); (try rw [heg110]); (try rw [heg177]); (try rw [heg244]); rfl
 refine qI rfl (yO [(.slice none 0 0)] zr26 rfl hX308.pins (fun b312 w313 hk314 hb315 hp316 hl317 => ?_))
 have hX318 := hX308.step hp316 hl317
 have hfr319 := hfr306.below hl317
 have hlo320 : w.heap.size ≤ b312 := by have := hX308.size; omega
 refine q0 rfl rfl rfl (o_stp (cs' := [x300]) (us := [x300]) (v := (.agg [x300].toArray)) sz26 rfl rfl rfl (yM hone310) hX318.pins hb315 (dQ rfl) rfl (fun w321 hb322 hp323 hg324 hz325 => ?_))
 have hX326 := hX318.write hp323 hg324 ((yC hlo320))
 have hfr327 := hfr319.kept hg324 (fun k hk o u => by cases hk; exact hb315.free o u)
 obtain ⟨G328, hle329, hX330, hbp331, hf332⟩ := hb322.shut hX326 hlo320
 have hfr333 := hfr327.le hle329
 refine qe (zA (zG (zH ?_)))
 refine qD rfl (yJ (cs := [x50]) ag26 sz26 rfl (fun j u hj => (dO hX330.pins (dN (dN (dN (dN (dN (dN (dN (dN (dN (dN (dN (dN (dN (dN hle96 hx106.le) hle128) hle156) hle163) hx173.le) hle195) hle223) hle230) hx240.le) hle262) hle290) hle297) hx307.le) hle329)) _ _ _ (hbp81 _ _ (by simpa using hj)))) (qI rfl (xJ (E := eVal) (e := 26) [x50] x50 eZ sz26 zr26 ⟨rfl, hone60⟩ rfl (by decide) hX330.pins (fun u334 w335 ho336 hp337 hl338 hk339 => ?_)))
 have hX340 := hX330.step hp337 hl338
 have hfr341 := hfr333.below hl338
 have ho342 := ho336.weaken hX330.size
 refine qD rfl (yJ (cs := [x99]) ag26 sz26 rfl (fun j u hj => (dO hX340.pins (dN (dN (dN (dN (dN (dN (dN (dN (dN (dN (dN hle156 hle163) hx173.le) hle195) hle223) hle230) hx240.le) hle262) hle290) hle297) hx307.le) hle329)) _ _ _ (hbp130 _ _ (by simpa using hj)))) (qI rfl (xJ (E := eVal) (e := 26) [x99] x99 eZ sz26 zr26 ⟨rfl, hone109⟩ rfl (by decide) hX340.pins (fun u343 w344 ho345 hp346 hl347 hk348 => ?_)))
 have hX349 := hX340.step hp346 hl347
 have ho350 := ho342.below hl347
 have hfr351 := hfr341.below hl347
 have ha352 : Apart u343.ownBlock u334.ownBlock := zK hk348 ho342.lt
 have ho353 := ho345.weaken hX340.size
 obtain ⟨G354, hle357, hX356, hr355, hf358⟩ := ho350.sealed hX349
 have ho359 := ho353.moreO hle357 hf358 ha352
 have hfr360 := hfr351.le hle357
 obtain ⟨G361, hle364, hX363, hr362, hf365⟩ := ho359.sealed hX356
 have hfr366 := hfr360.le hle364
 refine qI rfl (zM (vs := [u334, u343]) Tryz.func131 fE rfl rfl rfl ?_)
 refine dP (xV (qs := [(x50, g51)]) (rs := [(x99, g100)]) hX363.pins hfr366 hkq305 (by first | omega | (simp; done) | (simp; omega)) hX363.size (hr355.mono hle364) hr362 (by simp) (by simp) (by first | omega | (simp; done) | (simp; omega)) (by first | omega | (simp; done) | (simp; omega))) ?_
 rintro _ w370 ⟨x367, g368, G369, rfl, heq371, hkq372, hfr373, hx374⟩
 refine ⟨_, rfl, ?_⟩
 have hX375 := hX363.tr hx374
 have hone377 : x367.oneCell' = true := hfr373.one List.mem_cons_self
 have heg378 : g368 = sq6 := by rw [heq371]; show mkG _ _ = _; (try rw [heg12]); (try rw [heg61]); (try rw [heg110]); (try rw [heg177]); (try rw [heg244]); (try rw [heg311]); rfl
 refine qI rfl (yO [(.slice none 0 0)] zr26 rfl hX375.pins (fun b379 w380 hk381 hb382 hp383 hl384 => ?_))
 have hX385 := hX375.step hp383 hl384
 have hfr386 := hfr373.below hl384
 have hlo387 : w.heap.size ≤ b379 := by have := hX375.size; omega
 refine q0 rfl rfl rfl (o_stp (cs' := [x367]) (us := [x367]) (v := (.agg [x367].toArray)) sz26 rfl rfl rfl (yM hone377) hX385.pins hb382 (dQ rfl) rfl (fun w388 hb389 hp390 hg391 hz392 => ?_))
 have hX393 := hX385.write hp390 hg391 ((yC hlo387))
 have hfr394 := hfr386.kept hg391 (fun k hk o u => by cases hk; exact hb382.free o u)
 obtain ⟨G395, hle396, hX397, hbp398, hf399⟩ := hb389.shut hX393 hlo387
 have hfr400 := hfr394.le hle396
 refine qe (zA (zG (zH ?_)))
 refine qD rfl (yJ (cs := [x1]) ag26 sz26 rfl (fun j u hj => (dO hX397.pins (dN (dN (dN (dN (dN (dN (dN (dN (dN (dN (dN (dN (dN (dN (dN (dN (dN (dN (dN (dN (dN hle47 hx57.le) hle79) hle96) hx106.le) hle128) hle156) hle163) hx173.le) hle195) hle223) hle230) hx240.le) hle262) hle290) hle297) hx307.le) hle329) hle357) hle364) hx374.le) hle396)) _ _ _ (hbp32 _ _ (by simpa using hj)))) (qD rfl (yJ (cs := [x166]) ag26 sz26 rfl (fun j u hj => (dO hX397.pins (dN (dN (dN (dN (dN (dN (dN (dN (dN (dN (dN hle223 hle230) hx240.le) hle262) hle290) hle297) hx307.le) hle329) hle357) hle364) hx374.le) hle396)) _ _ _ (hbp197 _ _ (by simpa using hj)))) (qI rfl (gR (E := eVal) (e := 26) [x1, x166] [x1, x166] eZ sz26 zr26 (by exact reps2 (⟨rfl, hone11⟩) (⟨rfl, hone176⟩)) (jE hone11 hone176) rfl rfl rfl rfl (by decide) hX397.pins (fun u401 w402 ho403 hp404 hl405 hk406 => ?_))))
 have hX407 := hX397.step hp404 hl405
 have hfr408 := hfr400.below hl405
 have ho409 := ho403.weaken hX397.size
 refine qD rfl (yJ (cs := [x1]) ag26 sz26 rfl (fun j u hj => (dO hX407.pins (dN (dN (dN (dN (dN (dN (dN (dN (dN (dN (dN (dN (dN (dN (dN (dN (dN (dN (dN (dN (dN hle47 hx57.le) hle79) hle96) hx106.le) hle128) hle156) hle163) hx173.le) hle195) hle223) hle230) hx240.le) hle262) hle290) hle297) hx307.le) hle329) hle357) hle364) hx374.le) hle396)) _ _ _ (hbp32 _ _ (by simpa using hj)))) (qD rfl (yJ (cs := [x166]) ag26 sz26 rfl (fun j u hj => (dO hX407.pins (dN (dN (dN (dN (dN (dN (dN (dN (dN (dN (dN hle223 hle230) hx240.le) hle262) hle290) hle297) hx307.le) hle329) hle357) hle364) hx374.le) hle396)) _ _ _ (hbp197 _ _ (by simpa using hj)))) (qI rfl (gR (E := eVal) (e := 26) [x1, x166] [x1, x166] eZ sz26 zr26 (by exact reps2 (⟨rfl, hone11⟩) (⟨rfl, hone176⟩)) (jE hone11 hone176) rfl rfl rfl rfl (by decide) hX407.pins (fun u410 w411 ho412 hp413 hl414 hk415 => ?_))))
 have hX416 := hX407.step hp413 hl414
 have ho417 := ho409.below hl414
 have hfr418 := hfr408.below hl414
 have ha419 : Apart u410.ownBlock u401.ownBlock := zK hk415 ho409.lt
 have ho420 := ho412.weaken hX407.size
 obtain ⟨G421, hle424, hX423, hr422, hf425⟩ := ho417.sealed hX416
 have ho426 := ho420.moreO hle424 hf425 ha419
 have hfr427 := hfr418.le hle424
 obtain ⟨G428, hle431, hX430, hr429, hf432⟩ := ho426.sealed hX423
 have hfr433 := hfr427.le hle431
 refine qI rfl (zM (vs := [u401, u410]) Tryz.func131 fE rfl rfl rfl ?_)
 refine dP (xV (qs := [(x1, g2), (x166, g167)]) (rs := [(x1, g2), (x166, g167)]) hX430.pins hfr433 hkq372 (by first | omega | (simp; done) | (simp; omega)) hX430.size (hr422.mono hle431) hr429 (by simp) (by simp) (by first | omega | (simp; done) | (simp; omega)) (by first | omega | (simp; done) | (simp; omega))) ?_
 rintro _ w437 ⟨x434, g435, G436, rfl, heq438, hkq439, hfr440, hx441⟩
 refine ⟨_, rfl, ?_⟩
 have hX442 := hX430.tr hx441
 have hone444 : x434.oneCell' = true := hfr440.one List.mem_cons_self
 have heg445 : g435 = sq7 := by rw [heq438]; show mkG _ _ = _; (try rw [heg12]); (try rw [heg61]); (try rw [heg110]); (try rw [heg177]); (try rw [heg244]); (try rw [heg311]); (try rw [heg378]); rfl
 refine qI rfl (yO [(.slice none 0 0)] zr26 rfl hX442.pins (fun b446 w447 hk448 hb449 hp450 hl451 => ?_))
 have hX452 := hX442.step hp450 hl451
 have hfr453 := hfr440.below hl451
 have hlo454 : w.heap.size ≤ b446 := by have := hX442.size; omega
 refine q0 rfl rfl rfl (o_stp (cs' := [x434]) (us := [x434]) (v := (.agg [x434].toArray)) sz26 rfl rfl rfl (yM hone444) hX452.pins hb449 (dQ rfl) rfl (fun w455 hb456 hp457 hg458 hz459 => ?_))
 have hX460 := hX452.write hp457 hg458 ((yC hlo454))
 have hfr461 := hfr453.kept hg458 (fun k hk o u => by cases hk; exact hb449.free o u)
 obtain ⟨G462, hle463, hX464, hbp465, hf466⟩ := hb456.shut hX460 hlo454
 have hfr467 := hfr461.le hle463
 refine qe (zA (zG (zH ?_)))
 refine qD rfl (yJ (cs := [x166]) ag26 sz26 rfl (fun j u hj => (dO hX464.pins (dN (dN (dN (dN (dN (dN (dN (dN (dN (dN (dN (dN (dN (dN (dN hle223 hle230) hx240.le) hle262) hle290) hle297) hx307.le) hle329) hle357) hle364) hx374.le) hle396) hle424) hle431) hx441.le) hle463)) _ _ _ (hbp197 _ _ (by simpa using hj)))) (qI rfl (xJ (E := eVal) (e := 26) [x166] x166 eZ sz26 zr26 ⟨rfl, hone176⟩ rfl (by decide) hX464.pins (fun u468 w469 ho470 hp471 hl472 hk473 => ?_)))
 have hX474 := hX464.step hp471 hl472
 have hfr475 := hfr467.below hl472
 have ho476 := ho470.weaken hX464.size
 refine qD rfl (yJ (cs := [x1]) ag26 sz26 rfl (fun j u hj => (dO hX474.pins (dN (dN (dN (dN (dN (dN (dN (dN (dN (dN (dN (dN (dN (dN (dN (dN (dN (dN (dN (dN (dN (dN (dN (dN (dN hle47 hx57.le) hle79) hle96) hx106.le) hle128) hle156) hle163) hx173.le) hle195) hle223) hle230) hx240.le) hle262) hle290) hle297) hx307.le) hle329) hle357) hle364) hx374.le) hle396) hle424) hle431) hx441.le) hle463)) _ _ _ (hbp32 _ _ (by simpa using hj)))) (qI rfl (xJ (E := eVal) (e := 26) [x1] x1 eZ sz26 zr26 ⟨rfl, hone11⟩ rfl (by decide) hX474.pins (fun u477 w478 ho479 hp480 hl481 hk482 => ?_)))
 have hX483 := hX474.step hp480 hl481
 have ho484 := ho476.below hl481
 have hfr485 := hfr475.below hl481
 have ha486 : Apart u477.ownBlock u468.ownBlock := zK hk482 ho476.lt
 have ho487 := ho479.weaken hX474.size
 obtain ⟨G488, hle491, hX490, hr489, hf492⟩ := ho484.sealed hX483
 have ho493 := ho487.moreO hle491 hf492 ha486
 have hfr494 := hfr485.le hle491
 obtain ⟨G495, hle498, hX497, hr496, hf499⟩ := ho493.sealed hX490
 have hfr500 := hfr494.le hle498
 refine qI rfl (zM (vs := [u468, u477]) Tryz.func131 fE rfl rfl rfl ?_)
 refine dP (xV (qs := [(x166, g167)]) (rs := [(x1, g2)]) hX497.pins hfr500 hkq439 (by first | omega | (simp; done) | (simp; omega)) hX497.size (hr489.mono hle498) hr496 (by simp) (by simp) (by first | omega | (simp; done) | (simp; omega)) (by first | omega | (simp; done) | (simp; omega))) ?_
 rintro _ w504 ⟨x501, g502, G503, rfl, heq505, hkq506, hfr507, hx508⟩
 refine ⟨_, rfl, ?_⟩
 have hX509 := hX497.tr hx508
 have hone511 : x501.oneCell' = true := hfr507.one List.mem_cons_self
 have heg512 : g502 = sq8 := by rw [heq505]; show mkG _ _ = _; (try rw [heg12]); (try rw [heg61]); (try rw [heg110]); (try rw [heg177]); (try rw [heg244]); (try rw [heg311]); (try rw [heg378]); (try rw [heg445]); rfl
 refine qI rfl (yO [(.slice none 0 0)] zr26 rfl hX509.pins (fun b513 w514 hk515 hb516 hp517 hl518 => ?_))
 have hX519 := hX509.step hp517 hl518
 have hfr520 := hfr507.below hl518
 have hlo521 : w.heap.size ≤ b513 := by have := hX509.size; omega
 refine q0 rfl rfl rfl (o_stp (cs' := [x501]) (us := [x501]) (v := (.agg [x501].toArray)) sz26 rfl rfl rfl (yM hone511) hX519.pins hb516 (dQ rfl) rfl (fun w522 hb523 hp524 hg525 hz526 => ?_))
 have hX527 := hX519.write hp524 hg525 ((yC hlo521))
 have hfr528 := hfr520.kept hg525 (fun k hk o u => by cases hk; exact hb516.free o u)
 obtain ⟨G529, hle530, hX531, hbp532, hf533⟩ := hb523.shut hX527 hlo521
 have hfr534 := hfr528.le hle530
 refine qe (zA (zG (zH ?_)))
 refine qD rfl (yJ (cs := [x1]) ag26 sz26 rfl (fun j u hj => (dO hX531.pins (dN (dN (dN (dN (dN (dN (dN (dN (dN (dN (dN (dN (dN (dN (dN (dN (dN (dN (dN (dN (dN (dN (dN (dN (dN (dN (dN (dN (dN hle47 hx57.le) hle79) hle96) hx106.le) hle128) hle156) hle163) hx173.le) hle195) hle223) hle230) hx240.le) hle262) hle290) hle297) hx307.le) hle329) hle357) hle364) hx374.le) hle396) hle424) hle431) hx441.le) hle463) hle491) hle498) hx508.le) hle530)) _ _ _ (hbp32 _ _ (by simpa using hj)))) (qD rfl (yJ (cs := [x50]) ag26 sz26 rfl (fun j u hj => (dO hX531.pins (dN (dN (dN (dN (dN (dN (dN (dN (dN (dN (dN (dN (dN (dN (dN (dN (dN (dN (dN (dN (dN (dN (dN (dN (dN (dN hle96 hx106.le) hle128) hle156) hle163) hx173.le) hle195) hle223) hle230) hx240.le) hle262) hle290) hle297) hx307.le) hle329) hle357) hle364) hx374.le) hle396) hle424) hle431) hx441.le) hle463) hle491) hle498) hx508.le) hle530)) _ _ _ (hbp81 _ _ (by simpa using hj)))) (qD rfl (yJ (cs := [x99]) ag26 sz26 rfl (fun j u hj => (dO hX531.pins (dN (dN (dN (dN (dN (dN (dN (dN (dN (dN (dN (dN (dN (dN (dN (dN (dN (dN (dN (dN (dN (dN (dN hle156 hle163) hx173.le) hle195) hle223) hle230) hx240.le) hle262) hle290) hle297) hx307.le) hle329) hle357) hle364) hx374.le) hle396) hle424) hle431) hx441.le) hle463) hle491) hle498) hx508.le) hle530)) _ _ _ (hbp130 _ _ (by simpa using hj)))) (qD rfl (yJ (cs := [x166]) ag26 sz26 rfl (fun j u hj => (dO hX531.pins (dN (dN (dN (dN (dN (dN (dN (dN (dN (dN (dN (dN (dN (dN (dN (dN (dN (dN (dN hle223 hle230) hx240.le) hle262) hle290) hle297) hx307.le) hle329) hle357) hle364) hx374.le) hle396) hle424) hle431) hx441.le) hle463) hle491) hle498) hx508.le) hle530)) _ _ _ (hbp197 _ _ (by simpa using hj)))) (qD rfl (yJ (cs := [x233]) ag26 sz26 rfl (fun j u hj => (dO hX531.pins (dN (dN (dN (dN (dN (dN (dN (dN (dN (dN (dN (dN (dN (dN (dN hle290 hle297) hx307.le) hle329) hle357) hle364) hx374.le) hle396) hle424) hle431) hx441.le) hle463) hle491) hle498) hx508.le) hle530)) _ _ _ (hbp264 _ _ (by simpa using hj)))) (qD rfl (yJ (cs := [x300]) ag26 sz26 rfl (fun j u hj => (dO hX531.pins (dN (dN (dN (dN (dN (dN (dN (dN (dN (dN (dN hle357 hle364) hx374.le) hle396) hle424) hle431) hx441.le) hle463) hle491) hle498) hx508.le) hle530)) _ _ _ (hbp331 _ _ (by simpa using hj)))) (qD rfl (yJ (cs := [x367]) ag26 sz26 rfl (fun j u hj => (dO hX531.pins (dN (dN (dN (dN (dN (dN (dN hle424 hle431) hx441.le) hle463) hle491) hle498) hx508.le) hle530)) _ _ _ (hbp398 _ _ (by simpa using hj)))) (qD rfl (yJ (cs := [x434]) ag26 sz26 rfl (fun j u hj => (dO hX531.pins (dN (dN (dN hle491 hle498) hx508.le) hle530)) _ _ _ (hbp465 _ _ (by simpa using hj)))) (qD rfl (yJ (cs := [x501]) ag26 sz26 rfl (fun j u hj => hX531.pins _ _ _ (hbp532 _ _ (by simpa using hj)))) ?_))))))))
 refine qI rfl (gR (E := eVal) (e := 26) [x1, x50, x99, x166, x233, x300, x367, x434, x501] [x1, x50, x99, x166, x233, x300, x367, x434, x501] eZ sz26 zr26 (gL (⟨rfl, hone11⟩) (gL (⟨rfl, hone60⟩) (gL (⟨rfl, hone109⟩) (gL (⟨rfl, hone176⟩) (gL (⟨rfl, hone243⟩) (gL (⟨rfl, hone310⟩) (gL (⟨rfl, hone377⟩) (gL (⟨rfl, hone444⟩) (gL (⟨rfl, hone511⟩) repsN))))))))) (gQ hone11 (gQ hone60 (gQ hone109 (gQ hone176 (gQ hone243 (gQ hone310 (gQ hone377 (gQ hone444 (gQ hone511 onesN))))))))) rfl rfl rfl rfl (by decide) hX531.pins (fun u535 w536 ho537 hp538 hl539 hk540 => ?_))
 have hX541 := hX531.step hp538 hl539
 have hfr542 := hfr534.below hl539
 have ho543 := ho537.weaken hX531.size
 refine qD rfl (zD (v := u535) rfl) (qe (zA ?_))
 refine wp_ret (zY (zW (v := u535) rfl rfl rfl ?_))
 have hmm : ∀ x : VG, x ∈ ((x501, g502) :: ((x434, g435) :: ((x367, g368) :: ((x300, g301) :: ((x233, g234) :: ((x166, g167) :: ((x99, g100) :: ((x50, g51) :: ((x1, g2) :: []))))))))) ↔ x ∈ ([(x1, g2), (x50, g51), (x99, g100), (x166, g167), (x233, g234), (x300, g301), (x367, g368), (x434, g435), (x501, g502)] : List VG) := fun x => by simp only [List.mem_cons, List.mem_nil_iff, or_false]; constructor <;> (rintro (h | h | h | h | h | h | h | h | h) <;> simp [h])
 exact ⟨_, [(x1, g2), (x50, g51), (x99, g100), (x166, g167), (x233, g234), (x300, g301), (x367, g368), (x434, g435), (x501, g502)], _, rfl, ho543, hfr542.mem (fun p hp => (hmm p).2 hp), (show KQ (List.map Prod.snd (((x501, g502) :: ((x434, g435) :: ((x367, g368) :: ((x300, g301) :: ((x233, g234) :: ((x166, g167) :: ((x99, g100) :: ((x50, g51) :: ((x1, g2) :: []))))))))) : List VG)) from hkq506).mem (fun g => by simp only [List.mem_map]; exact ⟨fun ⟨p, hp, e⟩ => ⟨p, (hmm p).1 hp, e⟩, fun ⟨p, hp, e⟩ => ⟨p, (hmm p).2 hp, e⟩⟩), (by show [g2, g51, g100, g167, g234, g301, g368, g435, g502] = smallQ; rw [heg12, heg61, heg110, heg177, heg244, heg311, heg378, heg445, heg512]; rfl), hX541⟩
theorem some_spec {w : World} {G : Pin} {c : Nat} {cv : Value} {code : List UInt8} {a s : Int} {l : Value} {vs : List Value} {m : Int} (hP : Pins G w) (hB : Bx G w c [cv, .int .i64 a, .int .u64 s]) (hc : RSl eByte G cv code) (ha : 0 ≤ a ∧ a + 6 ≤ 1000000) (hs : 0 ≤ s ∧ s < 18446744073709551616) (hl : RSl eVal G l vs) (hn : 1 ≤ vs.length ∧ vs.length ≤ 1000) (hm2 : 0 ≤ m ∧ m ≤ 2) :
  Calls Tryz.prog 139 [(.pointer (some ⟨c, 0, none⟩)), l, (.int .i64 m)].toArray w fun e w' => ∃ (u : Value) (is : List Nat) (a' s' : Int) (G' : Pin), e = .returned u ∧ Own eVal 26 G' w' w.heap.size u (is.map fun j => vs.getD j default) ∧ (∀ y ∈ is, y < vs.length) ∧ is.length ≤ 2 ∧ (is, a', s') = someF code (vs.length : Int) m (a, s) ∧ Bx G' w' c [cv, .int .i64 a', .int .u64 s'] ∧ (a ≤ a' ∧ a' ≤ a + 6) ∧ (0 ≤ s' ∧ s' < 18446744073709551616) ∧ Ext (inO (some c)) G w G' w' := by
 refine yG (n := 31) Tryz.func139 Tryz.ntmps139 rfl rfl ?_
 have hX0 := exr (inO (some c)) hP
 have hm := hc.max
 refine zG (zH ?_)
 refine qD rfl (zD (v := (.slice none 0 0)) rfl) (qe (zA (zG (zH ?_))))
 refine qI rfl (xG (E := eVal) (e := 26) eZ sz26 hX0.pins (fun u1 w2 ho3 hp4 hl5 hk6 => ?_))
 have hX7 := hX0.step hp4 hl5
 have hb8 := hB.below hl5
 have ha9 : Apart u1.ownBlock (some c) := zL hk6 hB.lt
 have ho10 := ho3.weaken hX0.size
 refine qD rfl (zD (v := u1) rfl) (qe (zA (zG (zH ?_))))
 refine qD rfl (zB (v := (.pointer (some ⟨c, 0, none⟩))) rfl) (qD rfl (zB (v := (.int .i64 m)) rfl) (qD rfl (yX rfl rfl (by omega)) (qI rfl (zM (vs := [(.pointer (some ⟨c, 0, none⟩)), (.int .i64 (m + 1))]) Tryz.func101 mW rfl rfl rfl ?_))))
 refine dP (jN hX7.pins hb8 hc (by omega) (by omega) (n := (m + 1)) (by omega)) ?_
 rintro _ w16 ⟨z11, a14, s15, rfl, hz12, hdf13, hb17, hda18, hds19, hx20⟩
 refine ⟨_, rfl, ?_⟩
 have hX21 := hX7.trans hx20 (fun i hi => xL i hi)
 have ho22 := ho10.extS hx20 (notO ha9)
 refine qD rfl (zD (v := (.int .i64 z11)) rfl) (qe (zA (zG (zG (zH ?_)))))
 refine qD rfl (zD (v := (.int .i64 0)) rfl) (qe (zA ?_))
 refine yH (yZ (fun (k : Nat) (en : Nat → Value) (W : World) => ∃ (env1 : Nat → Value) (i : Nat) (ov : Value) (is : List Nat) (a1 : Int) (s1 : Int) (GL : Pin), en = (upd (upd (upd (upd (upd (upd env1 0 (.pointer (some ⟨c, 0, none⟩))) 1 l) 6 (.slice none 0 0)) 7 ov) 8 (.int .i64 z11)) 9 (.int .i64 (i : Int))) ∧ k = (z11).toNat - i ∧ Ext (inO (some c)) G w GL W ∧ Pin.le G GL ∧ (i : Int) ≤ z11 ∧ (is, a1, s1) = picksF code (vs.length : Int) i (a14, s15) ∧ (∀ y ∈ is, y < vs.length) ∧ (is.length = i) ∧ (a ≤ a1 ∧ a1 ≤ a + 2 + 2 * (i : Int)) ∧ (0 ≤ s1 ∧ s1 < 18446744073709551616) ∧ (Own eVal 26 GL W w.heap.size ov ((is.map fun j => vs.getD j default))) ∧ (Bx GL W c [cv, (.int .i64 a1), (.int .u64 s1)]) ∧ (Apart ov.ownBlock (some c))) _ ⟨_, 0, u1, [], a14, s15, G, (zC (x := 9) (zC (x := 8) (zC (x := 7) (zC (x := 6) (zC (x := 1) (zX (x := 0) rfl) rfl) rfl) rfl) rfl) rfl), rfl, hX21, Pin.le_refl _, (by omega), rfl, (fun y hy => (List.not_mem_nil hy).elim), rfl, (by omega), (by omega), ho22, hb17, ha9⟩ ?_)
 rintro k23 _ w24 ⟨env1, i, ov, is, a1, s1, GL, rfl, hk25, hX26, hlek23, hi, hpk, hys, hyl, hda, hds, hw27, hw28, ha29⟩
 refine zG (zG (zH ?_))
 refine qD rfl (zB (v := (.int .i64 (i : Int))) rfl) (qD rfl (zB (v := (.int .i64 z11)) rfl) (qD rfl (xB rfl rfl) (qe (zA ?_))))
 refine yN (p := ((i : Int) : Int) < z11) rfl rfl (fun h30 => ?_) (fun h30 => ?_)
 refine wp_skip (zA (zG ?_))
 refine yH (zH (qD rfl (zB (v := ov) rfl) (qD rfl (zB (v := l) rfl) (qD rfl (zB (v := (.pointer (some ⟨c, 0, none⟩))) rfl) (qD rfl (zB (v := l) rfl) (qD rfl (zT eZ (v := l) rfl hl) (qI rfl (zM (vs := [(.pointer (some ⟨c, 0, none⟩)), (.int .i64 (vs.length : Int))]) Tryz.func101 mW rfl rfl rfl ?_))))))))
 refine dP (jN hX26.pins hw28 (hc.mono hlek23) (by omega) (by omega) (n := (vs.length : Int)) (by omega)) ?_
 rintro _ w36 ⟨z31, a34, s35, rfl, hz32, hdf33, hb37, hda38, hds39, hx40⟩
 refine ⟨_, rfl, ?_⟩
 have hX41 := hX26.trans hx40 (fun i hi => xL i hi)
 have ho42 := hw27.extS hx40 (notO ha29)
 refine qD rfl (zN eZ sz26 (v := l) rfl rfl hl (by omega) (by omega)) ?_
 obtain ⟨cs43, hrep44, hagg45, hcell46⟩ := nm_el (j := (z31).toNat) default (hl.at (z := z31) (by omega) (by omega)) rfl
 obtain ⟨rfl, hone47⟩ := hrep44
 refine qD rfl (hagg45 ag26 sz26 rfl (dO hX41.pins hlek23)) (qI rfl (xJ (E := eVal) (e := 26) [(vs.getD (z31).toNat default)] (vs.getD (z31).toNat default) eZ sz26 zr26 ⟨rfl, hone47⟩ rfl (by decide) hX41.pins (fun u48 w49 ho50 hp51 hl52 hk53 => ?_)))
 have hX54 := hX41.step hp51 hl52
 have ho55 := ho42.below hl52
 have hb56 := hb37.below hl52
 have ho59 := ho50.weaken hX41.size
 refine qI rfl (zZ (E := eVal) (v := ov) (u := u48) 24 eZ ap26 (by decide) rfl rfl hX54.pins ho55 ho59.src (by first | omega | (rw [List.nil_append]; omega) | (rw [List.length_nil]; omega) | (rw [List.length_append]; omega) | (simp; done) | (simp; omega) | (simp only [List.length_cons, List.length_nil]; omega) | (simp only [List.length_cons, List.length_nil]; omega) | (simp only [List.length_append, List.length_cons, List.length_nil]; omega)) (by first | omega | (rw [List.nil_append]; omega) | (rw [List.length_nil]; omega) | (rw [List.length_append]; omega) | (simp; done) | (simp; omega) | (simp only [List.length_cons, List.length_nil]; omega) | (simp only [List.length_cons, List.length_nil]; omega) | (simp only [List.length_append, List.length_cons, List.length_nil]; omega)) (hX54.size) (fun u60 w61 ho62 hp63 hg64 hw65 => ?_))
 have hX66 := hX54.write hp63 hg64 ((yD ho55))
 have hb68 := hb56.keptA hg64 ha29.symm
 have ha70 : Apart (some c) u60.ownBlock := zP ha29.symm hw65 hb56.lt
 have hm71 := la1 (is.map fun j => vs.getD j default) (vs.getD (z31).toNat default)
 refine qD rfl (zD (v := u60) rfl) (qe (yQ (zA (zH ?_))))
 refine qD rfl (zB (v := (.int .i64 (i : Int))) rfl) (qD rfl (yX rfl rfl (by omega)) (qD rfl (zD (v := (.int .i64 ((i : Int) + 1))) rfl) (qe (yS ?_))))
 have ho72 : Own eVal 26 GL w61 w.heap.size u60 ((is ++ [z31.toNat]).map fun j => vs.getD j default) := by rw [List.map_append]; exact ho62
 refine ⟨_, ?_, _, rfl, _, i + 1, u60, is ++ [z31.toNat], a34, s35, GL, (zC (x := 9) (zC (x := 8) (zC (x := 7) (zC (x := 6) (zC (x := 1) (zX (x := 0) rfl) rfl) rfl) rfl) rfl) rfl), rfl, hX66, hlek23, (by omega), (picks_next hpk hdf33), (fun y hy => (List.mem_append.1 hy).elim (hys y) (fun h => by rw [List.mem_singleton.1 h]; omega)), (by simp; omega), (by omega), (by omega), ho72, hb68, ha70.symm⟩
 omega
 refine wp_exit (yI (yW (yV (zA (zG (zH ?_))))))
 refine qD rfl (zB (v := ov) rfl) (qD rfl (zD (v := ov) rfl) (qe (zA ?_)))
 exact wp_ret (zY (zW (v := ov) rfl rfl rfl (⟨_, is, _, _, _, rfl, hw27, hys, (by omega), some_of hdf13 hpk (by omega), hw28, (by omega), (by omega), hX26⟩)))
theorem mJ {w : World} {G : Pin} {c : Nat} {cv : Value} {code : List UInt8} {a s : Int} {l : Value} {vs : List Value} {m : Int} {e base : Nat} (hP : Pins G w) (hB : Bx G w c [cv, .int .i64 a, .int .u64 s]) (hc : RSl eByte G cv code) (ha : 0 ≤ a ∧ a + 6 ≤ 1000000) (hs : 0 ≤ s ∧ s < 18446744073709551616) (hl : Own eVal e G w base l vs) (hap : Apart (some c) l.ownBlock) (hn : 1 ≤ vs.length ∧ vs.length ≤ 1000) (hm2 : 0 ≤ m ∧ m ≤ 2) :
  Calls Tryz.prog 139 [(.pointer (some ⟨c, 0, none⟩)), l, (.int .i64 m)].toArray w fun e w' => ∃ (u : Value) (is : List Nat) (a' s' : Int), e = .returned u ∧ Own eVal 26 G w' w.heap.size u (is.map fun j => vs.getD j default) ∧ (∀ y ∈ is, y < vs.length) ∧ is.length ≤ 2 ∧ (is, a', s') = someF code (vs.length : Int) m (a, s) ∧ Bx G w' c [cv, .int .i64 a', .int .u64 s'] ∧ (a ≤ a' ∧ a' ≤ a + 6) ∧ (0 ≤ s' ∧ s' < 18446744073709551616) ∧ Ext (inO (some c)) G w G w' := by
 have hb2 : Bx (Gadd G w l) w c [cv, .int .i64 a, .int .u64 s] := ⟨hB.heap, fun o u hu => hu.elim (hB.free o u) (fun h => hap c rfl h.1)⟩
 refine (some_spec (Gadd.pins hP l) hb2 (hc.mono (Gadd.le _ _ _)) ha hs hl.read hn hm2).mono fun e w' ⟨u, ys, a', s', G', e1, ho, hm, hy, hf, hb, h1, h2, hx⟩ => ?_
 have hle : Pin.le G G' := dN (Gadd.le _ _ _) hx.le
 exact ⟨u, ys, a', s', e1, ownV_anti ho hle, hm, hy, hf, hb.anti hle, h1, h2, ext_back (Gadd.le _ _ _) hx⟩
theorem kS {w : World} {G : Pin} {c : Nat} {cv : Value} {code : List UInt8} {a s : Int} {n : Int} (hP : Pins G w) (hB : Bx G w c [cv, .int .i64 a, .int .u64 s]) (hc : RSl eByte G cv code) (ha : 0 ≤ a ∧ a + (12 * n + 4) ≤ 1000000) (hs : 0 ≤ s ∧ s < 18446744073709551616) (hn : 0 ≤ n ∧ n ≤ 6) :
  Calls Tryz.prog 98 [(.pointer (some ⟨c, 0, none⟩)), (.int .i64 n)].toArray w fun e w' => ∃ (u : Value) (g : Nat) (a' s' : Int) (G' : Pin), e = .returned (.agg [u].toArray) ∧ Own eNode 65 G' w' w.heap.size u (formG g) ∧ IsForm g (formG g) ∧ ((formG g).length : Int) ≤ 9 + n ∧ (g, a', s') = formD code n.toNat (a, s) ∧ Bx G' w' c [cv, .int .i64 a', .int .u64 s'] ∧ (a ≤ a' ∧ a' ≤ a + (12 * n + 4)) ∧ (0 ≤ s' ∧ s' < 18446744073709551616) ∧ Ext (inO (some c)) G w G' w' := by
 refine yG (n := 40) Tryz.func98 Tryz.ntmps98 rfl rfl ?_
 have hX0 := exr (inO (some c)) hP
 have hm := hc.max
 refine zG (zH ?_)
 refine qI rfl (yO [(.slice none 0 0)] zr26 rfl hX0.pins (fun b1 w2 hk3 hb4 hp5 hl6 => ?_))
 have hX7 := hX0.step hp5 hl6
 have hb8 := hB.below hl6
 have ha9 : Apart (some b1) (some c) := zL (congrArg some hk3) hB.lt
 have hlo10 : w.heap.size ≤ b1 := by have := hX0.size; omega
 refine qe (zA (zG (zH ?_)))
 refine qI rfl (zM (vs := []) Tryz.func138 nm138 rfl rfl rfl ?_)
 refine dP (sT hX7.pins) ?_
 rintro _ w14 ⟨u11, ps12, G13, rfl, ho15, hfr16, hkq17, hsq18, hx19⟩
 refine ⟨_, rfl, ?_⟩
 have hX20 := hX7.tr hx19
 have hb21 := hb8.ext hx19
 have hb22 := hb4.ext hx19
 have ha23 : Apart u11.ownBlock (some c) := yA ho15.lt hb8.lt
 have ha24 : Apart u11.ownBlock (some b1) := yA ho15.lt hb4.lt
 have ho25 := ho15.weaken hX7.size
 have hfr26 := hfr16.wide hX7.size
 have hpl27 : ps12.length = 9 := by have := congrArg List.length hsq18; simpa [smallQ] using this
 refine qD rfl (zD (v := u11) rfl) (qe (zA (zG (zG (zH ?_)))))
 refine qD rfl (zD (v := (.int .i64 0)) rfl) (qe (zA ?_))
 refine yH (yZ (fun (k : Nat) (en : Nat → Value) (W : World) => ∃ (env1 : Nat → Value) (i : Nat) (lv : Value) (ps : List VG) (a1 : Int) (s1 : Int) (GL : Pin), en = (upd (upd (upd (upd (upd env1 0 (.pointer (some ⟨c, 0, none⟩))) 1 (.int .i64 n)) 4 (.pointer (some ⟨b1, 0, none⟩))) 5 lv) 6 (.int .i64 (i : Int))) ∧ k = n.toNat - i ∧ Ext (inO (some c)) G w GL W ∧ Pin.le G13 GL ∧ (i : Int) ≤ n ∧ (FrP 65 w.heap.size GL W ps) ∧ (KQ (ps.map Prod.snd)) ∧ (ps.length = 9 + i) ∧ (ps.map Prod.snd, a1, s1) = formN code i (a, s) ∧ (a ≤ a1 ∧ a1 ≤ a + 12 * (i : Int)) ∧ (0 ≤ s1 ∧ s1 < 18446744073709551616) ∧ (Own eVal 26 GL W w.heap.size lv (ps.map Prod.fst)) ∧ (Bx GL W c [cv, (.int .i64 a1), (.int .u64 s1)]) ∧ (Bx GL W b1 [(.slice none 0 0)]) ∧ (Apart lv.ownBlock (some c)) ∧ (Apart lv.ownBlock (some b1))) _ ⟨_, 0, u11, ps12, a, s, G13, (zC (x := 6) (zC (x := 5) (zC (x := 4) (zC (x := 1) (zX (x := 0) rfl) rfl) rfl) rfl) rfl), rfl, hX20, Pin.le_refl _, (by omega), hfr26, hkq17, (by omega), (by rw [hsq18]; rfl), (by omega), (by omega), ho25, hb21, hb22, ha23, ha24⟩ ?_)
 rintro k28 _ w29 ⟨env1, i, lv, ps, a1, s1, GL, rfl, hk30, hX31, hlek28, hi, hfl, hkl, hll, hfn, hda, hds, hw32, hw33, hw34, ha35, ha36⟩
 have hpfl : (ps.map Prod.fst).length = ps.length := List.length_map ..
 have hpsl : (ps.map Prod.snd).length = ps.length := List.length_map ..
 refine zG (zG (zH ?_))
 refine qD rfl (zB (v := (.int .i64 (i : Int))) rfl) (qD rfl (zB (v := (.int .i64 n)) rfl) (qD rfl (xB rfl rfl) (qe (zA ?_))))
 refine yN (p := ((i : Int) : Int) < n) rfl rfl (fun h37 => ?_) (fun h37 => ?_)
 refine wp_skip (zA (zG ?_))
 refine yH (zG (zH ?_))
 refine qD rfl (zB (v := (.pointer (some ⟨c, 0, none⟩))) rfl) (qD rfl (zB (v := lv) rfl) (qI rfl (zM (vs := [(.pointer (some ⟨c, 0, none⟩)), lv, (.int .i64 2)]) Tryz.func139 nm139 rfl rfl rfl ?_)))
 refine dP (mJ hX31.pins hw33 (hc.mono (dN hx19.le hlek28)) (by omega) (by omega) hw32 ha35.symm (by first | omega | (simp; omega)) (by omega)) ?_
 rintro _ w42 ⟨u38, is39, a40, s41, rfl, ho43, hmy44, hyl45, hdf46, hb47, hda48, hds49, hx50⟩
 refine ⟨_, rfl, ?_⟩
 have hX51 := hX31.trans hx50 (fun i hi => xL i hi)
 have ho52 := hw32.extS hx50 (notO ha35)
 have hb53 := hw34.extS hx50 (qM ha9)
 have hfr54 := hfl.turned hx50 (fun k hk o u => by cases hk; exact hw33.free o u)
 have ha55 : Apart u38.ownBlock lv.ownBlock := zV ho43.lt hw32.lt
 have ha56 : Apart u38.ownBlock (some c) := yA ho43.lt hw33.lt
 have ha57 : Apart u38.ownBlock (some b1) := yA ho43.lt hw34.lt
 have ho58 := ho43.weaken hX31.size
 refine qD rfl (zD (v := u38) rfl) (qe (zA (zH ?_)))
 refine qD rfl (zB (v := lv) rfl) (qD rfl (zB (v := u38) rfl) (qD rfl (zB (v := (.pointer (some ⟨c, 0, none⟩))) rfl) (qD rfl (zB (v := lv) rfl) (qI rfl (zM (vs := [(.pointer (some ⟨c, 0, none⟩)), lv, (.int .i64 2)]) Tryz.func139 nm139 rfl rfl rfl ?_)))))
 refine dP (mJ hX51.pins hb47 (hc.mono (dN hx19.le hlek28)) (by omega) (by omega) ho52 ha35.symm (by first | omega | (simp; omega)) (by omega)) ?_
 rintro _ w63 ⟨u59, is60, a61, s62, rfl, ho64, hmy65, hyl66, hdf67, hb68, hda69, hds70, hx71⟩
 refine ⟨_, rfl, ?_⟩
 have hX72 := hX51.trans hx71 (fun i hi => xL i hi)
 have ho73 := ho52.extS hx71 (notO ha35)
 have ho74 := ho58.extS hx71 (notO ha56)
 have hb75 := hb53.extS hx71 (qM ha9)
 have hfr76 := hfr54.turned hx71 (fun k hk o u => by cases hk; exact hb47.free o u)
 have ha77 : Apart u59.ownBlock lv.ownBlock := zV ho64.lt ho52.lt
 have ha78 : Apart u59.ownBlock u38.ownBlock := zV ho64.lt ho58.lt
 have ha79 : Apart u59.ownBlock (some c) := yA ho64.lt hb47.lt
 have ha80 : Apart u59.ownBlock (some b1) := yA ho64.lt hb53.lt
 have ho81 := ho64.weaken hX51.size
 obtain ⟨G82, hle85, hX84, hr83, hf86⟩ := ho74.sealed hX72
 have ho87 := ho73.moreO hle85 hf86 ha55.symm
 have ho88 := ho81.moreO hle85 hf86 ha78
 have hb89 := hb68.moreO hf86 ha56.symm
 have hb90 := hb75.moreO hf86 ha57.symm
 have hfr91 := hfr76.le hle85
 obtain ⟨G92, hle95, hX94, hr93, hf96⟩ := ho88.sealed hX84
 have ho97 := ho87.moreO hle95 hf96 ha77.symm
 have hb98 := hb89.moreO hf96 ha79.symm
 have hb99 := hb90.moreO hf96 ha80.symm
 have hfr100 := hfr91.le hle95
 have htp109 := mG (ps := ps) (fun y hy => by have := hmy44 y hy; simpa using this)
 have htp110 := mG (ps := ps) (fun y hy => by have := hmy65 y hy; simpa using this)
 refine qI rfl (zM (vs := [u38, u59]) Tryz.func131 fE rfl rfl rfl ?_)
 refine dP (xV (qs := (is39.map fun i => ps.getD i default)) (rs := (is60.map fun i => ps.getD i default)) hX94.pins hfr100 hkl (by first | omega | (simp; done) | (simp; omega)) hX94.size (htp109.1 ▸ (hr83.mono hle95)) (htp110.1 ▸ hr93) htp109.2.2 htp110.2.2 (by first | omega | (simp; done) | (simp; omega)) (by first | omega | (simp; done) | (simp; omega))) ?_
 rintro _ w104 ⟨x101, g102, G103, rfl, heq105, hkq106, hfr107, hx108⟩
 refine ⟨_, rfl, ?_⟩
 have hX111 := hX94.tr hx108
 have ho112 := ho97.ext hx108
 have hb113 := hb98.ext hx108
 have hb114 := hb99.ext hx108
 have hone116 : x101.oneCell' = true := hfr107.one List.mem_cons_self
 refine qI rfl (xJ (E := eVal) (e := 26) [x101] x101 eZ sz26 zr26 ⟨rfl, hone116⟩ rfl (by decide) hX111.pins (fun u117 w118 ho119 hp120 hl121 hk122 => ?_))
 have hX123 := hX111.step hp120 hl121
 have ho124 := ho112.below hl121
 have hb125 := hb113.below hl121
 have hb126 := hb114.below hl121
 have hfr127 := hfr107.below hl121
 have ho131 := ho119.weaken hX111.size
 refine qI rfl (zZ (E := eVal) (v := lv) (u := u117) 24 eZ ap26 (by decide) rfl rfl hX123.pins ho124 ho131.src (by first | omega | (rw [List.nil_append]; omega) | (rw [List.length_nil]; omega) | (rw [List.length_append]; omega) | (simp; done) | (simp; omega) | (simp only [List.length_cons, List.length_nil]; omega) | (simp only [List.length_cons, List.length_nil]; omega) | (simp only [List.length_append, List.length_cons, List.length_nil]; omega)) (by first | omega | (rw [List.nil_append]; omega) | (rw [List.length_nil]; omega) | (rw [List.length_append]; omega) | (simp; done) | (simp; omega) | (simp only [List.length_cons, List.length_nil]; omega) | (simp only [List.length_cons, List.length_nil]; omega) | (simp only [List.length_append, List.length_cons, List.length_nil]; omega)) (hX123.size) (fun u132 w133 ho134 hp135 hg136 hw137 => ?_))
 have hX138 := hX123.write hp135 hg136 ((yD ho124))
 have hb140 := hb125.keptA hg136 ha35.symm
 have hb141 := hb126.keptA hg136 ha36.symm
 have hfr142 := hfr127.kept hg136 ho124.free
 have ha144 : Apart (some c) u132.ownBlock := zP ha35.symm hw137 hb125.lt
 have ha145 : Apart (some b1) u132.ownBlock := zP ha36.symm hw137 hb126.lt
 have hm146 := la1 (ps.map Prod.fst) x101
 refine qD rfl (zD (v := u132) rfl) (qe (yQ (zA (zH ?_))))
 refine qD rfl (zB (v := (.int .i64 (i : Int))) rfl) (qD rfl (yX rfl rfl (by omega)) (qD rfl (zD (v := (.int .i64 ((i : Int) + 1))) rfl) (qe (yS ?_))))
 have ho147 : Own eVal 26 G103 w133 w.heap.size u132 ((ps ++ [(x101, g102)]).map Prod.fst) := by rw [List.map_append]; exact ho134
 have heg : g102 = mkG (takeI (ps.map Prod.snd) is39) (takeI (ps.map Prod.snd) is60) := by rw [heq105, htp109.2.1, htp110.2.1]
 refine ⟨_, ?_, _, rfl, _, i + 1, u132, ps ++ [(x101, g102)], a61, s62, G103, (zC (x := 6) (zC (x := 5) (zC (x := 4) (zC (x := 1) (zX (x := 0) rfl) rfl) rfl) rfl) rfl), rfl, hX138, (dN (dN (dN hlek28 hle85) hle95) hx108.le), (by omega), (hfr142.mem snoc_memP), (hkq106.mem (fun x => by rw [List.map_append]; exact snoc_iff x)), (by simp; omega), (by rw [List.map_append]; show (_ ++ [g102], _) = _; rw [heg]; exact fdr_next hfn (by simpa using hdf46) (by simpa using hdf67)), (by omega), (by omega), ho147, hb140, hb141, ha144.symm, ha145.symm⟩
 omega
 refine wp_exit (yI (yW (yV (zA (zG (zG (zH ?_)))))))
 refine qD rfl (zB (v := (.pointer (some ⟨c, 0, none⟩))) rfl) (qI rfl (zM (vs := [(.pointer (some ⟨c, 0, none⟩)), (.int .i64 3)]) Tryz.func52 nm52 rfl rfl rfl ?_))
 refine dP (mU hX31.pins hw33 (hc.mono (dN hx19.le hlek28)) (by omega) (by omega) (n := 3) (by omega)) ?_
 rintro _ w152 ⟨z148, a150, s151, rfl, hdf149, hb153, hda154, hds155, hx156⟩
 refine ⟨_, rfl, ?_⟩
 have hX157 := hX31.trans hx156 (fun i hi => xL i hi)
 have ho158 := hw32.extS hx156 (notO ha35)
 have hb159 := hw34.extS hx156 (qM ha9)
 have hfr160 := hfl.turned hx156 (fun k hk o u => by cases hk; exact hw33.free o u)
 refine qe (zA ?_)
 refine c_if rfl rfl (fun h161 => ?_) (fun h161 => ?_)
 refine zG (zH ?_)
 refine qD rfl (zB (v := lv) rfl) (qD rfl (zB (v := (.pointer (some ⟨c, 0, none⟩))) rfl) (qD rfl (zB (v := lv) rfl) (qD rfl (zT eZ (v := lv) rfl ho158.read) (qI rfl (zM (vs := [(.pointer (some ⟨c, 0, none⟩)), (.int .i64 ((ps.map Prod.fst).length : Int))]) Tryz.func101 mW rfl rfl rfl ?_)))))
 refine dP (jN hX157.pins hb153 (hc.mono (dN hx19.le hlek28)) (by omega) (by omega) (n := ((ps.map Prod.fst).length : Int)) (by omega)) ?_
 rintro _ w167 ⟨z162, a165, s166, rfl, hz163, hdf164, hb168, hda169, hds170, hx171⟩
 refine ⟨_, rfl, ?_⟩
 have hX172 := hX157.trans hx171 (fun i hi => xL i hi)
 have ho173 := ho158.extS hx171 (notO ha35)
 have hb174 := hb159.extS hx171 (qM ha9)
 have hfr175 := hfr160.turned hx171 (fun k hk o u => by cases hk; exact hb153.free o u)
 refine qD rfl (zN eZ sz26 (v := lv) rfl rfl ho173.read (by omega) (by omega)) ?_
 obtain ⟨cs176, hrep177, hagg178, hcell179⟩ := nm_el (j := (z162).toNat) default (ho173.at (z := z162) (by omega) (by omega)) rfl
 obtain ⟨rfl, hone180⟩ := hrep177
 refine qD rfl (hagg178 ag26 sz26 rfl (Gadd.pins hX172.pins lv)) (q0 rfl rfl rfl (o_stp (cs' := [((ps.map Prod.fst).getD (z162).toNat default)]) (us := [((ps.map Prod.fst).getD (z162).toNat default)]) (v := (.agg [((ps.map Prod.fst).getD (z162).toNat default)].toArray)) sz26 rfl rfl rfl (yM hone180) hX172.pins hb174 (dQ rfl) rfl (fun w181 hb182 hp183 hg184 hz185 => ?_)))
 have hX186 := hX172.write hp183 hg184 ((yC hlo10))
 have hb188 := hb168.keptA hg184 ha9.symm
 have hfr189 := hfr175.kept hg184 (fun k hk o u => by cases hk; exact hb174.free o u)
 refine qe (zA ?_)
 refine wp_ret (zY (qT (cs := [((ps.map Prod.fst).getD (z162).toNat default)]) rfl rfl rfl ag26 sz26 (fun j u hj => by rw [Nat.zero_add]; exact hb182.cell hj) ?_))
 have hjn : i = n.toNat := by omega
 subst hjn
 have hji : z162.toNat < ps.length := by first | omega | (simp at *; omega)
 have hpm : (ps.getD z162.toNat default) ∈ ps := yT hji
 have hxv : ((ps.map Prod.fst).getD (z162).toNat default) = (ps.getD z162.toNat default).1 := by simp [List.getD, hji]
 have hxg : (ps.map Prod.snd).getD z162.toNat 0 = (ps.getD z162.toNat default).2 := by simp [List.getD, hji]
 have htk := hfr189 _ hpm
 rw [← hxv] at htk
 obtain ⟨G2, ho2, hx2, hle2⟩ := htk.give hP hX186
 have hgq : (ps.getD z162.toNat default).2 ∈ ps.map Prod.snd := List.mem_map.2 ⟨_, hpm, rfl⟩
 have hw := hkl.w (by simp; omega) hgq
 rw [List.length_map] at hw
 have hfd := fdr_pick hfn (h161 ▸ hdf149) (by simpa using hdf164)
 rw [hxg] at hfd
 exact ⟨_, _, _, _, G2, rfl, ho2, hkl.is _ hgq, (by omega), hfd, hb188.anti hle2, (by omega), (by omega), hx2⟩
 refine wp_skip (zA (zG (zH ?_)))
 refine qD rfl (zB (v := lv) rfl) (qD rfl (zB (v := lv) rfl) (qD rfl (zT eZ (v := lv) rfl ho158.read) (qD rfl (jA rfl rfl (by omega)) (qD rfl (zN eZ sz26 (v := lv) rfl rfl ho158.read (by omega) (by omega)) ?_))))
 obtain ⟨cs190, hrep191, hagg192, hcell193⟩ := nm_el (j := (((ps.map Prod.fst).length : Int) - 1).toNat) default (ho158.at (z := (((ps.map Prod.fst).length : Int) - 1)) (by omega) (by omega)) rfl
 obtain ⟨rfl, hone194⟩ := hrep191
 refine qD rfl (hagg192 ag26 sz26 rfl (Gadd.pins hX157.pins lv)) (q0 rfl rfl rfl (o_stp (cs' := [((ps.map Prod.fst).getD (((ps.map Prod.fst).length : Int) - 1).toNat default)]) (us := [((ps.map Prod.fst).getD (((ps.map Prod.fst).length : Int) - 1).toNat default)]) (v := (.agg [((ps.map Prod.fst).getD (((ps.map Prod.fst).length : Int) - 1).toNat default)].toArray)) sz26 rfl rfl rfl (yM hone194) hX157.pins hb159 (dQ rfl) rfl (fun w195 hb196 hp197 hg198 hz199 => ?_)))
 have hX200 := hX157.write hp197 hg198 ((yC hlo10))
 have hb202 := hb153.keptA hg198 ha9.symm
 have hfr203 := hfr160.kept hg198 (fun k hk o u => by cases hk; exact hb159.free o u)
 refine qe (zA ?_)
 refine wp_ret (zY (qT (cs := [((ps.map Prod.fst).getD (((ps.map Prod.fst).length : Int) - 1).toNat default)]) rfl rfl rfl ag26 sz26 (fun j u hj => by rw [Nat.zero_add]; exact hb196.cell hj) ?_))
 have hjn : i = n.toNat := by omega
 subst hjn
 have hji : (ps.length - 1) < ps.length := by first | omega | (simp at *; omega)
 have hpm : (ps.getD (ps.length - 1) default) ∈ ps := yT hji
 have hxv : ((ps.map Prod.fst).getD (((ps.map Prod.fst).length : Int) - 1).toNat default) = (ps.getD (ps.length - 1) default).1 := by simp [List.getD, hji]
 have hxg : (ps.map Prod.snd).getD (ps.length - 1) 0 = (ps.getD (ps.length - 1) default).2 := by simp [List.getD, hji]
 have htk := hfr203 _ hpm
 rw [← hxv] at htk
 obtain ⟨G2, ho2, hx2, hle2⟩ := htk.give hP hX200
 have hgq : (ps.getD (ps.length - 1) default).2 ∈ ps.map Prod.snd := List.mem_map.2 ⟨_, hpm, rfl⟩
 have hw := hkl.w (by simp; omega) hgq
 rw [List.length_map] at hw
 have hfd := fdr_last hfn (h161 ▸ hdf149)
 rw [List.length_map] at hfd
 rw [hxg] at hfd
 exact ⟨_, _, _, _, G2, rfl, ho2, hkl.is _ hgq, (by omega), hfd, hb202.anti hle2, (by omega), (by omega), hx2⟩
end DO2
end Go.Proofs.YtajkbplgbikgdaaGreatDoor
namespace Go.Proofs.YtajkbplgbikgdaaGreatDoor
namespace DO3
open Go.RowKit Go.GL Go.Proofs
open B1 C1 D1 E1 MK1 DO1 DO2
theorem pl65 : (Tryz.prog.underlying 65).bind (placesD Tryz.prog) = some [(0, 1), (1, 1)] := by kernel_rfl
theorem nB {w : World} {G : Pin} {v : Value} {xs : List Int} (hP : Pins G w) (hv : RSl eInt G v xs) (hs : xs.length ≤ 1048576) :
  Calls Tryz.prog 114 [v].toArray w fun e w' => ∃ (u : Value) (G' : Pin), e = .returned u ∧ Own eInt 3 G' w' w.heap.size u xs ∧ Ext noS G w G' w' := by
 refine yG (n := 6) Tryz.func114 Tryz.ntmps114 rfl rfl ?_
 have hX0 := exr noS hP
 refine zG (zH ?_)
 refine qD rfl (zD (v := (.slice none 0 0)) rfl) (qe (zA (zG (zH ?_))))
 refine qI rfl (xG (E := eInt) (e := 3) eU sz3 hX0.pins (fun u1 w2 ho3 hp4 hl5 hk6 => ?_))
 have hX7 := hX0.step hp4 hl5
 have ho8 := ho3.weaken hX0.size
 refine qD rfl (zB (v := v) rfl) (qI rfl (zZ (E := eInt) (v := u1) (u := v) 8 eU ap3 (by decide) rfl rfl hX7.pins ho8 ((hv.mono (Pin.le_refl _)).src hX7.pins (by decide)) (by first | omega | (rw [List.nil_append]; omega) | (rw [List.length_nil]; omega) | (rw [List.length_append]; omega) | (simp; done) | (simp; omega) | (simp only [List.length_cons, List.length_nil]; omega) | (simp only [List.length_cons, List.length_nil]; omega) | (simp only [List.length_append, List.length_cons, List.length_nil]; omega)) (by first | omega | (rw [List.nil_append]; omega) | (rw [List.length_nil]; omega) | (rw [List.length_append]; omega) | (simp; done) | (simp; omega) | (simp only [List.length_cons, List.length_nil]; omega) | (simp only [List.length_cons, List.length_nil]; omega) | (simp only [List.length_append, List.length_cons, List.length_nil]; omega)) (hX7.size) (fun u9 w10 ho11 hp12 hg13 hw14 => ?_)))
 have hX15 := hX7.write hp12 hg13 ((yD ho8))
 have hm16 := la2 ([]) xs
 refine qD rfl (zD (v := u9) rfl) (qe (zA ?_))
 exact wp_ret (zY (zW (v := u9) rfl rfl rfl (⟨_, _, rfl, (by simpa using ho11), hX15⟩)))
theorem kX {w : World} {G : Pin} {c : Nat} {cv : Value} {code : List UInt8} {a s : Int} {n : Int} (hP : Pins G w) (hB : Bx G w c [cv, .int .i64 a, .int .u64 s]) (hc : RSl eByte G cv code) (ha : 0 ≤ a ∧ a + (12 * n + 10) ≤ 1000000) (hs : 0 ≤ s ∧ s < 18446744073709551616) (hn : 0 ≤ n ∧ n ≤ 6) :
  Calls Tryz.prog 69 [(.pointer (some ⟨c, 0, none⟩)), (.int .i64 n)].toArray w fun e w' => ∃ (u : Value) (ns : List Nd) (a' s' : Int) (G' : Pin), e = .returned (.agg [u].toArray) ∧ RSl eNode G' u ns ∧ (ns, a', s') = anyF code n.toNat (a, s) ∧ Bx G' w' c [cv, .int .i64 a', .int .u64 s'] ∧ (a ≤ a' ∧ a' ≤ a + (12 * n + 10)) ∧ (0 ≤ s' ∧ s' < 18446744073709551616) ∧ Ext (inO (some c)) G w G' w' := by
 refine yG (n := 77) Tryz.func69 Tryz.ntmps69 rfl rfl ?_
 have hX0 := exr (inO (some c)) hP
 have hm := hc.max
 refine zG (zH ?_)
 refine qI rfl (yO [(.slice none 0 0)] zr26 rfl hX0.pins (fun b1 w2 hk3 hb4 hp5 hl6 => ?_))
 have hX7 := hX0.step hp5 hl6
 have hb8 := hB.below hl6
 have ha9 : Apart (some b1) (some c) := zL (congrArg some hk3) hB.lt
 have hlo10 : w.heap.size ≤ b1 := by have := hX0.size; omega
 refine qe (zA (zG (zH ?_)))
 refine qD rfl (zB (v := (.pointer (some ⟨c, 0, none⟩))) rfl) (qD rfl (zB (v := (.int .i64 n)) rfl) (qI rfl (zM (vs := [(.pointer (some ⟨c, 0, none⟩)), (.int .i64 n)]) Tryz.func98 nm98 rfl rfl rfl ?_)))
 refine dP (kS (n := n) hX7.pins hb8 hc (by omega) (by omega) (by omega)) ?_
 rintro _ w16 ⟨u11, g12, a13, s14, G15, rfl, ho17, hif18, hfl19, hdf20, hb21, hda22, hds23, hx24⟩
 refine ⟨_, rfl, ?_⟩
 have hX25 := hX7.trans hx24 (fun i hi => xL i hi)
 have hb26 := hb4.extS hx24 (qM ha9)
 have ha27 : Apart u11.ownBlock (some c) := yA ho17.lt hb8.lt
 have ha28 : Apart u11.ownBlock (some b1) := yA ho17.lt hb4.lt
 have ho29 := ho17.weaken hX7.size
 have hfo30 := hif18.1.lo
 refine qI rfl (yO [(.slice none 0 0)] zr26 rfl hX25.pins (fun b31 w32 hk33 hb34 hp35 hl36 => ?_))
 have hX37 := hX25.step hp35 hl36
 have ho38 := ho29.below hl36
 have hb39 := hb21.below hl36
 have hb40 := hb26.below hl36
 have ha41 : Apart (some b31) u11.ownBlock := zK (congrArg some hk33) ho29.lt
 have ha42 : Apart (some b31) (some c) := zL (congrArg some hk33) hb21.lt
 have ha43 : Apart (some b31) (some b1) := zL (congrArg some hk33) hb26.lt
 have hlo44 : w.heap.size ≤ b31 := by have := hX25.size; omega
 refine q0 rfl rfl rfl (o_stp (cs' := [u11]) (us := [u11]) (v := (.agg [u11].toArray)) sz26 rfl rfl rfl (yM ho38.one) hX37.pins hb34 (dQ rfl) rfl (fun w45 hb46 hp47 hg48 hz49 => ?_))
 have hX50 := hX37.write hp47 hg48 ((yC hlo44))
 have ho51 := ho38.keptA hg48 ha41.symm
 have hb52 := hb39.keptA hg48 ha42.symm
 have hb53 := hb40.keptA hg48 ha43.symm
 refine qe (zA (zG (zH ?_)))
 refine qD rfl (zB (v := (.pointer (some ⟨c, 0, none⟩))) rfl) (qD rfl (zR (k := 0) rfl eW rfl nz24 rfl) (qD rfl (zS (u := u11) ag24 rfl (hb46.cell (o := 0) rfl)) (qD rfl (zT eV (v := u11) rfl ho51.read) (qI rfl (zM (vs := [(.pointer (some ⟨c, 0, none⟩)), (.int .i64 ((formG g12).length : Int))]) Tryz.func101 mW rfl rfl rfl ?_)))))
 refine dP (jN hX50.pins hb52 (hc.mono hx24.le) (by omega) (by omega) (n := ((formG g12).length : Int)) (by omega)) ?_
 rintro _ w59 ⟨z54, a57, s58, rfl, hz55, hdf56, hb60, hda61, hds62, hx63⟩
 refine ⟨_, rfl, ?_⟩
 have hX64 := hX50.trans hx63 (fun i hi => xL i hi)
 have ho65 := ho51.extS hx63 (notO ha27)
 have hb66 := hb53.extS hx63 (qM ha9)
 have hb67 := hb46.extS hx63 (qM ha42)
 refine qD rfl (zD (v := (.int .i64 z54)) rfl) (qe (zA (zG (zG (zH ?_)))))
 refine qD rfl (zB (v := (.pointer (some ⟨c, 0, none⟩))) rfl) (qI rfl (zM (vs := [(.pointer (some ⟨c, 0, none⟩)), (.int .i64 24)]) Tryz.func101 mW rfl rfl rfl ?_))
 refine dP (jN hX64.pins hb60 (hc.mono hx24.le) (by omega) (by omega) (n := 24) (by omega)) ?_
 rintro _ w73 ⟨z68, a71, s72, rfl, hz69, hdf70, hb74, hda75, hds76, hx77⟩
 refine ⟨_, rfl, ?_⟩
 have hX78 := hX64.trans hx77 (fun i hi => xL i hi)
 have ho79 := ho65.extS hx77 (notO ha27)
 have hb80 := hb66.extS hx77 (qM ha9)
 have hb81 := hb67.extS hx77 (qM ha42)
 refine qe (zA ?_)
 refine yH (zG (zH ?_))
 refine qD rfl (kZ rfl rfl) (qD rfl (zD (v := (.bool (decide ((z68 : Int) = 0)))) rfl) (qe (zA ?_)))
 refine yN (p := (z68 : Int) = 0) rfl rfl (fun h82 => ?_) (fun h82 => ?_)
 have hlk := (tV hif18 (by omega)).lens (z54).toNat (by omega)
 have hq83 := Gadd.pins hX78.pins u11
 have hr84 := ho79.read
 refine xD (S := fun wz => BxR wz b31 [u11] ∧ Pins (Gadd G15 w73 u11) wz) (last := 18) (by kernel_rfl) rfl ?_
 have hl85 := bdr w73
 have hp86 := hX78.pins.below hl85
 have hX87 := hX78.step hp86 hl85
 have ho88 := ho79.below hl85
 have hb89 := hb74.below hl85
 have hb90 := hb80.below hl85
 have hb91 := hb81.below hl85
 have hq92 := hq83.below hl85
 refine dT (i := 0) rfl rfl (by kernel_rfl) (fun _ _ => zR (k := 0) rfl eW rfl nz24 rfl) ⟨hb91.reads, hq92⟩ ?_
 refine dT (i := 1) rfl rfl (by kernel_rfl) (fun _ hS => zS (u := u11) ag24 rfl (hS.1 0 _ rfl)) ⟨hb91.reads, hq92⟩ ?_
 refine dT (i := 2) rfl rfl (by kernel_rfl) (fun _ _ => zB (v := (.int .i64 z54)) rfl) ⟨hb91.reads, hq92⟩ ?_
 refine dT (i := 3) rfl rfl (by kernel_rfl) (fun _ _ => zR (k := 0) rfl eW rfl nz24 rfl) ⟨hb91.reads, hq92⟩ ?_
 refine dT (i := 4) rfl rfl (by kernel_rfl) (fun _ hS => zS (u := u11) ag24 rfl (hS.1 0 _ rfl)) ⟨hb91.reads, hq92⟩ ?_
 refine dT (i := 5) rfl rfl (by kernel_rfl) (fun _ _ => zB (v := (.int .i64 z54)) rfl) ⟨hb91.reads, hq92⟩ ?_
 refine dT (i := 6) rfl rfl (by kernel_rfl) (fun _ _ => zN eV sz65 (v := u11) rfl rfl hr84 (by omega) (by omega)) ⟨hb91.reads, hq92⟩ ?_
 refine dT (i := 7) rfl rfl (by kernel_rfl) (fun _ _ => xP (off := 0) eX rfl rfl nz59 (z := z54) (k := 0) rfl hr84 (by omega) (by omega)) ⟨hb91.reads, hq92⟩ ?_
 obtain ⟨u93, hr94, hl95⟩ := vZ (ho79.at (z := z54) (by omega) (by omega)) (j := (z54).toNat) rfl
 have hm96 := hr94.max
 refine dT (i := 8) rfl rfl (by kernel_rfl) (fun _ hS => hl95 ag59 rfl hS.2) ⟨hb91.reads, hq92⟩ ?_
 refine dT (i := 10) rfl rfl (by kernel_rfl) (fun _ _ => zB (v := (.pointer (some ⟨c, 0, none⟩))) rfl) ⟨hb91.reads, hq92⟩ ?_
 refine dT (i := 11) rfl rfl (by kernel_rfl) (fun _ _ => zB (v := (.int .i64 z54)) rfl) ⟨hb91.reads, hq92⟩ ?_
 refine qG (i := 9) (j := 12) (by kernel_rfl) ?_ ?_
 refine (zU (i := 9) rfl rfl rfl (zI rfl _) (zM (vs := [u93]) Tryz.func114 nm114 rfl rfl rfl ?_))
 refine dP (nB hX87.pins hr94 (by omega)) ?_
 rintro _ w99 ⟨u97, G98, rfl, ho100, hx101⟩
 refine ⟨_, rfl, ?_⟩
 have hX102 := hX87.tr hx101
 have ho103 := ho88.ext hx101
 have hb104 := hb89.ext hx101
 have hb105 := hb90.ext hx101
 have hb106 := hb91.ext hx101
 have ha107 : Apart u97.ownBlock u11.ownBlock := zV ho100.lt ho88.lt
 have ha108 : Apart u97.ownBlock (some c) := yA ho100.lt hb89.lt
 have ha109 : Apart u97.ownBlock (some b1) := yA ho100.lt hb90.lt
 have ha110 : Apart u97.ownBlock (some b31) := yA ho100.lt hb91.lt
 have ho111 := ho100.weaken hX87.size
 have hq112 := hq92.below hx101.below
 refine ⟨fun _ => ⟨hb106.reads, hq112⟩, ?_⟩
 refine zQ (i := 12) (by kernel_rfl) (zU (i := 12) rfl rfl rfl (zI rfl _) (yY (E := eInt) (e := 3) [(.int .i64 0), (.int .i64 z54), (.int .i64 (-1)), (.int .i64 1)] [0, z54, (-1), 1] eU sz3 zr3 (by exact reps4 (by rfl) (by rfl) (by rfl) (by rfl)) (ones4 (by rfl) (by rfl) (by rfl) (by rfl)) rfl rfl rfl rfl (by decide) hX102.pins (fun u113 w114 ho115 hp116 hl117 hk118 => ?_)))
 have hX119 := hX102.step hp116 hl117
 have ho120 := ho103.below hl117
 have ho121 := ho111.below hl117
 have hb122 := hb104.below hl117
 have hb123 := hb105.below hl117
 have hb124 := hb106.below hl117
 have ha125 : Apart u113.ownBlock u11.ownBlock := zK hk118 ho103.lt
 have ha126 : Apart u113.ownBlock u97.ownBlock := zK hk118 ho111.lt
 have ha127 : Apart u113.ownBlock (some c) := zL hk118 hb104.lt
 have ha128 : Apart u113.ownBlock (some b1) := zL hk118 hb105.lt
 have ha129 : Apart u113.ownBlock (some b31) := zL hk118 hb106.lt
 have ho130 := ho115.weaken hX102.size
 have hq131 := hq112.below hl117
 refine ⟨fun _ => ⟨hb124.reads, hq131⟩, ?_⟩
 obtain ⟨G132, hle135, hX134, hr133, hf136⟩ := ho130.sealed hX119
 have ho137 := ho120.moreO hle135 hf136 ha125.symm
 have ho138 := ho121.moreO hle135 hf136 ha126.symm
 have hb139 := hb122.moreO hf136 ha127.symm
 have hb140 := hb123.moreO hf136 ha128.symm
 have hb141 := hb124.moreO hf136 ha129.symm
 refine zQ (i := 13) (by kernel_rfl) (zU (i := 13) rfl rfl rfl (zI rfl _) (zM (vs := [(.pointer (some ⟨c, 0, none⟩)), u113]) Tryz.func68 nm68 rfl rfl rfl ?_))
 refine dP (gG hX134.pins hb139 (hc.mono (dN (dN hx24.le hx101.le) hle135)) (by omega) (by omega) hr133 (by simp)) ?_
 rintro _ w147 ⟨z142, a145, s146, rfl, hz143, hdf144, hb148, hda149, hds150, hx151⟩
 refine ⟨_, rfl, ?_⟩
 have hX152 := hX134.trans hx151 (fun i hi => xL i hi)
 have ho153 := ho137.extS hx151 (notO ha27)
 have ho154 := ho138.extS hx151 (notO ha108)
 have hb155 := hb140.extS hx151 (qM ha9)
 have hb156 := hb141.extS hx151 (qM ha42)
 have hq157 := Gadd.turn hq131 (dO hX152.pins (dN hx101.le hle135)) hx151 (notO ha27)
 refine ⟨fun _ => ⟨hb156.reads, hq157⟩, ?_⟩
 refine zQ (i := 14) (by kernel_rfl) (zU (i := 14) rfl rfl rfl (zI rfl _) (yY (E := eInt) (e := 3) [(.int .i64 z142)] [z142] eU sz3 zr3 (by exact xT (by rfl)) (yM (by rfl)) rfl rfl rfl rfl (by decide) hX152.pins (fun u158 w159 ho160 hp161 hl162 hk163 => ?_)))
 have hX164 := hX152.step hp161 hl162
 have ho165 := ho153.below hl162
 have ho166 := ho154.below hl162
 have hb167 := hb148.below hl162
 have hb168 := hb155.below hl162
 have hb169 := hb156.below hl162
 have ho175 := ho160.weaken hX152.size
 have hq176 := hq157.below hl162
 refine ⟨fun _ => ⟨hb169.reads, hq176⟩, ?_⟩
 refine zQ (i := 15) (by kernel_rfl) (zU (i := 15) rfl rfl rfl (zI rfl _) (zZ (E := eInt) (v := u97) (u := u158) 8 eU ap3 (by decide) rfl rfl hX164.pins ho166 ho175.src (by first | omega | (rw [List.nil_append]; omega) | (rw [List.length_nil]; omega) | (rw [List.length_append]; omega) | (simp; done) | (simp; omega) | (simp only [List.length_cons, List.length_nil]; omega) | (simp only [List.length_cons, List.length_nil]; omega) | (simp only [List.length_append, List.length_cons, List.length_nil]; omega)) (by first | omega | (rw [List.nil_append]; omega) | (rw [List.length_nil]; omega) | (rw [List.length_append]; omega) | (simp; done) | (simp; omega) | (simp only [List.length_cons, List.length_nil]; omega) | (simp only [List.length_cons, List.length_nil]; omega) | (simp only [List.length_append, List.length_cons, List.length_nil]; omega)) (hX164.size) (fun u177 w178 ho179 hp180 hg181 hw182 => ?_)))
 have hX183 := hX164.write hp180 hg181 ((yD ho166))
 have ho184 := ho165.keptA hg181 ha107.symm
 have hb186 := hb167.keptA hg181 ha108.symm
 have hb187 := hb168.keptA hg181 ha109.symm
 have hb188 := hb169.keptA hg181 ha110.symm
 have ha189 : Apart u11.ownBlock u177.ownBlock := zJ ha107.symm hw182 ho165.lt
 have ha191 : Apart (some c) u177.ownBlock := zP ha108.symm hw182 hb167.lt
 have ha192 : Apart (some b1) u177.ownBlock := zP ha109.symm hw182 hb168.lt
 have ha193 : Apart (some b31) u177.ownBlock := zP ha110.symm hw182 hb169.lt
 have hm194 := la1 (((formG g12).getD (z54).toNat default).l) z142
 have hq195 := Gadd.turn hq176 (dO hX183.pins (dN hx101.le hle135)) (Ext.one hp180 hg181) (notO ha107.symm)
 refine ⟨fun _ => ⟨hb188.reads, hq195⟩, ?_⟩
 refine zQ (i := 16) (by kernel_rfl) (zU (i := 16) rfl rfl rfl (zI rfl _) (EO.run (zN eV sz65 (v := u11) rfl rfl hr84 (by omega) (by omega)) ⟨fun _ => ⟨hb188.reads, hq195⟩, ?_⟩))
 refine dT (i := 17) rfl rfl (by kernel_rfl) (fun _ _ => xP (off := 0) eX rfl rfl nz59 (z := z54) (k := 0) rfl hr84 (by omega) (by omega)) ⟨hb188.reads, hq195⟩ ?_
 obtain ⟨G196, hle199, hX198, hr197, hf200⟩ := ho179.sealed hX183
 have ho201 := ho184.moreO hle199 hf200 ha189
 have hb202 := hb186.moreO hf200 ha191
 have hb203 := hb187.moreO hf200 ha192
 have hb204 := hb188.moreO hf200 ha193
 refine zQ (i := 18) (by kernel_rfl) (qC (i := 18) rfl rfl rfl (zI rfl _) (o_setNL (v := u11) (z := z54) (u := u177) sz59 rfl rfl hr197 hX198.pins ho201 (by omega) (by omega) (fun w205 ho206 hp207 hg208 hz209 => ?_)))
 have hX210 := hX198.write hp207 hg208 ((yD ho201))
 have hb211 := hb202.keptA hg208 ha27.symm
 have hb212 := hb203.keptA hg208 ha28.symm
 have hb213 := hb204.keptA hg208 ha41
 refine ⟨fun h => absurd rfl h, ?_⟩
 refine yP (by kernel_rfl) (yQ (zA (zG (zH ?_))))
 refine qD rfl (yJ (cs := [u11]) ag26 sz26 rfl (fun j u hj => hb213.cell (by simpa using hj))) (q0 rfl rfl rfl (o_stp (cs' := [u11]) (us := [u11]) (v := (.agg [u11].toArray)) sz26 rfl rfl rfl (yM ho206.one) hX210.pins hb212 (dQ rfl) rfl (fun w214 hb215 hp216 hg217 hz218 => ?_)))
 have hX219 := hX210.write hp216 hg217 ((yC hlo10))
 have ho220 := ho206.keptA hg217 ha28
 have hb221 := hb211.keptA hg217 ha9.symm
 refine qe (zA ?_)
 refine wp_ret (zY (qT (cs := [u11]) rfl rfl rfl ag26 sz26 (fun j u hj => by rw [Nat.zero_add]; exact hb215.cell hj) ?_))
 obtain ⟨G223, hle226, hX225, hr224, hf227⟩ := ho220.sealed hX219
 have hb228 := hb221.moreO hf227 ha27.symm
 exact ⟨_, _, _, _, _, rfl, hr224, rE hdf20 hdf56 hdf70 (by unfold anyT; rw [if_pos h82]; rw [← hdf144]), hb228, (by omega), (by omega), hX225⟩
 refine (zU (i := 12) rfl rfl rfl (zI rfl _) (yY (E := eInt) (e := 3) [(.int .i64 0), (.int .i64 z54), (.int .i64 (-1)), (.int .i64 1)] [0, z54, (-1), 1] eU sz3 zr3 (by exact reps4 (by rfl) (by rfl) (by rfl) (by rfl)) (ones4 (by rfl) (by rfl) (by rfl) (by rfl)) rfl rfl rfl rfl (by decide) hX87.pins (fun u231 w232 ho233 hp234 hl235 hk236 => ?_)))
 have hX237 := hX87.step hp234 hl235
 have ho238 := ho88.below hl235
 have hb239 := hb89.below hl235
 have hb240 := hb90.below hl235
 have hb241 := hb91.below hl235
 have ha242 : Apart u231.ownBlock u11.ownBlock := zK hk236 ho88.lt
 have ha243 : Apart u231.ownBlock (some c) := zL hk236 hb89.lt
 have ha244 : Apart u231.ownBlock (some b1) := zL hk236 hb90.lt
 have ha245 : Apart u231.ownBlock (some b31) := zL hk236 hb91.lt
 have ho246 := ho233.weaken hX87.size
 have hq247 := hq92.below hl235
 refine ⟨fun _ => ⟨hb241.reads, hq247⟩, ?_⟩
 refine zQ (i := 9) (by kernel_rfl) (zU (i := 9) rfl rfl rfl (zI rfl _) (zM (vs := [u93]) Tryz.func114 nm114 rfl rfl rfl ?_))
 refine dP (nB hX237.pins hr94 (by omega)) ?_
 rintro _ w250 ⟨u248, G249, rfl, ho251, hx252⟩
 refine ⟨_, rfl, ?_⟩
 have hX253 := hX237.tr hx252
 have ho254 := ho238.ext hx252
 have ho255 := ho246.ext hx252
 have hb256 := hb239.ext hx252
 have hb257 := hb240.ext hx252
 have hb258 := hb241.ext hx252
 have ha259 : Apart u248.ownBlock u11.ownBlock := zV ho251.lt ho238.lt
 have ha260 : Apart u248.ownBlock u231.ownBlock := zV ho251.lt ho246.lt
 have ha261 : Apart u248.ownBlock (some c) := yA ho251.lt hb239.lt
 have ha262 : Apart u248.ownBlock (some b1) := yA ho251.lt hb240.lt
 have ha263 : Apart u248.ownBlock (some b31) := yA ho251.lt hb241.lt
 have ho264 := ho251.weaken hX237.size
 have hq265 := hq247.below hx252.below
 refine ⟨fun _ => ⟨hb258.reads, hq265⟩, ?_⟩
 obtain ⟨G266, hle269, hX268, hr267, hf270⟩ := ho255.sealed hX253
 have ho271 := ho254.moreO hle269 hf270 ha242.symm
 have ho272 := ho264.moreO hle269 hf270 ha260
 have hb273 := hb256.moreO hf270 ha243.symm
 have hb274 := hb257.moreO hf270 ha244.symm
 have hb275 := hb258.moreO hf270 ha245.symm
 refine zQ (i := 13) (by kernel_rfl) (zU (i := 13) rfl rfl rfl (zI rfl _) (zM (vs := [(.pointer (some ⟨c, 0, none⟩)), u231]) Tryz.func68 nm68 rfl rfl rfl ?_))
 refine dP (gG hX268.pins hb273 (hc.mono (dN (dN hx24.le hx252.le) hle269)) (by omega) (by omega) hr267 (by simp)) ?_
 rintro _ w281 ⟨z276, a279, s280, rfl, hz277, hdf278, hb282, hda283, hds284, hx285⟩
 refine ⟨_, rfl, ?_⟩
 have hX286 := hX268.trans hx285 (fun i hi => xL i hi)
 have ho287 := ho271.extS hx285 (notO ha27)
 have ho288 := ho272.extS hx285 (notO ha261)
 have hb289 := hb274.extS hx285 (qM ha9)
 have hb290 := hb275.extS hx285 (qM ha42)
 have hq291 := Gadd.turn hq265 (dO hX286.pins (dN hx252.le hle269)) hx285 (notO ha27)
 refine ⟨fun _ => ⟨hb290.reads, hq291⟩, ?_⟩
 refine zQ (i := 14) (by kernel_rfl) (zU (i := 14) rfl rfl rfl (zI rfl _) (yY (E := eInt) (e := 3) [(.int .i64 z276)] [z276] eU sz3 zr3 (by exact xT (by rfl)) (yM (by rfl)) rfl rfl rfl rfl (by decide) hX286.pins (fun u292 w293 ho294 hp295 hl296 hk297 => ?_)))
 have hX298 := hX286.step hp295 hl296
 have ho299 := ho287.below hl296
 have ho300 := ho288.below hl296
 have hb301 := hb282.below hl296
 have hb302 := hb289.below hl296
 have hb303 := hb290.below hl296
 have ho309 := ho294.weaken hX286.size
 have hq310 := hq291.below hl296
 refine ⟨fun _ => ⟨hb303.reads, hq310⟩, ?_⟩
 refine zQ (i := 15) (by kernel_rfl) (zU (i := 15) rfl rfl rfl (zI rfl _) (zZ (E := eInt) (v := u248) (u := u292) 8 eU ap3 (by decide) rfl rfl hX298.pins ho300 ho309.src (by first | omega | (rw [List.nil_append]; omega) | (rw [List.length_nil]; omega) | (rw [List.length_append]; omega) | (simp; done) | (simp; omega) | (simp only [List.length_cons, List.length_nil]; omega) | (simp only [List.length_cons, List.length_nil]; omega) | (simp only [List.length_append, List.length_cons, List.length_nil]; omega)) (by first | omega | (rw [List.nil_append]; omega) | (rw [List.length_nil]; omega) | (rw [List.length_append]; omega) | (simp; done) | (simp; omega) | (simp only [List.length_cons, List.length_nil]; omega) | (simp only [List.length_cons, List.length_nil]; omega) | (simp only [List.length_append, List.length_cons, List.length_nil]; omega)) (hX298.size) (fun u311 w312 ho313 hp314 hg315 hw316 => ?_)))
 have hX317 := hX298.write hp314 hg315 ((yD ho300))
 have ho318 := ho299.keptA hg315 ha259.symm
 have hb320 := hb301.keptA hg315 ha261.symm
 have hb321 := hb302.keptA hg315 ha262.symm
 have hb322 := hb303.keptA hg315 ha263.symm
 have ha323 : Apart u11.ownBlock u311.ownBlock := zJ ha259.symm hw316 ho299.lt
 have ha325 : Apart (some c) u311.ownBlock := zP ha261.symm hw316 hb301.lt
 have ha326 : Apart (some b1) u311.ownBlock := zP ha262.symm hw316 hb302.lt
 have ha327 : Apart (some b31) u311.ownBlock := zP ha263.symm hw316 hb303.lt
 have hm328 := la1 (((formG g12).getD (z54).toNat default).l) z276
 have hq329 := Gadd.turn hq310 (dO hX317.pins (dN hx252.le hle269)) (Ext.one hp314 hg315) (notO ha259.symm)
 refine ⟨fun _ => ⟨hb322.reads, hq329⟩, ?_⟩
 refine zQ (i := 16) (by kernel_rfl) (zU (i := 16) rfl rfl rfl (zI rfl _) (EO.run (zN eV sz65 (v := u11) rfl rfl hr84 (by omega) (by omega)) ⟨fun _ => ⟨hb322.reads, hq329⟩, ?_⟩))
 refine dT (i := 17) rfl rfl (by kernel_rfl) (fun _ _ => xP (off := 0) eX rfl rfl nz59 (z := z54) (k := 0) rfl hr84 (by omega) (by omega)) ⟨hb322.reads, hq329⟩ ?_
 obtain ⟨G330, hle333, hX332, hr331, hf334⟩ := ho313.sealed hX317
 have ho335 := ho318.moreO hle333 hf334 ha323
 have hb336 := hb320.moreO hf334 ha325
 have hb337 := hb321.moreO hf334 ha326
 have hb338 := hb322.moreO hf334 ha327
 refine zQ (i := 18) (by kernel_rfl) (qC (i := 18) rfl rfl rfl (zI rfl _) (o_setNL (v := u11) (z := z54) (u := u311) sz59 rfl rfl hr331 hX332.pins ho335 (by omega) (by omega) (fun w339 ho340 hp341 hg342 hz343 => ?_)))
 have hX344 := hX332.write hp341 hg342 ((yD ho335))
 have hb345 := hb336.keptA hg342 ha27.symm
 have hb346 := hb337.keptA hg342 ha28.symm
 have hb347 := hb338.keptA hg342 ha41
 refine ⟨fun h => absurd rfl h, ?_⟩
 refine yP (by kernel_rfl) (yQ (zA (zG (zH ?_))))
 refine qD rfl (yJ (cs := [u11]) ag26 sz26 rfl (fun j u hj => hb347.cell (by simpa using hj))) (q0 rfl rfl rfl (o_stp (cs' := [u11]) (us := [u11]) (v := (.agg [u11].toArray)) sz26 rfl rfl rfl (yM ho340.one) hX344.pins hb346 (dQ rfl) rfl (fun w348 hb349 hp350 hg351 hz352 => ?_)))
 have hX353 := hX344.write hp350 hg351 ((yC hlo10))
 have ho354 := ho340.keptA hg351 ha28
 have hb355 := hb345.keptA hg351 ha9.symm
 refine qe (zA ?_)
 refine wp_ret (zY (qT (cs := [u11]) rfl rfl rfl ag26 sz26 (fun j u hj => by rw [Nat.zero_add]; exact hb349.cell hj) ?_))
 obtain ⟨G357, hle360, hX359, hr358, hf361⟩ := ho354.sealed hX353
 have hb362 := hb355.moreO hf361 ha27.symm
 exact ⟨_, _, _, _, _, rfl, hr358, rE hdf20 hdf56 hdf70 (by unfold anyT; rw [if_pos h82]; rw [← hdf278]), hb362, (by omega), (by omega), hX359⟩
 refine zG (zH ?_)
 refine qD rfl (kZ rfl rfl) (qD rfl (zD (v := (.bool (decide ((z68 : Int) = 1)))) rfl) (qe (zA ?_)))
 refine yN (p := (z68 : Int) = 1) rfl rfl (fun h365 => ?_) (fun h365 => ?_)
 refine zH (qD rfl (zR (k := 0) rfl eW rfl nz24 rfl) (qD rfl (zS (u := u11) ag24 rfl (hb81.cell (o := 0) rfl)) (qI rfl (yY (E := eInt) (e := 3) [(.int .i64 0)] [0] eU sz3 zr3 (by exact xT (by rfl)) (yM (by rfl)) rfl rfl rfl rfl (by decide) hX78.pins (fun u366 w367 ho368 hp369 hl370 hk371 => ?_)))))
 have hX372 := hX78.step hp369 hl370
 have ho373 := ho79.below hl370
 have hb374 := hb74.below hl370
 have hb375 := hb80.below hl370
 have hb376 := hb81.below hl370
 have ha377 : Apart u366.ownBlock u11.ownBlock := zK hk371 ho79.lt
 have ha378 : Apart u366.ownBlock (some c) := zL hk371 hb74.lt
 have ha379 : Apart u366.ownBlock (some b1) := zL hk371 hb80.lt
 have ha380 : Apart u366.ownBlock (some b31) := zL hk371 hb81.lt
 have ho381 := ho368.weaken hX78.size
 refine qD rfl (xQ [(.slice none 0 0), (.slice none 0 0)] [(.slice none 0 0), u366] [(1, u366, [u366])] eX zr65 rfl pl65 rfl (List.forall_mem_cons.2 ⟨(xE ho381.one), (fun _ h => by cases h)⟩) rfl) ?_
 obtain ⟨G382, hle385, hX384, hr383, hf386⟩ := ho381.sealed hX372
 have ho387 := ho373.moreO hle385 hf386 ha377.symm
 have hb388 := hb374.moreO hf386 ha378.symm
 have hb389 := hb375.moreO hf386 ha379.symm
 have hb390 := hb376.moreO hf386 ha380.symm
 refine qI rfl (xJ (E := eNode) (e := 65) [(.slice none 0 0), u366] (⟨[], [0]⟩ : Nd) eV sz65 zr65 ⟨_, _, rfl, (qJ _ _), hr383⟩ rfl (by decide) hX384.pins (fun u391 w392 ho393 hp394 hl395 hk396 => ?_))
 have hX397 := hX384.step hp394 hl395
 have ho398 := ho387.below hl395
 have hb399 := hb388.below hl395
 have hb400 := hb389.below hl395
 have hb401 := hb390.below hl395
 have ho406 := ho393.weaken hX384.size
 refine qI rfl (zZ (E := eNode) (v := u11) (u := u391) 48 eV ap65 (by decide) rfl rfl hX397.pins ho398 ho406.src (by first | omega | (rw [List.nil_append]; omega) | (rw [List.length_nil]; omega) | (rw [List.length_append]; omega) | (simp; done) | (simp; omega) | (simp only [List.length_cons, List.length_nil]; omega) | (simp only [List.length_cons, List.length_nil]; omega) | (simp only [List.length_append, List.length_cons, List.length_nil]; omega)) (by first | omega | (rw [List.nil_append]; omega) | (rw [List.length_nil]; omega) | (rw [List.length_append]; omega) | (simp; done) | (simp; omega) | (simp only [List.length_cons, List.length_nil]; omega) | (simp only [List.length_cons, List.length_nil]; omega) | (simp only [List.length_append, List.length_cons, List.length_nil]; omega)) (hX397.size) (fun u407 w408 ho409 hp410 hg411 hw412 => ?_))
 have hX413 := hX397.write hp410 hg411 ((yD ho398))
 have hb415 := hb399.keptA hg411 ha27.symm
 have hb416 := hb400.keptA hg411 ha28.symm
 have hb417 := hb401.keptA hg411 ha41
 have ha419 : Apart (some c) u407.ownBlock := zP ha27.symm hw412 hb399.lt
 have ha420 : Apart (some b1) u407.ownBlock := zP ha28.symm hw412 hb400.lt
 have ha421 : Apart (some b31) u407.ownBlock := zP ha41 hw412 hb401.lt
 have hm422 := la1 (formG g12) (⟨[], [0]⟩ : Nd)
 refine qD rfl (zR (k := 0) rfl eW rfl nz24 rfl) (q0 rfl rfl rfl (o_stp (cs' := [u407]) (us := [u407]) (v := u407) sz24 rfl rfl (kT ho409.one) (yM ho409.one) hX413.pins hb417 (dQ rfl) rfl (fun w423 hb424 hp425 hg426 hz427 => ?_)))
 have hX428 := hX413.write hp425 hg426 ((yC hlo44))
 have ho429 := ho409.keptA hg426 ha421.symm
 have hb430 := hb415.keptA hg426 ha42.symm
 have hb431 := hb416.keptA hg426 ha43.symm
 refine qe (yQ (zA (zG (zH ?_))))
 refine qD rfl (yJ (cs := [u407]) ag26 sz26 rfl (fun j u hj => hb424.cell (by simpa using hj))) (q0 rfl rfl rfl (o_stp (cs' := [u407]) (us := [u407]) (v := (.agg [u407].toArray)) sz26 rfl rfl rfl (yM ho429.one) hX428.pins hb431 (dQ rfl) rfl (fun w432 hb433 hp434 hg435 hz436 => ?_)))
 have hX437 := hX428.write hp434 hg435 ((yC hlo10))
 have ho438 := ho429.keptA hg435 ha420.symm
 have hb439 := hb430.keptA hg435 ha9.symm
 refine qe (zA ?_)
 refine wp_ret (zY (qT (cs := [u407]) rfl rfl rfl ag26 sz26 (fun j u hj => by rw [Nat.zero_add]; exact hb433.cell hj) ?_))
 obtain ⟨G441, hle444, hX443, hr442, hf445⟩ := ho438.sealed hX437
 have hb446 := hb439.moreO hf445 ha419
 exact ⟨_, _, _, _, _, rfl, hr442, rE hdf20 hdf56 hdf70 (by unfold anyT; rw [if_neg h82, if_pos h365]), hb446, (by omega), (by omega), hX443⟩
 refine zG (zH ?_)
 refine qD rfl (kZ rfl rfl) (qD rfl (zD (v := (.bool (decide ((z68 : Int) = 2)))) rfl) (qe (zA ?_)))
 refine yN (p := (z68 : Int) = 2) rfl rfl (fun h449 => ?_) (fun h449 => ?_)
 refine zH (qD rfl (zR (k := 0) rfl eW rfl nz24 rfl) (qD rfl (zS (u := u11) ag24 rfl (hb81.cell (o := 0) rfl)) (qD rfl (zR (k := 0) rfl eW rfl nz24 rfl) (qD rfl (zS (u := u11) ag24 rfl (hb81.cell (o := 0) rfl)) (qD rfl (zT eV (v := u11) rfl ho79.read) (qD rfl (jA rfl rfl (by omega)) ?_))))))
 obtain ⟨u450, ho451, hb452, hl453⟩ := own_cut ho79 ((((formG g12).length : Int) - 1).toNat) (((formG g12).length : Int) - 1) (by omega) rfl (by omega) (by omega)
 have ha454 : Apart u450.ownBlock (some c) := by rw [hb452]; exact ha27
 have ha455 : Apart u450.ownBlock (some b1) := by rw [hb452]; exact ha28
 have ha456 : Apart (some b31) u450.ownBlock := by rw [hb452]; exact ha41
 refine qD rfl (hl453 eV sz65 rfl rfl rfl) (qD rfl (zR (k := 0) rfl eW rfl nz24 rfl) (q0 rfl rfl rfl (o_stp (cs' := [u450]) (us := [u450]) (v := u450) sz24 rfl rfl (kT ho451.one) (yM ho451.one) hX78.pins hb81 (dQ rfl) rfl (fun w457 hb458 hp459 hg460 hz461 => ?_))))
 have hX462 := hX78.write hp459 hg460 ((yC hlo44))
 have ho463 := ho451.keptA hg460 ha456.symm
 have hb464 := hb74.keptA hg460 ha42.symm
 have hb465 := hb80.keptA hg460 ha43.symm
 refine qe (yQ (zA (zG (zH ?_))))
 refine qD rfl (yJ (cs := [u450]) ag26 sz26 rfl (fun j u hj => hb458.cell (by simpa using hj))) (q0 rfl rfl rfl (o_stp (cs' := [u450]) (us := [u450]) (v := (.agg [u450].toArray)) sz26 rfl rfl rfl (yM ho463.one) hX462.pins hb465 (dQ rfl) rfl (fun w466 hb467 hp468 hg469 hz470 => ?_)))
 have hX471 := hX462.write hp468 hg469 ((yC hlo10))
 have ho472 := ho463.keptA hg469 ha455
 have hb473 := hb464.keptA hg469 ha9.symm
 refine qe (zA ?_)
 refine wp_ret (zY (qT (cs := [u450]) rfl rfl rfl ag26 sz26 (fun j u hj => by rw [Nat.zero_add]; exact hb467.cell hj) ?_))
 obtain ⟨G475, hle478, hX477, hr476, hf479⟩ := ho472.sealed hX471
 have hb480 := hb473.moreO hf479 ha454.symm
 exact ⟨_, _, _, _, _, rfl, hr476, rE hdf20 hdf56 hdf70 (by unfold anyT; rw [if_neg h82, if_neg h365, if_pos h449] <;> exact congrArg (fun n => (List.take n _, _)) (by omega)), hb480, (by omega), (by omega), hX477⟩
 refine zG (zH ?_)
 refine qD rfl (kZ rfl rfl) (qD rfl (zD (v := (.bool (decide ((z68 : Int) = 3)))) rfl) (qe (zA ?_)))
 refine yN (p := (z68 : Int) = 3) rfl rfl (fun h483 => ?_) (fun h483 => ?_)
 refine zG (zH ?_)
 refine qD rfl (zR (k := 0) rfl eW rfl nz24 rfl) (qD rfl (zS (u := u11) ag24 rfl (hb81.cell (o := 0) rfl)) (qD rfl (zN eV sz65 (v := u11) rfl rfl ho79.read (by omega) (by omega)) ?_))
 obtain ⟨u484, u485, hr486, hr487, hl488⟩ := jU (ho79.at (z := 0) (by omega) (by omega)) (j := 0) rfl
 have hm489 := hr486.max
 have hm490 := hr487.max
 refine qD rfl (hl488 ag65 sz65 rfl (Gadd.pins hX78.pins u11)) (qI rfl (yO [(.slice none 0 0), (.slice none 0 0)] zr65 rfl hX78.pins (fun b491 w492 hk493 hb494 hp495 hl496 => ?_)))
 have hX497 := hX78.step hp495 hl496
 have ho498 := ho79.below hl496
 have hb499 := hb74.below hl496
 have hb500 := hb80.below hl496
 have hb501 := hb81.below hl496
 have ha502 : Apart (some b491) u11.ownBlock := zK (congrArg some hk493) ho79.lt
 have ha503 : Apart (some b491) (some c) := zL (congrArg some hk493) hb74.lt
 have ha504 : Apart (some b491) (some b1) := zL (congrArg some hk493) hb80.lt
 have ha505 : Apart (some b491) (some b31) := zL (congrArg some hk493) hb81.lt
 have hlo506 : w.heap.size ≤ b491 := by have := hX78.size; omega
 refine q0 rfl rfl rfl (o_stp (cs' := [u484, u485]) (us := [u484, u485]) (v := (.agg [u484, u485].toArray)) sz65 rfl rfl rfl (jE hr486.one hr487.one) hX497.pins hb494 (dQ rfl) rfl (fun w507 hb508 hp509 hg510 hz511 => ?_))
 have hX512 := hX497.write hp509 hg510 ((yC hlo506))
 have ho513 := ho498.keptA hg510 ha502.symm
 have hb514 := hb499.keptA hg510 ha503.symm
 have hb515 := hb500.keptA hg510 ha504.symm
 have hb516 := hb501.keptA hg510 ha505.symm
 obtain ⟨G517, hle518, hX519, hbp520, hf521⟩ := hb508.shut hX512 hlo506
 have ho522 := ho513.moreA hle518 hf521 ha502.symm
 have hb523 := hb514.moreA hf521 ha503.symm
 have hb524 := hb515.moreA hf521 ha504.symm
 have hb525 := hb516.moreA hf521 ha505.symm
 refine qe (zA (zG ?_))
 have hq526 := Gadd.pins hX519.pins u11
 have hr527 := ho522.read
 refine xD (S := fun wz => BxR wz b31 [u11] ∧ Pins (Gadd G517 w507 u11) wz) (last := 8) (by kernel_rfl) rfl ?_
 have hl528 := bdr w507
 have hp529 := hX519.pins.below hl528
 have hX530 := hX519.step hp529 hl528
 have ho531 := ho522.below hl528
 have hb532 := hb523.below hl528
 have hb533 := hb524.below hl528
 have hb534 := hb525.below hl528
 have hq535 := hq526.below hl528
 refine dT (i := 0) rfl rfl (by kernel_rfl) (fun _ _ => zR (k := 0) rfl eW rfl nz24 rfl) ⟨hb534.reads, hq535⟩ ?_
 refine dT (i := 1) rfl rfl (by kernel_rfl) (fun _ hS => zS (u := u11) ag24 rfl (hS.1 0 _ rfl)) ⟨hb534.reads, hq535⟩ ?_
 refine dT (i := 2) rfl rfl (by kernel_rfl) (fun _ _ => zR (k := 0) rfl eW rfl nz24 rfl) ⟨hb534.reads, hq535⟩ ?_
 refine dT (i := 3) rfl rfl (by kernel_rfl) (fun _ hS => zS (u := u11) ag24 rfl (hS.1 0 _ rfl)) ⟨hb534.reads, hq535⟩ ?_
 refine dT (i := 4) rfl rfl (by kernel_rfl) (fun _ _ => zB (v := (.int .i64 z54)) rfl) ⟨hb534.reads, hq535⟩ ?_
 refine dT (i := 5) rfl rfl (by kernel_rfl) (fun _ _ => zN eV sz65 (v := u11) rfl rfl hr527 (by omega) (by omega)) ⟨hb534.reads, hq535⟩ ?_
 obtain ⟨u536, u537, hr538, hr539, hl540⟩ := jU (ho522.at (z := z54) (by omega) (by omega)) (j := (z54).toNat) rfl
 have hm541 := hr538.max
 have hm542 := hr539.max
 refine dT (i := 6) rfl rfl (by kernel_rfl) (fun _ hS => hl540 ag65 sz65 rfl hS.2) ⟨hb534.reads, hq535⟩ ?_
 refine dT (i := 7) rfl rfl (by kernel_rfl) (fun _ _ => zN eV sz65 (v := u11) rfl rfl hr527 (by omega) (by omega)) ⟨hb534.reads, hq535⟩ ?_
 refine zQ (i := 8) (by kernel_rfl) (qC (i := 8) rfl rfl rfl (zI rfl _) (vX (E := eNode) (v := u11) (u := (.agg [u536, u537].toArray)) (z := 0) ((⟨((formG g12).getD (z54).toNat default).l, ((formG g12).getD (z54).toNat default).r⟩ : Nd)) sz65 rfl rfl rfl ⟨_, _, rfl, hr538, hr539⟩ hX530.pins ho531 (by omega) (by omega) (fun w543 ho544 hp545 hg546 hz547 => ?_)))
 have hX548 := hX530.write hp545 hg546 ((yD ho531))
 have hb549 := hb532.keptA hg546 ha27.symm
 have hb550 := hb533.keptA hg546 ha28.symm
 have hb551 := hb534.keptA hg546 ha41
 have ho552 : Own eNode 65 G517 w543 w.heap.size u11 ((formG g12).set 0 (⟨((formG g12).getD (z54).toNat default).l, ((formG g12).getD (z54).toNat default).r⟩ : Nd)) := ho544
 have hm553 : ((formG g12).set 0 (⟨((formG g12).getD (z54).toNat default).l, ((formG g12).getD (z54).toNat default).r⟩ : Nd)).length = (formG g12).length := List.length_set ..
 refine ⟨fun h => absurd rfl h, ?_⟩
 refine yP (by kernel_rfl) (zA (zH ?_))
 refine qD rfl (zR (k := 0) rfl eW rfl nz24 rfl) (qD rfl (zS (u := u11) ag24 rfl (hb551.cell (o := 0) rfl)) (qD rfl (zB (v := (.int .i64 z54)) rfl) (qD rfl (yJ (cs := [u484, u485]) ag65 sz65 rfl (fun j u hj => hX548.pins _ _ _ (hbp520 _ _ (by simpa using hj)))) (qD rfl (zN eV sz65 (v := u11) rfl rfl ho552.read (by omega) (by omega)) (q0 rfl rfl rfl (vX (E := eNode) (v := u11) (u := (.agg [u484, u485].toArray)) (z := z54) ((⟨((formG g12).getD 0 default).l, ((formG g12).getD 0 default).r⟩ : Nd)) sz65 rfl rfl rfl ⟨_, _, rfl, (hr486.mono hle518), (hr487.mono hle518)⟩ hX548.pins ho552 (by omega) (by omega) (fun w554 ho555 hp556 hg557 hz558 => ?_)))))))
 have hX559 := hX548.write hp556 hg557 ((yD ho552))
 have hb560 := hb549.keptA hg557 ha27.symm
 have hb561 := hb550.keptA hg557 ha28.symm
 have hb562 := hb551.keptA hg557 ha41
 have ho563 : Own eNode 65 G517 w554 w.heap.size u11 (((formG g12).set 0 (⟨((formG g12).getD (z54).toNat default).l, ((formG g12).getD (z54).toNat default).r⟩ : Nd)).set (z54).toNat (⟨((formG g12).getD 0 default).l, ((formG g12).getD 0 default).r⟩ : Nd)) := ho555
 have hm564 : (((formG g12).set 0 (⟨((formG g12).getD (z54).toNat default).l, ((formG g12).getD (z54).toNat default).r⟩ : Nd)).set (z54).toNat (⟨((formG g12).getD 0 default).l, ((formG g12).getD 0 default).r⟩ : Nd)).length = ((formG g12).set 0 (⟨((formG g12).getD (z54).toNat default).l, ((formG g12).getD (z54).toNat default).r⟩ : Nd)).length := List.length_set ..
 refine qe (yQ (zA (zG (zH ?_))))
 refine qD rfl (yJ (cs := [u11]) ag26 sz26 rfl (fun j u hj => hb562.cell (by simpa using hj))) (q0 rfl rfl rfl (o_stp (cs' := [u11]) (us := [u11]) (v := (.agg [u11].toArray)) sz26 rfl rfl rfl (yM ho563.one) hX559.pins hb561 (dQ rfl) rfl (fun w565 hb566 hp567 hg568 hz569 => ?_)))
 have hX570 := hX559.write hp567 hg568 ((yC hlo10))
 have ho571 := ho563.keptA hg568 ha28
 have hb572 := hb560.keptA hg568 ha9.symm
 refine qe (zA ?_)
 refine wp_ret (zY (qT (cs := [u11]) rfl rfl rfl ag26 sz26 (fun j u hj => by rw [Nat.zero_add]; exact hb566.cell hj) ?_))
 obtain ⟨G574, hle577, hX576, hr575, hf578⟩ := ho571.sealed hX570
 have hb579 := hb572.moreO hf578 ha27.symm
 exact ⟨_, _, _, _, _, rfl, hr575, rE hdf20 hdf56 hdf70 (by unfold anyT; rw [if_neg h82, if_neg h365, if_neg h449, if_pos h483]), hb579, (by omega), (by omega), hX576⟩
 refine wp_skip (yQ (zA (zG (zH ?_))))
 refine qD rfl (yJ (cs := [u11]) ag26 sz26 rfl (fun j u hj => hb81.cell (by simpa using hj))) (q0 rfl rfl rfl (o_stp (cs' := [u11]) (us := [u11]) (v := (.agg [u11].toArray)) sz26 rfl rfl rfl (yM ho79.one) hX78.pins hb80 (dQ rfl) rfl (fun w582 hb583 hp584 hg585 hz586 => ?_)))
 have hX587 := hX78.write hp584 hg585 ((yC hlo10))
 have ho588 := ho79.keptA hg585 ha28
 have hb589 := hb74.keptA hg585 ha9.symm
 refine qe (zA ?_)
 refine wp_ret (zY (qT (cs := [u11]) rfl rfl rfl ag26 sz26 (fun j u hj => by rw [Nat.zero_add]; exact hb583.cell hj) ?_))
 obtain ⟨G591, hle594, hX593, hr592, hf595⟩ := ho588.sealed hX587
 have hb596 := hb589.moreO hf595 ha27.symm
 exact ⟨_, _, _, _, _, rfl, hr592, rE hdf20 hdf56 hdf70 (by unfold anyT; rw [if_neg h82, if_neg h365, if_neg h449, if_neg h483]), hb596, (by omega), (by omega), hX593⟩
end DO3
end Go.Proofs.YtajkbplgbikgdaaGreatDoor
