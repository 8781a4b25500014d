/- Texts of this claim in one file: OS1, LO1. -/
import Derived.Test.YtpknebplcmgnkaaGreatDoorOf6
import Derived.Test.YtpknebplcmgnkaaGreatDoorChecked
set_option maxRecDepth 20000
set_option maxHeartbeats 2000000
namespace Go.Proofs.YtpknebplcmgnkaaGreatDoor
namespace OS1
open Go.RowKit Go.GL Go.Proofs
open Go.Proofs.YtpknebplcmgnkaaGreatDoor.B1
open Go.Proofs.YtpknebplcmgnkaaGreatDoor.C1
open Go.Proofs.YtpknebplcmgnkaaGreatDoor.D1
open Go.Proofs.YtpknebplcmgnkaaGreatDoor.E1
open Go.Proofs.YtpknebplcmgnkaaGreatDoor.K1
open Go.Proofs.YtpknebplcmgnkaaGreatDoor.PO1
open Go.Proofs.YtpknebplcmgnkaaGreatDoor.PL1
open Go.Proofs.YtpknebplcmgnkaaGreatDoor.PA1
open Go.Proofs.YtpknebplcmgnkaaGreatDoor.SO1
open Go.Proofs.YtpknebplcmgnkaaGreatDoor.OD1
open Go.Proofs.YtpknebplcmgnkaaGreatDoor.FO1
open Go.Proofs.YtpknebplcmgnkaaGreatDoor.NG1
open Go.Proofs.YtpknebplcmgnkaaGreatDoor.NF1
open Go.Proofs.YtpknebplcmgnkaaGreatDoor.SM1
























theorem pl106 : (Tryz.prog.underlying 106).bind (placesD Tryz.prog) = some [(0, 1), (1, 1)] := by kernel_rfl
theorem pl32 : (Tryz.prog.underlying 32).bind (placesD Tryz.prog) = some [(0, 1)] := by kernel_rfl








theorem l5Ordinal_spec {w : World} {G : Pin} {u v : Value} {fs gs : List Nd} (hP : Pins G w) (hu : RSl eNode G u fs) (hv : RSl eNode G v gs) (hf : FormOk fs) (hg : FormOk gs) (h1 : 1 ≤ fs.length ∧ 1 ≤ gs.length) (hs : fs.length + gs.length ≤ 524288) (hfl : ∀ k, k < fs.length → (fs.getD k default).l.length ≤ 1000 ∧ (fs.getD k default).r.length ≤ 1000) (hgl : ∀ k, k < gs.length → (gs.getD k default).l.length ≤ 1000 ∧ (gs.getD k default).r.length ≤ 1000) :
  Calls Tryz.prog 80 [(.agg [u].toArray), (.agg [v].toArray)].toArray w fun e w' => ∃ (u : Value) (G' : Pin), e = .returned (.agg [u].toArray) ∧ RSl eNode G' u (formG (ordG (gOf fs) (gOf gs))) ∧ Ext noS G w G' w' := by
 refine yB (n := 74) Tryz.func80 Tryz.ntmps80 rfl rfl ?_
 have hX0 : Ext noS G w G w := Ext.refl hP
 have hmu := hu.max
 have hmv := hv.max
 have hfle := hf.len
 have hgle := hg.len
 have han := add_nk hf (by omega)
 have hfi : ((fs.length : Int) - 1).toNat = fs.length - 1 := by omega
 have hfo0 := xL hf.opts (show ((fs.length : Int) - 1).toNat < fs.length by omega)
 have hfo : (∀ z ∈ (fs.getD ((fs.length : Int) - 1).toNat default).l, 0 ≤ z ∧ z < (fs.length : Int)) ∧ (∀ z ∈ (fs.getD ((fs.length : Int) - 1).toNat default).r, 0 ≤ z ∧ z < (fs.length : Int)) := ⟨fun z hz => by have h := hfo0.1 z hz; omega, fun z hz => by have h := hfo0.2 z hz; omega⟩
 have hfe := hfl ((fs.length : Int) - 1).toNat (by omega)
 refine zF (zG ?_)
 refine qI rfl (xP [u] (v := (.agg [u].toArray)) rfl rfl hX0.pins (fun b1 w2 hk3 hb4 hp5 hl6 => ?_))
 have hX7 := hX0.step hp5 hl6
 have hlo8 : w.heap.size ≤ b1 := by have := hX0.size; omega
 obtain ⟨G9, hle10, hX11, hbp12, hf13⟩ := hb4.shut hX7 hlo8
 refine qI rfl (xP [v] (v := (.agg [v].toArray)) rfl rfl hX11.pins (fun b14 w15 hk16 hb17 hp18 hl19 => ?_))
 have hX20 := hX11.step hp18 hl19
 have hlo21 : w.heap.size ≤ b14 := by have := hX11.size; omega
 obtain ⟨G22, hle23, hX24, hbp25, hf26⟩ := hb17.shut hX20 hlo21
 refine qI rfl (yY [(.slice none 0 0)] zr32 rfl hX24.pins (fun b27 w28 hk29 hb30 hp31 hl32 => ?_))
 have hX33 := hX24.step hp31 hl32
 have hlo34 : w.heap.size ≤ b27 := by have := hX24.size; omega
 refine qe (zA (zF (zG ?_)))
 refine qD rfl (xU [(.slice none 0 0), (.slice none 0 0)] [(.slice none 0 0), (.slice none 0 0)] [] Tryz.underlying106 zr106 rfl pl106 rfl (fun _ h => by cases h) rfl) ?_
 refine qI rfl (xP [(.slice none 0 0), (.slice none 0 0)] (v := (.agg [(.slice none 0 0), (.slice none 0 0)].toArray)) rfl rfl hX33.pins (fun b35 w36 hk37 hb38 hp39 hl40 => ?_))
 have hX41 := hX33.step hp39 hl40
 have hb42 := hb30.below hl40
 have ha43 : Apart (some b35) (some b27) := zQ (congrArg some hk37) hb30.lt
 have hlo44 : w.heap.size ≤ b35 := by have := hX33.size; omega
 refine qD rfl (zD (v := (.pointer (some ⟨b35, 0, none⟩))) rfl) ?_
 refine qe (zA (zF (zG ?_)))
 refine qD rfl (zB (v := (.pointer (some ⟨b35, 0, none⟩))) rfl) ?_
 refine qD rfl (yX (cs := [u]) ag32 sz32 rfl (fun j u hj => (Pins.of_le hX41.pins hle23) _ _ _ (hbp12 _ _ (by simpa using hj)))) ?_
 refine qI rfl (zM (vs := [(.pointer (some ⟨b35, 0, none⟩)), (.agg [u].toArray)]) Tryz.func127 nm127 rfl rfl rfl ?_)
 refine Calls.mono (add_spec hX41.pins ⟨hb38, (Own.nil _ _ _ _ _), (Own.nil _ _ _ _ _), apart_none.symm, apart_none.symm, apart_none⟩ book_empty (hu.mono (Pin.le_trans hle10 hle23)) hf (by first | omega | (simp; omega))) ?_
 rintro _ w48 ⟨u53, u45, v46, G47, rfl, hr54, hbk49, hx50, hlu51, hlv52⟩
 refine ⟨_, rfl, ?_⟩
 have hin55 : ∀ i, inS b35 (.slice none 0 0) (.slice none 0 0) i → w.heap.size ≤ i ∨ noS i := inS_lo (yW hlo44) (lo_none _ _) (lo_none _ _)
 have hX56 := hX41.trans hx50 hin55
 have hn57 := notS (u := (.slice none 0 0)) (v := (.slice none 0 0)) ha43.symm apart_none.symm apart_none.symm
 have ho58 := hb42.extS hx50 (notSb hn57)
 have ha59 : Apart (some b27) u45.ownBlock := ap_call hlu51 hn57 (box_lt hb42)
 have ha60 : Apart (some b27) v46.ownBlock := ap_call hlv52 hn57 (box_lt hb42)
 have hb61 := hbk49.bx
 have ho62 := hbk49.ou
 have ho63 := hbk49.ov
 have ha64 := hbk49.abu
 have ha65 := hbk49.abv
 have ha66 := hbk49.auv
 have hlo67 := lo_call hlu51 hin55 hX41.size
 have hlo68 := lo_call hlv52 hin55 hX41.size
 refine qD rfl (zD (v := u53) rfl) ?_
 refine qe (zA (zF (zG ?_)))
 refine qD rfl (zP (k := 0) rfl Tryz.underlying32 rfl nz30 rfl) ?_
 refine qD rfl (zS (u := u) ag30 rfl ((Pins.of_le hX56.pins (Pin.le_trans hle23 hx50.le)) _ _ _ (hbp12 0 _ rfl))) ?_
 refine qD rfl (zP (k := 0) rfl Tryz.underlying32 rfl nz30 rfl) ?_
 refine qD rfl (zS (u := u) ag30 rfl ((Pins.of_le hX56.pins (Pin.le_trans hle23 hx50.le)) _ _ _ (hbp12 0 _ rfl))) ?_
 refine qD rfl (zO Tryz.underlying30 (v := u) rfl hu) ?_
 refine qD rfl (qZ rfl rfl (by omega)) ?_
 refine qD rfl (zL Tryz.underlying30 yP (v := u) rfl rfl hu (by omega) (by omega)) ?_
 obtain ⟨u69, u70, hr71, hr72, hl73⟩ := qR (hu.at (z := ((fs.length : Int) - 1)) (by omega) (by omega)) (j := ((fs.length : Int) - 1).toNat) rfl
 have hm74 := hr71.max
 have hm75 := hr72.max
 refine qD rfl (hl73 ag103 yP rfl (Pins.of_le hX56.pins (Pin.le_trans (Pin.le_trans hle10 hle23) hx50.le))) ?_
 refine qI rfl (yY [(.slice none 0 0), (.slice none 0 0)] xX rfl hX56.pins (fun b76 w77 hk78 hb79 hp80 hl81 => ?_))
 have hX82 := hX56.step hp80 hl81
 have ho83 := ho62.below hl81
 have ho84 := ho63.below hl81
 have hb85 := ho58.below hl81
 have hb86 := hb61.below hl81
 have ha87 : Apart (some b76) u45.ownBlock := zJ (congrArg some hk78) ho62.lt
 have ha88 : Apart (some b76) v46.ownBlock := zJ (congrArg some hk78) ho63.lt
 have ha89 : Apart (some b76) (some b27) := zQ (congrArg some hk78) ho58.lt
 have ha90 : Apart (some b76) (some b35) := zQ (congrArg some hk78) hb61.lt
 have hlo91 : w.heap.size ≤ b76 := by have := hX56.size; omega
 refine q0 rfl rfl rfl (xD (cs' := [u69, u70]) (us := [u69, u70]) (v := (.agg [u69, u70].toArray)) yP rfl rfl rfl (ones2 hr71.one hr72.one) hX82.pins hb79 (Nat.le_of_ble_eq_true rfl) rfl (fun w92 hb93 hp94 hg95 hz96 => ?_))
 have hX97 := hX82.write hp94 hg95 ((yW hlo91))
 have ho98 := ho83.keptA hg95 ha87.symm
 have ho99 := ho84.keptA hg95 ha88.symm
 have hb100 := hb85.keptA hg95 ha89.symm
 have hb101 := hb86.keptA hg95 ha90.symm
 obtain ⟨G102, hle103, hX104, hbp105, hf106⟩ := hb93.shut hX97 hlo91
 have ho107 := ho98.moreA hle103 hf106 ha87.symm
 have ho108 := ho99.moreA hle103 hf106 ha88.symm
 have hb109 := hb100.moreA hf106 ha89.symm
 have hb110 := hb101.moreA hf106 ha90.symm
 refine qe (zA (zF (zG ?_)))
 refine qI rfl (xG (E := eInt) (e := 3) Tryz.underlying67 sz3 hX104.pins (fun u111 w112 ho113 hp114 hl115 hk116 => ?_))
 have hX117 := hX104.step hp114 hl115
 have ho118 := ho107.below hl115
 have ho119 := ho108.below hl115
 have hb120 := hb109.below hl115
 have hb121 := hb110.below hl115
 have ha122 : Apart u111.ownBlock u45.ownBlock := zJ hk116 ho107.lt
 have ha123 : Apart u111.ownBlock v46.ownBlock := zJ hk116 ho108.lt
 have ha124 : Apart u111.ownBlock (some b27) := zQ hk116 hb109.lt
 have ha125 : Apart u111.ownBlock (some b35) := zQ hk116 hb110.lt
 have ho126 : Own eInt 3 G102 w112 w.heap.size u111 ([]) := ho113.weaken hX104.size
 refine qD rfl (zD (v := u111) rfl) ?_
 refine qe (zA (zF (zF (zG ?_))))
 refine qD rfl (zD (v := (.int .i64 0)) rfl) ?_
 refine qe (zA ?_)
 refine zZ ?_
 refine yT (fun (k : Nat) (en : Nat → Value) (W : World) => ∃ (env1 : Nat → Value) (k5 : Nat) (atB : Value) (atsB : List Int) (uB : Value) (vB : Value) (nsB : List Nd) (bsB : List Int) (GL1 : Pin), en = (upd (upd (upd (upd (upd (upd (upd env1 3 (.pointer (some ⟨b14, 0, none⟩))) 4 (.pointer (some ⟨b27, 0, none⟩))) 5 (.pointer (some ⟨b35, 0, none⟩))) 6 u53) 7 (.pointer (some ⟨b76, 0, none⟩))) 8 atB) 9 (.int .i64 (k5 : Int))) ∧ k = gs.length - k5 ∧ Ext noS G w GL1 W ∧ Pin.le G102 GL1 ∧ (k5 ≤ gs.length) ∧ (PoolOk (bkq nsB bsB)) ∧ (NkOk (bkq nsB bsB) (addM [] [] fs).1 fs.length (den fs)) ∧ (NkOk (bkq nsB bsB) atsB k5 (fun i => ordG (gOf fs) (den gs i))) ∧ (nsB.length ≤ fs.length + k5) ∧ (Own eInt 3 GL1 W w.heap.size atB (atsB)) ∧ (Own eNode 103 GL1 W 0 uB (nsB)) ∧ (Own eInt 3 GL1 W 0 vB (bsB)) ∧ (Bx GL1 W b27 [(.slice none 0 0)]) ∧ (Bx GL1 W b35 [uB, vB]) ∧ (Apart atB.ownBlock uB.ownBlock) ∧ (Apart atB.ownBlock vB.ownBlock) ∧ (Apart atB.ownBlock (some b27)) ∧ (Apart atB.ownBlock (some b35)) ∧ (Apart uB.ownBlock vB.ownBlock) ∧ (Apart uB.ownBlock (some b27)) ∧ (Apart uB.ownBlock (some b35)) ∧ (Apart vB.ownBlock (some b27)) ∧ (Apart vB.ownBlock (some b35)) ∧ (Lo w noS uB.ownBlock) ∧ (Lo w noS vB.ownBlock)) _ ⟨_, 0, u111, [], u45, v46, (addM ([]) ([]) fs).2.1, (addM ([]) ([]) fs).2.2, G102, (zC (x := 9) (zC (x := 8) (zC (x := 7) (zC (x := 6) (zC (x := 5) (zC (x := 4) (zU (x := 3) rfl) rfl) rfl) rfl) rfl) rfl) rfl), rfl, hX117, Pin.le_refl _, Nat.zero_le _, han.1, han.2.1, NkOk.start, han.2.2, ho126, ho118, ho119, hb120, hb121, ha122, ha123, ha124, ha125, ha66, ha59.symm, ha64.symm, ha60.symm, ha65.symm, hlo67, hlo68⟩ ?_
 rintro k127 _ w128 ⟨env1, k5, atB, atsB, uB, vB, nsB, bsB, GL1, rfl, hk129, hX130, hlek127, hk5, hokb, hat0, hnk, hbl, hw131, hw132, hw133, hw134, hw135, ha136, ha137, ha138, ha139, ha140, ha141, ha142, ha143, ha144, hlo145, hlo146⟩
 have hnl := hnk.len
 have hal0 := hat0.len
 refine zF (zF (zG ?_))
 refine qD rfl (zB (v := (.int .i64 (k5 : Int))) rfl) ?_
 refine qD rfl (zP (k := 0) rfl Tryz.underlying32 rfl nz30 rfl) ?_
 refine qD rfl (zS (u := v) ag30 rfl ((Pins.of_le hX130.pins (Pin.le_trans (Pin.le_trans hx50.le hle103) hlek127)) _ _ _ (hbp25 0 _ rfl))) ?_
 refine qD rfl (zO Tryz.underlying30 (v := v) rfl hv) ?_
 refine qD rfl (yQ rfl rfl) ?_
 refine qe (zA ?_)
 refine yG (p := ((k5 : Int) : Int) < (gs.length : Int)) rfl rfl (fun h147 => ?_) (fun h147 => ?_)
 ·skip
  have og := xL hg.opts (show k5 < gs.length by omega)
  have hge := hgl k5 (by omega)
  have hof := hat0.opts hfo.1
  have hof2 := hat0.opts hfo.2
  have hol := hnk.opts og.1
  have hor := hnk.opts og.2
  have hi1 : ∀ i, i < (fs.getD ((fs.length : Int) - 1).toNat default).l.length → 0 ≤ (fs.getD ((fs.length : Int) - 1).toNat default).l.getD i 0 ∧ (fs.getD ((fs.length : Int) - 1).toNat default).l.getD i 0 < (addM [] [] fs).1.length := fun i hi => by have h := hfo.1 _ (yR (d := (0 : Int)) hi); omega
  have hi2 : ∀ i, i < (fs.getD ((fs.length : Int) - 1).toNat default).r.length → 0 ≤ (fs.getD ((fs.length : Int) - 1).toNat default).r.getD i 0 ∧ (fs.getD ((fs.length : Int) - 1).toNat default).r.getD i 0 < (addM [] [] fs).1.length := fun i hi => by have h := hfo.2 _ (yR (d := (0 : Int)) hi); omega
  have hi3 : ∀ i, i < (gs.getD k5 default).l.length → 0 ≤ (gs.getD k5 default).l.getD i 0 ∧ (gs.getD k5 default).l.getD i 0 < atsB.length := fun i hi => by have h := og.1 _ (yR (d := (0 : Int)) hi); omega
  have hi4 : ∀ i, i < (gs.getD k5 default).r.length → 0 ≤ (gs.getD k5 default).r.getD i 0 ∧ (gs.getD k5 default).r.getD i 0 < atsB.length := fun i hi => by have h := og.2 _ (yR (d := (0 : Int)) hi); omega
  have hlm1 : (atL (addM [] [] fs).1 (fs.getD ((fs.length : Int) - 1).toNat default).l).length = (fs.getD ((fs.length : Int) - 1).toNat default).l.length := xB
  have hlm2 : (atL (addM [] [] fs).1 (fs.getD ((fs.length : Int) - 1).toNat default).r).length = (fs.getD ((fs.length : Int) - 1).toNat default).r.length := xB
  have hlm3 : (atL atsB (gs.getD k5 default).l).length = (gs.getD k5 default).l.length := xB
  have hlm4 : (atL atsB (gs.getD k5 default).r).length = (gs.getD k5 default).r.length := xB
  have hpt := bk_put (xs := atL (addM [] [] fs).1 (fs.getD ((fs.length : Int) - 1).toNat default).l ++ atL atsB (gs.getD k5 default).l) (ys := atL (addM [] [] fs).1 (fs.getD ((fs.length : Int) - 1).toNat default).r ++ atL atsB (gs.getD k5 default).r) hokb (by omega) ⟨by rw [List.length_append]; omega, by rw [List.length_append]; omega⟩ (fun z hz => (List.mem_append.1 hz).elim (hof.1 z) (hol.1 z)) (fun z hz => (List.mem_append.1 hz).elim (hof2.1 z) (hor.1 z))
  refine wp_skip ?_
  refine zA (zF ?_)
  refine zZ ?_
  refine zF ?_
  refine xF (S := fun wz => Pins GL1 wz) (last := 14) (by kernel_rfl) rfl ?_
  have hl148 : Below w128.heap.size w128 w128.drew := (Below.refl _ _).drew
  have hp149 := hX130.pins.below hl148
  have hX150 := hX130.step hp149 hl148
  have ho151 := hw131.below hl148
  have ho152 := hw132.below hl148
  have ho153 := hw133.below hl148
  have hb154 := hw134.below hl148
  have hb155 := hw135.below hl148
  refine dT (i := 0) rfl rfl (by kernel_rfl) (fun _ _ => zB (v := u53) rfl) hX150.pins ?_
  refine dT (i := 1) rfl rfl (by kernel_rfl) (fun _ _ => zP (k := 0) rfl Tryz.underlying103 rfl nz67 rfl) hX150.pins ?_
  refine dT (i := 2) rfl rfl (by kernel_rfl) (fun _ hS => zS (u := u69) ag67 rfl ((Pins.of_le hS hlek127) _ _ _ (hbp105 0 _ rfl))) hX150.pins ?_
  refine dT (i := 4) rfl rfl (by kernel_rfl) (fun _ _ => zB (v := atB) rfl) hX150.pins ?_
  refine dT (i := 5) rfl rfl (by kernel_rfl) (fun _ _ => zP (k := 0) rfl Tryz.underlying32 rfl nz30 rfl) hX150.pins ?_
  refine dT (i := 6) rfl rfl (by kernel_rfl) (fun _ hS => zS (u := v) ag30 rfl ((Pins.of_le hS (Pin.le_trans (Pin.le_trans hx50.le hle103) hlek127)) _ _ _ (hbp25 0 _ rfl))) hX150.pins ?_
  refine dT (i := 7) rfl rfl (by kernel_rfl) (fun _ _ => zB (v := (.int .i64 (k5 : Int))) rfl) hX150.pins ?_
  refine dT (i := 8) rfl rfl (by kernel_rfl) (fun _ _ => zL Tryz.underlying30 yP (v := v) rfl rfl hv (by omega) (by omega)) hX150.pins ?_
  refine dT (i := 9) rfl rfl (by kernel_rfl) (fun _ _ => xM (off := 0) Tryz.underlying103 rfl rfl nz67 (z := (k5 : Int)) (k := 0) rfl hv (by omega) (by omega)) hX150.pins ?_
  obtain ⟨u156, hr157, hl158⟩ := nm_nl (hv.at (z := (k5 : Int)) (by omega) (by omega)) (j := k5) rfl
  have hm159 := hr157.max
  refine dT (i := 10) rfl rfl (by kernel_rfl) (fun _ hS => hl158 ag67 rfl (Pins.of_le hS (Pin.le_trans (Pin.le_trans (Pin.le_trans (Pin.le_trans hle10 hle23) hx50.le) hle103) hlek127))) hX150.pins ?_
  refine zN (i := 3) (by kernel_rfl) (zV (i := 3) rfl rfl rfl (zH rfl _) (zM (vs := [u53, u69]) Tryz.func106 nm106 rfl rfl rfl ?_))
  refine Calls.mono (xZ hX150.pins (hX150.pins) (hr54.mono (Pin.le_trans hle103 hlek127)) (hr71.mono (Pin.le_trans (Pin.le_trans (Pin.le_trans (Pin.le_trans hle10 hle23) hx50.le) hle103) hlek127)) (by omega) hi1) ?_
  rintro _ w162 ⟨u160, G161, rfl, ho163, hx164⟩
  refine ⟨_, rfl, ?_⟩
  have hX165 := hX150.tr hx164
  have ho166 := ho151.ext hx164
  have ho167 := ho152.ext hx164
  have ho168 := ho153.ext hx164
  have hb169 := hb154.ext hx164
  have hb170 := hb155.ext hx164
  have ha171 : Apart u160.ownBlock atB.ownBlock := zW ho163.lt ho151.lt
  have ha172 : Apart u160.ownBlock uB.ownBlock := zW ho163.lt ho152.lt
  have ha173 : Apart u160.ownBlock vB.ownBlock := zW ho163.lt ho153.lt
  have ha174 : Apart u160.ownBlock (some b27) := yA ho163.lt hb154.lt
  have ha175 : Apart u160.ownBlock (some b35) := yA ho163.lt hb155.lt
  have ho176 : Own eInt 3 G161 w162 w.heap.size u160 (atL ((addM ([]) ([]) fs).1) ((fs.getD ((fs.length : Int) - 1).toNat default).l)) := ho163.weaken hX150.size
  refine ⟨fun _ => (Pins.of_le hX165.pins hx164.le), ?_⟩
  refine zN (i := 11) (by kernel_rfl) (zV (i := 11) rfl rfl rfl (zH rfl _) (zM (vs := [atB, u156]) Tryz.func106 nm106 rfl rfl rfl ?_))
  refine Calls.mono (xZ hX165.pins (Gadd.pins hX165.pins atB) ho166.read (hr157.mono (Pin.le_trans (Pin.le_trans (Pin.le_trans (Pin.le_trans (Pin.le_trans hle10 hle23) hx50.le) hle103) hlek127) hx164.le)) (by omega) hi3) ?_
  rintro _ w179 ⟨u177, G178, rfl, ho180, hx181⟩
  refine ⟨_, rfl, ?_⟩
  have hX182 := hX165.tr hx181
  have ho183 := ho166.ext hx181
  have ho184 := ho167.ext hx181
  have ho185 := ho168.ext hx181
  have ho186 := ho176.ext hx181
  have hb187 := hb169.ext hx181
  have hb188 := hb170.ext hx181
  have ho195 : Own eInt 3 G178 w179 w.heap.size u177 (atL atsB ((gs.getD k5 default).l)) := ho180.weaken hX165.size
  refine ⟨fun _ => (Pins.of_le hX182.pins (Pin.le_trans hx164.le hx181.le)), ?_⟩
  refine zN (i := 12) (by kernel_rfl) (zV (i := 12) rfl rfl rfl (zH rfl _) (zY (E := eInt) (v := u160) (u := u177) 8 Tryz.underlying67 ap3 (by decide) rfl rfl hX182.pins ho186 ho195.src (by first | omega | (rw [List.nil_append]; omega) | (rw [List.length_nil]; omega) | (rw [List.length_append]; omega) | (simp; done) | (simp; omega) | (simp only [List.length_append, List.length_cons, List.length_nil]; omega)) (by first | omega | (rw [List.nil_append]; omega) | (rw [List.length_nil]; omega) | (rw [List.length_append]; omega) | (simp; done) | (simp; omega) | (simp only [List.length_append, List.length_cons, List.length_nil]; omega)) (hX182.size) (fun u196 w197 ho198 hp199 hg200 hw201 => ?_)))
  have hX202 := hX182.write hp199 hg200 ((yF ho186))
  have ho203 := ho183.keptA hg200 ha171.symm
  have ho204 := ho184.keptA hg200 ha172.symm
  have ho205 := ho185.keptA hg200 ha173.symm
  have hb207 := hb187.keptA hg200 ha174.symm
  have hb208 := hb188.keptA hg200 ha175.symm
  have ha209 : Apart atB.ownBlock u196.ownBlock := zI ha171.symm hw201 ho183.lt
  have ha210 : Apart uB.ownBlock u196.ownBlock := zI ha172.symm hw201 ho184.lt
  have ha211 : Apart vB.ownBlock u196.ownBlock := zI ha173.symm hw201 ho185.lt
  have ha213 : Apart (some b27) u196.ownBlock := zR ha174.symm hw201 hb187.lt
  have ha214 : Apart (some b35) u196.ownBlock := zR ha175.symm hw201 hb188.lt
  have hm215 : ((atL ((addM ([]) ([]) fs).1) ((fs.getD ((fs.length : Int) - 1).toNat default).l)) ++ (atL atsB ((gs.getD k5 default).l))).length = (atL ((addM ([]) ([]) fs).1) ((fs.getD ((fs.length : Int) - 1).toNat default).l)).length + (atL atsB ((gs.getD k5 default).l)).length := List.length_append
  refine ⟨fun _ => (Pins.of_le hX202.pins (Pin.le_trans hx164.le hx181.le)), ?_⟩
  refine dT (i := 13) rfl rfl (by kernel_rfl) (fun _ _ => zD (v := u196) rfl) (Pins.of_le hX202.pins (Pin.le_trans hx164.le hx181.le)) ?_
  refine yS (by kernel_rfl) ?_
  refine zA (zF ?_)
  refine xF (S := fun wz => Pins G178 wz) (last := 14) (by kernel_rfl) rfl ?_
  have hl216 : Below w197.heap.size w197 w197.drew := (Below.refl _ _).drew
  have hp217 := hX202.pins.below hl216
  have hX218 := hX202.step hp217 hl216
  have ho219 := ho203.below hl216
  have ho220 := ho204.below hl216
  have ho221 := ho205.below hl216
  have ho222 := ho198.below hl216
  have hb223 := hb207.below hl216
  have hb224 := hb208.below hl216
  refine dT (i := 0) rfl rfl (by kernel_rfl) (fun _ _ => zB (v := u53) rfl) hX218.pins ?_
  refine dT (i := 1) rfl rfl (by kernel_rfl) (fun _ _ => zP (k := 1) rfl Tryz.underlying103 rfl nz67 rfl) hX218.pins ?_
  refine dT (i := 2) rfl rfl (by kernel_rfl) (fun _ hS => zS (u := u70) ag67 rfl ((Pins.of_le hS (Pin.le_trans (Pin.le_trans hlek127 hx164.le) hx181.le)) _ _ _ (hbp105 1 _ rfl))) hX218.pins ?_
  refine dT (i := 4) rfl rfl (by kernel_rfl) (fun _ _ => zB (v := atB) rfl) hX218.pins ?_
  refine dT (i := 5) rfl rfl (by kernel_rfl) (fun _ _ => zP (k := 0) rfl Tryz.underlying32 rfl nz30 rfl) hX218.pins ?_
  refine dT (i := 6) rfl rfl (by kernel_rfl) (fun _ hS => zS (u := v) ag30 rfl ((Pins.of_le hS (Pin.le_trans (Pin.le_trans (Pin.le_trans (Pin.le_trans hx50.le hle103) hlek127) hx164.le) hx181.le)) _ _ _ (hbp25 0 _ rfl))) hX218.pins ?_
  refine dT (i := 7) rfl rfl (by kernel_rfl) (fun _ _ => zB (v := (.int .i64 (k5 : Int))) rfl) hX218.pins ?_
  refine dT (i := 8) rfl rfl (by kernel_rfl) (fun _ _ => zL Tryz.underlying30 yP (v := v) rfl rfl hv (by omega) (by omega)) hX218.pins ?_
  refine dT (i := 9) rfl rfl (by kernel_rfl) (fun _ _ => xM (off := 1) Tryz.underlying103 rfl rfl nz67 (z := (k5 : Int)) (k := 0) rfl hv (by omega) (by omega)) hX218.pins ?_
  obtain ⟨u225, hr226, hl227⟩ := nm_nr (hv.at (z := (k5 : Int)) (by omega) (by omega)) (j := k5) rfl
  have hm228 := hr226.max
  refine dT (i := 10) rfl rfl (by kernel_rfl) (fun _ hS => hl227 ag67 rfl (Pins.of_le hS (Pin.le_trans (Pin.le_trans (Pin.le_trans (Pin.le_trans (Pin.le_trans (Pin.le_trans hle10 hle23) hx50.le) hle103) hlek127) hx164.le) hx181.le))) hX218.pins ?_
  refine zN (i := 3) (by kernel_rfl) (zV (i := 3) rfl rfl rfl (zH rfl _) (zM (vs := [u53, u70]) Tryz.func106 nm106 rfl rfl rfl ?_))
  refine Calls.mono (xZ hX218.pins (hX218.pins) (hr54.mono (Pin.le_trans (Pin.le_trans (Pin.le_trans hle103 hlek127) hx164.le) hx181.le)) (hr72.mono (Pin.le_trans (Pin.le_trans (Pin.le_trans (Pin.le_trans (Pin.le_trans (Pin.le_trans hle10 hle23) hx50.le) hle103) hlek127) hx164.le) hx181.le)) (by omega) hi2) ?_
  rintro _ w231 ⟨u229, G230, rfl, ho232, hx233⟩
  refine ⟨_, rfl, ?_⟩
  have hX234 := hX218.tr hx233
  have ho235 := ho219.ext hx233
  have ho236 := ho220.ext hx233
  have ho237 := ho221.ext hx233
  have ho238 := ho222.ext hx233
  have hb239 := hb223.ext hx233
  have hb240 := hb224.ext hx233
  have ha241 : Apart u229.ownBlock atB.ownBlock := zW ho232.lt ho219.lt
  have ha242 : Apart u229.ownBlock uB.ownBlock := zW ho232.lt ho220.lt
  have ha243 : Apart u229.ownBlock vB.ownBlock := zW ho232.lt ho221.lt
  have ha244 : Apart u229.ownBlock u196.ownBlock := zW ho232.lt ho222.lt
  have ha245 : Apart u229.ownBlock (some b27) := yA ho232.lt hb223.lt
  have ha246 : Apart u229.ownBlock (some b35) := yA ho232.lt hb224.lt
  have ho247 : Own eInt 3 G230 w231 w.heap.size u229 (atL ((addM ([]) ([]) fs).1) ((fs.getD ((fs.length : Int) - 1).toNat default).r)) := ho232.weaken hX218.size
  refine ⟨fun _ => (Pins.of_le hX234.pins hx233.le), ?_⟩
  refine zN (i := 11) (by kernel_rfl) (zV (i := 11) rfl rfl rfl (zH rfl _) (zM (vs := [atB, u225]) Tryz.func106 nm106 rfl rfl rfl ?_))
  refine Calls.mono (xZ hX234.pins (Gadd.pins hX234.pins atB) ho235.read (hr226.mono (Pin.le_trans (Pin.le_trans (Pin.le_trans (Pin.le_trans (Pin.le_trans (Pin.le_trans (Pin.le_trans hle10 hle23) hx50.le) hle103) hlek127) hx164.le) hx181.le) hx233.le)) (by omega) hi4) ?_
  rintro _ w250 ⟨u248, G249, rfl, ho251, hx252⟩
  refine ⟨_, rfl, ?_⟩
  have hX253 := hX234.tr hx252
  have ho254 := ho235.ext hx252
  have ho255 := ho236.ext hx252
  have ho256 := ho237.ext hx252
  have ho257 := ho238.ext hx252
  have ho258 := ho247.ext hx252
  have hb259 := hb239.ext hx252
  have hb260 := hb240.ext hx252
  have ho268 : Own eInt 3 G249 w250 w.heap.size u248 (atL atsB ((gs.getD k5 default).r)) := ho251.weaken hX234.size
  refine ⟨fun _ => (Pins.of_le hX253.pins (Pin.le_trans hx233.le hx252.le)), ?_⟩
  refine zN (i := 12) (by kernel_rfl) (zV (i := 12) rfl rfl rfl (zH rfl _) (zY (E := eInt) (v := u229) (u := u248) 8 Tryz.underlying67 ap3 (by decide) rfl rfl hX253.pins ho258 ho268.src (by first | omega | (rw [List.nil_append]; omega) | (rw [List.length_nil]; omega) | (rw [List.length_append]; omega) | (simp; done) | (simp; omega) | (simp only [List.length_append, List.length_cons, List.length_nil]; omega)) (by first | omega | (rw [List.nil_append]; omega) | (rw [List.length_nil]; omega) | (rw [List.length_append]; omega) | (simp; done) | (simp; omega) | (simp only [List.length_append, List.length_cons, List.length_nil]; omega)) (hX253.size) (fun u269 w270 ho271 hp272 hg273 hw274 => ?_)))
  have hX275 := hX253.write hp272 hg273 ((yF ho258))
  have ho276 := ho254.keptA hg273 ha241.symm
  have ho277 := ho255.keptA hg273 ha242.symm
  have ho278 := ho256.keptA hg273 ha243.symm
  have ho279 := ho257.keptA hg273 ha244.symm
  have hb281 := hb259.keptA hg273 ha245.symm
  have hb282 := hb260.keptA hg273 ha246.symm
  have ha283 : Apart atB.ownBlock u269.ownBlock := zI ha241.symm hw274 ho254.lt
  have ha284 : Apart uB.ownBlock u269.ownBlock := zI ha242.symm hw274 ho255.lt
  have ha285 : Apart vB.ownBlock u269.ownBlock := zI ha243.symm hw274 ho256.lt
  have ha286 : Apart u196.ownBlock u269.ownBlock := zI ha244.symm hw274 ho257.lt
  have ha288 : Apart (some b27) u269.ownBlock := zR ha245.symm hw274 hb259.lt
  have ha289 : Apart (some b35) u269.ownBlock := zR ha246.symm hw274 hb260.lt
  have hm290 : ((atL ((addM ([]) ([]) fs).1) ((fs.getD ((fs.length : Int) - 1).toNat default).r)) ++ (atL atsB ((gs.getD k5 default).r))).length = (atL ((addM ([]) ([]) fs).1) ((fs.getD ((fs.length : Int) - 1).toNat default).r)).length + (atL atsB ((gs.getD k5 default).r)).length := List.length_append
  refine ⟨fun _ => (Pins.of_le hX275.pins (Pin.le_trans hx233.le hx252.le)), ?_⟩
  refine dT (i := 13) rfl rfl (by kernel_rfl) (fun _ _ => zD (v := u269) rfl) (Pins.of_le hX275.pins (Pin.le_trans hx233.le hx252.le)) ?_
  refine yS (by kernel_rfl) ?_
  refine zA (zG ?_)
  refine qD rfl (zB (v := atB) rfl) ?_
  refine qD rfl (zB (v := (.pointer (some ⟨b35, 0, none⟩))) rfl) ?_
  refine qD rfl (zB (v := u196) rfl) ?_
  refine qD rfl (zB (v := u269) rfl) ?_
  obtain ⟨G291, hle294, hX293, hr292, hf295⟩ := ho279.sealed hX275
  have ho296 := ho276.moreO hle294 hf295 ha209
  have ho297 := ho277.moreO hle294 hf295 ha210
  have ho298 := ho278.moreO hle294 hf295 ha211
  have ho299 := ho271.moreO hle294 hf295 ha286.symm
  have hb300 := hb281.moreO hf295 ha213
  have hb301 := hb282.moreO hf295 ha214
  obtain ⟨G302, hle305, hX304, hr303, hf306⟩ := ho299.sealed hX293
  have ho307 := ho296.moreO hle305 hf306 ha283
  have ho308 := ho297.moreO hle305 hf306 ha284
  have ho309 := ho298.moreO hle305 hf306 ha285
  have hb310 := hb300.moreO hf306 ha288
  have hb311 := hb301.moreO hf306 ha289
  refine qI rfl (zM (vs := [(.pointer (some ⟨b35, 0, none⟩)), u196, u269]) Tryz.func115 nm115 rfl rfl rfl ?_)
  refine Calls.mono (put_spec hX304.pins ⟨hb311, ho308, ho309, ha142.symm, ha144.symm, ha140⟩ hokb.ar.ok (hr292.mono hle305) hr303 ⟨by rw [List.length_append]; omega, by rw [List.length_append]; omega⟩ (qJ fun z hz => (List.mem_append.1 hz).elim (hof.1 z) (hol.1 z)) (qJ fun z hz => (List.mem_append.1 hz).elim (hof2.1 z) (hor.1 z))) ?_
  rintro _ w315 ⟨u312, v313, G314, rfl, hbk316, hx317, hlu318, hlv319⟩
  refine ⟨_, rfl, ?_⟩
  have hin322 : ∀ i, inS b35 uB vB i → w.heap.size ≤ i ∨ noS i := inS_lo (yW hlo44) hlo145 hlo146
  have hX323 := hX304.trans hx317 hin322
  have hn324 := notS (u := uB) (v := vB) ha139 ha136 ha137
  have ho325 := ho307.extS hx317 hn324
  have ha326 : Apart atB.ownBlock u312.ownBlock := ap_call hlu318 hn324 (own_lt ho307)
  have ha327 : Apart atB.ownBlock v313.ownBlock := ap_call hlv319 hn324 (own_lt ho307)
  have hn328 := notS (u := uB) (v := vB) ha43.symm ha141.symm ha143.symm
  have ho329 := hb310.extS hx317 (notSb hn328)
  have ha330 : Apart (some b27) u312.ownBlock := ap_call hlu318 hn328 (box_lt hb310)
  have ha331 : Apart (some b27) v313.ownBlock := ap_call hlv319 hn328 (box_lt hb310)
  have hb332 := hbk316.bx
  have ho333 := hbk316.ou
  have ho334 := hbk316.ov
  have ha335 := hbk316.abu
  have ha336 := hbk316.abv
  have ha337 := hbk316.auv
  have hlo338 := lo_call hlu318 hin322 hX304.size
  have hlo339 := lo_call hlv319 hin322 hX304.size
  refine qI rfl (xC (E := eInt) (e := 3) [(.int .i64 (putK nsB bsB ((atL ((addM ([]) ([]) fs).1) ((fs.getD ((fs.length : Int) - 1).toNat default).l)) ++ (atL atsB ((gs.getD k5 default).l))) ((atL ((addM ([]) ([]) fs).1) ((fs.getD ((fs.length : Int) - 1).toNat default).r)) ++ (atL atsB ((gs.getD k5 default).r)))))] [putK nsB bsB ((atL ((addM ([]) ([]) fs).1) ((fs.getD ((fs.length : Int) - 1).toNat default).l)) ++ (atL atsB ((gs.getD k5 default).l))) ((atL ((addM ([]) ([]) fs).1) ((fs.getD ((fs.length : Int) - 1).toNat default).r)) ++ (atL atsB ((gs.getD k5 default).r)))] Tryz.underlying67 sz3 zr3 (by exact xY (by rfl)) (yZ (by rfl)) rfl rfl rfl rfl (by decide) hX323.pins (fun u340 w341 ho342 hp343 hl344 hk345 => ?_))
  have hX346 := hX323.step hp343 hl344
  have ho347 := ho325.below hl344
  have ho348 := ho333.below hl344
  have ho349 := ho334.below hl344
  have hb350 := ho329.below hl344
  have hb351 := hb332.below hl344
  have ho357 : Own eInt 3 G314 w341 w.heap.size u340 ([putK nsB bsB ((atL ((addM ([]) ([]) fs).1) ((fs.getD ((fs.length : Int) - 1).toNat default).l)) ++ (atL atsB ((gs.getD k5 default).l))) ((atL ((addM ([]) ([]) fs).1) ((fs.getD ((fs.length : Int) - 1).toNat default).r)) ++ (atL atsB ((gs.getD k5 default).r)))]) := ho342.weaken hX323.size
  refine qI rfl (zY (E := eInt) (v := atB) (u := u340) 8 Tryz.underlying67 ap3 (by decide) rfl rfl hX346.pins ho347 ho357.src (by first | omega | (rw [List.nil_append]; omega) | (rw [List.length_nil]; omega) | (rw [List.length_append]; omega) | (simp; done) | (simp; omega) | (simp only [List.length_append, List.length_cons, List.length_nil]; omega)) (by first | omega | (rw [List.nil_append]; omega) | (rw [List.length_nil]; omega) | (rw [List.length_append]; omega) | (simp; done) | (simp; omega) | (simp only [List.length_append, List.length_cons, List.length_nil]; omega)) (hX346.size) (fun u358 w359 ho360 hp361 hg362 hw363 => ?_))
  have hX364 := hX346.write hp361 hg362 ((yF ho347))
  have ho365 := ho348.keptA hg362 ha326.symm
  have ho366 := ho349.keptA hg362 ha327.symm
  have hb368 := hb350.keptA hg362 ha138.symm
  have hb369 := hb351.keptA hg362 ha139.symm
  have ha370 : Apart u312.ownBlock u358.ownBlock := zI ha326.symm hw363 ho348.lt
  have ha371 : Apart v313.ownBlock u358.ownBlock := zI ha327.symm hw363 ho349.lt
  have ha373 : Apart (some b27) u358.ownBlock := zR ha138.symm hw363 hb350.lt
  have ha374 : Apart (some b35) u358.ownBlock := zR ha139.symm hw363 hb351.lt
  have hm375 : (atsB ++ ([putK nsB bsB ((atL ((addM ([]) ([]) fs).1) ((fs.getD ((fs.length : Int) - 1).toNat default).l)) ++ (atL atsB ((gs.getD k5 default).l))) ((atL ((addM ([]) ([]) fs).1) ((fs.getD ((fs.length : Int) - 1).toNat default).r)) ++ (atL atsB ((gs.getD k5 default).r)))])).length = atsB.length + 1 := List.length_append
  refine qD rfl (zD (v := u358) rfl) ?_
  refine qe ?_
  refine yJ ?_
  refine zA (zG ?_)
  refine qD rfl (zB (v := (.int .i64 (k5 : Int))) rfl) ?_
  refine qD rfl (yV rfl rfl (by omega)) ?_
  refine qD rfl (zD (v := (.int .i64 ((k5 : Int) + 1))) rfl) ?_
  refine qe ?_
  refine yI ?_
  refine ⟨_, ?_, _, rfl, _, k5 + 1, u358, atsB ++ ([putK nsB bsB ((atL ((addM ([]) ([]) fs).1) ((fs.getD ((fs.length : Int) - 1).toNat default).l)) ++ (atL atsB ((gs.getD k5 default).l))) ((atL ((addM ([]) ([]) fs).1) ((fs.getD ((fs.length : Int) - 1).toNat default).r)) ++ (atL atsB ((gs.getD k5 default).r)))]), u312, v313, putN nsB bsB ((atL ((addM ([]) ([]) fs).1) ((fs.getD ((fs.length : Int) - 1).toNat default).l)) ++ (atL atsB ((gs.getD k5 default).l))) ((atL ((addM ([]) ([]) fs).1) ((fs.getD ((fs.length : Int) - 1).toNat default).r)) ++ (atL atsB ((gs.getD k5 default).r))), putB nsB bsB ((atL ((addM ([]) ([]) fs).1) ((fs.getD ((fs.length : Int) - 1).toNat default).l)) ++ (atL atsB ((gs.getD k5 default).l))) ((atL ((addM ([]) ([]) fs).1) ((fs.getD ((fs.length : Int) - 1).toNat default).r)) ++ (atL atsB ((gs.getD k5 default).r))), G314, (zC (x := 9) (zC (x := 8) (zC (x := 7) (zC (x := 6) (zC (x := 5) (zC (x := 4) (zU (x := 3) rfl) rfl) rfl) rfl) rfl) rfl) rfl), rfl, hX364, (Pin.le_trans (Pin.le_trans (Pin.le_trans (Pin.le_trans (Pin.le_trans (Pin.le_trans (Pin.le_trans hlek127 hx164.le) hx181.le) hx233.le) hx252.le) hle294) hle305) hx317.le), (by omega), hpt.ok, (hat0.px hpt.px hokb hpt.ok), (hnk.snoc hpt.px hokb hpt.ok hpt.pl (hpt.pd.trans (by rw [List.map_append, List.map_append, hof.2, hof2.2, hol.2, hor.2]; unfold gOf; rw [← hfi]; exact (ord_den hf.opts hg.opts (i := ((fs.length : Int) - 1).toNat) (k := k5) (by omega) (by omega))))), (by have := hpt.len; omega), ho360, ho365, ho366, hb368, hb369, ha370.symm, ha371.symm, ha373.symm, ha374.symm, ha337, ha330.symm, ha335.symm, ha331.symm, ha336.symm, hlo338, hlo339⟩
  omega
 refine wp_exit ?_
 refine yC ?_
 refine yM ?_
 refine yK ?_
 refine zA (zF (zG ?_))
 have hkn : k5 = gs.length := by omega
 have hrt := hnk.at_ (i := gs.length - 1) (by omega)
 rw [show gs.length - 1 = ((atsB.length : Int) - 1).toNat by omega] at hrt
 have hgo : ordG (gOf fs) (den gs ((atsB.length : Int) - 1).toNat) = ordG (gOf fs) (gOf gs) := by rw [show ((atsB.length : Int) - 1).toNat = gs.length - 1 by omega]; rfl
 rw [hgo] at hrt
 refine qD rfl (zB (v := (.pointer (some ⟨b35, 0, none⟩))) rfl) ?_
 refine qD rfl (zB (v := atB) rfl) ?_
 refine qD rfl (zB (v := atB) rfl) ?_
 refine qD rfl (zO Tryz.underlying67 (v := atB) rfl hw131.read) ?_
 refine qD rfl (qZ rfl rfl (by omega)) ?_
 refine qD rfl (zL Tryz.underlying67 sz3 (v := atB) rfl rfl hw131.read (by omega) (by omega)) ?_
 refine qD rfl (zK (r := atsB.getD ((atsB.length : Int) - 1).toNat 0) rfl ag3 (z := ((atsB.length : Int) - 1)) rfl hw131.read (Gadd.pins hX130.pins atB) (by omega) (by omega)) ?_
 refine qI rfl (zM (vs := [(.pointer (some ⟨b35, 0, none⟩)), (.int .i64 (atsB.getD ((atsB.length : Int) - 1).toNat 0))]) Tryz.func91 nm91 rfl rfl rfl ?_)
 refine Calls.mono (form_spec hX130.pins ⟨hw135, hw132, hw133, ha142.symm, ha144.symm, ha140⟩ hokb.ar.ok hrt.1) ?_
 rintro _ w378 ⟨u376, G377, rfl, hr379, hx380⟩
 refine ⟨_, rfl, ?_⟩
 have hX381 := hX130.tr hx380
 have hb385 := hw134.ext hx380
 refine q0 rfl rfl rfl (xD (cs' := [u376]) (us := [u376]) (v := (.agg [u376].toArray)) sz32 rfl rfl rfl (yZ hr379.one) hX381.pins hb385 (Nat.le_of_ble_eq_true rfl) rfl (fun w387 hb388 hp389 hg390 hz391 => ?_))
 have hX392 := hX381.write hp389 hg390 ((yW hlo34))
 refine qe (zA ?_)
 refine wp_ret ?_
 refine zX ?_
 refine c_retc (cs := [u376]) rfl rfl rfl ag32 sz32 (fun j u hj => by rw [Nat.zero_add]; exact hb388.cell hj) ?_
 exact ⟨_, _, rfl, (by rw [← hrt.2, ← book_form hokb hrt.1]; exact hr379), hX392⟩

theorem qQ {w : World} {G : Pin} {u v : Value} {fs gs : List Nd} (hP : Pins G w) (hu : RSl eNode G u fs) (hv : RSl eNode G v gs) :
  Calls Tryz.prog 38 [(.agg [u].toArray), (.agg [v].toArray)].toArray w fun e w' => ∃ (u : Value) (G' : Pin), e = .returned (.tuple #[(.agg [u].toArray), .bool (ordB fs gs)]) ∧ RSl eNode G' u (ordF fs gs) ∧ Ext noS G w G' w' := by
 refine yB (n := 17) Tryz.func38 Tryz.ntmps38 rfl rfl ?_
 have hX0 : Ext noS G w G w := Ext.refl hP
 refine zF (zG ?_)
 refine qI rfl (xP [u] (v := (.agg [u].toArray)) rfl rfl hX0.pins (fun b1 w2 hk3 hb4 hp5 hl6 => ?_))
 have hX7 := hX0.step hp5 hl6
 have hlo8 : w.heap.size ≤ b1 := by have := hX0.size; omega
 obtain ⟨G9, hle10, hX11, hbp12, hf13⟩ := hb4.shut hX7 hlo8
 refine qI rfl (xP [v] (v := (.agg [v].toArray)) rfl rfl hX11.pins (fun b14 w15 hk16 hb17 hp18 hl19 => ?_))
 have hX20 := hX11.step hp18 hl19
 have hlo21 : w.heap.size ≤ b14 := by have := hX11.size; omega
 obtain ⟨G22, hle23, hX24, hbp25, hf26⟩ := hb17.shut hX20 hlo21
 refine qI rfl (yY [(.slice none 0 0)] zr32 rfl hX24.pins (fun b27 w28 hk29 hb30 hp31 hl32 => ?_))
 have hX33 := hX24.step hp31 hl32
 have hlo34 : w.heap.size ≤ b27 := by have := hX24.size; omega
 refine qD rfl (zD (v := (.bool false)) rfl) ?_
 refine qe (zA (zF (zF (zG ?_))))
 refine qD rfl (yX (cs := [u]) ag32 sz32 rfl (fun j u hj => (Pins.of_le hX33.pins hle23) _ _ _ (hbp12 _ _ (by simpa using hj)))) ?_
 refine qD rfl (yX (cs := [v]) ag32 sz32 rfl (fun j u hj => hX33.pins _ _ _ (hbp25 _ _ (by simpa using hj)))) ?_
 refine qI rfl (zM (vs := [(.agg [u].toArray), (.agg [v].toArray)]) Tryz.func79 nm79 rfl rfl rfl ?_)
 refine Calls.mono (l5Pair_spec hX33.pins (hu.mono (Pin.le_trans hle10 hle23)) (hv.mono (Pin.le_trans hle10 hle23))) ?_
 rintro _ w36 ⟨G35, rfl, hx37⟩
 refine ⟨_, rfl, ?_⟩
 have hX38 := hX33.tr hx37
 have hb39 := hb30.ext hx37
 refine qD rfl (qG rfl) ?_
 refine qe (zA ?_)
 refine c_ifn rfl rfl (fun h40 => ?_) (fun h40 => ?_)
 ·skip
  refine wp_skip ?_
  refine zA (zF (zG ?_))
  have hpp := pair_iff.1 h40
  have hga := hpp.a
  have hgb := hpp.b
  have hle := hpp.le
  have hla := hga.lo
  have hlb := hgb.lo
  have hha := hga.hi
  have hhb := hgb.hi
  refine qD rfl (yX (cs := [u]) ag32 sz32 rfl (fun j u hj => (Pins.of_le hX38.pins (Pin.le_trans hle23 hx37.le)) _ _ _ (hbp12 _ _ (by simpa using hj)))) ?_
  refine qD rfl (yX (cs := [v]) ag32 sz32 rfl (fun j u hj => (Pins.of_le hX38.pins hx37.le) _ _ _ (hbp25 _ _ (by simpa using hj)))) ?_
  refine qI rfl (zM (vs := [(.agg [u].toArray), (.agg [v].toArray)]) Tryz.func80 nm80 rfl rfl rfl ?_)
  refine Calls.mono (l5Ordinal_spec hX38.pins (hu.mono (Pin.le_trans (Pin.le_trans hle10 hle23) hx37.le)) (hv.mono (Pin.le_trans (Pin.le_trans hle10 hle23) hx37.le)) (good_form hga) (good_form hgb) ⟨by omega, by omega⟩ (by omega) (good_lensK hga) (good_lensK hgb)) ?_
  rintro _ w43 ⟨u41, G42, rfl, hr44, hx45⟩
  refine ⟨_, rfl, ?_⟩
  have hX46 := hX38.tr hx45
  have hb47 := hb39.ext hx45
  refine qI rfl (zM (vs := [(.agg [u41].toArray)]) Tryz.func65 nm65 rfl rfl rfl ?_)
  refine Calls.mono (l3If_spec hX46.pins hr44) ?_
  rintro _ w50 ⟨u48, G49, rfl, hr51, hx52⟩
  refine ⟨_, rfl, ?_⟩
  have hX53 := hX46.tr hx52
  have hb54 := hb47.ext hx52
  refine qD rfl (xA (v := (.agg [u48].toArray)) rfl rfl) ?_
  refine qD rfl (xA (v := (.bool (decP (FitsP (formG (ordG (gOf fs) (gOf gs))))))) rfl rfl) ?_
  refine q0 rfl rfl rfl (xD (cs' := [u48]) (us := [u48]) (v := (.agg [u48].toArray)) sz32 rfl rfl rfl (yZ hr51.one) hX53.pins hb54 (Nat.le_of_ble_eq_true rfl) rfl (fun w55 hb56 hp57 hg58 hz59 => ?_))
  have hX60 := hX53.write hp57 hg58 ((yW hlo34))
  refine qD rfl (zD (v := (.bool (decP (FitsP (formG (ordG (gOf fs) (gOf gs))))))) rfl) ?_
  refine qe (zA ?_)
  refine wp_ret ?_
  refine zX ?_
  refine c_retct (cs := [u48]) (v := (.bool (decP (FitsP (formG (ordG (gOf fs) (gOf gs))))))) rfl rfl rfl rfl rfl ag32 sz32 (fun j u hj => by rw [Nat.zero_add]; exact hb56.cell hj) ?_
  obtain ⟨e1, e2⟩ := ord_yes (pair_iff.2 hpp)
  rw [e1, e2]
  exact ⟨_, _, rfl, hr51, hX60⟩
 refine zF (zG ?_)
 refine qD rfl (xU [(.slice none 0 0)] [(.slice none 0 0)] [] Tryz.underlying32 zr32 rfl pl32 rfl (fun _ h => by cases h) rfl) ?_
 refine q0 rfl rfl rfl (xD (cs' := [(.slice none 0 0)]) (us := [(.slice none 0 0)]) (v := (.agg [(.slice none 0 0)].toArray)) sz32 rfl rfl rfl (yZ (by rfl)) hX38.pins hb39 (Nat.le_of_ble_eq_true rfl) rfl (fun w61 hb62 hp63 hg64 hz65 => ?_))
 have hX66 := hX38.write hp63 hg64 ((yW hlo34))
 refine qD rfl (zD (v := (.bool false)) rfl) ?_
 refine qe (zA ?_)
 refine wp_ret ?_
 refine zX ?_
 refine c_retct (cs := [(.slice none 0 0)]) (v := (.bool false)) rfl rfl rfl rfl rfl ag32 sz32 (fun j u hj => by rw [Nat.zero_add]; exact hb62.cell hj) ?_
 obtain ⟨e1, e2⟩ := ord_no (h40)
 rw [e1, e2]
 exact ⟨_, _, rfl, (nil_reads _ _), hX66⟩

theorem ordinal_spec {w : World} {G : Pin} {p : Nat} {L R B : Value} {mm : PM} {q : PSt} (hP : Pins G w) (hpk : Pk 67 3 G w p L R B mm q) (hok : PoolOk q) {x : Value} {ats : List Int} {fa : Int} {gs : List Nd} (hx : RSl eInt G x ats) (hfa : PlaceOk q fa) (hat : NkOk q ats gs.length (den gs)) (hgo : OptsOk gs) (h1 : 1 ≤ gs.length) (hl : q.ns.length + gs.length ≤ 524288) :
  Calls Tryz.prog 82 [(.pointer (some ⟨p, 0, none⟩)), (.int .i64 fa), x].toArray w fun e w' => ∃ (z : Int) (L' R' B' : Value) (q' : PSt) (G' : Pin), e = .returned (.int .i64 z) ∧ Pk 67 3 G' w' p L' R' B' mm q' ∧ PoolOk q' ∧ PX q q' ∧ PLo w p L R B mm L' R' B' ∧ Ext (inP p L R B mm) G w G' w' ∧ PlaceOk q' z ∧ pd q' z = ordG (pd q fa) (gOf gs) ∧ q'.ns.length ≤ q.ns.length + gs.length := by
 refine yB (n := 90) Tryz.func82 Tryz.ntmps82 rfl rfl ?_
 have hX0 : Ext (inP p L R B mm) G w G w := Ext.refl hP
 have hpin : PIn w (inP p L R B mm) p L R B mm := PIn.self
 have hml1 : (q.ns.map Nd.l).length = q.ns.length ∧ (q.ns.map Nd.r).length = q.ns.length := ⟨List.length_map .., List.length_map ..⟩
 have hml2 : q.bs.length = q.ns.length ∧ q.ns.length ≤ 1048576 := ⟨hok.ar.ok.len, hok.ar.ok.lim⟩
 have hm := hx.max
 have hatn := hat.len
 have hfa0 := hfa.1
 have hfa1 := hfa.2
 refine zF (zG ?_)
 refine qD rfl (zD (v := (.int .i64 0)) rfl) ?_
 refine qe (zA (zF (zG ?_)))
 refine qI rfl (jA (fun k : Int => Value.int .i64 k) (fun v : Int => Value.int .i64 v) hX0.pins (fun m3 w4 hk5 hm6 hp7 hl8 => ?_))
 have hX9 := hX0.step hp7 hl8
 have hpk10 := hpk.below hl8 hp7
 have hnp11 := hpk.new (x := some m3) (fun k hk => by cases hk; omega)
 have hlo12 : w.heap.size ≤ m3 := by have := hX0.size; omega
 refine qD rfl (zD (v := (.map (some m3))) rfl) ?_
 refine qe (zA (zF (zG ?_)))
 refine qD rfl (zB (v := (.int .i64 fa)) rfl) ?_
 refine qD rfl (zD (v := (.int .i64 fa)) rfl) ?_
 refine qe (zA (zF (zF (zG ?_))))
 refine qD rfl (zB (v := x) rfl) ?_
 refine qD rfl (zO Tryz.underlying67 (v := x) rfl hx) ?_
 refine qD rfl (zB (v := (.int .i64 0)) rfl) ?_
 refine qe (zA ?_)
 refine zZ ?_
 refine yT (fun (k : Nat) (en : Nat → Value) (W : World) => ∃ (env1 : Nat → Value) (k1 : Nat) (az : Int) (sm : List (Int × Int)) (L13 : Value) (R14 : Value) (B15 : Value) (q16 : PSt) (GL1 : Pin), en = (upd (upd (upd (upd (upd (upd (upd (upd env1 0 (.pointer (some ⟨p, 0, none⟩))) 1 (.int .i64 fa)) 6 (.int .i64 0)) 7 (.map (some m3))) 8 (.int .i64 az)) 19 x) 20 (.int .i64 (ats.length : Int))) 21 (.int .i64 (k1 : Int))) ∧ k = ats.length - k1 ∧ Ext (inP p L R B mm) G w GL1 W ∧ Pin.le G GL1 ∧ (k1 ≤ ats.length) ∧ (NkOk q16 ats gs.length (den gs)) ∧ (OmOk q16 sm ats k1 (pd q fa) gs) ∧ (1 ≤ k1 → PlaceOk q16 az ∧ pd q16 az = ordG (pd q fa) (den gs (k1 - 1))) ∧ (q16.ns.length ≤ q.ns.length + k1) ∧ (Mp (fun k : Int => Value.int .i64 k) (fun v : Int => Value.int .i64 v) W m3 (sm)) ∧ (Pk 67 3 GL1 W p L13 R14 B15 mm q16) ∧ (PIn w ((inP p L R B mm)) p L13 R14 B15 mm) ∧ (PoolOk q16) ∧ (PX q q16) ∧ (NP p L13 R14 B15 mm (some m3))) _ ⟨_, 0, fa, [], L, R, B, q, G, (zC (x := 21) (zC (x := 20) (zC (x := 19) (zC (x := 8) (zC (x := 7) (zC (x := 6) (zC (x := 1) (zU (x := 0) rfl) rfl) rfl) rfl) rfl) rfl) rfl) rfl), rfl, hX9, Pin.le_refl _, Nat.zero_le _, hat, OmOk.start, (fun h => absurd h (by omega)), Nat.le_refl _, hm6, hpk10, hpin, hok, (PX.refl _), hnp11⟩ ?_
 rintro k17 _ w18 ⟨env1, k1, az, sm, L13, R14, B15, q16, GL1, rfl, hk19, hX20, hlek17, hk1, hatl, homl, haz, hnq, hm21, hpk22, hpin23, hok24, hpx25, hnp26⟩
 have hql27 := hpx25.len
 have hml28 : (q16.ns.map Nd.l).length = q16.ns.length ∧ (q16.ns.map Nd.r).length = q16.ns.length := ⟨List.length_map .., List.length_map ..⟩
 have hml29 : q16.bs.length = q16.ns.length ∧ q16.ns.length ≤ 1048576 := ⟨hok24.ar.ok.len, hok24.ar.ok.lim⟩
 refine zF (zG ?_)
 refine qD rfl (yQ rfl rfl) ?_
 refine qe (zA (zF ?_))
 refine yG (p := ((k1 : Int) : Int) < (ats.length : Int)) rfl rfl (fun h30 => ?_) (fun h30 => ?_)
 ·skip
  refine wp_skip ?_
  refine zA (zF ?_)
  refine zZ ?_
  refine zF (zG ?_)
  have hZ := hatl.at_ (i := k1) (by omega)
  have hZ0 := hZ.1.1
  have hZ1 := hZ.1.2
  have hfl := hpx25.place hfa
  have hf0 := hfl.1
  have hf1 := hfl.2
  have hpf : pd q16 fa = pd q fa := hpx25.pd hok hok24 hfa
  have hlZ := len_half hok24 hZ.1
  have hlf := len_half hok24 hfl
  refine qD rfl (zL Tryz.underlying67 sz3 (v := x) rfl rfl hx (by omega) (by omega)) ?_
  refine qD rfl (zK (r := ats.getD k1 0) rfl ag3 (z := (k1 : Int)) rfl hx (Pins.of_le hX20.pins hlek17) (by omega) (by omega)) ?_
  refine qD rfl (zD (v := (.int .i64 (ats.getD k1 0))) rfl) ?_
  refine qe (zA (zF ?_))
  have hq31 := Gadd.pins hX20.pins L13
  have hq32 := Gadd.pins hX20.pins R14
  have hr33 := hpk22.ol.read
  have hr34 := hpk22.rr.read
  refine xF (S := fun wz => BxR wz p [L13, R14, B15, (.map (some mm.f)), (.map (some mm.o)), (.map (some mm.c)), (.map (some mm.s)), (.map (some mm.n))] ∧ Pins (Gadd GL1 w18 L13) wz ∧ Pins (Gadd GL1 w18 R14) wz) (last := 20) (by kernel_rfl) rfl ?_
  have hl35 : Below w18.heap.size w18 w18.drew := (Below.refl _ _).drew
  have hp36 := hX20.pins.below hl35
  have hX37 := hX20.step hp36 hl35
  have hm38 := hm21.below hl35
  have hpk39 := hpk22.below hl35 hp36
  have hq40 := hq31.below hl35
  have hq41 := hq32.below hl35
  refine dT (i := 1) rfl rfl (by kernel_rfl) (fun _ _ => zB (v := (.pointer (some ⟨p, 0, none⟩))) rfl) ⟨hpk39.bx.reads, hq40, hq41⟩ ?_
  refine dT (i := 2) rfl rfl (by kernel_rfl) (fun _ _ => xK rfl) ⟨hpk39.bx.reads, hq40, hq41⟩ ?_
  refine dT (i := 3) rfl rfl (by kernel_rfl) (fun _ _ => zP (k := 0) rfl Tryz.underlying74 rfl nz68 rfl) ⟨hpk39.bx.reads, hq40, hq41⟩ ?_
  refine dT (i := 4) rfl rfl (by kernel_rfl) (fun _ hS => zS (u := L13) ag68 rfl (hS.1 0 _ rfl)) ⟨hpk39.bx.reads, hq40, hq41⟩ ?_
  refine dT (i := 5) rfl rfl (by kernel_rfl) (fun _ _ => zB (v := (.int .i64 fa)) rfl) ⟨hpk39.bx.reads, hq40, hq41⟩ ?_
  refine dT (i := 6) rfl rfl (by kernel_rfl) (fun _ _ => zL Tryz.underlying68 sz67 (v := L13) rfl rfl hr33 (by omega) (by omega)) ⟨hpk39.bx.reads, hq40, hq41⟩ ?_
  obtain ⟨u42, hr43, hl44⟩ := nm_sl (hpk22.ol.at (z := fa) (by omega) (by omega)) (j := (fa).toNat) rfl
  rw [mapl_getD] at hr43
  have hm45 := hr43.max
  refine dT (i := 7) rfl rfl (by kernel_rfl) (fun _ hS => hl44 ag67 rfl hS.2.1) ⟨hpk39.bx.reads, hq40, hq41⟩ ?_
  refine dT (i := 10) rfl rfl (by kernel_rfl) (fun _ _ => zB (v := (.pointer (some ⟨p, 0, none⟩))) rfl) ⟨hpk39.bx.reads, hq40, hq41⟩ ?_
  refine dT (i := 11) rfl rfl (by kernel_rfl) (fun _ _ => xK rfl) ⟨hpk39.bx.reads, hq40, hq41⟩ ?_
  refine dT (i := 12) rfl rfl (by kernel_rfl) (fun _ _ => zP (k := 1) rfl Tryz.underlying74 rfl nz68 rfl) ⟨hpk39.bx.reads, hq40, hq41⟩ ?_
  refine dT (i := 13) rfl rfl (by kernel_rfl) (fun _ hS => zS (u := R14) ag68 rfl (hS.1 1 _ rfl)) ⟨hpk39.bx.reads, hq40, hq41⟩ ?_
  refine dT (i := 14) rfl rfl (by kernel_rfl) (fun _ _ => zB (v := (.int .i64 fa)) rfl) ⟨hpk39.bx.reads, hq40, hq41⟩ ?_
  refine dT (i := 15) rfl rfl (by kernel_rfl) (fun _ _ => zL Tryz.underlying68 sz67 (v := R14) rfl rfl hr34 (by omega) (by omega)) ⟨hpk39.bx.reads, hq40, hq41⟩ ?_
  obtain ⟨u46, hr47, hl48⟩ := nm_sl (hpk22.rr.at (z := fa) (by omega) (by omega)) (j := (fa).toNat) rfl
  rw [mapr_getD] at hr47
  have hm49 := hr47.max
  refine dT (i := 16) rfl rfl (by kernel_rfl) (fun _ hS => hl48 ag67 rfl hS.2.2) ⟨hpk39.bx.reads, hq40, hq41⟩ ?_
  refine qE (i := 0) (j := 9) (by kernel_rfl) ?_ ?_
  ·skip
   refine (zV (i := 0) rfl rfl rfl (zH rfl _) (xG (E := eInt) (e := 3) Tryz.underlying67 sz3 hX37.pins (fun u50 w51 ho52 hp53 hl54 hk55 => ?_)))
   have hX56 := hX37.step hp53 hl54
   have hm57 := hm38.below hl54
   have hpk58 := hpk39.below hl54 hp53
   have ha63 := hpk39.new (x := u50.ownBlock) (fun k hk => by rw [hk55] at hk; cases hk; exact Nat.le_refl _)
   have ho64 : Own eInt 3 GL1 w51 w.heap.size u50 ([]) := ho52.weaken hX37.size
   have hq65 := hq40.below hl54
   have hq66 := hq41.below hl54
   refine ⟨fun _ => ⟨hpk58.bx.reads, hq65, hq66⟩, ?_⟩
   refine qE (i := 8) (j := 9) (by kernel_rfl) ?_ ?_
   ·skip
    refine (zV (i := 8) rfl rfl rfl (zH rfl _) (zY (E := eInt) (v := u50) (u := u42) 8 Tryz.underlying67 ap3 (by decide) rfl rfl hX56.pins ho64 ((hr43.mono (Pin.le_refl _)).src hX56.pins (by decide)) (by first | omega | (rw [List.nil_append]; omega) | (rw [List.length_nil]; omega) | (rw [List.length_append]; omega) | (simp; done) | (simp; omega) | (simp only [List.length_append, List.length_cons, List.length_nil]; omega)) (by first | omega | (rw [List.nil_append]; omega) | (rw [List.length_nil]; omega) | (rw [List.length_append]; omega) | (simp; done) | (simp; omega) | (simp only [List.length_append, List.length_cons, List.length_nil]; omega)) (hX56.size) (fun u67 w68 ho69 hp70 hg71 hw72 => ?_)))
    have hX73 := hX56.write hp70 hg71 ((yF ho64))
    have hm74 := hm57.kept hg71 (yD hm57 ho64)
    have hpk75 := hpk58.kept hg71 hp70 ha63
    have hnp76 := qF ha63 hpk58 hw72
    have hm77 : (([]) ++ ((q16.ns.getD (fa).toNat default).l)).length = ([]).length + ((q16.ns.getD (fa).toNat default).l).length := List.length_append
    have hq78 := Gadd.turn hq65 (Pins.of_le hX73.pins (Pin.le_refl _)) (Ext.one hp70 hg71) (notO (NP.hl ha63).symm)
    have hq79 := Gadd.turn hq66 (Pins.of_le hX73.pins (Pin.le_refl _)) (Ext.one hp70 hg71) (notO (NP.hr ha63).symm)
    refine ⟨fun _ => ⟨hpk75.bx.reads, hq78, hq79⟩, ?_⟩
    refine zN (i := 9) (by kernel_rfl) (zV (i := 9) rfl rfl rfl (zH rfl _) (xG (E := eInt) (e := 3) Tryz.underlying67 sz3 hX73.pins (fun u80 w81 ho82 hp83 hl84 hk85 => ?_)))
    have hX86 := hX73.step hp83 hl84
    have ho87 := ho69.below hl84
    have hm88 := hm74.below hl84
    have hpk89 := hpk75.below hl84 hp83
    have ha93 : Apart u80.ownBlock u67.ownBlock := zJ hk85 ho69.lt
    have ha95 := hpk75.new (x := u80.ownBlock) (fun k hk => by rw [hk85] at hk; cases hk; exact Nat.le_refl _)
    have ho96 : Own eInt 3 GL1 w81 w.heap.size u80 ([]) := ho82.weaken hX73.size
    have hq97 := hq78.below hl84
    have hq98 := hq79.below hl84
    refine ⟨fun _ => ⟨hpk89.bx.reads, hq97, hq98⟩, ?_⟩
    refine zN (i := 17) (by kernel_rfl) (zV (i := 17) rfl rfl rfl (zH rfl _) (zY (E := eInt) (v := u80) (u := u46) 8 Tryz.underlying67 ap3 (by decide) rfl rfl hX86.pins ho96 ((hr47.mono (Pin.le_refl _)).src hX86.pins (by decide)) (by first | omega | (rw [List.nil_append]; omega) | (rw [List.length_nil]; omega) | (rw [List.length_append]; omega) | (simp; done) | (simp; omega) | (simp only [List.length_append, List.length_cons, List.length_nil]; omega)) (by first | omega | (rw [List.nil_append]; omega) | (rw [List.length_nil]; omega) | (rw [List.length_append]; omega) | (simp; done) | (simp; omega) | (simp only [List.length_append, List.length_cons, List.length_nil]; omega)) (hX86.size) (fun u99 w100 ho101 hp102 hg103 hw104 => ?_)))
    have hX105 := hX86.write hp102 hg103 ((yF ho96))
    have ho106 := ho87.keptA hg103 ha93.symm
    have hm107 := hm88.kept hg103 (yD hm88 ho96)
    have hpk108 := hpk89.kept hg103 hp102 ha95
    have ha109 : Apart u67.ownBlock u99.ownBlock := zI ha93.symm hw104 ho87.lt
    have hnp110 := qF ha95 hpk89 hw104
    have hm111 : (([]) ++ ((q16.ns.getD (fa).toNat default).r)).length = ([]).length + ((q16.ns.getD (fa).toNat default).r).length := List.length_append
    have hq112 := Gadd.turn hq97 (Pins.of_le hX105.pins (Pin.le_refl _)) (Ext.one hp102 hg103) (notO (NP.hl ha95).symm)
    have hq113 := Gadd.turn hq98 (Pins.of_le hX105.pins (Pin.le_refl _)) (Ext.one hp102 hg103) (notO (NP.hr ha95).symm)
    refine ⟨fun _ => ⟨hpk108.bx.reads, hq112, hq113⟩, ?_⟩
    refine dT (i := 18) rfl rfl (by kernel_rfl) (fun _ _ => zD (v := u67) rfl) ⟨hpk108.bx.reads, hq112, hq113⟩ ?_
    refine dT (i := 19) rfl rfl (by kernel_rfl) (fun _ _ => zD (v := u99) rfl) ⟨hpk108.bx.reads, hq112, hq113⟩ ?_
    refine yS (by kernel_rfl) ?_
    refine zA (zF (zF (zG ?_)))
    refine qD rfl (zB (v := (.pointer (some ⟨p, 0, none⟩))) rfl) ?_
    refine qD rfl (xK rfl) ?_
    refine qD rfl (zP (k := 0) rfl Tryz.underlying74 rfl nz68 rfl) ?_
    refine qD rfl (zS (u := L13) ag68 rfl (hpk108.bx.cell (o := 0) rfl)) ?_
    refine qD rfl (zB (v := (.int .i64 (ats.getD k1 0))) rfl) ?_
    refine qD rfl (zL Tryz.underlying68 sz67 (v := L13) rfl rfl hpk108.ol.read (by omega) (by omega)) ?_
    obtain ⟨u114, hr115, hl116⟩ := nm_sl (hpk108.ol.at (z := (ats.getD k1 0)) (by omega) (by omega)) (j := (ats.getD k1 0).toNat) rfl
    rw [mapl_getD] at hr115
    have hm117 := hr115.max
    refine qD rfl (hl116 ag67 rfl (Gadd.pins hX105.pins L13)) ?_
    refine qD rfl (zO Tryz.underlying67 (v := u114) rfl hr115) ?_
    refine qD rfl (zB (v := (.int .i64 0)) rfl) ?_
    refine qe (zA ?_)
    refine zZ ?_
    refine yT (fun (k : Nat) (en : Nat → Value) (W : World) => ∃ (env1 : Nat → Value) (j2 : Nat) (lv2 : Value) (ls2 : List Int) (GL2 : Pin), en = (upd (upd (upd (upd (upd (upd (upd (upd (upd (upd (upd (upd (upd (upd env1 0 (.pointer (some ⟨p, 0, none⟩))) 1 (.int .i64 fa)) 6 (.int .i64 0)) 7 (.map (some m3))) 8 (.int .i64 az)) 10 (.int .i64 (ats.getD k1 0))) 11 lv2) 12 u99) 19 x) 20 (.int .i64 (ats.length : Int))) 21 (.int .i64 (k1 : Int))) 49 u114) 50 (.int .i64 (((q16.ns.getD (ats.getD k1 0).toNat default).l).length : Int))) 51 (.int .i64 (j2 : Int))) ∧ k = (q16.ns.getD ((ats.getD k1 0)).toNat default).l.length - j2 ∧ Ext (inP p L R B mm) G w GL2 W ∧ Pin.le GL1 GL2 ∧ (j2 ≤ (q16.ns.getD ((ats.getD k1 0)).toNat default).l.length) ∧ (GsOk q16 ls2 (((q16.ns.getD (fa).toNat default).l.map (pd q16)) ++ ((q16.ns.getD ((ats.getD k1 0)).toNat default).l.take j2).map (fun o => ordG (pd q fa) (pd q16 o)))) ∧ (Own eInt 3 GL2 W w.heap.size lv2 (ls2)) ∧ (Own eInt 3 GL2 W w.heap.size u99 (([]) ++ ((q16.ns.getD (fa).toNat default).r))) ∧ (Apart lv2.ownBlock u99.ownBlock) ∧ (Mp (fun k : Int => Value.int .i64 k) (fun v : Int => Value.int .i64 v) W m3 (sm)) ∧ (Pk 67 3 GL2 W p L13 R14 B15 mm q16) ∧ (NP p L13 R14 B15 mm lv2.ownBlock)) _ ⟨_, 0, u67, ([]) ++ ((q16.ns.getD (fa).toNat default).l), GL1, (zC (x := 51) (zC (x := 50) (zC (x := 49) (zC (x := 21) (zC (x := 20) (zC (x := 19) (zC (x := 12) (zC (x := 11) (zC (x := 10) (zC (x := 8) (zC (x := 7) (zC (x := 6) (zC (x := 1) (zU (x := 0) rfl) rfl) rfl) rfl) rfl) rfl) rfl) rfl) rfl) rfl) rfl) rfl) rfl) rfl), rfl, hX105, Pin.le_refl _, Nat.zero_le _, (by rw [List.take_zero, List.map_nil, List.append_nil]; exact ⟨fun z hz => (qX hok24 hfl).1 z (by simpa using hz), by simp⟩), ho106, ho101, ha109, hm107, hpk108, hnp76⟩ ?_
    rintro k122 _ w123 ⟨env1, j2, lv2, ls2, GL2, rfl, hk124, hX125, hlek122, hkj2, hg2, hw126, hw127, ha128, hm129, hpk130, hnp131⟩
    have hgl2 := hg2.lenj hkj2
    rw [List.length_map] at hgl2
    refine zF (zG ?_)
    refine qD rfl (yQ rfl rfl) ?_
    refine qe (zA (zF ?_))
    refine yG (p := ((j2 : Int) : Int) < (((q16.ns.getD (ats.getD k1 0).toNat default).l).length : Int)) rfl rfl (fun h132 => ?_) (fun h132 => ?_)
    ·skip
     have hmj : (q16.ns.getD ((ats.getD k1 0)).toNat default).l.getD j2 0 ∈ (q16.ns.getD ((ats.getD k1 0)).toNat default).l := yR (show j2 < (q16.ns.getD ((ats.getD k1 0)).toNat default).l.length by omega)
     have hol := homl.opt hok24 hgo rfl hatl (show k1 < gs.length by omega) (Or.inl hmj)
     refine wp_skip ?_
     refine zA (zF ?_)
     refine zZ ?_
     refine zF (zG ?_)
     refine qD rfl (zL Tryz.underlying67 sz3 (v := u114) rfl rfl hr115 (by omega) (by omega)) ?_
     refine qD rfl (zK (r := ((q16.ns.getD (ats.getD k1 0).toNat default).l).getD j2 0) rfl ag3 (z := (j2 : Int)) rfl hr115 (Pins.of_le hX125.pins hlek122) (by omega) (by omega)) ?_
     refine qD rfl (zD (v := (.int .i64 (((q16.ns.getD (ats.getD k1 0).toNat default).l).getD j2 0))) rfl) ?_
     refine qe (zA (zG ?_))
     refine qD rfl (zB (v := lv2) rfl) ?_
     refine qD rfl (zB (v := (.map (some m3))) rfl) ?_
     refine qD rfl (zB (v := (.int .i64 (((q16.ns.getD (ats.getD k1 0).toNat default).l).getD j2 0))) rfl) ?_
     refine qD rfl (qC (k := (((q16.ns.getD (ats.getD k1 0).toNat default).l).getD j2 0)) (qH Tryz.underlying3) Tryz.underlying71 zr3 hm129 rfl rfl) ?_
     refine qI rfl (xC (E := eInt) (e := 3) [(.int .i64 ((Go.GL.look sm (((q16.ns.getD (ats.getD k1 0).toNat default).l).getD j2 0)).getD 0))] [(Go.GL.look sm (((q16.ns.getD (ats.getD k1 0).toNat default).l).getD j2 0)).getD 0] Tryz.underlying67 sz3 zr3 (by exact xY (by rfl)) (yZ (by rfl)) rfl rfl rfl rfl (by decide) hX125.pins (fun u133 w134 ho135 hp136 hl137 hk138 => ?_))
     have hX139 := hX125.step hp136 hl137
     have ho140 := hw126.below hl137
     have ho141 := hw127.below hl137
     have hm142 := hm129.below hl137
     have hpk143 := hpk130.below hl137 hp136
     have ho151 : Own eInt 3 GL2 w134 w.heap.size u133 ([(Go.GL.look sm (((q16.ns.getD (ats.getD k1 0).toNat default).l).getD j2 0)).getD 0]) := ho135.weaken hX125.size
     refine qI rfl (zY (E := eInt) (v := lv2) (u := u133) 8 Tryz.underlying67 ap3 (by decide) rfl rfl hX139.pins ho140 ho151.src (by first | omega | (rw [List.nil_append]; omega) | (rw [List.length_nil]; omega) | (rw [List.length_append]; omega) | (simp; done) | (simp; omega) | (simp only [List.length_append, List.length_cons, List.length_nil]; omega)) (by first | omega | (rw [List.nil_append]; omega) | (rw [List.length_nil]; omega) | (rw [List.length_append]; omega) | (simp; done) | (simp; omega) | (simp only [List.length_append, List.length_cons, List.length_nil]; omega)) (hX139.size) (fun u152 w153 ho154 hp155 hg156 hw157 => ?_))
     have hX158 := hX139.write hp155 hg156 ((yF ho140))
     have ho159 := ho141.keptA hg156 ha128.symm
     have hm161 := hm142.kept hg156 (yD hm142 ho140)
     have hpk162 := hpk143.kept hg156 hp155 hnp131
     have ha163 : Apart u99.ownBlock u152.ownBlock := zI ha128.symm hw157 ho141.lt
     have hnp165 := qF hnp131 hpk143 hw157
     have hm166 : (ls2 ++ ([(Go.GL.look sm (((q16.ns.getD (ats.getD k1 0).toNat default).l).getD j2 0)).getD 0])).length = ls2.length + 1 := List.length_append
     refine qD rfl (zD (v := u152) rfl) ?_
     refine qe ?_
     refine yJ ?_
     refine zA (zG ?_)
     refine qD rfl (yV rfl rfl (by omega)) ?_
     refine qD rfl (zB (v := (.int .i64 ((j2 : Int) + 1))) rfl) ?_
     refine qe ?_
     refine yI ?_
     refine ⟨_, ?_, _, rfl, _, j2 + 1, u152, ls2 ++ ([(Go.GL.look sm (((q16.ns.getD (ats.getD k1 0).toNat default).l).getD j2 0)).getD 0]), GL2, (zC (x := 51) (zC (x := 50) (zC (x := 49) (zC (x := 21) (zC (x := 20) (zC (x := 19) (zC (x := 12) (zC (x := 11) (zC (x := 10) (zC (x := 8) (zC (x := 7) (zC (x := 6) (zC (x := 1) (zU (x := 0) rfl) rfl) rfl) rfl) rfl) rfl) rfl) rfl) rfl) rfl) rfl) rfl) rfl) rfl), rfl, hX158, hlek122, (by omega), (hg2.next (PX.refl _) hok24 hok24 hol.1 (by omega) hol.2), ho154, ho159, ha163.symm, hm161, hpk162, hnp165⟩
     omega
    refine wp_exit ?_
    refine yC ?_
    refine yM ?_
    refine yK ?_
    refine zA (zF (zF (zG ?_)))
    refine qD rfl (zB (v := (.pointer (some ⟨p, 0, none⟩))) rfl) ?_
    refine qD rfl (xK rfl) ?_
    refine qD rfl (zP (k := 1) rfl Tryz.underlying74 rfl nz68 rfl) ?_
    refine qD rfl (zS (u := R14) ag68 rfl (hpk130.bx.cell (o := 1) rfl)) ?_
    refine qD rfl (zB (v := (.int .i64 (ats.getD k1 0))) rfl) ?_
    refine qD rfl (zL Tryz.underlying68 sz67 (v := R14) rfl rfl hpk130.rr.read (by omega) (by omega)) ?_
    obtain ⟨u167, hr168, hl169⟩ := nm_sl (hpk130.rr.at (z := (ats.getD k1 0)) (by omega) (by omega)) (j := (ats.getD k1 0).toNat) rfl
    rw [mapr_getD] at hr168
    have hm170 := hr168.max
    refine qD rfl (hl169 ag67 rfl (Gadd.pins hX125.pins R14)) ?_
    refine qD rfl (zO Tryz.underlying67 (v := u167) rfl hr168) ?_
    refine qD rfl (zB (v := (.int .i64 0)) rfl) ?_
    refine qe (zA ?_)
    refine zZ ?_
    refine yT (fun (k : Nat) (en : Nat → Value) (W : World) => ∃ (env1 : Nat → Value) (j3 : Nat) (lv3 : Value) (ls3 : List Int) (GL3 : Pin), en = (upd (upd (upd (upd (upd (upd (upd (upd (upd (upd (upd (upd (upd (upd env1 0 (.pointer (some ⟨p, 0, none⟩))) 1 (.int .i64 fa)) 6 (.int .i64 0)) 7 (.map (some m3))) 8 (.int .i64 az)) 10 (.int .i64 (ats.getD k1 0))) 11 lv2) 12 lv3) 19 x) 20 (.int .i64 (ats.length : Int))) 21 (.int .i64 (k1 : Int))) 68 u167) 69 (.int .i64 (((q16.ns.getD (ats.getD k1 0).toNat default).r).length : Int))) 70 (.int .i64 (j3 : Int))) ∧ k = (q16.ns.getD ((ats.getD k1 0)).toNat default).r.length - j3 ∧ Ext (inP p L R B mm) G w GL3 W ∧ Pin.le GL2 GL3 ∧ (j3 ≤ (q16.ns.getD ((ats.getD k1 0)).toNat default).r.length) ∧ (GsOk q16 ls3 (((q16.ns.getD (fa).toNat default).r.map (pd q16)) ++ ((q16.ns.getD ((ats.getD k1 0)).toNat default).r.take j3).map (fun o => ordG (pd q fa) (pd q16 o)))) ∧ (Own eInt 3 GL3 W w.heap.size lv3 (ls3)) ∧ (Own eInt 3 GL3 W w.heap.size lv2 (ls2)) ∧ (Apart lv3.ownBlock lv2.ownBlock) ∧ (Mp (fun k : Int => Value.int .i64 k) (fun v : Int => Value.int .i64 v) W m3 (sm)) ∧ (Pk 67 3 GL3 W p L13 R14 B15 mm q16) ∧ (NP p L13 R14 B15 mm lv3.ownBlock)) _ ⟨_, 0, u99, ([]) ++ ((q16.ns.getD (fa).toNat default).r), GL2, (zC (x := 70) (zC (x := 69) (zC (x := 68) (zC (x := 21) (zC (x := 20) (zC (x := 19) (zC (x := 12) (zC (x := 11) (zC (x := 10) (zC (x := 8) (zC (x := 7) (zC (x := 6) (zC (x := 1) (zU (x := 0) rfl) rfl) rfl) rfl) rfl) rfl) rfl) rfl) rfl) rfl) rfl) rfl) rfl) rfl), rfl, hX125, Pin.le_refl _, Nat.zero_le _, (by rw [List.take_zero, List.map_nil, List.append_nil]; exact ⟨fun z hz => (qX hok24 hfl).2 z (by simpa using hz), by simp⟩), hw127, hw126, ha128.symm, hm129, hpk130, hnp110⟩ ?_
    rintro k175 _ w176 ⟨env1, j3, lv3, ls3, GL3, rfl, hk177, hX178, hlek175, hkj3, hg3, hw179, hw180, ha181, hm182, hpk183, hnp184⟩
    have hgl3 := hg3.lenj hkj3
    rw [List.length_map] at hgl3
    refine zF (zG ?_)
    refine qD rfl (yQ rfl rfl) ?_
    refine qe (zA (zF ?_))
    refine yG (p := ((j3 : Int) : Int) < (((q16.ns.getD (ats.getD k1 0).toNat default).r).length : Int)) rfl rfl (fun h185 => ?_) (fun h185 => ?_)
    ·skip
     have hmj : (q16.ns.getD ((ats.getD k1 0)).toNat default).r.getD j3 0 ∈ (q16.ns.getD ((ats.getD k1 0)).toNat default).r := yR (show j3 < (q16.ns.getD ((ats.getD k1 0)).toNat default).r.length by omega)
     have hol := homl.opt hok24 hgo rfl hatl (show k1 < gs.length by omega) (Or.inr hmj)
     refine wp_skip ?_
     refine zA (zF ?_)
     refine zZ ?_
     refine zF (zG ?_)
     refine qD rfl (zL Tryz.underlying67 sz3 (v := u167) rfl rfl hr168 (by omega) (by omega)) ?_
     refine qD rfl (zK (r := ((q16.ns.getD (ats.getD k1 0).toNat default).r).getD j3 0) rfl ag3 (z := (j3 : Int)) rfl hr168 (Pins.of_le hX178.pins hlek175) (by omega) (by omega)) ?_
     refine qD rfl (zD (v := (.int .i64 (((q16.ns.getD (ats.getD k1 0).toNat default).r).getD j3 0))) rfl) ?_
     refine qe (zA (zG ?_))
     refine qD rfl (zB (v := lv3) rfl) ?_
     refine qD rfl (zB (v := (.map (some m3))) rfl) ?_
     refine qD rfl (zB (v := (.int .i64 (((q16.ns.getD (ats.getD k1 0).toNat default).r).getD j3 0))) rfl) ?_
     refine qD rfl (qC (k := (((q16.ns.getD (ats.getD k1 0).toNat default).r).getD j3 0)) (qH Tryz.underlying3) Tryz.underlying71 zr3 hm182 rfl rfl) ?_
     refine qI rfl (xC (E := eInt) (e := 3) [(.int .i64 ((Go.GL.look sm (((q16.ns.getD (ats.getD k1 0).toNat default).r).getD j3 0)).getD 0))] [(Go.GL.look sm (((q16.ns.getD (ats.getD k1 0).toNat default).r).getD j3 0)).getD 0] Tryz.underlying67 sz3 zr3 (by exact xY (by rfl)) (yZ (by rfl)) rfl rfl rfl rfl (by decide) hX178.pins (fun u186 w187 ho188 hp189 hl190 hk191 => ?_))
     have hX192 := hX178.step hp189 hl190
     have ho193 := hw179.below hl190
     have ho194 := hw180.below hl190
     have hm195 := hm182.below hl190
     have hpk196 := hpk183.below hl190 hp189
     have ho204 : Own eInt 3 GL3 w187 w.heap.size u186 ([(Go.GL.look sm (((q16.ns.getD (ats.getD k1 0).toNat default).r).getD j3 0)).getD 0]) := ho188.weaken hX178.size
     refine qI rfl (zY (E := eInt) (v := lv3) (u := u186) 8 Tryz.underlying67 ap3 (by decide) rfl rfl hX192.pins ho193 ho204.src (by first | omega | (rw [List.nil_append]; omega) | (rw [List.length_nil]; omega) | (rw [List.length_append]; omega) | (simp; done) | (simp; omega) | (simp only [List.length_append, List.length_cons, List.length_nil]; omega)) (by first | omega | (rw [List.nil_append]; omega) | (rw [List.length_nil]; omega) | (rw [List.length_append]; omega) | (simp; done) | (simp; omega) | (simp only [List.length_append, List.length_cons, List.length_nil]; omega)) (hX192.size) (fun u205 w206 ho207 hp208 hg209 hw210 => ?_))
     have hX211 := hX192.write hp208 hg209 ((yF ho193))
     have ho212 := ho194.keptA hg209 ha181.symm
     have hm214 := hm195.kept hg209 (yD hm195 ho193)
     have hpk215 := hpk196.kept hg209 hp208 hnp184
     have ha216 : Apart lv2.ownBlock u205.ownBlock := zI ha181.symm hw210 ho194.lt
     have hnp218 := qF hnp184 hpk196 hw210
     have hm219 : (ls3 ++ ([(Go.GL.look sm (((q16.ns.getD (ats.getD k1 0).toNat default).r).getD j3 0)).getD 0])).length = ls3.length + 1 := List.length_append
     refine qD rfl (zD (v := u205) rfl) ?_
     refine qe ?_
     refine yJ ?_
     refine zA (zG ?_)
     refine qD rfl (yV rfl rfl (by omega)) ?_
     refine qD rfl (zB (v := (.int .i64 ((j3 : Int) + 1))) rfl) ?_
     refine qe ?_
     refine yI ?_
     refine ⟨_, ?_, _, rfl, _, j3 + 1, u205, ls3 ++ ([(Go.GL.look sm (((q16.ns.getD (ats.getD k1 0).toNat default).r).getD j3 0)).getD 0]), GL3, (zC (x := 70) (zC (x := 69) (zC (x := 68) (zC (x := 21) (zC (x := 20) (zC (x := 19) (zC (x := 12) (zC (x := 11) (zC (x := 10) (zC (x := 8) (zC (x := 7) (zC (x := 6) (zC (x := 1) (zU (x := 0) rfl) rfl) rfl) rfl) rfl) rfl) rfl) rfl) rfl) rfl) rfl) rfl) rfl) rfl), rfl, hX211, hlek175, (by omega), (hg3.next (PX.refl _) hok24 hok24 hol.1 (by omega) hol.2), ho207, ho212, ha216.symm, hm214, hpk215, hnp218⟩
     omega
    refine wp_exit ?_
    refine yC ?_
    refine yM ?_
    refine yK ?_
    refine zA (zF (zG ?_))
    refine qD rfl (zB (v := (.pointer (some ⟨p, 0, none⟩))) rfl) ?_
    refine qD rfl (zB (v := lv2) rfl) ?_
    refine qD rfl (zB (v := lv3) rfl) ?_
    obtain ⟨G220, hle223, hX222, hr221, hf224⟩ := hw180.sealed hX178
    have ho225 := hw179.moreO hle223 hf224 ha181
    have hpk226 := hpk183.moreO hle223 hf224 hnp131
    obtain ⟨G227, hle230, hX229, hr228, hf231⟩ := ho225.sealed hX222
    have hpk232 := hpk226.moreO hle230 hf231 hnp184
    have hj2n : j2 = (q16.ns.getD ((ats.getD k1 0)).toNat default).l.length := by omega
    have hj3n : j3 = (q16.ns.getD ((ats.getD k1 0)).toNat default).r.length := by omega
    have hg2d := hg2.done hj2n
    have hg3d := hg3.done hj3n
    refine qI rfl (zM (vs := [(.pointer (some ⟨p, 0, none⟩)), lv2, lv3]) Tryz.func87 nm87 rfl rfl rfl ?_)
    refine Calls.mono (node_spec hX229.pins hpk232 hok24 (hr221.mono hle230) hr228 (by omega) ⟨by omega, by omega⟩ (qJ hg2d.pl) (qJ hg3d.pl)) ?_
    rintro _ w243 ⟨z233, L238, R239, B240, q241, G242, rfl, hpk244, hok245, hpx246, hlo247, hx248, hpl234, hpd235, hqn236, hcm237⟩
    refine ⟨_, rfl, ?_⟩
    have hX249 := hX229.trans hx248 hpin23
    have hm250 := hm182.extS hx248 (NP.notb hnp26)
    have hnp251 := NP.call hnp26 hlo247 (fun j hj => by cases hj; exact hm182.lt)
    have hpin252 := PIn.call hpin23 hlo247 hX229.size
    have hql253 := hpx246.len
    have hml254 : (q241.ns.map Nd.l).length = q241.ns.length ∧ (q241.ns.map Nd.r).length = q241.ns.length := ⟨List.length_map .., List.length_map ..⟩
    have hml255 : q241.bs.length = q241.ns.length ∧ q241.ns.length ≤ 1048576 := ⟨hok245.ar.ok.len, hok245.ar.ok.lim⟩
    have hng : pd q241 z233 = ordG (pd q fa) (den gs k1) := by rw [hpd235, hg2d.eq, hg3d.eq, ← hZ.2, ← hpf]; exact ord_node hok24 hfl hZ.1
    refine qD rfl (zD (v := (.int .i64 z233)) rfl) ?_
    refine qe (zA (zG ?_))
    refine qD rfl (zB (v := (.map (some m3))) rfl) ?_
    refine qD rfl (zB (v := (.int .i64 (ats.getD k1 0))) rfl) ?_
    refine qD rfl (zB (v := (.int .i64 z233)) rfl) ?_
    refine q0 rfl rfl rfl (qN (val := (fun v : Int => Value.int .i64 v)) (k := (ats.getD k1 0)) (v := z233) (qH Tryz.underlying3) Tryz.underlying71 rfl rfl rfl hX249.pins hm250 (fun w256 hm257 hp258 hg259 hz260 => ?_))
    have hX261 := hX249.write hp258 hg259 ((yW hlo12))
    have hpk262 := hpk244.kept hg259 hp258 hnp251
    refine qe ?_
    refine yJ ?_
    refine zA (zG ?_)
    refine qD rfl (yV rfl rfl (by omega)) ?_
    refine qD rfl (zB (v := (.int .i64 ((k1 : Int) + 1))) rfl) ?_
    refine qe ?_
    refine yI ?_
    refine ⟨_, ?_, _, rfl, _, k1 + 1, z233, putE sm (ats.getD k1 0) z233, L238, R239, B240, q241, G242, (zC (x := 21) (zC (x := 20) (zC (x := 19) (zC (x := 8) (zC (x := 7) (zC (x := 6) (zC (x := 1) (zU (x := 0) rfl) rfl) rfl) rfl) rfl) rfl) rfl) rfl), rfl, hX261, (Pin.le_trans (Pin.le_trans (Pin.le_trans (Pin.le_trans (Pin.le_trans hlek17 hlek122) hlek175) hle223) hle230) hx248.le), (by omega), (hatl.px hpx246 hok24 hok245), ((homl.px hpx246 hok24 hok245).put (hatl.px hpx246 hok24 hok245) (by omega) hpl234 hng), (fun _ => ⟨hpl234, by rw [Nat.add_sub_cancel]; exact hng⟩), (by omega), hm257, hpk262, hpin252, hok245, (PX.trans hpx25 hpx246), hnp251⟩
    omega
   ·skip
    refine (zV (i := 9) rfl rfl rfl (zH rfl _) (xG (E := eInt) (e := 3) Tryz.underlying67 sz3 hX56.pins (fun u263 w264 ho265 hp266 hl267 hk268 => ?_)))
    have hX269 := hX56.step hp266 hl267
    have ho270 := ho64.below hl267
    have hm271 := hm57.below hl267
    have hpk272 := hpk58.below hl267 hp266
    have ha276 : Apart u263.ownBlock u50.ownBlock := zJ hk268 ho64.lt
    have ha278 := hpk58.new (x := u263.ownBlock) (fun k hk => by rw [hk268] at hk; cases hk; exact Nat.le_refl _)
    have ho279 : Own eInt 3 GL1 w264 w.heap.size u263 ([]) := ho265.weaken hX56.size
    have hq280 := hq65.below hl267
    have hq281 := hq66.below hl267
    refine ⟨fun _ => ⟨hpk272.bx.reads, hq280, hq281⟩, ?_⟩
    refine zN (i := 8) (by kernel_rfl) (zV (i := 8) rfl rfl rfl (zH rfl _) (zY (E := eInt) (v := u50) (u := u42) 8 Tryz.underlying67 ap3 (by decide) rfl rfl hX269.pins ho270 ((hr43.mono (Pin.le_refl _)).src hX269.pins (by decide)) (by first | omega | (rw [List.nil_append]; omega) | (rw [List.length_nil]; omega) | (rw [List.length_append]; omega) | (simp; done) | (simp; omega) | (simp only [List.length_append, List.length_cons, List.length_nil]; omega)) (by first | omega | (rw [List.nil_append]; omega) | (rw [List.length_nil]; omega) | (rw [List.length_append]; omega) | (simp; done) | (simp; omega) | (simp only [List.length_append, List.length_cons, List.length_nil]; omega)) (hX269.size) (fun u282 w283 ho284 hp285 hg286 hw287 => ?_)))
    have hX288 := hX269.write hp285 hg286 ((yF ho270))
    have ho289 := ho279.keptA hg286 ha276
    have hm290 := hm271.kept hg286 (yD hm271 ho270)
    have hpk291 := hpk272.kept hg286 hp285 ha63
    have ha292 : Apart u263.ownBlock u282.ownBlock := zI ha276 hw287 ho279.lt
    have hnp293 := qF ha63 hpk272 hw287
    have hm294 : (([]) ++ ((q16.ns.getD (fa).toNat default).l)).length = ([]).length + ((q16.ns.getD (fa).toNat default).l).length := List.length_append
    have hq295 := Gadd.turn hq280 (Pins.of_le hX288.pins (Pin.le_refl _)) (Ext.one hp285 hg286) (notO (NP.hl ha63).symm)
    have hq296 := Gadd.turn hq281 (Pins.of_le hX288.pins (Pin.le_refl _)) (Ext.one hp285 hg286) (notO (NP.hr ha63).symm)
    refine ⟨fun _ => ⟨hpk291.bx.reads, hq295, hq296⟩, ?_⟩
    refine zN (i := 17) (by kernel_rfl) (zV (i := 17) rfl rfl rfl (zH rfl _) (zY (E := eInt) (v := u263) (u := u46) 8 Tryz.underlying67 ap3 (by decide) rfl rfl hX288.pins ho289 ((hr47.mono (Pin.le_refl _)).src hX288.pins (by decide)) (by first | omega | (rw [List.nil_append]; omega) | (rw [List.length_nil]; omega) | (rw [List.length_append]; omega) | (simp; done) | (simp; omega) | (simp only [List.length_append, List.length_cons, List.length_nil]; omega)) (by first | omega | (rw [List.nil_append]; omega) | (rw [List.length_nil]; omega) | (rw [List.length_append]; omega) | (simp; done) | (simp; omega) | (simp only [List.length_append, List.length_cons, List.length_nil]; omega)) (hX288.size) (fun u297 w298 ho299 hp300 hg301 hw302 => ?_)))
    have hX303 := hX288.write hp300 hg301 ((yF ho289))
    have ho304 := ho284.keptA hg301 ha292.symm
    have hm305 := hm290.kept hg301 (yD hm290 ho289)
    have hpk306 := hpk291.kept hg301 hp300 ha278
    have ha307 : Apart u282.ownBlock u297.ownBlock := zI ha292.symm hw302 ho284.lt
    have hnp308 := qF ha278 hpk291 hw302
    have hm309 : (([]) ++ ((q16.ns.getD (fa).toNat default).r)).length = ([]).length + ((q16.ns.getD (fa).toNat default).r).length := List.length_append
    have hq310 := Gadd.turn hq295 (Pins.of_le hX303.pins (Pin.le_refl _)) (Ext.one hp300 hg301) (notO (NP.hl ha278).symm)
    have hq311 := Gadd.turn hq296 (Pins.of_le hX303.pins (Pin.le_refl _)) (Ext.one hp300 hg301) (notO (NP.hr ha278).symm)
    refine ⟨fun _ => ⟨hpk306.bx.reads, hq310, hq311⟩, ?_⟩
    refine dT (i := 18) rfl rfl (by kernel_rfl) (fun _ _ => zD (v := u282) rfl) ⟨hpk306.bx.reads, hq310, hq311⟩ ?_
    refine dT (i := 19) rfl rfl (by kernel_rfl) (fun _ _ => zD (v := u297) rfl) ⟨hpk306.bx.reads, hq310, hq311⟩ ?_
    refine yS (by kernel_rfl) ?_
    refine zA (zF (zF (zG ?_)))
    refine qD rfl (zB (v := (.pointer (some ⟨p, 0, none⟩))) rfl) ?_
    refine qD rfl (xK rfl) ?_
    refine qD rfl (zP (k := 0) rfl Tryz.underlying74 rfl nz68 rfl) ?_
    refine qD rfl (zS (u := L13) ag68 rfl (hpk306.bx.cell (o := 0) rfl)) ?_
    refine qD rfl (zB (v := (.int .i64 (ats.getD k1 0))) rfl) ?_
    refine qD rfl (zL Tryz.underlying68 sz67 (v := L13) rfl rfl hpk306.ol.read (by omega) (by omega)) ?_
    obtain ⟨u312, hr313, hl314⟩ := nm_sl (hpk306.ol.at (z := (ats.getD k1 0)) (by omega) (by omega)) (j := (ats.getD k1 0).toNat) rfl
    rw [mapl_getD] at hr313
    have hm315 := hr313.max
    refine qD rfl (hl314 ag67 rfl (Gadd.pins hX303.pins L13)) ?_
    refine qD rfl (zO Tryz.underlying67 (v := u312) rfl hr313) ?_
    refine qD rfl (zB (v := (.int .i64 0)) rfl) ?_
    refine qe (zA ?_)
    refine zZ ?_
    refine yT (fun (k : Nat) (en : Nat → Value) (W : World) => ∃ (env1 : Nat → Value) (j2 : Nat) (lv2 : Value) (ls2 : List Int) (GL2 : Pin), en = (upd (upd (upd (upd (upd (upd (upd (upd (upd (upd (upd (upd (upd (upd env1 0 (.pointer (some ⟨p, 0, none⟩))) 1 (.int .i64 fa)) 6 (.int .i64 0)) 7 (.map (some m3))) 8 (.int .i64 az)) 10 (.int .i64 (ats.getD k1 0))) 11 lv2) 12 u297) 19 x) 20 (.int .i64 (ats.length : Int))) 21 (.int .i64 (k1 : Int))) 49 u312) 50 (.int .i64 (((q16.ns.getD (ats.getD k1 0).toNat default).l).length : Int))) 51 (.int .i64 (j2 : Int))) ∧ k = (q16.ns.getD ((ats.getD k1 0)).toNat default).l.length - j2 ∧ Ext (inP p L R B mm) G w GL2 W ∧ Pin.le GL1 GL2 ∧ (j2 ≤ (q16.ns.getD ((ats.getD k1 0)).toNat default).l.length) ∧ (GsOk q16 ls2 (((q16.ns.getD (fa).toNat default).l.map (pd q16)) ++ ((q16.ns.getD ((ats.getD k1 0)).toNat default).l.take j2).map (fun o => ordG (pd q fa) (pd q16 o)))) ∧ (Own eInt 3 GL2 W w.heap.size lv2 (ls2)) ∧ (Own eInt 3 GL2 W w.heap.size u297 (([]) ++ ((q16.ns.getD (fa).toNat default).r))) ∧ (Apart lv2.ownBlock u297.ownBlock) ∧ (Mp (fun k : Int => Value.int .i64 k) (fun v : Int => Value.int .i64 v) W m3 (sm)) ∧ (Pk 67 3 GL2 W p L13 R14 B15 mm q16) ∧ (NP p L13 R14 B15 mm lv2.ownBlock)) _ ⟨_, 0, u282, ([]) ++ ((q16.ns.getD (fa).toNat default).l), GL1, (zC (x := 51) (zC (x := 50) (zC (x := 49) (zC (x := 21) (zC (x := 20) (zC (x := 19) (zC (x := 12) (zC (x := 11) (zC (x := 10) (zC (x := 8) (zC (x := 7) (zC (x := 6) (zC (x := 1) (zU (x := 0) rfl) rfl) rfl) rfl) rfl) rfl) rfl) rfl) rfl) rfl) rfl) rfl) rfl) rfl), rfl, hX303, Pin.le_refl _, Nat.zero_le _, (by rw [List.take_zero, List.map_nil, List.append_nil]; exact ⟨fun z hz => (qX hok24 hfl).1 z (by simpa using hz), by simp⟩), ho304, ho299, ha307, hm305, hpk306, hnp293⟩ ?_
    rintro k320 _ w321 ⟨env1, j2, lv2, ls2, GL2, rfl, hk322, hX323, hlek320, hkj2, hg2, hw324, hw325, ha326, hm327, hpk328, hnp329⟩
    have hgl2 := hg2.lenj hkj2
    rw [List.length_map] at hgl2
    refine zF (zG ?_)
    refine qD rfl (yQ rfl rfl) ?_
    refine qe (zA (zF ?_))
    refine yG (p := ((j2 : Int) : Int) < (((q16.ns.getD (ats.getD k1 0).toNat default).l).length : Int)) rfl rfl (fun h330 => ?_) (fun h330 => ?_)
    ·skip
     have hmj : (q16.ns.getD ((ats.getD k1 0)).toNat default).l.getD j2 0 ∈ (q16.ns.getD ((ats.getD k1 0)).toNat default).l := yR (show j2 < (q16.ns.getD ((ats.getD k1 0)).toNat default).l.length by omega)
     have hol := homl.opt hok24 hgo rfl hatl (show k1 < gs.length by omega) (Or.inl hmj)
     refine wp_skip ?_
     refine zA (zF ?_)
     refine zZ ?_
     refine zF (zG ?_)
     refine qD rfl (zL Tryz.underlying67 sz3 (v := u312) rfl rfl hr313 (by omega) (by omega)) ?_
     refine qD rfl (zK (r := ((q16.ns.getD (ats.getD k1 0).toNat default).l).getD j2 0) rfl ag3 (z := (j2 : Int)) rfl hr313 (Pins.of_le hX323.pins hlek320) (by omega) (by omega)) ?_
     refine qD rfl (zD (v := (.int .i64 (((q16.ns.getD (ats.getD k1 0).toNat default).l).getD j2 0))) rfl) ?_
     refine qe (zA (zG ?_))
     refine qD rfl (zB (v := lv2) rfl) ?_
     refine qD rfl (zB (v := (.map (some m3))) rfl) ?_
     refine qD rfl (zB (v := (.int .i64 (((q16.ns.getD (ats.getD k1 0).toNat default).l).getD j2 0))) rfl) ?_
     refine qD rfl (qC (k := (((q16.ns.getD (ats.getD k1 0).toNat default).l).getD j2 0)) (qH Tryz.underlying3) Tryz.underlying71 zr3 hm327 rfl rfl) ?_
     refine qI rfl (xC (E := eInt) (e := 3) [(.int .i64 ((Go.GL.look sm (((q16.ns.getD (ats.getD k1 0).toNat default).l).getD j2 0)).getD 0))] [(Go.GL.look sm (((q16.ns.getD (ats.getD k1 0).toNat default).l).getD j2 0)).getD 0] Tryz.underlying67 sz3 zr3 (by exact xY (by rfl)) (yZ (by rfl)) rfl rfl rfl rfl (by decide) hX323.pins (fun u331 w332 ho333 hp334 hl335 hk336 => ?_))
     have hX337 := hX323.step hp334 hl335
     have ho338 := hw324.below hl335
     have ho339 := hw325.below hl335
     have hm340 := hm327.below hl335
     have hpk341 := hpk328.below hl335 hp334
     have ho349 : Own eInt 3 GL2 w332 w.heap.size u331 ([(Go.GL.look sm (((q16.ns.getD (ats.getD k1 0).toNat default).l).getD j2 0)).getD 0]) := ho333.weaken hX323.size
     refine qI rfl (zY (E := eInt) (v := lv2) (u := u331) 8 Tryz.underlying67 ap3 (by decide) rfl rfl hX337.pins ho338 ho349.src (by first | omega | (rw [List.nil_append]; omega) | (rw [List.length_nil]; omega) | (rw [List.length_append]; omega) | (simp; done) | (simp; omega) | (simp only [List.length_append, List.length_cons, List.length_nil]; omega)) (by first | omega | (rw [List.nil_append]; omega) | (rw [List.length_nil]; omega) | (rw [List.length_append]; omega) | (simp; done) | (simp; omega) | (simp only [List.length_append, List.length_cons, List.length_nil]; omega)) (hX337.size) (fun u350 w351 ho352 hp353 hg354 hw355 => ?_))
     have hX356 := hX337.write hp353 hg354 ((yF ho338))
     have ho357 := ho339.keptA hg354 ha326.symm
     have hm359 := hm340.kept hg354 (yD hm340 ho338)
     have hpk360 := hpk341.kept hg354 hp353 hnp329
     have ha361 : Apart u297.ownBlock u350.ownBlock := zI ha326.symm hw355 ho339.lt
     have hnp363 := qF hnp329 hpk341 hw355
     have hm364 : (ls2 ++ ([(Go.GL.look sm (((q16.ns.getD (ats.getD k1 0).toNat default).l).getD j2 0)).getD 0])).length = ls2.length + 1 := List.length_append
     refine qD rfl (zD (v := u350) rfl) ?_
     refine qe ?_
     refine yJ ?_
     refine zA (zG ?_)
     refine qD rfl (yV rfl rfl (by omega)) ?_
     refine qD rfl (zB (v := (.int .i64 ((j2 : Int) + 1))) rfl) ?_
     refine qe ?_
     refine yI ?_
     refine ⟨_, ?_, _, rfl, _, j2 + 1, u350, ls2 ++ ([(Go.GL.look sm (((q16.ns.getD (ats.getD k1 0).toNat default).l).getD j2 0)).getD 0]), GL2, (zC (x := 51) (zC (x := 50) (zC (x := 49) (zC (x := 21) (zC (x := 20) (zC (x := 19) (zC (x := 12) (zC (x := 11) (zC (x := 10) (zC (x := 8) (zC (x := 7) (zC (x := 6) (zC (x := 1) (zU (x := 0) rfl) rfl) rfl) rfl) rfl) rfl) rfl) rfl) rfl) rfl) rfl) rfl) rfl) rfl), rfl, hX356, hlek320, (by omega), (hg2.next (PX.refl _) hok24 hok24 hol.1 (by omega) hol.2), ho352, ho357, ha361.symm, hm359, hpk360, hnp363⟩
     omega
    refine wp_exit ?_
    refine yC ?_
    refine yM ?_
    refine yK ?_
    refine zA (zF (zF (zG ?_)))
    refine qD rfl (zB (v := (.pointer (some ⟨p, 0, none⟩))) rfl) ?_
    refine qD rfl (xK rfl) ?_
    refine qD rfl (zP (k := 1) rfl Tryz.underlying74 rfl nz68 rfl) ?_
    refine qD rfl (zS (u := R14) ag68 rfl (hpk328.bx.cell (o := 1) rfl)) ?_
    refine qD rfl (zB (v := (.int .i64 (ats.getD k1 0))) rfl) ?_
    refine qD rfl (zL Tryz.underlying68 sz67 (v := R14) rfl rfl hpk328.rr.read (by omega) (by omega)) ?_
    obtain ⟨u365, hr366, hl367⟩ := nm_sl (hpk328.rr.at (z := (ats.getD k1 0)) (by omega) (by omega)) (j := (ats.getD k1 0).toNat) rfl
    rw [mapr_getD] at hr366
    have hm368 := hr366.max
    refine qD rfl (hl367 ag67 rfl (Gadd.pins hX323.pins R14)) ?_
    refine qD rfl (zO Tryz.underlying67 (v := u365) rfl hr366) ?_
    refine qD rfl (zB (v := (.int .i64 0)) rfl) ?_
    refine qe (zA ?_)
    refine zZ ?_
    refine yT (fun (k : Nat) (en : Nat → Value) (W : World) => ∃ (env1 : Nat → Value) (j3 : Nat) (lv3 : Value) (ls3 : List Int) (GL3 : Pin), en = (upd (upd (upd (upd (upd (upd (upd (upd (upd (upd (upd (upd (upd (upd env1 0 (.pointer (some ⟨p, 0, none⟩))) 1 (.int .i64 fa)) 6 (.int .i64 0)) 7 (.map (some m3))) 8 (.int .i64 az)) 10 (.int .i64 (ats.getD k1 0))) 11 lv2) 12 lv3) 19 x) 20 (.int .i64 (ats.length : Int))) 21 (.int .i64 (k1 : Int))) 68 u365) 69 (.int .i64 (((q16.ns.getD (ats.getD k1 0).toNat default).r).length : Int))) 70 (.int .i64 (j3 : Int))) ∧ k = (q16.ns.getD ((ats.getD k1 0)).toNat default).r.length - j3 ∧ Ext (inP p L R B mm) G w GL3 W ∧ Pin.le GL2 GL3 ∧ (j3 ≤ (q16.ns.getD ((ats.getD k1 0)).toNat default).r.length) ∧ (GsOk q16 ls3 (((q16.ns.getD (fa).toNat default).r.map (pd q16)) ++ ((q16.ns.getD ((ats.getD k1 0)).toNat default).r.take j3).map (fun o => ordG (pd q fa) (pd q16 o)))) ∧ (Own eInt 3 GL3 W w.heap.size lv3 (ls3)) ∧ (Own eInt 3 GL3 W w.heap.size lv2 (ls2)) ∧ (Apart lv3.ownBlock lv2.ownBlock) ∧ (Mp (fun k : Int => Value.int .i64 k) (fun v : Int => Value.int .i64 v) W m3 (sm)) ∧ (Pk 67 3 GL3 W p L13 R14 B15 mm q16) ∧ (NP p L13 R14 B15 mm lv3.ownBlock)) _ ⟨_, 0, u297, ([]) ++ ((q16.ns.getD (fa).toNat default).r), GL2, (zC (x := 70) (zC (x := 69) (zC (x := 68) (zC (x := 21) (zC (x := 20) (zC (x := 19) (zC (x := 12) (zC (x := 11) (zC (x := 10) (zC (x := 8) (zC (x := 7) (zC (x := 6) (zC (x := 1) (zU (x := 0) rfl) rfl) rfl) rfl) rfl) rfl) rfl) rfl) rfl) rfl) rfl) rfl) rfl) rfl), rfl, hX323, Pin.le_refl _, Nat.zero_le _, (by rw [List.take_zero, List.map_nil, List.append_nil]; exact ⟨fun z hz => (qX hok24 hfl).2 z (by simpa using hz), by simp⟩), hw325, hw324, ha326.symm, hm327, hpk328, hnp308⟩ ?_
    rintro k373 _ w374 ⟨env1, j3, lv3, ls3, GL3, rfl, hk375, hX376, hlek373, hkj3, hg3, hw377, hw378, ha379, hm380, hpk381, hnp382⟩
    have hgl3 := hg3.lenj hkj3
    rw [List.length_map] at hgl3
    refine zF (zG ?_)
    refine qD rfl (yQ rfl rfl) ?_
    refine qe (zA (zF ?_))
    refine yG (p := ((j3 : Int) : Int) < (((q16.ns.getD (ats.getD k1 0).toNat default).r).length : Int)) rfl rfl (fun h383 => ?_) (fun h383 => ?_)
    ·skip
     have hmj : (q16.ns.getD ((ats.getD k1 0)).toNat default).r.getD j3 0 ∈ (q16.ns.getD ((ats.getD k1 0)).toNat default).r := yR (show j3 < (q16.ns.getD ((ats.getD k1 0)).toNat default).r.length by omega)
     have hol := homl.opt hok24 hgo rfl hatl (show k1 < gs.length by omega) (Or.inr hmj)
     refine wp_skip ?_
     refine zA (zF ?_)
     refine zZ ?_
     refine zF (zG ?_)
     refine qD rfl (zL Tryz.underlying67 sz3 (v := u365) rfl rfl hr366 (by omega) (by omega)) ?_
     refine qD rfl (zK (r := ((q16.ns.getD (ats.getD k1 0).toNat default).r).getD j3 0) rfl ag3 (z := (j3 : Int)) rfl hr366 (Pins.of_le hX376.pins hlek373) (by omega) (by omega)) ?_
     refine qD rfl (zD (v := (.int .i64 (((q16.ns.getD (ats.getD k1 0).toNat default).r).getD j3 0))) rfl) ?_
     refine qe (zA (zG ?_))
     refine qD rfl (zB (v := lv3) rfl) ?_
     refine qD rfl (zB (v := (.map (some m3))) rfl) ?_
     refine qD rfl (zB (v := (.int .i64 (((q16.ns.getD (ats.getD k1 0).toNat default).r).getD j3 0))) rfl) ?_
     refine qD rfl (qC (k := (((q16.ns.getD (ats.getD k1 0).toNat default).r).getD j3 0)) (qH Tryz.underlying3) Tryz.underlying71 zr3 hm380 rfl rfl) ?_
     refine qI rfl (xC (E := eInt) (e := 3) [(.int .i64 ((Go.GL.look sm (((q16.ns.getD (ats.getD k1 0).toNat default).r).getD j3 0)).getD 0))] [(Go.GL.look sm (((q16.ns.getD (ats.getD k1 0).toNat default).r).getD j3 0)).getD 0] Tryz.underlying67 sz3 zr3 (by exact xY (by rfl)) (yZ (by rfl)) rfl rfl rfl rfl (by decide) hX376.pins (fun u384 w385 ho386 hp387 hl388 hk389 => ?_))
     have hX390 := hX376.step hp387 hl388
     have ho391 := hw377.below hl388
     have ho392 := hw378.below hl388
     have hm393 := hm380.below hl388
     have hpk394 := hpk381.below hl388 hp387
     have ho402 : Own eInt 3 GL3 w385 w.heap.size u384 ([(Go.GL.look sm (((q16.ns.getD (ats.getD k1 0).toNat default).r).getD j3 0)).getD 0]) := ho386.weaken hX376.size
     refine qI rfl (zY (E := eInt) (v := lv3) (u := u384) 8 Tryz.underlying67 ap3 (by decide) rfl rfl hX390.pins ho391 ho402.src (by first | omega | (rw [List.nil_append]; omega) | (rw [List.length_nil]; omega) | (rw [List.length_append]; omega) | (simp; done) | (simp; omega) | (simp only [List.length_append, List.length_cons, List.length_nil]; omega)) (by first | omega | (rw [List.nil_append]; omega) | (rw [List.length_nil]; omega) | (rw [List.length_append]; omega) | (simp; done) | (simp; omega) | (simp only [List.length_append, List.length_cons, List.length_nil]; omega)) (hX390.size) (fun u403 w404 ho405 hp406 hg407 hw408 => ?_))
     have hX409 := hX390.write hp406 hg407 ((yF ho391))
     have ho410 := ho392.keptA hg407 ha379.symm
     have hm412 := hm393.kept hg407 (yD hm393 ho391)
     have hpk413 := hpk394.kept hg407 hp406 hnp382
     have ha414 : Apart lv2.ownBlock u403.ownBlock := zI ha379.symm hw408 ho392.lt
     have hnp416 := qF hnp382 hpk394 hw408
     have hm417 : (ls3 ++ ([(Go.GL.look sm (((q16.ns.getD (ats.getD k1 0).toNat default).r).getD j3 0)).getD 0])).length = ls3.length + 1 := List.length_append
     refine qD rfl (zD (v := u403) rfl) ?_
     refine qe ?_
     refine yJ ?_
     refine zA (zG ?_)
     refine qD rfl (yV rfl rfl (by omega)) ?_
     refine qD rfl (zB (v := (.int .i64 ((j3 : Int) + 1))) rfl) ?_
     refine qe ?_
     refine yI ?_
     refine ⟨_, ?_, _, rfl, _, j3 + 1, u403, ls3 ++ ([(Go.GL.look sm (((q16.ns.getD (ats.getD k1 0).toNat default).r).getD j3 0)).getD 0]), GL3, (zC (x := 70) (zC (x := 69) (zC (x := 68) (zC (x := 21) (zC (x := 20) (zC (x := 19) (zC (x := 12) (zC (x := 11) (zC (x := 10) (zC (x := 8) (zC (x := 7) (zC (x := 6) (zC (x := 1) (zU (x := 0) rfl) rfl) rfl) rfl) rfl) rfl) rfl) rfl) rfl) rfl) rfl) rfl) rfl) rfl), rfl, hX409, hlek373, (by omega), (hg3.next (PX.refl _) hok24 hok24 hol.1 (by omega) hol.2), ho405, ho410, ha414.symm, hm412, hpk413, hnp416⟩
     omega
    refine wp_exit ?_
    refine yC ?_
    refine yM ?_
    refine yK ?_
    refine zA (zF (zG ?_))
    refine qD rfl (zB (v := (.pointer (some ⟨p, 0, none⟩))) rfl) ?_
    refine qD rfl (zB (v := lv2) rfl) ?_
    refine qD rfl (zB (v := lv3) rfl) ?_
    obtain ⟨G418, hle421, hX420, hr419, hf422⟩ := hw378.sealed hX376
    have ho423 := hw377.moreO hle421 hf422 ha379
    have hpk424 := hpk381.moreO hle421 hf422 hnp329
    obtain ⟨G425, hle428, hX427, hr426, hf429⟩ := ho423.sealed hX420
    have hpk430 := hpk424.moreO hle428 hf429 hnp382
    have hj2n : j2 = (q16.ns.getD ((ats.getD k1 0)).toNat default).l.length := by omega
    have hj3n : j3 = (q16.ns.getD ((ats.getD k1 0)).toNat default).r.length := by omega
    have hg2d := hg2.done hj2n
    have hg3d := hg3.done hj3n
    refine qI rfl (zM (vs := [(.pointer (some ⟨p, 0, none⟩)), lv2, lv3]) Tryz.func87 nm87 rfl rfl rfl ?_)
    refine Calls.mono (node_spec hX427.pins hpk430 hok24 (hr419.mono hle428) hr426 (by omega) ⟨by omega, by omega⟩ (qJ hg2d.pl) (qJ hg3d.pl)) ?_
    rintro _ w441 ⟨z431, L436, R437, B438, q439, G440, rfl, hpk442, hok443, hpx444, hlo445, hx446, hpl432, hpd433, hqn434, hcm435⟩
    refine ⟨_, rfl, ?_⟩
    have hX447 := hX427.trans hx446 hpin23
    have hm448 := hm380.extS hx446 (NP.notb hnp26)
    have hnp449 := NP.call hnp26 hlo445 (fun j hj => by cases hj; exact hm380.lt)
    have hpin450 := PIn.call hpin23 hlo445 hX427.size
    have hql451 := hpx444.len
    have hml452 : (q439.ns.map Nd.l).length = q439.ns.length ∧ (q439.ns.map Nd.r).length = q439.ns.length := ⟨List.length_map .., List.length_map ..⟩
    have hml453 : q439.bs.length = q439.ns.length ∧ q439.ns.length ≤ 1048576 := ⟨hok443.ar.ok.len, hok443.ar.ok.lim⟩
    have hng : pd q439 z431 = ordG (pd q fa) (den gs k1) := by rw [hpd433, hg2d.eq, hg3d.eq, ← hZ.2, ← hpf]; exact ord_node hok24 hfl hZ.1
    refine qD rfl (zD (v := (.int .i64 z431)) rfl) ?_
    refine qe (zA (zG ?_))
    refine qD rfl (zB (v := (.map (some m3))) rfl) ?_
    refine qD rfl (zB (v := (.int .i64 (ats.getD k1 0))) rfl) ?_
    refine qD rfl (zB (v := (.int .i64 z431)) rfl) ?_
    refine q0 rfl rfl rfl (qN (val := (fun v : Int => Value.int .i64 v)) (k := (ats.getD k1 0)) (v := z431) (qH Tryz.underlying3) Tryz.underlying71 rfl rfl rfl hX447.pins hm448 (fun w454 hm455 hp456 hg457 hz458 => ?_))
    have hX459 := hX447.write hp456 hg457 ((yW hlo12))
    have hpk460 := hpk442.kept hg457 hp456 hnp449
    refine qe ?_
    refine yJ ?_
    refine zA (zG ?_)
    refine qD rfl (yV rfl rfl (by omega)) ?_
    refine qD rfl (zB (v := (.int .i64 ((k1 : Int) + 1))) rfl) ?_
    refine qe ?_
    refine yI ?_
    refine ⟨_, ?_, _, rfl, _, k1 + 1, z431, putE sm (ats.getD k1 0) z431, L436, R437, B438, q439, G440, (zC (x := 21) (zC (x := 20) (zC (x := 19) (zC (x := 8) (zC (x := 7) (zC (x := 6) (zC (x := 1) (zU (x := 0) rfl) rfl) rfl) rfl) rfl) rfl) rfl) rfl), rfl, hX459, (Pin.le_trans (Pin.le_trans (Pin.le_trans (Pin.le_trans (Pin.le_trans hlek17 hlek320) hlek373) hle421) hle428) hx446.le), (by omega), (hatl.px hpx444 hok24 hok443), ((homl.px hpx444 hok24 hok443).put (hatl.px hpx444 hok24 hok443) (by omega) hpl432 hng), (fun _ => ⟨hpl432, by rw [Nat.add_sub_cancel]; exact hng⟩), (by omega), hm455, hpk460, hpin450, hok443, (PX.trans hpx25 hpx444), hnp449⟩
    omega
  ·skip
   refine (zV (i := 9) rfl rfl rfl (zH rfl _) (xG (E := eInt) (e := 3) Tryz.underlying67 sz3 hX37.pins (fun u461 w462 ho463 hp464 hl465 hk466 => ?_)))
   have hX467 := hX37.step hp464 hl465
   have hm468 := hm38.below hl465
   have hpk469 := hpk39.below hl465 hp464
   have ha474 := hpk39.new (x := u461.ownBlock) (fun k hk => by rw [hk466] at hk; cases hk; exact Nat.le_refl _)
   have ho475 : Own eInt 3 GL1 w462 w.heap.size u461 ([]) := ho463.weaken hX37.size
   have hq476 := hq40.below hl465
   have hq477 := hq41.below hl465
   refine ⟨fun _ => ⟨hpk469.bx.reads, hq476, hq477⟩, ?_⟩
   refine zN (i := 0) (by kernel_rfl) (zV (i := 0) rfl rfl rfl (zH rfl _) (xG (E := eInt) (e := 3) Tryz.underlying67 sz3 hX467.pins (fun u478 w479 ho480 hp481 hl482 hk483 => ?_)))
   have hX484 := hX467.step hp481 hl482
   have ho485 := ho475.below hl482
   have hm486 := hm468.below hl482
   have hpk487 := hpk469.below hl482 hp481
   have ha491 : Apart u478.ownBlock u461.ownBlock := zJ hk483 ho475.lt
   have ha493 := hpk469.new (x := u478.ownBlock) (fun k hk => by rw [hk483] at hk; cases hk; exact Nat.le_refl _)
   have ho494 : Own eInt 3 GL1 w479 w.heap.size u478 ([]) := ho480.weaken hX467.size
   have hq495 := hq476.below hl482
   have hq496 := hq477.below hl482
   refine ⟨fun _ => ⟨hpk487.bx.reads, hq495, hq496⟩, ?_⟩
   refine zN (i := 8) (by kernel_rfl) (zV (i := 8) rfl rfl rfl (zH rfl _) (zY (E := eInt) (v := u478) (u := u42) 8 Tryz.underlying67 ap3 (by decide) rfl rfl hX484.pins ho494 ((hr43.mono (Pin.le_refl _)).src hX484.pins (by decide)) (by first | omega | (rw [List.nil_append]; omega) | (rw [List.length_nil]; omega) | (rw [List.length_append]; omega) | (simp; done) | (simp; omega) | (simp only [List.length_append, List.length_cons, List.length_nil]; omega)) (by first | omega | (rw [List.nil_append]; omega) | (rw [List.length_nil]; omega) | (rw [List.length_append]; omega) | (simp; done) | (simp; omega) | (simp only [List.length_append, List.length_cons, List.length_nil]; omega)) (hX484.size) (fun u497 w498 ho499 hp500 hg501 hw502 => ?_)))
   have hX503 := hX484.write hp500 hg501 ((yF ho494))
   have ho504 := ho485.keptA hg501 ha491.symm
   have hm505 := hm486.kept hg501 (yD hm486 ho494)
   have hpk506 := hpk487.kept hg501 hp500 ha493
   have ha507 : Apart u461.ownBlock u497.ownBlock := zI ha491.symm hw502 ho485.lt
   have hnp508 := qF ha493 hpk487 hw502
   have hm509 : (([]) ++ ((q16.ns.getD (fa).toNat default).l)).length = ([]).length + ((q16.ns.getD (fa).toNat default).l).length := List.length_append
   have hq510 := Gadd.turn hq495 (Pins.of_le hX503.pins (Pin.le_refl _)) (Ext.one hp500 hg501) (notO (NP.hl ha493).symm)
   have hq511 := Gadd.turn hq496 (Pins.of_le hX503.pins (Pin.le_refl _)) (Ext.one hp500 hg501) (notO (NP.hr ha493).symm)
   refine ⟨fun _ => ⟨hpk506.bx.reads, hq510, hq511⟩, ?_⟩
   refine zN (i := 17) (by kernel_rfl) (zV (i := 17) rfl rfl rfl (zH rfl _) (zY (E := eInt) (v := u461) (u := u46) 8 Tryz.underlying67 ap3 (by decide) rfl rfl hX503.pins ho504 ((hr47.mono (Pin.le_refl _)).src hX503.pins (by decide)) (by first | omega | (rw [List.nil_append]; omega) | (rw [List.length_nil]; omega) | (rw [List.length_append]; omega) | (simp; done) | (simp; omega) | (simp only [List.length_append, List.length_cons, List.length_nil]; omega)) (by first | omega | (rw [List.nil_append]; omega) | (rw [List.length_nil]; omega) | (rw [List.length_append]; omega) | (simp; done) | (simp; omega) | (simp only [List.length_append, List.length_cons, List.length_nil]; omega)) (hX503.size) (fun u512 w513 ho514 hp515 hg516 hw517 => ?_)))
   have hX518 := hX503.write hp515 hg516 ((yF ho504))
   have ho519 := ho499.keptA hg516 ha507.symm
   have hm520 := hm505.kept hg516 (yD hm505 ho504)
   have hpk521 := hpk506.kept hg516 hp515 ha474
   have ha522 : Apart u497.ownBlock u512.ownBlock := zI ha507.symm hw517 ho499.lt
   have hnp523 := qF ha474 hpk506 hw517
   have hm524 : (([]) ++ ((q16.ns.getD (fa).toNat default).r)).length = ([]).length + ((q16.ns.getD (fa).toNat default).r).length := List.length_append
   have hq525 := Gadd.turn hq510 (Pins.of_le hX518.pins (Pin.le_refl _)) (Ext.one hp515 hg516) (notO (NP.hl ha474).symm)
   have hq526 := Gadd.turn hq511 (Pins.of_le hX518.pins (Pin.le_refl _)) (Ext.one hp515 hg516) (notO (NP.hr ha474).symm)
   refine ⟨fun _ => ⟨hpk521.bx.reads, hq525, hq526⟩, ?_⟩
   refine dT (i := 18) rfl rfl (by kernel_rfl) (fun _ _ => zD (v := u497) rfl) ⟨hpk521.bx.reads, hq525, hq526⟩ ?_
   refine dT (i := 19) rfl rfl (by kernel_rfl) (fun _ _ => zD (v := u512) rfl) ⟨hpk521.bx.reads, hq525, hq526⟩ ?_
   refine yS (by kernel_rfl) ?_
   refine zA (zF (zF (zG ?_)))
   refine qD rfl (zB (v := (.pointer (some ⟨p, 0, none⟩))) rfl) ?_
   refine qD rfl (xK rfl) ?_
   refine qD rfl (zP (k := 0) rfl Tryz.underlying74 rfl nz68 rfl) ?_
   refine qD rfl (zS (u := L13) ag68 rfl (hpk521.bx.cell (o := 0) rfl)) ?_
   refine qD rfl (zB (v := (.int .i64 (ats.getD k1 0))) rfl) ?_
   refine qD rfl (zL Tryz.underlying68 sz67 (v := L13) rfl rfl hpk521.ol.read (by omega) (by omega)) ?_
   obtain ⟨u527, hr528, hl529⟩ := nm_sl (hpk521.ol.at (z := (ats.getD k1 0)) (by omega) (by omega)) (j := (ats.getD k1 0).toNat) rfl
   rw [mapl_getD] at hr528
   have hm530 := hr528.max
   refine qD rfl (hl529 ag67 rfl (Gadd.pins hX518.pins L13)) ?_
   refine qD rfl (zO Tryz.underlying67 (v := u527) rfl hr528) ?_
   refine qD rfl (zB (v := (.int .i64 0)) rfl) ?_
   refine qe (zA ?_)
   refine zZ ?_
   refine yT (fun (k : Nat) (en : Nat → Value) (W : World) => ∃ (env1 : Nat → Value) (j2 : Nat) (lv2 : Value) (ls2 : List Int) (GL2 : Pin), en = (upd (upd (upd (upd (upd (upd (upd (upd (upd (upd (upd (upd (upd (upd env1 0 (.pointer (some ⟨p, 0, none⟩))) 1 (.int .i64 fa)) 6 (.int .i64 0)) 7 (.map (some m3))) 8 (.int .i64 az)) 10 (.int .i64 (ats.getD k1 0))) 11 lv2) 12 u512) 19 x) 20 (.int .i64 (ats.length : Int))) 21 (.int .i64 (k1 : Int))) 49 u527) 50 (.int .i64 (((q16.ns.getD (ats.getD k1 0).toNat default).l).length : Int))) 51 (.int .i64 (j2 : Int))) ∧ k = (q16.ns.getD ((ats.getD k1 0)).toNat default).l.length - j2 ∧ Ext (inP p L R B mm) G w GL2 W ∧ Pin.le GL1 GL2 ∧ (j2 ≤ (q16.ns.getD ((ats.getD k1 0)).toNat default).l.length) ∧ (GsOk q16 ls2 (((q16.ns.getD (fa).toNat default).l.map (pd q16)) ++ ((q16.ns.getD ((ats.getD k1 0)).toNat default).l.take j2).map (fun o => ordG (pd q fa) (pd q16 o)))) ∧ (Own eInt 3 GL2 W w.heap.size lv2 (ls2)) ∧ (Own eInt 3 GL2 W w.heap.size u512 (([]) ++ ((q16.ns.getD (fa).toNat default).r))) ∧ (Apart lv2.ownBlock u512.ownBlock) ∧ (Mp (fun k : Int => Value.int .i64 k) (fun v : Int => Value.int .i64 v) W m3 (sm)) ∧ (Pk 67 3 GL2 W p L13 R14 B15 mm q16) ∧ (NP p L13 R14 B15 mm lv2.ownBlock)) _ ⟨_, 0, u497, ([]) ++ ((q16.ns.getD (fa).toNat default).l), GL1, (zC (x := 51) (zC (x := 50) (zC (x := 49) (zC (x := 21) (zC (x := 20) (zC (x := 19) (zC (x := 12) (zC (x := 11) (zC (x := 10) (zC (x := 8) (zC (x := 7) (zC (x := 6) (zC (x := 1) (zU (x := 0) rfl) rfl) rfl) rfl) rfl) rfl) rfl) rfl) rfl) rfl) rfl) rfl) rfl) rfl), rfl, hX518, Pin.le_refl _, Nat.zero_le _, (by rw [List.take_zero, List.map_nil, List.append_nil]; exact ⟨fun z hz => (qX hok24 hfl).1 z (by simpa using hz), by simp⟩), ho519, ho514, ha522, hm520, hpk521, hnp508⟩ ?_
   rintro k535 _ w536 ⟨env1, j2, lv2, ls2, GL2, rfl, hk537, hX538, hlek535, hkj2, hg2, hw539, hw540, ha541, hm542, hpk543, hnp544⟩
   have hgl2 := hg2.lenj hkj2
   rw [List.length_map] at hgl2
   refine zF (zG ?_)
   refine qD rfl (yQ rfl rfl) ?_
   refine qe (zA (zF ?_))
   refine yG (p := ((j2 : Int) : Int) < (((q16.ns.getD (ats.getD k1 0).toNat default).l).length : Int)) rfl rfl (fun h545 => ?_) (fun h545 => ?_)
   ·skip
    have hmj : (q16.ns.getD ((ats.getD k1 0)).toNat default).l.getD j2 0 ∈ (q16.ns.getD ((ats.getD k1 0)).toNat default).l := yR (show j2 < (q16.ns.getD ((ats.getD k1 0)).toNat default).l.length by omega)
    have hol := homl.opt hok24 hgo rfl hatl (show k1 < gs.length by omega) (Or.inl hmj)
    refine wp_skip ?_
    refine zA (zF ?_)
    refine zZ ?_
    refine zF (zG ?_)
    refine qD rfl (zL Tryz.underlying67 sz3 (v := u527) rfl rfl hr528 (by omega) (by omega)) ?_
    refine qD rfl (zK (r := ((q16.ns.getD (ats.getD k1 0).toNat default).l).getD j2 0) rfl ag3 (z := (j2 : Int)) rfl hr528 (Pins.of_le hX538.pins hlek535) (by omega) (by omega)) ?_
    refine qD rfl (zD (v := (.int .i64 (((q16.ns.getD (ats.getD k1 0).toNat default).l).getD j2 0))) rfl) ?_
    refine qe (zA (zG ?_))
    refine qD rfl (zB (v := lv2) rfl) ?_
    refine qD rfl (zB (v := (.map (some m3))) rfl) ?_
    refine qD rfl (zB (v := (.int .i64 (((q16.ns.getD (ats.getD k1 0).toNat default).l).getD j2 0))) rfl) ?_
    refine qD rfl (qC (k := (((q16.ns.getD (ats.getD k1 0).toNat default).l).getD j2 0)) (qH Tryz.underlying3) Tryz.underlying71 zr3 hm542 rfl rfl) ?_
    refine qI rfl (xC (E := eInt) (e := 3) [(.int .i64 ((Go.GL.look sm (((q16.ns.getD (ats.getD k1 0).toNat default).l).getD j2 0)).getD 0))] [(Go.GL.look sm (((q16.ns.getD (ats.getD k1 0).toNat default).l).getD j2 0)).getD 0] Tryz.underlying67 sz3 zr3 (by exact xY (by rfl)) (yZ (by rfl)) rfl rfl rfl rfl (by decide) hX538.pins (fun u546 w547 ho548 hp549 hl550 hk551 => ?_))
    have hX552 := hX538.step hp549 hl550
    have ho553 := hw539.below hl550
    have ho554 := hw540.below hl550
    have hm555 := hm542.below hl550
    have hpk556 := hpk543.below hl550 hp549
    have ho564 : Own eInt 3 GL2 w547 w.heap.size u546 ([(Go.GL.look sm (((q16.ns.getD (ats.getD k1 0).toNat default).l).getD j2 0)).getD 0]) := ho548.weaken hX538.size
    refine qI rfl (zY (E := eInt) (v := lv2) (u := u546) 8 Tryz.underlying67 ap3 (by decide) rfl rfl hX552.pins ho553 ho564.src (by first | omega | (rw [List.nil_append]; omega) | (rw [List.length_nil]; omega) | (rw [List.length_append]; omega) | (simp; done) | (simp; omega) | (simp only [List.length_append, List.length_cons, List.length_nil]; omega)) (by first | omega | (rw [List.nil_append]; omega) | (rw [List.length_nil]; omega) | (rw [List.length_append]; omega) | (simp; done) | (simp; omega) | (simp only [List.length_append, List.length_cons, List.length_nil]; omega)) (hX552.size) (fun u565 w566 ho567 hp568 hg569 hw570 => ?_))
    have hX571 := hX552.write hp568 hg569 ((yF ho553))
    have ho572 := ho554.keptA hg569 ha541.symm
    have hm574 := hm555.kept hg569 (yD hm555 ho553)
    have hpk575 := hpk556.kept hg569 hp568 hnp544
    have ha576 : Apart u512.ownBlock u565.ownBlock := zI ha541.symm hw570 ho554.lt
    have hnp578 := qF hnp544 hpk556 hw570
    have hm579 : (ls2 ++ ([(Go.GL.look sm (((q16.ns.getD (ats.getD k1 0).toNat default).l).getD j2 0)).getD 0])).length = ls2.length + 1 := List.length_append
    refine qD rfl (zD (v := u565) rfl) ?_
    refine qe ?_
    refine yJ ?_
    refine zA (zG ?_)
    refine qD rfl (yV rfl rfl (by omega)) ?_
    refine qD rfl (zB (v := (.int .i64 ((j2 : Int) + 1))) rfl) ?_
    refine qe ?_
    refine yI ?_
    refine ⟨_, ?_, _, rfl, _, j2 + 1, u565, ls2 ++ ([(Go.GL.look sm (((q16.ns.getD (ats.getD k1 0).toNat default).l).getD j2 0)).getD 0]), GL2, (zC (x := 51) (zC (x := 50) (zC (x := 49) (zC (x := 21) (zC (x := 20) (zC (x := 19) (zC (x := 12) (zC (x := 11) (zC (x := 10) (zC (x := 8) (zC (x := 7) (zC (x := 6) (zC (x := 1) (zU (x := 0) rfl) rfl) rfl) rfl) rfl) rfl) rfl) rfl) rfl) rfl) rfl) rfl) rfl) rfl), rfl, hX571, hlek535, (by omega), (hg2.next (PX.refl _) hok24 hok24 hol.1 (by omega) hol.2), ho567, ho572, ha576.symm, hm574, hpk575, hnp578⟩
    omega
   refine wp_exit ?_
   refine yC ?_
   refine yM ?_
   refine yK ?_
   refine zA (zF (zF (zG ?_)))
   refine qD rfl (zB (v := (.pointer (some ⟨p, 0, none⟩))) rfl) ?_
   refine qD rfl (xK rfl) ?_
   refine qD rfl (zP (k := 1) rfl Tryz.underlying74 rfl nz68 rfl) ?_
   refine qD rfl (zS (u := R14) ag68 rfl (hpk543.bx.cell (o := 1) rfl)) ?_
   refine qD rfl (zB (v := (.int .i64 (ats.getD k1 0))) rfl) ?_
   refine qD rfl (zL Tryz.underlying68 sz67 (v := R14) rfl rfl hpk543.rr.read (by omega) (by omega)) ?_
   obtain ⟨u580, hr581, hl582⟩ := nm_sl (hpk543.rr.at (z := (ats.getD k1 0)) (by omega) (by omega)) (j := (ats.getD k1 0).toNat) rfl
   rw [mapr_getD] at hr581
   have hm583 := hr581.max
   refine qD rfl (hl582 ag67 rfl (Gadd.pins hX538.pins R14)) ?_
   refine qD rfl (zO Tryz.underlying67 (v := u580) rfl hr581) ?_
   refine qD rfl (zB (v := (.int .i64 0)) rfl) ?_
   refine qe (zA ?_)
   refine zZ ?_
   refine yT (fun (k : Nat) (en : Nat → Value) (W : World) => ∃ (env1 : Nat → Value) (j3 : Nat) (lv3 : Value) (ls3 : List Int) (GL3 : Pin), en = (upd (upd (upd (upd (upd (upd (upd (upd (upd (upd (upd (upd (upd (upd env1 0 (.pointer (some ⟨p, 0, none⟩))) 1 (.int .i64 fa)) 6 (.int .i64 0)) 7 (.map (some m3))) 8 (.int .i64 az)) 10 (.int .i64 (ats.getD k1 0))) 11 lv2) 12 lv3) 19 x) 20 (.int .i64 (ats.length : Int))) 21 (.int .i64 (k1 : Int))) 68 u580) 69 (.int .i64 (((q16.ns.getD (ats.getD k1 0).toNat default).r).length : Int))) 70 (.int .i64 (j3 : Int))) ∧ k = (q16.ns.getD ((ats.getD k1 0)).toNat default).r.length - j3 ∧ Ext (inP p L R B mm) G w GL3 W ∧ Pin.le GL2 GL3 ∧ (j3 ≤ (q16.ns.getD ((ats.getD k1 0)).toNat default).r.length) ∧ (GsOk q16 ls3 (((q16.ns.getD (fa).toNat default).r.map (pd q16)) ++ ((q16.ns.getD ((ats.getD k1 0)).toNat default).r.take j3).map (fun o => ordG (pd q fa) (pd q16 o)))) ∧ (Own eInt 3 GL3 W w.heap.size lv3 (ls3)) ∧ (Own eInt 3 GL3 W w.heap.size lv2 (ls2)) ∧ (Apart lv3.ownBlock lv2.ownBlock) ∧ (Mp (fun k : Int => Value.int .i64 k) (fun v : Int => Value.int .i64 v) W m3 (sm)) ∧ (Pk 67 3 GL3 W p L13 R14 B15 mm q16) ∧ (NP p L13 R14 B15 mm lv3.ownBlock)) _ ⟨_, 0, u512, ([]) ++ ((q16.ns.getD (fa).toNat default).r), GL2, (zC (x := 70) (zC (x := 69) (zC (x := 68) (zC (x := 21) (zC (x := 20) (zC (x := 19) (zC (x := 12) (zC (x := 11) (zC (x := 10) (zC (x := 8) (zC (x := 7) (zC (x := 6) (zC (x := 1) (zU (x := 0) rfl) rfl) rfl) rfl) rfl) rfl) rfl) rfl) rfl) rfl) rfl) rfl) rfl) rfl), rfl, hX538, Pin.le_refl _, Nat.zero_le _, (by rw [List.take_zero, List.map_nil, List.append_nil]; exact ⟨fun z hz => (qX hok24 hfl).2 z (by simpa using hz), by simp⟩), hw540, hw539, ha541.symm, hm542, hpk543, hnp523⟩ ?_
   rintro k588 _ w589 ⟨env1, j3, lv3, ls3, GL3, rfl, hk590, hX591, hlek588, hkj3, hg3, hw592, hw593, ha594, hm595, hpk596, hnp597⟩
   have hgl3 := hg3.lenj hkj3
   rw [List.length_map] at hgl3
   refine zF (zG ?_)
   refine qD rfl (yQ rfl rfl) ?_
   refine qe (zA (zF ?_))
   refine yG (p := ((j3 : Int) : Int) < (((q16.ns.getD (ats.getD k1 0).toNat default).r).length : Int)) rfl rfl (fun h598 => ?_) (fun h598 => ?_)
   ·skip
    have hmj : (q16.ns.getD ((ats.getD k1 0)).toNat default).r.getD j3 0 ∈ (q16.ns.getD ((ats.getD k1 0)).toNat default).r := yR (show j3 < (q16.ns.getD ((ats.getD k1 0)).toNat default).r.length by omega)
    have hol := homl.opt hok24 hgo rfl hatl (show k1 < gs.length by omega) (Or.inr hmj)
    refine wp_skip ?_
    refine zA (zF ?_)
    refine zZ ?_
    refine zF (zG ?_)
    refine qD rfl (zL Tryz.underlying67 sz3 (v := u580) rfl rfl hr581 (by omega) (by omega)) ?_
    refine qD rfl (zK (r := ((q16.ns.getD (ats.getD k1 0).toNat default).r).getD j3 0) rfl ag3 (z := (j3 : Int)) rfl hr581 (Pins.of_le hX591.pins hlek588) (by omega) (by omega)) ?_
    refine qD rfl (zD (v := (.int .i64 (((q16.ns.getD (ats.getD k1 0).toNat default).r).getD j3 0))) rfl) ?_
    refine qe (zA (zG ?_))
    refine qD rfl (zB (v := lv3) rfl) ?_
    refine qD rfl (zB (v := (.map (some m3))) rfl) ?_
    refine qD rfl (zB (v := (.int .i64 (((q16.ns.getD (ats.getD k1 0).toNat default).r).getD j3 0))) rfl) ?_
    refine qD rfl (qC (k := (((q16.ns.getD (ats.getD k1 0).toNat default).r).getD j3 0)) (qH Tryz.underlying3) Tryz.underlying71 zr3 hm595 rfl rfl) ?_
    refine qI rfl (xC (E := eInt) (e := 3) [(.int .i64 ((Go.GL.look sm (((q16.ns.getD (ats.getD k1 0).toNat default).r).getD j3 0)).getD 0))] [(Go.GL.look sm (((q16.ns.getD (ats.getD k1 0).toNat default).r).getD j3 0)).getD 0] Tryz.underlying67 sz3 zr3 (by exact xY (by rfl)) (yZ (by rfl)) rfl rfl rfl rfl (by decide) hX591.pins (fun u599 w600 ho601 hp602 hl603 hk604 => ?_))
    have hX605 := hX591.step hp602 hl603
    have ho606 := hw592.below hl603
    have ho607 := hw593.below hl603
    have hm608 := hm595.below hl603
    have hpk609 := hpk596.below hl603 hp602
    have ho617 : Own eInt 3 GL3 w600 w.heap.size u599 ([(Go.GL.look sm (((q16.ns.getD (ats.getD k1 0).toNat default).r).getD j3 0)).getD 0]) := ho601.weaken hX591.size
    refine qI rfl (zY (E := eInt) (v := lv3) (u := u599) 8 Tryz.underlying67 ap3 (by decide) rfl rfl hX605.pins ho606 ho617.src (by first | omega | (rw [List.nil_append]; omega) | (rw [List.length_nil]; omega) | (rw [List.length_append]; omega) | (simp; done) | (simp; omega) | (simp only [List.length_append, List.length_cons, List.length_nil]; omega)) (by first | omega | (rw [List.nil_append]; omega) | (rw [List.length_nil]; omega) | (rw [List.length_append]; omega) | (simp; done) | (simp; omega) | (simp only [List.length_append, List.length_cons, List.length_nil]; omega)) (hX605.size) (fun u618 w619 ho620 hp621 hg622 hw623 => ?_))
    have hX624 := hX605.write hp621 hg622 ((yF ho606))
    have ho625 := ho607.keptA hg622 ha594.symm
    have hm627 := hm608.kept hg622 (yD hm608 ho606)
    have hpk628 := hpk609.kept hg622 hp621 hnp597
    have ha629 : Apart lv2.ownBlock u618.ownBlock := zI ha594.symm hw623 ho607.lt
    have hnp631 := qF hnp597 hpk609 hw623
    have hm632 : (ls3 ++ ([(Go.GL.look sm (((q16.ns.getD (ats.getD k1 0).toNat default).r).getD j3 0)).getD 0])).length = ls3.length + 1 := List.length_append
    refine qD rfl (zD (v := u618) rfl) ?_
    refine qe ?_
    refine yJ ?_
    refine zA (zG ?_)
    refine qD rfl (yV rfl rfl (by omega)) ?_
    refine qD rfl (zB (v := (.int .i64 ((j3 : Int) + 1))) rfl) ?_
    refine qe ?_
    refine yI ?_
    refine ⟨_, ?_, _, rfl, _, j3 + 1, u618, ls3 ++ ([(Go.GL.look sm (((q16.ns.getD (ats.getD k1 0).toNat default).r).getD j3 0)).getD 0]), GL3, (zC (x := 70) (zC (x := 69) (zC (x := 68) (zC (x := 21) (zC (x := 20) (zC (x := 19) (zC (x := 12) (zC (x := 11) (zC (x := 10) (zC (x := 8) (zC (x := 7) (zC (x := 6) (zC (x := 1) (zU (x := 0) rfl) rfl) rfl) rfl) rfl) rfl) rfl) rfl) rfl) rfl) rfl) rfl) rfl) rfl), rfl, hX624, hlek588, (by omega), (hg3.next (PX.refl _) hok24 hok24 hol.1 (by omega) hol.2), ho620, ho625, ha629.symm, hm627, hpk628, hnp631⟩
    omega
   refine wp_exit ?_
   refine yC ?_
   refine yM ?_
   refine yK ?_
   refine zA (zF (zG ?_))
   refine qD rfl (zB (v := (.pointer (some ⟨p, 0, none⟩))) rfl) ?_
   refine qD rfl (zB (v := lv2) rfl) ?_
   refine qD rfl (zB (v := lv3) rfl) ?_
   obtain ⟨G633, hle636, hX635, hr634, hf637⟩ := hw593.sealed hX591
   have ho638 := hw592.moreO hle636 hf637 ha594
   have hpk639 := hpk596.moreO hle636 hf637 hnp544
   obtain ⟨G640, hle643, hX642, hr641, hf644⟩ := ho638.sealed hX635
   have hpk645 := hpk639.moreO hle643 hf644 hnp597
   have hj2n : j2 = (q16.ns.getD ((ats.getD k1 0)).toNat default).l.length := by omega
   have hj3n : j3 = (q16.ns.getD ((ats.getD k1 0)).toNat default).r.length := by omega
   have hg2d := hg2.done hj2n
   have hg3d := hg3.done hj3n
   refine qI rfl (zM (vs := [(.pointer (some ⟨p, 0, none⟩)), lv2, lv3]) Tryz.func87 nm87 rfl rfl rfl ?_)
   refine Calls.mono (node_spec hX642.pins hpk645 hok24 (hr634.mono hle643) hr641 (by omega) ⟨by omega, by omega⟩ (qJ hg2d.pl) (qJ hg3d.pl)) ?_
   rintro _ w656 ⟨z646, L651, R652, B653, q654, G655, rfl, hpk657, hok658, hpx659, hlo660, hx661, hpl647, hpd648, hqn649, hcm650⟩
   refine ⟨_, rfl, ?_⟩
   have hX662 := hX642.trans hx661 hpin23
   have hm663 := hm595.extS hx661 (NP.notb hnp26)
   have hnp664 := NP.call hnp26 hlo660 (fun j hj => by cases hj; exact hm595.lt)
   have hpin665 := PIn.call hpin23 hlo660 hX642.size
   have hql666 := hpx659.len
   have hml667 : (q654.ns.map Nd.l).length = q654.ns.length ∧ (q654.ns.map Nd.r).length = q654.ns.length := ⟨List.length_map .., List.length_map ..⟩
   have hml668 : q654.bs.length = q654.ns.length ∧ q654.ns.length ≤ 1048576 := ⟨hok658.ar.ok.len, hok658.ar.ok.lim⟩
   have hng : pd q654 z646 = ordG (pd q fa) (den gs k1) := by rw [hpd648, hg2d.eq, hg3d.eq, ← hZ.2, ← hpf]; exact ord_node hok24 hfl hZ.1
   refine qD rfl (zD (v := (.int .i64 z646)) rfl) ?_
   refine qe (zA (zG ?_))
   refine qD rfl (zB (v := (.map (some m3))) rfl) ?_
   refine qD rfl (zB (v := (.int .i64 (ats.getD k1 0))) rfl) ?_
   refine qD rfl (zB (v := (.int .i64 z646)) rfl) ?_
   refine q0 rfl rfl rfl (qN (val := (fun v : Int => Value.int .i64 v)) (k := (ats.getD k1 0)) (v := z646) (qH Tryz.underlying3) Tryz.underlying71 rfl rfl rfl hX662.pins hm663 (fun w669 hm670 hp671 hg672 hz673 => ?_))
   have hX674 := hX662.write hp671 hg672 ((yW hlo12))
   have hpk675 := hpk657.kept hg672 hp671 hnp664
   refine qe ?_
   refine yJ ?_
   refine zA (zG ?_)
   refine qD rfl (yV rfl rfl (by omega)) ?_
   refine qD rfl (zB (v := (.int .i64 ((k1 : Int) + 1))) rfl) ?_
   refine qe ?_
   refine yI ?_
   refine ⟨_, ?_, _, rfl, _, k1 + 1, z646, putE sm (ats.getD k1 0) z646, L651, R652, B653, q654, G655, (zC (x := 21) (zC (x := 20) (zC (x := 19) (zC (x := 8) (zC (x := 7) (zC (x := 6) (zC (x := 1) (zU (x := 0) rfl) rfl) rfl) rfl) rfl) rfl) rfl) rfl), rfl, hX674, (Pin.le_trans (Pin.le_trans (Pin.le_trans (Pin.le_trans (Pin.le_trans hlek17 hlek535) hlek588) hle636) hle643) hx661.le), (by omega), (hatl.px hpx659 hok24 hok658), ((homl.px hpx659 hok24 hok658).put (hatl.px hpx659 hok24 hok658) (by omega) hpl647 hng), (fun _ => ⟨hpl647, by rw [Nat.add_sub_cancel]; exact hng⟩), (by omega), hm670, hpk675, hpin665, hok658, (PX.trans hpx25 hpx659), hnp664⟩
   omega
 refine wp_exit ?_
 refine yC ?_
 refine yM ?_
 refine yK ?_
 refine zA (zF (zG ?_))
 refine qD rfl (zB (v := (.int .i64 az)) rfl) ?_
 refine qD rfl (zD (v := (.int .i64 az)) rfl) ?_
 refine qe (zA ?_)
 refine wp_ret ?_
 refine zX ?_
 refine zT (v := (.int .i64 az)) rfl rfl rfl ?_
 have hkn : k1 = gs.length := by omega
 have hz := haz (by omega)
 exact ⟨_, L13, R14, B15, q16, GL1, rfl, hpk22, hok24, hpx25, PIn.lo hpin23 rfl, hX20, hz.1, (by rw [hz.2, hkn]; rfl), (by omega)⟩

theorem iOrdinalSum_dspec {w : World} {G : Pin} {u v : Value} {fs gs : List Nd} (hP : Pins G w) (hu : RSl eNode G u fs) (hv : RSl eNode G v gs) :
  Calls Tryz.prog 39 [(.agg [u].toArray), (.agg [v].toArray)].toArray w fun e w' => ∃ (u : Value) (G' : Pin), e = .returned (.tuple #[(.agg [u].toArray), .bool (ordB fs gs)]) ∧ DForm 103 3 G' w' w.heap.size w'.heap.size u (ordF fs gs) ∧ Ext noS G w G' w' := by
 refine yB (n := 25) Tryz.func39 Tryz.ntmps39 rfl rfl ?_
 have hX0 : Ext noS G w G w := Ext.refl hP
 refine zF (zG ?_)
 refine qI rfl (xP [u] (v := (.agg [u].toArray)) rfl rfl hX0.pins (fun b1 w2 hk3 hb4 hp5 hl6 => ?_))
 have hX7 := hX0.step hp5 hl6
 have hlo8 : w.heap.size ≤ b1 := by have := hX0.size; omega
 obtain ⟨G9, hle10, hX11, hbp12, hf13⟩ := hb4.shut hX7 hlo8
 refine qI rfl (xP [v] (v := (.agg [v].toArray)) rfl rfl hX11.pins (fun b14 w15 hk16 hb17 hp18 hl19 => ?_))
 have hX20 := hX11.step hp18 hl19
 have hlo21 : w.heap.size ≤ b14 := by have := hX11.size; omega
 obtain ⟨G22, hle23, hX24, hbp25, hf26⟩ := hb17.shut hX20 hlo21
 refine qI rfl (yY [(.slice none 0 0)] zr32 rfl hX24.pins (fun b27 w28 hk29 hb30 hp31 hl32 => ?_))
 have hX33 := hX24.step hp31 hl32
 have hlo34 : w.heap.size ≤ b27 := by have := hX24.size; omega
 refine qD rfl (zD (v := (.bool false)) rfl) ?_
 refine qe (zA (zF (zF (zG ?_))))
 refine qD rfl (yX (cs := [u]) ag32 sz32 rfl (fun j u hj => (Pins.of_le hX33.pins hle23) _ _ _ (hbp12 _ _ (by simpa using hj)))) ?_
 refine qD rfl (yX (cs := [v]) ag32 sz32 rfl (fun j u hj => hX33.pins _ _ _ (hbp25 _ _ (by simpa using hj)))) ?_
 refine qI rfl (zM (vs := [(.agg [u].toArray), (.agg [v].toArray)]) Tryz.func81 nm81 rfl rfl rfl ?_)
 refine Calls.mono (pairs_spec hX33.pins (hu.mono (Pin.le_trans hle10 hle23)) (hv.mono (Pin.le_trans hle10 hle23))) ?_
 rintro _ w36 ⟨G35, rfl, hx37⟩
 refine ⟨_, rfl, ?_⟩
 have hX38 := hX33.tr hx37
 have hb39 := hb30.ext hx37
 refine qD rfl (qG rfl) ?_
 refine qe (zA ?_)
 refine c_ifn rfl rfl (fun h40 => ?_) (fun h40 => ?_)
 ·skip
  refine wp_skip ?_
  refine zA (zF (zG ?_))
  have hpp := pair_iff.1 h40
  have hga := hpp.a
  have hgb := hpp.b
  have hle := hpp.le
  have hla := hga.lo
  have hlb := hgb.lo
  have hha := hga.hi
  have hhb := hgb.hi
  refine qI rfl (zM (vs := []) Tryz.func55 nm55 rfl rfl rfl ?_)
  refine Calls.mono (newPool_spec hX38.pins) ?_
  rintro _ w44 ⟨p41, mm42, G43, rfl, hpk45, hfr46, hx47⟩
  refine ⟨_, rfl, ?_⟩
  have hX51 := hX38.tr hx47
  have hb52 := hb39.ext hx47
  have hnp53 := np_fresh hfr46 (x := (some b27)) (box_lt hb39)
  have hpin54 : PIn w (noS) p41 (.slice none 0 0) (.slice none 0 0) (.slice none 0 0) mm42 := PIn.fresh hfr46 hX38.size
  obtain ⟨q48, hq49⟩ : ∃ q, q = (⟨[], [], [], [], [], [], []⟩ : PSt) := ⟨_, rfl⟩
  rw [← hq49] at hpk45
  have hok50 : PoolOk q48 := by rw [hq49]; exact PoolOk.empty
  have hq49l : q48.ns.length = 0 := by rw [hq49]; rfl
  obtain ⟨L55, R56, B57, eL55, eR56, eB57⟩ : ∃ (l r b : Value), l = .slice none 0 0 ∧ r = .slice none 0 0 ∧ b = .slice none 0 0 := ⟨_, _, _, rfl, rfl, rfl⟩
  have hpk452 : Pk 67 3 G43 w44 p41 L55 R56 B57 mm42 q48 := by rw [eL55, eR56, eB57]; exact hpk45
  have hpin542 : PIn w (noS) p41 L55 R56 B57 mm42 := by rw [eL55, eR56, eB57]; exact hpin54
  have hml58 : (q48.ns.map Nd.l).length = q48.ns.length ∧ (q48.ns.map Nd.r).length = q48.ns.length := ⟨List.length_map .., List.length_map ..⟩
  have hml59 : q48.bs.length = q48.ns.length ∧ q48.ns.length ≤ 1048576 := ⟨hok50.ar.ok.len, hok50.ar.ok.lim⟩
  have hnp53x : NP p41 L55 R56 B57 mm42 (some b27) := by rw [eL55, eR56, eB57]; exact hnp53
  refine qD rfl (zD (v := (.pointer (some ⟨p41, 0, none⟩))) rfl) ?_
  refine qe (zA (zF ?_))
  refine xF (S := fun wz => Pins G43 wz) (last := 14) (by kernel_rfl) rfl ?_
  have hl60 : Below w44.heap.size w44 w44.drew := (Below.refl _ _).drew
  have hp61 := hX51.pins.below hl60
  have hX62 := hX51.step hp61 hl60
  have hb63 := hb52.below hl60
  have hpk64 := hpk452.below hl60 hp61
  refine dT (i := 0) rfl rfl (by kernel_rfl) (fun _ _ => zB (v := (.pointer (some ⟨p41, 0, none⟩))) rfl) hX62.pins ?_
  refine dT (i := 1) rfl rfl (by kernel_rfl) (fun _ _ => zB (v := (.pointer (some ⟨p41, 0, none⟩))) rfl) hX62.pins ?_
  refine dT (i := 2) rfl rfl (by kernel_rfl) (fun _ _ => zB (v := (.pointer (some ⟨p41, 0, none⟩))) rfl) hX62.pins ?_
  refine dT (i := 3) rfl rfl (by kernel_rfl) (fun _ hS => yX (cs := [u]) ag32 sz32 rfl (fun j u hj => (Pins.of_le hS (Pin.le_trans (Pin.le_trans hle23 hx37.le) hx47.le)) _ _ _ (hbp12 _ _ (by simpa using hj)))) hX62.pins ?_
  refine dT (i := 5) rfl rfl (by kernel_rfl) (fun _ _ => zB (v := (.pointer (some ⟨p41, 0, none⟩))) rfl) hX62.pins ?_
  refine dT (i := 6) rfl rfl (by kernel_rfl) (fun _ hS => yX (cs := [v]) ag32 sz32 rfl (fun j u hj => (Pins.of_le hS (Pin.le_trans hx37.le hx47.le)) _ _ _ (hbp25 _ _ (by simpa using hj)))) hX62.pins ?_
  refine zN (i := 4) (by kernel_rfl) (zV (i := 4) rfl rfl rfl (zH rfl _) (zM (vs := [(.pointer (some ⟨p41, 0, none⟩)), (.agg [u].toArray)]) Tryz.func57 nm57 rfl rfl rfl ?_))
  refine Calls.mono (root_spec hX62.pins hpk64 hok50 (hu.mono (Pin.le_trans (Pin.le_trans (Pin.le_trans hle10 hle23) hx37.le) hx47.le)) (good_form hga) (by omega) hla) ?_
  rintro _ w74 ⟨z65, L69, R70, B71, q72, G73, rfl, hpk75, hok76, hpx77, hlo78, hx79, hpl66, hpd67, hqn68⟩
  refine ⟨_, rfl, ?_⟩
  have hX80 := hX62.trans hx79 hpin542
  have hb81 := hb63.extS hx79 (NP.notb hnp53x)
  have hnp82 := NP.call hnp53x hlo78 (box_lt hb63)
  have hpin83 := PIn.call hpin542 hlo78 hX62.size
  have hql84 := hpx77.len
  have hml85 : (q72.ns.map Nd.l).length = q72.ns.length ∧ (q72.ns.map Nd.r).length = q72.ns.length := ⟨List.length_map .., List.length_map ..⟩
  have hml86 : q72.bs.length = q72.ns.length ∧ q72.ns.length ≤ 1048576 := ⟨hok76.ar.ok.len, hok76.ar.ok.lim⟩
  refine ⟨fun _ => (Pins.of_le hX80.pins hx79.le), ?_⟩
  refine zN (i := 7) (by kernel_rfl) (zV (i := 7) rfl rfl rfl (zH rfl _) (zM (vs := [(.pointer (some ⟨p41, 0, none⟩)), (.agg [v].toArray)]) Tryz.func83 nm83 rfl rfl rfl ?_))
  refine Calls.mono (load_spec hX80.pins hpk75 hok76 (hv.mono (Pin.le_trans (Pin.le_trans (Pin.le_trans (Pin.le_trans hle10 hle23) hx37.le) hx47.le) hx79.le)) (good_form hgb) (by omega)) ?_
  rintro _ w93 ⟨u87, ats, L88, R89, B90, q91, G92, rfl, hpk95, hok96, hpx97, hlo98, hx99, ho94, hnp101, hld100⟩
  refine ⟨_, rfl, ?_⟩
  have hX102 := hX80.trans hx99 hpin83
  have hb103 := hb81.extS hx99 (NP.notb hnp82)
  have hnp104 := NP.call hnp82 hlo98 (box_lt hb81)
  have hpin105 := PIn.call hpin83 hlo98 hX80.size
  have hql106 := hpx97.len
  have hml107 : (q91.ns.map Nd.l).length = q91.ns.length ∧ (q91.ns.map Nd.r).length = q91.ns.length := ⟨List.length_map .., List.length_map ..⟩
  have hml108 : q91.bs.length = q91.ns.length ∧ q91.ns.length ≤ 1048576 := ⟨hok96.ar.ok.len, hok96.ar.ok.lim⟩
  have ha109 : Apart u87.ownBlock (some b27) := yA ho94.lt hb81.lt
  have ho110 := ho94.weaken hX80.size
  have hll111 := hld100.len
  refine ⟨fun _ => (Pins.of_le hX102.pins (Pin.le_trans hx79.le hx99.le)), ?_⟩
  have hlh112 := hld100.hi
  obtain ⟨G113, hle116, hX115, hr114, hf117⟩ := ho110.sealed hX102
  have hb118 := hb103.moreO hf117 ha109.symm
  have hpk119 := hpk95.moreO hle116 hf117 hnp101
  have hpza := ((hpx97.pd hok76 hok96 hpl66).trans hpd67)
  refine zN (i := 8) (by kernel_rfl) (zV (i := 8) rfl rfl rfl (zH rfl _) (zM (vs := [(.pointer (some ⟨p41, 0, none⟩)), (.int .i64 z65), u87]) Tryz.func82 nm82 rfl rfl rfl ?_))
  refine Calls.mono (ordinal_spec hX115.pins hpk119 hok96 hr114 ((hpx97.place hpl66)) (LdOk.nk hld100) (good_form hgb).opts (by omega) (by omega)) ?_
  rintro _ w129 ⟨z120, L124, R125, B126, q127, G128, rfl, hpk130, hok131, hpx132, hlo133, hx134, hpl121, hpd122, hqn123⟩
  refine ⟨_, rfl, ?_⟩
  have hX135 := hX115.trans hx134 hpin105
  have hb136 := hb118.extS hx134 (NP.notb hnp104)
  have hpin138 := PIn.call hpin105 hlo133 hX115.size
  have hql139 := hpx132.len
  have hml140 : (q127.ns.map Nd.l).length = q127.ns.length ∧ (q127.ns.map Nd.r).length = q127.ns.length := ⟨List.length_map .., List.length_map ..⟩
  have hml141 : q127.bs.length = q127.ns.length ∧ q127.ns.length ≤ 1048576 := ⟨hok131.ar.ok.len, hok131.ar.ok.lim⟩
  refine ⟨fun _ => (Pins.of_le hX135.pins (Pin.le_trans (Pin.le_trans (Pin.le_trans hx79.le hx99.le) hle116) hx134.le)), ?_⟩
  refine zN (i := 9) (by kernel_rfl) (zV (i := 9) rfl rfl rfl (zH rfl _) (zM (vs := [(.pointer (some ⟨p41, 0, none⟩)), (.int .i64 z120)]) Tryz.func67 nm67 rfl rfl rfl ?_))
  refine Calls.mono (form_spec hX135.pins hpk130 hok131 hpl121) ?_
  rintro _ w144 ⟨u142, G143, rfl, hd145, hx146⟩
  refine ⟨_, rfl, ?_⟩
  have hX147 := hX135.tr hx146
  have hb148 := hb136.ext hx146
  have hone150 := hd145.one
  refine ⟨fun _ => (Pins.of_le hX147.pins (Pin.le_trans (Pin.le_trans (Pin.le_trans (Pin.le_trans hx79.le hx99.le) hle116) hx134.le) hx146.le)), ?_⟩
  refine dT (i := 10) rfl rfl (by kernel_rfl) (fun _ _ => xA (v := (.agg [u142].toArray)) rfl rfl) (Pins.of_le hX147.pins (Pin.le_trans (Pin.le_trans (Pin.le_trans (Pin.le_trans hx79.le hx99.le) hle116) hx134.le) hx146.le)) ?_
  refine dT (i := 11) rfl rfl (by kernel_rfl) (fun _ _ => xA (v := (.bool (fitB (pd q127 z120)))) rfl rfl) (Pins.of_le hX147.pins (Pin.le_trans (Pin.le_trans (Pin.le_trans (Pin.le_trans hx79.le hx99.le) hle116) hx134.le) hx146.le)) ?_
  refine zN (i := 12) (by kernel_rfl) (qP (i := 12) rfl rfl rfl (zH rfl _) (xD (cs' := [u142]) (us := [u142]) (v := (.agg [u142].toArray)) sz32 rfl rfl rfl (yZ hone150) hX147.pins hb148 (Nat.le_of_ble_eq_true rfl) rfl (fun w151 hb152 hp153 hg154 hz155 => ?_)))
  have hX156 := hX147.write hp153 hg154 ((yW hlo34))
  have hd157 := hd145.kept hg154 (Or.inr hb136.lt)
  have hs158 := Nat.le_trans (Nat.le_refl w144.heap.size) hg154.size
  refine ⟨fun _ => (Pins.of_le hX156.pins (Pin.le_trans (Pin.le_trans (Pin.le_trans (Pin.le_trans hx79.le hx99.le) hle116) hx134.le) hx146.le)), ?_⟩
  refine dT (i := 13) rfl rfl (by kernel_rfl) (fun _ _ => zD (v := (.bool (fitB (pd q127 z120)))) rfl) (Pins.of_le hX156.pins (Pin.le_trans (Pin.le_trans (Pin.le_trans (Pin.le_trans hx79.le hx99.le) hle116) hx134.le) hx146.le)) ?_
  refine yS (by kernel_rfl) ?_
  refine zA ?_
  refine wp_ret ?_
  refine zX ?_
  refine c_retct (cs := [u142]) (v := (.bool (fitB (pd q127 z120)))) rfl rfl rfl rfl rfl ag32 sz32 (fun j u hj => by rw [Nat.zero_add]; exact hb152.cell hj) ?_
  have hgz : pd q127 z120 = ordG (gOf fs) (gOf gs) := hpd122.trans (by rw [hpza])
  obtain ⟨e1, e2⟩ := ord_yes (pair_iff.2 hpp)
  rw [e1, e2, ← hgz]
  exact ⟨_, _, rfl, (hd157.wide hX135.size hs158), hX156⟩
 refine zF (zG ?_)
 refine qD rfl (xU [(.slice none 0 0)] [(.slice none 0 0)] [] Tryz.underlying32 zr32 rfl pl32 rfl (fun _ h => by cases h) rfl) ?_
 refine q0 rfl rfl rfl (xD (cs' := [(.slice none 0 0)]) (us := [(.slice none 0 0)]) (v := (.agg [(.slice none 0 0)].toArray)) sz32 rfl rfl rfl (yZ (by rfl)) hX38.pins hb39 (Nat.le_of_ble_eq_true rfl) rfl (fun w160 hb161 hp162 hg163 hz164 => ?_))
 have hX165 := hX38.write hp162 hg163 ((yW hlo34))
 refine qD rfl (zD (v := (.bool false)) rfl) ?_
 refine qe (zA ?_)
 refine wp_ret ?_
 refine zX ?_
 refine c_retct (cs := [(.slice none 0 0)]) (v := (.bool false)) rfl rfl rfl rfl rfl ag32 sz32 (fun j u hj => by rw [Nat.zero_add]; exact hb161.cell hj) ?_
 obtain ⟨e1, e2⟩ := ord_no (h40)
 rw [e1, e2]
 exact ⟨_, _, rfl, DForm.nil, hX165⟩

end OS1
end Go.Proofs.YtpknebplcmgnkaaGreatDoor

set_option maxRecDepth 20000
set_option maxHeartbeats 2000000
namespace Go.Proofs.YtpknebplcmgnkaaGreatDoor
namespace LO1
open Go.RowKit Go.GL Go.Proofs
open Go.Proofs.YtpknebplcmgnkaaGreatDoor.B1
open Go.Proofs.YtpknebplcmgnkaaGreatDoor.C1
open Go.Proofs.YtpknebplcmgnkaaGreatDoor.D1
open Go.Proofs.YtpknebplcmgnkaaGreatDoor.E1
open Go.Proofs.YtpknebplcmgnkaaGreatDoor.G1
open Go.Proofs.YtpknebplcmgnkaaGreatDoor.L1
open Go.Proofs.YtpknebplcmgnkaaGreatDoor.NF1
open Go.Proofs.YtpknebplcmgnkaaGreatDoor.SM1
open Go.Proofs.YtpknebplcmgnkaaGreatDoor.OS1
























theorem szFormT_spec {w : World} {G : Pin} {v : Value} {ns : List Nd} {left : Int} (hP : Pins G w) (hv : RSl eNode G v ns) (hl : 0 ≤ left ∧ left ≤ 1048576) :
  Calls Tryz.prog 15 [(.agg [v].toArray), (.int .i64 left)].toArray w fun e w' => ∃ z G', e = .returned (.int .i64 z) ∧ (z < 0 ∨ 0 ≤ z ∧ z + totN ns ≤ left ∧ Small ns) ∧ Ext noS G w G' w' := by
 refine yB (n := 12) Tryz.func15 Tryz.ntmps15 rfl rfl ?_
 have hX0 : Ext noS G w G w := Ext.refl hP
 refine zF (zG ?_)
 refine qI rfl (xP [v] (v := (.agg [v].toArray)) rfl rfl hX0.pins (fun b1 w2 hk3 hb4 hp5 hl6 => ?_))
 have hX7 := hX0.step hp5 hl6
 have hlo8 : w.heap.size ≤ b1 := by have := hX0.size; omega
 obtain ⟨G9, hle10, hX11, hbp12, hf13⟩ := hb4.shut hX7 hlo8
 refine qD rfl (zD (v := (.int .i64 0)) rfl) ?_
 refine qe (zA (zF (zG ?_)))
 refine qD rfl (zP (k := 0) rfl Tryz.underlying24 rfl nz22 rfl) ?_
 refine qD rfl (zS (u := v) ag22 rfl (hX11.pins _ _ _ (hbp12 0 _ rfl))) ?_
 refine qD rfl (zB (v := (.int .i64 left)) rfl) ?_
 refine qI rfl (zM (vs := [v, (.int .i64 left)]) Tryz.func50 nm50 rfl rfl rfl ?_)
 refine Calls.mono (szNodeS_spec hX11.pins (hv.mono hle10) (by omega)) ?_
 rintro _ w15 ⟨G14, rfl, hx16⟩
 refine ⟨_, rfl, ?_⟩
 have hX17 := hX11.tr hx16
 refine qD rfl (zD (v := (.int .i64 (szNds ns left))) rfl) ?_
 refine qe (zA (zF (zF (zG ?_))))
 refine qD rfl (zB (v := (.int .i64 (szNds ns left))) rfl) ?_
 refine qD rfl (yQ rfl rfl) ?_
 refine qe (zA ?_)
 refine yG (p := (szNds ns left : Int) < 0) rfl rfl (fun h18 => ?_) (fun h18 => ?_)
 ·skip
  refine zF (zG ?_)
  refine qD rfl (zD (v := (.int .i64 (-1))) rfl) ?_
  refine qe (zA ?_)
  refine wp_ret ?_
  refine zX ?_
  refine zT (v := (.int .i64 (-1))) rfl rfl rfl ?_
  exact ⟨_, _, rfl, Or.inl (by omega), hX17⟩
 refine wp_skip ?_
 refine zA (zF (zG ?_))
 refine qD rfl (zB (v := (.int .i64 (szNds ns left))) rfl) ?_
 refine qD rfl (zD (v := (.int .i64 (szNds ns left))) rfl) ?_
 refine qe (zA ?_)
 refine wp_ret ?_
 refine zX ?_
 refine zT (v := (.int .i64 (szNds ns left))) rfl rfl rfl ?_
 have hzl := szNds_le h18
 have hzt := szNds_tot h18
 exact ⟨_, _, rfl, Or.inr ⟨by omega, by omega, small_le h18 hl.2⟩, hX17⟩

theorem markNodeX_spec {w : World} {G : Pin} {v : Value} {ps : List (Value × Value)} {ns : List Nd} {kz : Int} {lo hi : Nat} (hP : Pins G w) (ho : Own eVal2 103 G w 0 v ps) (hpl : ps.length = ns.length) (hav : ∀ u ∈ leafV ps, Apart u.ownBlock v.ownBlock) (hF : Lvs 3 G w lo hi (lvN ps ns)) (hsm : Small ns) (hk : 0 ≤ kz ∧ kz ≤ 1099511627776) :
  Calls Tryz.prog 68 [v, (.int .i64 kz)].toArray w fun e w' => e = .returned (.int .i64 (kz + totN ns)) ∧ Lvs 3 G w' lo hi (lvN ps (markN kz ns)) ∧ Ext (inV (leafV ps)) G w G w' := by
 refine yB (n := 27) Tryz.func68 Tryz.ntmps68 rfl rfl ?_
 have hX0 : Ext (inV (leafV ps)) G w G w := Ext.refl hP
 have hln := hsm.len
 refine zF (zG ?_)
 refine qD rfl (zD (v := (.int .i64 0)) rfl) ?_
 refine qe (zA (zF (zF (zG ?_))))
 refine qD rfl (zD (v := (.int .i64 0)) rfl) ?_
 refine qe (zA ?_)
 refine zZ ?_
 refine yT (fun (k : Nat) (en : Nat → Value) (W : World) => ∃ (env1 : Nat → Value) (j : Nat) (q : Int) (A : List Leaf), en = (upd (upd (upd (upd env1 0 v) 1 (.int .i64 q)) 4 (.int .i64 0)) 5 (.int .i64 (j : Int))) ∧ k = ps.length - j ∧ Ext (inV (leafV ps)) G w G W ∧ (j ≤ ps.length) ∧ (0 ≤ q ∧ q ≤ kz + 2097152 * (j : Int)) ∧ (kz + totN ns = q + totN (ns.drop j)) ∧ (lvN ps (markN kz ns) = A ++ lvN (ps.drop j) (markN q (ns.drop j))) ∧ (Lvs 3 G W lo hi (A ++ lvN (ps.drop j) (ns.drop j))) ∧ (Own eVal2 103 G W 0 v (ps))) _ ⟨_, 0, kz, [], (zC (x := 5) (zC (x := 4) (zC (x := 1) (zU (x := 0) rfl) rfl) rfl) rfl), rfl, hX0, Nat.zero_le _, (by omega), rfl, rfl, hF, ho⟩ ?_
 rintro k1 _ w2 ⟨env1, j, q, A, rfl, hk3, hX4, hj, hq, hqt, hA, hF1, hw5⟩
 refine zF (zF (zG ?_))
 refine qD rfl (zB (v := (.int .i64 (j : Int))) rfl) ?_
 refine qD rfl (zB (v := v) rfl) ?_
 refine qD rfl (zO Tryz.underlying30 (v := v) rfl hw5.read) ?_
 refine qD rfl (yQ rfl rfl) ?_
 refine qe (zA ?_)
 refine yG (p := ((j : Int) : Int) < (ps.length : Int)) rfl rfl (fun h6 => ?_) (fun h6 => ?_)
 ·skip
  have hso := hsm.opts j (by omega)
  refine wp_skip ?_
  refine zA (zF ?_)
  refine zZ ?_
  refine zF (zG ?_)
  refine qD rfl (zB (v := v) rfl) ?_
  refine qD rfl (zB (v := (.int .i64 (j : Int))) rfl) ?_
  refine qD rfl (zL Tryz.underlying30 yP (v := v) rfl rfl hw5.read (by omega) (by omega)) ?_
  refine qD rfl (xM (off := 0) Tryz.underlying103 rfl rfl nz67 (z := (j : Int)) (k := 0) rfl hw5.read (by omega) (by omega)) ?_
  obtain ⟨cs7, hrep8, hagg9, hcell10⟩ := nm_el (j := j) default (hw5.at (z := (j : Int)) (by omega) (by omega)) rfl
  obtain ⟨rfl, hone13⟩ := hrep8
  obtain ⟨u11, hu12⟩ : ∃ u, u = (ps.getD j default).1 := ⟨_, rfl⟩
  refine qD rfl (hcell10 0 u11 (by rw [hu12]; rfl) ag67 rfl (Gadd.pins hX4.pins v)) ?_
  refine qD rfl (zB (v := (.int .i64 q)) rfl) ?_
  have hmem17 : u11 ∈ leafV ps := by rw [hu12]; exact (leafV_mem (by omega)).1
  have hL18 : Lvs 3 G w2 lo hi (A ++ (u11, (ns.getD j default).l) :: (((ps.getD j default).2, (ns.getD j default).r) :: lvN (ps.drop (j + 1)) (ns.drop (j + 1)))) := by rw [hu12, ← lvN_next (by omega) (by omega)]; exact hF1
  refine qI rfl (zM (vs := [u11, (.int .i64 q)]) Tryz.func111 nm111 rfl rfl rfl ?_)
  refine Calls.mono (markIntS_spec hX4.pins ((hL18.own _ (List.mem_append_right _ List.mem_cons_self)).weaken (Nat.zero_le _)) (by omega) (hso.1)) ?_
  rintro _ w14 ⟨rfl, ho15, hx16⟩
  refine ⟨_, rfl, ?_⟩
  have hg20 := mark_grown hx16
  have hX21 := hX4.write hx16.pins hg20 (fun k hk => Or.inr ⟨_, hmem17, hk⟩)
  have ho22 := hw5.keptA hg20 (hav _ hmem17).symm
  have hL19 := Lvs.step hL18 (ho15.up (fun k hk => ((hL18.own _ (List.mem_append_right _ List.mem_cons_self)).lt k hk).1)) hg20
  refine qD rfl (zD (v := (.int .i64 (q + ((ns.getD j default).l.length : Int)))) rfl) ?_
  refine qe (zA (zG ?_))
  refine qD rfl (zB (v := v) rfl) ?_
  refine qD rfl (zB (v := (.int .i64 (j : Int))) rfl) ?_
  refine qD rfl (zL Tryz.underlying30 yP (v := v) rfl rfl ho22.read (by omega) (by omega)) ?_
  refine qD rfl (xM (off := 1) Tryz.underlying103 rfl rfl nz67 (z := (j : Int)) (k := 0) rfl ho22.read (by omega) (by omega)) ?_
  obtain ⟨cs23, hrep24, hagg25, hcell26⟩ := nm_el (j := j) default (ho22.at (z := (j : Int)) (by omega) (by omega)) rfl
  obtain ⟨rfl, hone29⟩ := hrep24
  obtain ⟨u27, hu28⟩ : ∃ u, u = (ps.getD j default).2 := ⟨_, rfl⟩
  refine qD rfl (hcell26 1 u27 (by rw [hu28]; rfl) ag67 rfl (Gadd.pins hX21.pins v)) ?_
  refine qD rfl (zB (v := (.int .i64 (q + ((ns.getD j default).l.length : Int)))) rfl) ?_
  have hmem33 : u27 ∈ leafV ps := by rw [hu28]; exact (leafV_mem (by omega)).2
  have hL34 : Lvs 3 G w14 lo hi ((A ++ [(u11, upL (q) (ns.getD j default).l.length)]) ++ (u27, (ns.getD j default).r) :: lvN (ps.drop (j + 1)) (ns.drop (j + 1))) := by rw [hu28, List.append_assoc]; exact hL19
  refine qI rfl (zM (vs := [u27, (.int .i64 (q + ((ns.getD j default).l.length : Int)))]) Tryz.func111 nm111 rfl rfl rfl ?_)
  refine Calls.mono (markIntS_spec hX21.pins ((hL34.own _ (List.mem_append_right _ List.mem_cons_self)).weaken (Nat.zero_le _)) (by omega) (hso.2)) ?_
  rintro _ w30 ⟨rfl, ho31, hx32⟩
  refine ⟨_, rfl, ?_⟩
  have hg36 := mark_grown hx32
  have hX37 := hX21.write hx32.pins hg36 (fun k hk => Or.inr ⟨_, hmem33, hk⟩)
  have ho38 := ho22.keptA hg36 (hav _ hmem33).symm
  have hL35 := Lvs.step hL34 (ho31.up (fun k hk => ((hL34.own _ (List.mem_append_right _ List.mem_cons_self)).lt k hk).1)) hg36
  refine qD rfl (zD (v := (.int .i64 ((q + ((ns.getD j default).l.length : Int)) + ((ns.getD j default).r.length : Int)))) rfl) ?_
  refine qe ?_
  refine yJ ?_
  refine zA (zG ?_)
  refine qD rfl (zB (v := (.int .i64 (j : Int))) rfl) ?_
  refine qD rfl (yV rfl rfl (by omega)) ?_
  refine qD rfl (zD (v := (.int .i64 ((j : Int) + 1))) rfl) ?_
  refine qe ?_
  refine yI ?_
  refine ⟨_, ?_, _, rfl, _, j + 1, (q + ((ns.getD j default).l.length : Int)) + ((ns.getD j default).r.length : Int), A ++ [(u11, upL (q) (ns.getD j default).l.length)] ++ [(u27, upL (q + ((ns.getD j default).l.length : Int)) (ns.getD j default).r.length)], (zC (x := 5) (zC (x := 4) (zC (x := 1) (zU (x := 0) rfl) rfl) rfl) rfl), rfl, hX37, (by omega), (by omega), (hqt.trans (by rw [totN_next (by omega)]; omega)), (hA.trans (by rw [lvN_markN (by omega) (by omega), List.append_assoc, List.append_assoc, ← hu12, ← hu28]; rfl)), (by rw [List.append_assoc]; exact hL35), ho38⟩
  omega
 refine wp_exit ?_
 refine yC ?_
 refine yM ?_
 refine yK ?_
 refine zA (zF (zG ?_))
 refine qD rfl (zB (v := (.int .i64 q)) rfl) ?_
 refine qD rfl (zD (v := (.int .i64 q)) rfl) ?_
 refine qe (zA ?_)
 refine wp_ret ?_
 refine zX ?_
 refine zT (v := (.int .i64 q)) rfl rfl rfl ?_
 rw [lvN_end (by omega), List.append_nil] at hA
 rw [lvN_end (by omega), List.append_nil] at hF1
 exact ⟨congrArg (fun z => Ending.returned (Value.int .i64 z)) (by rw [hqt, totN_end (by omega)]; omega), (by rw [hA]; exact hF1), hX4⟩

theorem markFormX_spec {w : World} {G : Pin} {v : Value} {ns : List Nd} {kz : Int} {lo hi : Nat} (hP : Pins G w) (hd : DForm 103 3 G w lo hi v ns) (hsz : hi ≤ w.heap.size) (hsm : Small ns) (hk : 0 ≤ kz ∧ kz ≤ 1099511627776) :
  Calls Tryz.prog 25 [(.agg [v].toArray), (.int .i64 kz)].toArray w fun e w' => e = .returned (.int .i64 (kz + totN ns)) ∧ DForm 103 3 G w' lo hi v (markN kz ns) ∧ Ext (inR lo hi) G w G w' := by
 refine yB (n := 10) Tryz.func25 Tryz.ntmps25 rfl rfl ?_
 have hX0 : Ext (inR lo hi) G w G w := Ext.refl hP
 refine zF (zG ?_)
 refine qI rfl (xP [v] (v := (.agg [v].toArray)) rfl rfl hX0.pins (fun b1 w2 hk3 hb4 hp5 hl6 => ?_))
 have hX7 := hX0.step hp5 hl6
 have hd8 := hd.below hl6
 have hs9 := Nat.le_trans hsz hl6.size
 have ha10 : hi ≤ b1 ∨ b1 < lo := Or.inl (by have e := Option.some.inj (congrArg some hk3); have := hsz; omega)
 have hlo11 : w.heap.size ≤ b1 := by have := hX0.size; omega
 obtain ⟨G12, hle13, hX14, hbp15, hf16⟩ := hb4.shut hX7 hlo11
 have hd17 := hd8.more hle13 hf16 ha10
 refine qD rfl (zD (v := (.int .i64 0)) rfl) ?_
 refine qe (zA (zF (zG ?_)))
 refine qD rfl (zP (k := 0) rfl Tryz.underlying32 rfl nz30 rfl) ?_
 refine qD rfl (zS (u := v) ag30 rfl (hX14.pins _ _ _ (hbp15 0 _ rfl))) ?_
 refine qD rfl (zB (v := (.int .i64 kz)) rfl) ?_
 obtain ⟨ps18, ho19, hpl20, hav21, hL22, hin23, hst24⟩ := hd17.mark
 refine qI rfl (zM (vs := [v, (.int .i64 kz)]) Tryz.func68 nm68 rfl rfl rfl ?_)
 refine Calls.mono (markNodeX_spec hX14.pins ho19 hpl20 hav21 hL22 hsm hk) ?_
 rintro _ w25 ⟨rfl, hL26, hx27⟩
 refine ⟨_, rfl, ?_⟩
 have hX28 := hX14.trans hx27 (fun i hi => Or.inr (hin23 i hi))
 have hd29 := hst24 (markN_length _ _) hL26 hx27
 refine qD rfl (zD (v := (.int .i64 (kz + totN ns))) rfl) ?_
 refine qe (zA (zF (zG ?_)))
 refine qD rfl (zB (v := (.int .i64 (kz + totN ns))) rfl) ?_
 refine qD rfl (zD (v := (.int .i64 (kz + totN ns))) rfl) ?_
 refine qe (zA ?_)
 refine wp_ret ?_
 refine zX ?_
 refine zT (v := (.int .i64 (kz + totN ns))) rfl rfl rfl ?_
 exact ⟨rfl, hd29.anti hle13, hX28.shrink⟩

theorem heldNodeS_spec {w : World} {G : Pin} {v : Value} {ns : List Nd} {kz : Int} (hP : Pins G w) (hv : RSl eNode G v (markN kz ns)) (hsm : Small ns) (hk : 0 ≤ kz ∧ kz ≤ 1099511627776) :
  Calls Tryz.prog 69 [v, (.int .i64 kz)].toArray w fun e w' => e = .returned (.int .i64 (kz + totN ns)) ∧ w' = w := by
 refine yB (n := 31) Tryz.func69 Tryz.ntmps69 rfl rfl ?_
 have hX0 : Ext noS G w G w := Ext.refl hP
 have hul := markN_length kz ns
 have hln := hsm.len
 refine zF (zG ?_)
 refine qD rfl (zD (v := (.int .i64 0)) rfl) ?_
 refine qe (zA (zF (zF (zG ?_))))
 refine qD rfl (zD (v := (.int .i64 0)) rfl) ?_
 refine qe (zA ?_)
 refine zZ ?_
 refine yT (fun (k : Nat) (en : Nat → Value) (W : World) => ∃ (env1 : Nat → Value) (j : Nat) (q : Int), en = (upd (upd (upd env1 0 v) 1 (.int .i64 q)) 5 (.int .i64 (j : Int))) ∧ k = ns.length - j ∧ Ext noS G w G W ∧ (j ≤ ns.length) ∧ (W = w) ∧ (0 ≤ q ∧ q ≤ kz + 2097152 * (j : Int)) ∧ (kz + totN ns = q + totN (ns.drop j)) ∧ (markN kz ns).drop j = markN q (ns.drop j)) _ ⟨_, 0, kz, (zC (x := 5) (zC (x := 1) (zU (x := 0) rfl) rfl) rfl), rfl, hX0, Nat.zero_le _, rfl, (by omega), rfl, rfl⟩ ?_
 rintro k1 _ w2 ⟨env1, j, q, rfl, hk3, hX4, hj, hw, hq, hqt, hA⟩
 subst hw
 refine zF (zF (zG ?_))
 refine qD rfl (zB (v := (.int .i64 (j : Int))) rfl) ?_
 refine qD rfl (zB (v := v) rfl) ?_
 refine qD rfl (zO Tryz.underlying30 (v := v) rfl hv) ?_
 refine qD rfl (yQ rfl rfl) ?_
 refine qe (zA ?_)
 refine yG (p := ((j : Int) : Int) < ((markN kz ns).length : Int)) rfl rfl (fun h5 => ?_) (fun h5 => ?_)
 ·skip
  have hso := hsm.opts j (by omega)
  have hAj := markN_at (show j < ns.length by omega) hA
  refine wp_skip ?_
  refine zA (zF ?_)
  refine zZ ?_
  refine zF (zG ?_)
  refine qD rfl (zB (v := v) rfl) ?_
  refine qD rfl (zB (v := (.int .i64 (j : Int))) rfl) ?_
  refine qD rfl (zL Tryz.underlying30 yP (v := v) rfl rfl hv (by omega) (by omega)) ?_
  refine qD rfl (xM (off := 0) Tryz.underlying103 rfl rfl nz67 (z := (j : Int)) (k := 0) rfl hv (by omega) (by omega)) ?_
  obtain ⟨u6, hr7, hl8⟩ := nm_nl (hv.at (z := (j : Int)) (by omega) (by omega)) (j := j) rfl
  have hm9 := hr7.max
  refine qD rfl (hl8 ag67 rfl hX4.pins) ?_
  refine qD rfl (zB (v := (.int .i64 q)) rfl) ?_
  refine qI rfl (zM (vs := [u6, (.int .i64 q)]) Tryz.func112 nm112 rfl rfl rfl ?_)
  refine Calls.mono (heldIntS_spec (n := (ns.getD j default).l.length) hX4.pins (by rw [← hAj.1]; exact hr7) (by omega) (hso.1)) ?_
  rintro _ _ ⟨rfl, rfl⟩
  refine ⟨_, rfl, ?_⟩
  refine qD rfl (zD (v := (.int .i64 (q + (((ns.getD j default).l.length : Int) : Int)))) rfl) ?_
  refine qe (zA (zF (zF (zG ?_))))
  refine qD rfl (zB (v := (.int .i64 (q + (((ns.getD j default).l.length : Int) : Int)))) rfl) ?_
  refine qD rfl (yQ rfl rfl) ?_
  refine qe (zA ?_)
  refine yG (p := (q + (((ns.getD j default).l.length : Int) : Int) : Int) < 0) rfl rfl (fun h10 => ?_) (fun h10 => ?_)
  ·skip
   refine zF (zG ?_)
   refine qD rfl (zD (v := (.int .i64 (-1))) rfl) ?_
   refine qe (zA ?_)
   refine wp_ret ?_
   refine zX ?_
   refine zT (v := (.int .i64 (-1))) rfl rfl rfl ?_
   exact absurd h10 (by omega)
  refine wp_skip ?_
  refine zA (zF (zG ?_))
  refine qD rfl (zB (v := v) rfl) ?_
  refine qD rfl (zB (v := (.int .i64 (j : Int))) rfl) ?_
  refine qD rfl (zL Tryz.underlying30 yP (v := v) rfl rfl hv (by omega) (by omega)) ?_
  refine qD rfl (xM (off := 1) Tryz.underlying103 rfl rfl nz67 (z := (j : Int)) (k := 0) rfl hv (by omega) (by omega)) ?_
  obtain ⟨u11, hr12, hl13⟩ := nm_nr (hv.at (z := (j : Int)) (by omega) (by omega)) (j := j) rfl
  have hm14 := hr12.max
  refine qD rfl (hl13 ag67 rfl hX4.pins) ?_
  refine qD rfl (zB (v := (.int .i64 (q + (((ns.getD j default).l.length : Int) : Int)))) rfl) ?_
  refine qI rfl (zM (vs := [u11, (.int .i64 (q + (((ns.getD j default).l.length : Int) : Int)))]) Tryz.func112 nm112 rfl rfl rfl ?_)
  refine Calls.mono (heldIntS_spec (n := (ns.getD j default).r.length) hX4.pins (by rw [← hAj.2.1]; exact hr12) (by omega) (hso.2)) ?_
  rintro _ _ ⟨rfl, rfl⟩
  refine ⟨_, rfl, ?_⟩
  refine qD rfl (zD (v := (.int .i64 ((q + (((ns.getD j default).l.length : Int) : Int)) + (((ns.getD j default).r.length : Int) : Int)))) rfl) ?_
  refine qe (zA (zF (zG ?_)))
  refine qD rfl (zB (v := (.int .i64 ((q + (((ns.getD j default).l.length : Int) : Int)) + (((ns.getD j default).r.length : Int) : Int)))) rfl) ?_
  refine qD rfl (yQ rfl rfl) ?_
  refine qe (zA ?_)
  refine yG (p := ((q + (((ns.getD j default).l.length : Int) : Int)) + (((ns.getD j default).r.length : Int) : Int) : Int) < 0) rfl rfl (fun h15 => ?_) (fun h15 => ?_)
  ·skip
   refine zF (zG ?_)
   refine qD rfl (zD (v := (.int .i64 (-1))) rfl) ?_
   refine qe (zA ?_)
   refine wp_ret ?_
   refine zX ?_
   refine zT (v := (.int .i64 (-1))) rfl rfl rfl ?_
   exact absurd h15 (by omega)
  refine wp_skip ?_
  refine yJ ?_
  refine zA (zG ?_)
  refine qD rfl (zB (v := (.int .i64 (j : Int))) rfl) ?_
  refine qD rfl (yV rfl rfl (by omega)) ?_
  refine qD rfl (zD (v := (.int .i64 ((j : Int) + 1))) rfl) ?_
  refine qe ?_
  refine yI ?_
  refine ⟨_, ?_, _, rfl, _, j + 1, (q + (((ns.getD j default).l.length : Int) : Int)) + (((ns.getD j default).r.length : Int) : Int), (zC (x := 5) (zC (x := 1) (zU (x := 0) rfl) rfl) rfl), rfl, hX4, (by omega), rfl, (by omega), (hqt.trans (by rw [totN_next (by omega)]; omega)), hAj.2.2⟩
  omega
 refine wp_exit ?_
 refine yC ?_
 refine yM ?_
 refine yK ?_
 refine zA (zF (zG ?_))
 refine qD rfl (zB (v := (.int .i64 q)) rfl) ?_
 refine qD rfl (zD (v := (.int .i64 q)) rfl) ?_
 refine qe (zA ?_)
 refine wp_ret ?_
 refine zX ?_
 refine zT (v := (.int .i64 q)) rfl rfl rfl ?_
 exact ⟨congrArg (fun z => Ending.returned (Value.int .i64 z)) (by rw [hqt, totN_end (by omega)]; omega), rfl⟩

theorem heldFormX_spec {w : World} {G : Pin} {v : Value} {ns : List Nd} {kz : Int} (hP : Pins G w) (hv : RSl eNode G v (markN kz ns)) (hsm : Small ns) (hk : 0 ≤ kz ∧ kz ≤ 1099511627776) :
  Calls Tryz.prog 26 [(.agg [v].toArray), (.int .i64 kz)].toArray w fun e w' => ∃ G', e = .returned (.int .i64 (kz + totN ns)) ∧ Ext noS G w G' w' := by
 refine yB (n := 12) Tryz.func26 Tryz.ntmps26 rfl rfl ?_
 have hX0 : Ext noS G w G w := Ext.refl hP
 have htn := qL ns
 refine zF (zG ?_)
 refine qI rfl (xP [v] (v := (.agg [v].toArray)) rfl rfl hX0.pins (fun b1 w2 hk3 hb4 hp5 hl6 => ?_))
 have hX7 := hX0.step hp5 hl6
 have hlo8 : w.heap.size ≤ b1 := by have := hX0.size; omega
 obtain ⟨G9, hle10, hX11, hbp12, hf13⟩ := hb4.shut hX7 hlo8
 refine qD rfl (zD (v := (.int .i64 0)) rfl) ?_
 refine qe (zA (zF (zG ?_)))
 refine qD rfl (zP (k := 0) rfl Tryz.underlying32 rfl nz30 rfl) ?_
 refine qD rfl (zS (u := v) ag30 rfl (hX11.pins _ _ _ (hbp12 0 _ rfl))) ?_
 refine qD rfl (zB (v := (.int .i64 kz)) rfl) ?_
 refine qI rfl (zM (vs := [v, (.int .i64 kz)]) Tryz.func69 nm69 rfl rfl rfl ?_)
 refine Calls.mono (heldNodeS_spec hX11.pins (hv.mono hle10) hsm hk) ?_
 rintro _ _ ⟨rfl, rfl⟩
 refine ⟨_, rfl, ?_⟩
 refine qD rfl (zD (v := (.int .i64 (kz + totN ns))) rfl) ?_
 refine qe (zA (zF (zF (zG ?_))))
 refine qD rfl (zB (v := (.int .i64 (kz + totN ns))) rfl) ?_
 refine qD rfl (yQ rfl rfl) ?_
 refine qe (zA ?_)
 refine yG (p := (kz + totN ns : Int) < 0) rfl rfl (fun h14 => ?_) (fun h14 => ?_)
 ·skip
  refine zF (zG ?_)
  refine qD rfl (zD (v := (.int .i64 (-1))) rfl) ?_
  refine qe (zA ?_)
  refine wp_ret ?_
  refine zX ?_
  refine zT (v := (.int .i64 (-1))) rfl rfl rfl ?_
  exact absurd h14 (by omega)
 refine wp_skip ?_
 refine zA (zF (zG ?_))
 refine qD rfl (zB (v := (.int .i64 (kz + totN ns))) rfl) ?_
 refine qD rfl (zD (v := (.int .i64 (kz + totN ns))) rfl) ?_
 refine qe (zA ?_)
 refine wp_ret ?_
 refine zX ?_
 refine zT (v := (.int .i64 (kz + totN ns))) rfl rfl rfl ?_
 exact ⟨_, rfl, hX11⟩

theorem eqForm_same {w : World} {G : Pin} {u v : Value} {xs : List Nd} (hP : Pins G w) (hu : RSl eNode G u xs) (hv : RSl eNode G v xs) :
  Calls Tryz.prog 20 [(.agg [u].toArray), (.agg [v].toArray)].toArray w fun e w' => ∃ G', e = .returned (.bool true) ∧ Ext noS G w G' w' := by
 refine (eqForm_spec hP hu hv).mono ?_
 rintro e w' ⟨G', rfl, hx⟩
 exact ⟨G', by simp, hx⟩

theorem qS {w : World} {G : Pin} {u : Value} {ns : List Nd} {v : Value} {ms : List Nd} (hP : Pins G w) (hu : RSl eNode G u ns) (hv : RSl eNode G v ms) :
  Calls Tryz.prog 39 [(.agg [u].toArray), (.agg [v].toArray)].toArray w fun e w' => ∃ (u : Value) (G' : Pin), e = .returned (.tuple #[.agg [u].toArray, .bool (ordB ns ms)]) ∧ RSl eNode G' u (ordF ns ms) ∧ Ext noS G w G' w' := by
 refine (iOrdinalSum_dspec hP hu hv).mono ?_
 rintro e w' ⟨u, G', rfl, hd, hx⟩
 obtain ⟨G'', h1, h2⟩ := hd.give hx
 exact ⟨u, G'', rfl, h1, h2⟩

theorem law {w : World} {G : Pin} {u v : Value} {ns ms : List Nd} (hP : Pins G w) (hu : RSl eNode G u ns) (hv : RSl eNode G v ms) :
  Calls Tryz.prog 11 [(.agg [u].toArray), (.agg [v].toArray)].toArray w fun e w' => ∃ G', e = .returned (.bool true) ∧ Ext noS G w G' w' := by
 refine yB (n := 119) Tryz.func11 Tryz.ntmps11 rfl rfl ?_
 have hX0 : Ext noS G w G w := Ext.refl hP
 have htzns := qL ns
 have htzms := qL ms
 refine zF (zG ?_)
 refine qI rfl (xP [u] (v := (.agg [u].toArray)) rfl rfl hX0.pins (fun b1 w2 hk3 hb4 hp5 hl6 => ?_))
 have hX7 := hX0.step hp5 hl6
 have hlo8 : w.heap.size ≤ b1 := by have := hX0.size; omega
 obtain ⟨G9, hle10, hX11, hbp12, hf13⟩ := hb4.shut hX7 hlo8
 refine qI rfl (xP [v] (v := (.agg [v].toArray)) rfl rfl hX11.pins (fun b14 w15 hk16 hb17 hp18 hl19 => ?_))
 have hX20 := hX11.step hp18 hl19
 have hlo21 : w.heap.size ≤ b14 := by have := hX11.size; omega
 obtain ⟨G22, hle23, hX24, hbp25, hf26⟩ := hb17.shut hX20 hlo21
 refine qD rfl (zD (v := (.bool false)) rfl) ?_
 refine qe (zA (zF (zG ?_)))
 refine qD rfl (zD (v := (.int .i64 1048576)) rfl) ?_
 refine qe (zA (zF (zG ?_)))
 refine qD rfl (yX (cs := [u]) ag24 sz24 rfl (fun j u hj => (Pins.of_le hX24.pins hle23) _ _ _ (hbp12 _ _ (by simpa using hj)))) ?_
 refine qD rfl (zB (v := (.int .i64 1048576)) rfl) ?_
 refine qI rfl (zM (vs := [(.agg [u].toArray), (.int .i64 1048576)]) Tryz.func15 nm15 rfl rfl rfl ?_)
 refine Calls.mono (szFormT_spec hX24.pins (hu.mono (Pin.le_trans hle10 hle23)) (by omega)) ?_
 rintro _ w29 ⟨z27, G28, rfl, hz30, hx31⟩
 refine ⟨_, rfl, ?_⟩
 have hX32 := hX24.tr hx31
 refine qD rfl (zD (v := (.int .i64 z27)) rfl) ?_
 refine qe (zA (zF (zF (zG ?_))))
 refine qD rfl (zB (v := (.int .i64 z27)) rfl) ?_
 refine qD rfl (yQ rfl rfl) ?_
 refine qe (zA ?_)
 refine yG (p := (z27 : Int) < 0) rfl rfl (fun h33 => ?_) (fun h33 => ?_)
 ·skip
  refine zF (zG ?_)
  refine qD rfl (zD (v := (.bool true)) rfl) ?_
  refine qe (zA ?_)
  refine wp_ret ?_
  refine zX ?_
  refine zT (v := (.bool true)) rfl rfl rfl ?_
  exact ⟨_, rfl, hX32⟩
 refine wp_skip ?_
 refine zA (zF (zG ?_))
 refine qD rfl (yX (cs := [v]) ag24 sz24 rfl (fun j u hj => (Pins.of_le hX32.pins hx31.le) _ _ _ (hbp25 _ _ (by simpa using hj)))) ?_
 refine qD rfl (zB (v := (.int .i64 z27)) rfl) ?_
 refine qI rfl (zM (vs := [(.agg [v].toArray), (.int .i64 z27)]) Tryz.func15 nm15 rfl rfl rfl ?_)
 refine Calls.mono (szFormT_spec hX32.pins (hv.mono (Pin.le_trans (Pin.le_trans hle10 hle23) hx31.le)) (by omega)) ?_
 rintro _ w36 ⟨z34, G35, rfl, hz37, hx38⟩
 refine ⟨_, rfl, ?_⟩
 have hX39 := hX32.tr hx38
 refine qD rfl (zD (v := (.int .i64 z34)) rfl) ?_
 refine qe (zA (zF (zF (zG ?_))))
 refine qD rfl (zB (v := (.int .i64 z34)) rfl) ?_
 refine qD rfl (yQ rfl rfl) ?_
 refine qe (zA ?_)
 refine yG (p := (z34 : Int) < 0) rfl rfl (fun h40 => ?_) (fun h40 => ?_)
 ·skip
  refine zF (zG ?_)
  refine qD rfl (zD (v := (.bool true)) rfl) ?_
  refine qe (zA ?_)
  refine wp_ret ?_
  refine zX ?_
  refine zT (v := (.bool true)) rfl rfl rfl ?_
  exact ⟨_, rfl, hX39⟩
 refine wp_skip ?_
 refine zA (zF ?_)
 have hsnx : Small ns ∧ totN ns ≤ 1048576 ∧ 0 ≤ totN ns := ⟨by rcases hz30 with h | h <;> first | omega | exact h.2.2, by rcases hz30 with h | h <;> omega, qL _⟩
 have hsn := hsnx.1
 have htxns := hsnx.2
 have hsmx : Small ms ∧ totN ms ≤ 1048576 ∧ 0 ≤ totN ms := ⟨by rcases hz37 with h | h <;> first | omega | exact h.2.2, by rcases hz37 with h | h <;> omega, qL _⟩
 have hsm := hsmx.1
 have htxms := hsmx.2
 have htf := qL (ordF ns ms)
 refine c_cut (fun (en : Nat → Value) (W : World) => ∃ (env1 : Nat → Value) (c41 : Nat) (c42 : Value) (G43 : Pin), en = (upd (upd (upd (upd (upd env1 2 (.pointer (some ⟨b1, 0, none⟩))) 3 (.pointer (some ⟨b14, 0, none⟩))) 4 (.bool false)) 6 (.pointer (some ⟨c41, 0, none⟩))) 7 (.bool (ordB ns ms))) ∧ Ext noS G w G43 W ∧ Pin.le G35 G43 ∧ (RSl eNode G43 c42 (ordF ns ms)) ∧ (BxP G43 c41 [c42])) ?_ ?_
 ·rintro _ w44 ⟨env1, c41, c42, G43, rfl, hX47, hle48, hr45, hb46⟩
  refine zA (zF (zG ?_))
  refine qD rfl (yX (cs := [u]) ag24 sz24 rfl (fun j u hj => (Pins.of_le hX47.pins (Pin.le_trans (Pin.le_trans (Pin.le_trans hle23 hx31.le) hx38.le) hle48)) _ _ _ (hbp12 _ _ (by simpa using hj)))) ?_
  refine qI rfl (zM (vs := [(.agg [u].toArray)]) Tryz.func17 nm17 rfl rfl rfl ?_)
  refine Calls.mono (toForm_dspec hX47.pins (hu.mono (Pin.le_trans (Pin.le_trans (Pin.le_trans (Pin.le_trans hle10 hle23) hx31.le) hx38.le) hle48)) hsn) ?_
  rintro _ w51 ⟨u49, G50, rfl, hd52, hx53⟩
  refine ⟨_, rfl, ?_⟩
  have hX54 := hX47.tr hx53
  have hone55 := hd52.one
  refine qI rfl (yY [(.slice none 0 0)] zr32 rfl hX54.pins (fun b56 w57 hk58 hb59 hp60 hl61 => ?_))
  have hX62 := hX54.step hp60 hl61
  have hd63 := hd52.below hl61
  have hs64 := Nat.le_trans (Nat.le_refl w51.heap.size) hl61.size
  have ha65 : w51.heap.size ≤ b56 ∨ b56 < w44.heap.size := Or.inl (by have e := Option.some.inj (congrArg some hk58); have := (Nat.le_refl w51.heap.size); omega)
  have hlo66 : w.heap.size ≤ b56 := by have := hX54.size; omega
  refine q0 rfl rfl rfl (xD (cs' := [u49]) (us := [u49]) (v := (.agg [u49].toArray)) sz32 rfl rfl rfl (yZ hone55) hX62.pins hb59 (Nat.le_of_ble_eq_true rfl) rfl (fun w67 hb68 hp69 hg70 hz71 => ?_))
  have hX72 := hX62.write hp69 hg70 ((yW hlo66))
  have hd73 := hd63.kept hg70 ha65
  have hs74 := Nat.le_trans hs64 hg70.size
  obtain ⟨G75, hle76, hX77, hbp78, hf79⟩ := hb68.shut hX72 hlo66
  have hd80 := hd73.more hle76 hf79 ha65
  refine qe (zA (zF (zG ?_)))
  refine qD rfl (yX (cs := [v]) ag24 sz24 rfl (fun j u hj => (Pins.of_le hX77.pins (Pin.le_trans (Pin.le_trans (Pin.le_trans (Pin.le_trans hx31.le hx38.le) hle48) hx53.le) hle76)) _ _ _ (hbp25 _ _ (by simpa using hj)))) ?_
  have hgx4 := hs74
  refine qI rfl (zM (vs := [(.agg [v].toArray)]) Tryz.func17 nm17 rfl rfl rfl ?_)
  refine Calls.mono (toForm_dspec hX77.pins (hv.mono (Pin.le_trans (Pin.le_trans (Pin.le_trans (Pin.le_trans (Pin.le_trans (Pin.le_trans hle10 hle23) hx31.le) hx38.le) hle48) hx53.le) hle76)) hsm) ?_
  rintro _ w83 ⟨u81, G82, rfl, hd84, hx85⟩
  refine ⟨_, rfl, ?_⟩
  have hX86 := hX77.tr hx85
  have hd87 := hd80.ext hx85
  have hs88 := Nat.le_trans hs74 hx85.size
  have hone89 := hd84.one
  refine qI rfl (yY [(.slice none 0 0)] zr32 rfl hX86.pins (fun b90 w91 hk92 hb93 hp94 hl95 => ?_))
  have hX96 := hX86.step hp94 hl95
  have hd97 := hd87.below hl95
  have hs98 := Nat.le_trans hs88 hl95.size
  have hd99 := hd84.below hl95
  have hs100 := Nat.le_trans (Nat.le_refl w83.heap.size) hl95.size
  have ha101 : w51.heap.size ≤ b90 ∨ b90 < w44.heap.size := Or.inl (by have e := Option.some.inj (congrArg some hk92); have := hs88; omega)
  have ha102 : w83.heap.size ≤ b90 ∨ b90 < w67.heap.size := Or.inl (by have e := Option.some.inj (congrArg some hk92); have := (Nat.le_refl w83.heap.size); omega)
  have hlo103 : w.heap.size ≤ b90 := by have := hX86.size; omega
  refine q0 rfl rfl rfl (xD (cs' := [u81]) (us := [u81]) (v := (.agg [u81].toArray)) sz32 rfl rfl rfl (yZ hone89) hX96.pins hb93 (Nat.le_of_ble_eq_true rfl) rfl (fun w104 hb105 hp106 hg107 hz108 => ?_))
  have hX109 := hX96.write hp106 hg107 ((yW hlo103))
  have hd110 := hd97.kept hg107 ha101
  have hs111 := Nat.le_trans hs98 hg107.size
  have hd112 := hd99.kept hg107 ha102
  have hs113 := Nat.le_trans hs100 hg107.size
  obtain ⟨G114, hle115, hX116, hbp117, hf118⟩ := hb105.shut hX109 hlo103
  have hd119 := hd110.more hle115 hf118 ha101
  have hd120 := hd112.more hle115 hf118 ha102
  refine qe (zA (zF (zG ?_)))
  refine qD rfl (yX (cs := [u49]) ag32 sz32 rfl (fun j u hj => (Pins.of_le hX116.pins (Pin.le_trans hx85.le hle115)) _ _ _ (hbp78 _ _ (by simpa using hj)))) ?_
  refine qD rfl (yX (cs := [u81]) ag32 sz32 rfl (fun j u hj => hX116.pins _ _ _ (hbp117 _ _ (by simpa using hj)))) ?_
  obtain ⟨G121, hle122, hp123, hr124, hf125⟩ := hd119.read hX116.pins
  obtain ⟨G126, hle127, hp128, hr129, hf130⟩ := hd120.read hX116.pins
  obtain ⟨G131, hc132, hc133, hc134, hc135, hc136⟩ := join_pins hle122 hp123 hp128 hf125 hf130
  refine qI rfl (zM (vs := [(.agg [u49].toArray), (.agg [u81].toArray)]) Tryz.func39 nm39 rfl rfl rfl ?_)
  refine Calls.mono (iOrdinalSum_dspec hc135 (hr124.mono hc133) (hr129.mono hc134)) ?_
  rintro _ w139 ⟨u137, G138, rfl, hd140, hx141⟩
  refine ⟨_, rfl, ?_⟩
  have hgxu49 := hs111
  have hgxu81 := hs113
  have hx142 := deep_back hX116.pins hx141
  have hX143 := hX116.step hx142.pins hx142.below
  have hd144 := hd119.below hx142.below
  have hs145 := Nat.le_trans hs111 hx142.below.size
  have hd146 := hd120.below hx142.below
  have hs147 := Nat.le_trans hs113 hx142.below.size
  have hd148 := hd140.anti (Pin.le_trans hc132 hx141.le)
  have hone149 := hd148.one
  refine qD rfl (zB (v := (.tuple #[(.agg [u137].toArray), (.bool (ordB ns ms))])) rfl) ?_
  refine qD rfl (xA (v := (.agg [u137].toArray)) rfl rfl) ?_
  refine qD rfl (xA (v := (.bool (ordB ns ms))) rfl rfl) ?_
  refine qI rfl (yY [(.slice none 0 0)] zr32 rfl hX143.pins (fun b150 w151 hk152 hb153 hp154 hl155 => ?_))
  have hX156 := hX143.step hp154 hl155
  have hd157 := hd144.below hl155
  have hs158 := Nat.le_trans hs145 hl155.size
  have hd159 := hd146.below hl155
  have hs160 := Nat.le_trans hs147 hl155.size
  have hd161 := hd148.below hl155
  have hs162 := Nat.le_trans (Nat.le_refl w139.heap.size) hl155.size
  have ha163 : w51.heap.size ≤ b150 ∨ b150 < w44.heap.size := Or.inl (by have e := Option.some.inj (congrArg some hk152); have := hs145; omega)
  have ha164 : w83.heap.size ≤ b150 ∨ b150 < w67.heap.size := Or.inl (by have e := Option.some.inj (congrArg some hk152); have := hs147; omega)
  have ha165 : w139.heap.size ≤ b150 ∨ b150 < w104.heap.size := Or.inl (by have e := Option.some.inj (congrArg some hk152); have := (Nat.le_refl w139.heap.size); omega)
  have hlo166 : w.heap.size ≤ b150 := by have := hX143.size; omega
  refine q0 rfl rfl rfl (xD (cs' := [u137]) (us := [u137]) (v := (.agg [u137].toArray)) sz32 rfl rfl rfl (yZ hone149) hX156.pins hb153 (Nat.le_of_ble_eq_true rfl) rfl (fun w167 hb168 hp169 hg170 hz171 => ?_))
  have hX172 := hX156.write hp169 hg170 ((yW hlo166))
  have hd173 := hd157.kept hg170 ha163
  have hs174 := Nat.le_trans hs158 hg170.size
  have hd175 := hd159.kept hg170 ha164
  have hs176 := Nat.le_trans hs160 hg170.size
  have hd177 := hd161.kept hg170 ha165
  have hs178 := Nat.le_trans hs162 hg170.size
  obtain ⟨G179, hle180, hX181, hbp182, hf183⟩ := hb168.shut hX172 hlo166
  have hd184 := hd173.more hle180 hf183 ha163
  have hd185 := hd175.more hle180 hf183 ha164
  have hd186 := hd177.more hle180 hf183 ha165
  refine qD rfl (zD (v := (.bool (ordB ns ms))) rfl) ?_
  refine qe (zA (zF (zF (zG ?_))))
  refine qD rfl (yX (cs := [u137]) ag32 sz32 rfl (fun j u hj => hX181.pins _ _ _ (hbp182 _ _ (by simpa using hj)))) ?_
  refine qD rfl (yX (cs := [c42]) ag32 sz32 rfl (fun j u hj => (Pins.of_le hX181.pins (Pin.le_trans (Pin.le_trans (Pin.le_trans (Pin.le_trans hx53.le hle76) hx85.le) hle115) hle180)) _ _ _ (hb46 _ _ (by simpa using hj)))) ?_
  obtain ⟨G190, hle191, hp192, hr193, _⟩ := hd186.read hX181.pins
  refine qI rfl (zM (vs := [(.agg [u137].toArray), (.agg [c42].toArray)]) Tryz.func20 nm20 rfl rfl rfl ?_)
  refine Calls.mono (eqForm_same hp192 hr193 ((hr45.mono (Pin.le_trans (Pin.le_trans (Pin.le_trans (Pin.le_trans hx53.le hle76) hx85.le) hle115) hle180)).mono hle191)) ?_
  rintro _ w188 ⟨G187, rfl, hx189⟩
  refine ⟨_, rfl, ?_⟩
  have hx194 := deep_back hX181.pins hx189
  have hX195 := hX181.step hx194.pins hx194.below
  have hd196 := hd184.below hx194.below
  have hs197 := Nat.le_trans hs174 hx194.below.size
  have hd198 := hd185.below hx194.below
  have hs199 := Nat.le_trans hs176 hx194.below.size
  have hd200 := hd186.below hx194.below
  have hs201 := Nat.le_trans hs178 hx194.below.size
  refine qD rfl (qG rfl) ?_
  refine qD rfl (zB (v := (.bool false)) rfl) ?_
  refine qdg rfl rfl rfl rfl rfl rfl (zB (v := (.bool (ordB ns ms))) rfl) ?_
  refine qdg rfl rfl rfl rfl rfl rfl (zB (v := (.bool (ordB ns ms))) rfl) ?_
  refine qdg rfl rfl rfl rfl rfl rfl (r_neqB_same Tryz.underlying4 rfl rfl) ?_
  refine qD rfl (xE (v := (.bool false)) rfl rfl) ?_
  refine qe (zA ?_)
  refine qW rfl rfl ?_
  refine wp_skip ?_
  refine zA (zF (zF ?_))
  refine xF (S := fun wz => Pins G179 wz) (last := 5) (by kernel_rfl) rfl ?_
  have hl202 : Below w188.heap.size w188 w188.drew := (Below.refl _ _).drew
  have hp203 := hX195.pins.below hl202
  have hX204 := hX195.step hp203 hl202
  have hd205 := hd196.below hl202
  have hs206 := Nat.le_trans hs197 hl202.size
  have hd207 := hd198.below hl202
  have hs208 := Nat.le_trans hs199 hl202.size
  have hd209 := hd200.below hl202
  have hs210 := Nat.le_trans hs201 hl202.size
  refine dT (i := 0) rfl rfl (by kernel_rfl) (fun _ hS => yX (cs := [u49]) ag32 sz32 rfl (fun j u hj => (Pins.of_le hS (Pin.le_trans (Pin.le_trans hx85.le hle115) hle180)) _ _ _ (hbp78 _ _ (by simpa using hj)))) hX204.pins ?_
  refine dT (i := 1) rfl rfl (by kernel_rfl) (fun _ hS => yX (cs := [u]) ag24 sz24 rfl (fun j u hj => (Pins.of_le hS (Pin.le_trans (Pin.le_trans (Pin.le_trans (Pin.le_trans (Pin.le_trans (Pin.le_trans (Pin.le_trans (Pin.le_trans hle23 hx31.le) hx38.le) hle48) hx53.le) hle76) hx85.le) hle115) hle180)) _ _ _ (hbp12 _ _ (by simpa using hj)))) hX204.pins ?_
  refine zN (i := 2) (by kernel_rfl) (zV (i := 2) rfl rfl rfl (zH rfl _) (zM (vs := [(.agg [u].toArray)]) Tryz.func17 nm17 rfl rfl rfl ?_))
  refine Calls.mono (xQ hX204.pins (hu.mono (Pin.le_trans (Pin.le_trans (Pin.le_trans (Pin.le_trans (Pin.le_trans (Pin.le_trans (Pin.le_trans (Pin.le_trans (Pin.le_trans hle10 hle23) hx31.le) hx38.le) hle48) hx53.le) hle76) hx85.le) hle115) hle180)) hsn) ?_
  rintro _ w213 ⟨u211, G212, rfl, hr214, hx215⟩
  refine ⟨_, rfl, ?_⟩
  have hX216 := hX204.tr hx215
  have hd217 := hd205.ext hx215
  have hs218 := Nat.le_trans hs206 hx215.size
  have hd219 := hd207.ext hx215
  have hs220 := Nat.le_trans hs208 hx215.size
  have hd221 := hd209.ext hx215
  have hs222 := Nat.le_trans hs210 hx215.size
  refine ⟨fun _ => (Pins.of_le hX216.pins hx215.le), ?_⟩
  obtain ⟨G226, hle227, hp228, hr229, _⟩ := hd217.read hX216.pins
  refine zN (i := 3) (by kernel_rfl) (zV (i := 3) rfl rfl rfl (zH rfl _) (zM (vs := [(.agg [u49].toArray), (.agg [u211].toArray)]) Tryz.func20 nm20 rfl rfl rfl ?_))
  refine Calls.mono (eqForm_same hp228 hr229 (hr214.mono hle227)) ?_
  rintro _ w224 ⟨G223, rfl, hx225⟩
  refine ⟨_, rfl, ?_⟩
  have hx230 := deep_back hX216.pins hx225
  have hX231 := hX216.step hx230.pins hx230.below
  have hd232 := hd217.below hx230.below
  have hs233 := Nat.le_trans hs218 hx230.below.size
  have hd234 := hd219.below hx230.below
  have hs235 := Nat.le_trans hs220 hx230.below.size
  have hd236 := hd221.below hx230.below
  have hs237 := Nat.le_trans hs222 hx230.below.size
  refine ⟨fun _ => (Pins.of_le hX231.pins hx215.le), ?_⟩
  refine dT (i := 4) rfl rfl (by kernel_rfl) (fun _ _ => qG rfl) (Pins.of_le hX231.pins hx215.le) ?_
  refine yS (by kernel_rfl) ?_
  refine zA ?_
  refine qW rfl rfl ?_
  refine wp_skip ?_
  refine zA (zF (zF ?_))
  refine xF (S := fun wz => Pins G212 wz) (last := 5) (by kernel_rfl) rfl ?_
  have hl238 : Below w224.heap.size w224 w224.drew := (Below.refl _ _).drew
  have hp239 := hX231.pins.below hl238
  have hX240 := hX231.step hp239 hl238
  have hd241 := hd232.below hl238
  have hs242 := Nat.le_trans hs233 hl238.size
  have hd243 := hd234.below hl238
  have hs244 := Nat.le_trans hs235 hl238.size
  have hd245 := hd236.below hl238
  have hs246 := Nat.le_trans hs237 hl238.size
  refine dT (i := 0) rfl rfl (by kernel_rfl) (fun _ hS => yX (cs := [u81]) ag32 sz32 rfl (fun j u hj => (Pins.of_le hS (Pin.le_trans hle180 hx215.le)) _ _ _ (hbp117 _ _ (by simpa using hj)))) hX240.pins ?_
  refine dT (i := 1) rfl rfl (by kernel_rfl) (fun _ hS => yX (cs := [v]) ag24 sz24 rfl (fun j u hj => (Pins.of_le hS (Pin.le_trans (Pin.le_trans (Pin.le_trans (Pin.le_trans (Pin.le_trans (Pin.le_trans (Pin.le_trans (Pin.le_trans hx31.le hx38.le) hle48) hx53.le) hle76) hx85.le) hle115) hle180) hx215.le)) _ _ _ (hbp25 _ _ (by simpa using hj)))) hX240.pins ?_
  refine zN (i := 2) (by kernel_rfl) (zV (i := 2) rfl rfl rfl (zH rfl _) (zM (vs := [(.agg [v].toArray)]) Tryz.func17 nm17 rfl rfl rfl ?_))
  refine Calls.mono (xQ hX240.pins (hv.mono (Pin.le_trans (Pin.le_trans (Pin.le_trans (Pin.le_trans (Pin.le_trans (Pin.le_trans (Pin.le_trans (Pin.le_trans (Pin.le_trans (Pin.le_trans hle10 hle23) hx31.le) hx38.le) hle48) hx53.le) hle76) hx85.le) hle115) hle180) hx215.le)) hsm) ?_
  rintro _ w249 ⟨u247, G248, rfl, hr250, hx251⟩
  refine ⟨_, rfl, ?_⟩
  have hX252 := hX240.tr hx251
  have hd253 := hd241.ext hx251
  have hs254 := Nat.le_trans hs242 hx251.size
  have hd255 := hd243.ext hx251
  have hs256 := Nat.le_trans hs244 hx251.size
  have hd257 := hd245.ext hx251
  have hs258 := Nat.le_trans hs246 hx251.size
  refine ⟨fun _ => (Pins.of_le hX252.pins hx251.le), ?_⟩
  obtain ⟨G262, hle263, hp264, hr265, _⟩ := hd255.read hX252.pins
  refine zN (i := 3) (by kernel_rfl) (zV (i := 3) rfl rfl rfl (zH rfl _) (zM (vs := [(.agg [u81].toArray), (.agg [u247].toArray)]) Tryz.func20 nm20 rfl rfl rfl ?_))
  refine Calls.mono (eqForm_same hp264 hr265 (hr250.mono hle263)) ?_
  rintro _ w260 ⟨G259, rfl, hx261⟩
  refine ⟨_, rfl, ?_⟩
  have hx266 := deep_back hX252.pins hx261
  have hX267 := hX252.step hx266.pins hx266.below
  have hd268 := hd253.below hx266.below
  have hs269 := Nat.le_trans hs254 hx266.below.size
  have hd270 := hd255.below hx266.below
  have hs271 := Nat.le_trans hs256 hx266.below.size
  have hd272 := hd257.below hx266.below
  have hs273 := Nat.le_trans hs258 hx266.below.size
  refine ⟨fun _ => (Pins.of_le hX267.pins hx251.le), ?_⟩
  refine dT (i := 4) rfl rfl (by kernel_rfl) (fun _ _ => qG rfl) (Pins.of_le hX267.pins hx251.le) ?_
  refine yS (by kernel_rfl) ?_
  refine zA ?_
  refine qW rfl rfl ?_
  refine wp_skip ?_
  refine zA (zF (zG ?_))
  refine qD rfl (zD (v := (.int .i64 1)) rfl) ?_
  refine qe (zA (zF (zG ?_)))
  refine qD rfl (yX (cs := [u49]) ag32 sz32 rfl (fun j u hj => (Pins.of_le hX267.pins (Pin.le_trans (Pin.le_trans (Pin.le_trans (Pin.le_trans hx85.le hle115) hle180) hx215.le) hx251.le)) _ _ _ (hbp78 _ _ (by simpa using hj)))) ?_
  refine qD rfl (zB (v := (.int .i64 1)) rfl) ?_
  refine qI rfl (zM (vs := [(.agg [u49].toArray), (.int .i64 1)]) Tryz.func25 nm25 rfl rfl rfl ?_)
  refine Calls.mono (markFormX_spec (kz := 1) hX267.pins hd268 hs269 hsn (by omega)) ?_
  rintro _ w274 ⟨rfl, hd275, hx276⟩
  refine ⟨_, rfl, ?_⟩
  have hX277 := hX267.trans hx276 (fun i hi => Or.inl (Nat.le_trans hX47.size hi.1))
  have hd278 := hd270.extS hx276 (fun k h1 h2 h3 => by have := h3.1; have := h3.2; omega)
  have hs279 := Nat.le_trans hs271 hx276.size
  have hd280 := hd272.extS hx276 (fun k h1 h2 h3 => by have := h3.1; have := h3.2; omega)
  have hs281 := Nat.le_trans hs273 hx276.size
  refine qD rfl (zD (v := (.int .i64 (1 + totN ns))) rfl) ?_
  refine qe (zA (zF (zG ?_)))
  refine qD rfl (yX (cs := [u81]) ag32 sz32 rfl (fun j u hj => (Pins.of_le hX277.pins (Pin.le_trans (Pin.le_trans hle180 hx215.le) hx251.le)) _ _ _ (hbp117 _ _ (by simpa using hj)))) ?_
  refine qD rfl (zB (v := (.int .i64 (1 + totN ns))) rfl) ?_
  refine qI rfl (zM (vs := [(.agg [u81].toArray), (.int .i64 (1 + totN ns))]) Tryz.func25 nm25 rfl rfl rfl ?_)
  refine Calls.mono (markFormX_spec (kz := 1 + totN ns) hX277.pins hd278 hs279 hsm (by omega)) ?_
  rintro _ w282 ⟨rfl, hd283, hx284⟩
  refine ⟨_, rfl, ?_⟩
  have hX285 := hX277.trans hx284 (fun i hi => Or.inl (Nat.le_trans hX77.size hi.1))
  have hd286 := hd280.extS hx284 (fun k h1 h2 h3 => by have := h3.1; have := h3.2; omega)
  have hs287 := Nat.le_trans hs281 hx284.size
  refine qD rfl (zD (v := (.int .i64 ((1 + totN ns) + totN ms))) rfl) ?_
  refine qe (zA (zF (zF (zG ?_))))
  refine qD rfl (zB (v := (.int .i64 ((1 + totN ns) + totN ms))) rfl) ?_
  refine qD rfl (yQ rfl rfl) ?_
  refine qD rfl (zB (v := (.bool (decide (((1 + totN ns) + totN ms : Int) < 0)))) rfl) ?_
  refine qbd (p := ((1 + totN ns) + totN ms : Int) < 0) (t := 72) rfl (fun h288 => ?_) (fun h288 => ?_)
  ·skip
   refine qs rfl rfl rfl rfl rfl rfl ?_
   refine qs rfl rfl rfl rfl rfl rfl ?_
   refine qs rfl rfl rfl rfl rfl rfl ?_
   refine qs rfl rfl rfl rfl rfl rfl ?_
   refine qD rfl (xN (v := (.bool true)) rfl rfl) ?_
   refine qD rfl (zB (v := (.bool true)) rfl) ?_
   refine qs rfl rfl rfl rfl rfl rfl ?_
   refine qs rfl rfl rfl rfl rfl rfl ?_
   refine qs rfl rfl rfl rfl rfl rfl ?_
   refine qD rfl (xN (v := (.bool true)) rfl rfl) ?_
   refine qe (zA ?_)
   refine c_ifT rfl rfl ?_
   refine zF (zG ?_)
   refine qD rfl (zD (v := (.bool false)) rfl) ?_
   refine qe (zA ?_)
   refine wp_ret ?_
   refine zX ?_
   refine zT (v := (.bool false)) rfl rfl rfl ?_
   exfalso; omega
  refine qdg rfl rfl rfl rfl rfl rfl (yX (cs := [u137]) ag32 sz32 rfl (fun j u hj => (Pins.of_le hX285.pins (Pin.le_trans hx215.le hx251.le)) _ _ _ (hbp182 _ _ (by simpa using hj)))) ?_
  refine qdg rfl rfl rfl rfl rfl rfl (yX (cs := [c42]) ag32 sz32 rfl (fun j u hj => (Pins.of_le hX285.pins (Pin.le_trans (Pin.le_trans (Pin.le_trans (Pin.le_trans (Pin.le_trans (Pin.le_trans hx53.le hle76) hx85.le) hle115) hle180) hx215.le) hx251.le)) _ _ _ (hb46 _ _ (by simpa using hj)))) ?_
  obtain ⟨G292, hle293, hp294, hr295, _⟩ := hd286.read hX285.pins
  refine q1g rfl rfl rfl rfl rfl rfl (zM (vs := [(.agg [u137].toArray), (.agg [c42].toArray)]) Tryz.func20 nm20 rfl rfl rfl ?_)
  refine Calls.mono (eqForm_same hp294 hr295 ((hr45.mono (Pin.le_trans (Pin.le_trans (Pin.le_trans (Pin.le_trans (Pin.le_trans (Pin.le_trans hx53.le hle76) hx85.le) hle115) hle180) hx215.le) hx251.le)).mono hle293)) ?_
  rintro _ w290 ⟨G289, rfl, hx291⟩
  refine ⟨_, rfl, ?_⟩
  have hx296 := deep_back hX285.pins hx291
  have hX297 := hX285.step hx296.pins hx296.below
  have hd298 := hd286.below hx296.below
  have hs299 := Nat.le_trans hs287 hx296.below.size
  refine qdg rfl rfl rfl rfl rfl rfl (qG rfl) ?_
  refine qD rfl (xE (v := (.bool false)) rfl rfl) ?_
  refine qD rfl (zB (v := (.bool false)) rfl) ?_
  refine qdg rfl rfl rfl rfl rfl rfl (zB (v := (.bool (ordB ns ms))) rfl) ?_
  refine qdg rfl rfl rfl rfl rfl rfl (zB (v := (.bool (ordB ns ms))) rfl) ?_
  refine qdg rfl rfl rfl rfl rfl rfl (r_neqB_same Tryz.underlying4 rfl rfl) ?_
  refine qD rfl (xE (v := (.bool false)) rfl rfl) ?_
  refine qe (zA ?_)
  refine qW rfl rfl ?_
  refine wp_skip ?_
  refine zA (zF (zG ?_))
  refine qD rfl (zD (v := (.int .i64 1)) rfl) ?_
  refine qe (zA (zF (zG ?_)))
  refine qD rfl (yX (cs := [u137]) ag32 sz32 rfl (fun j u hj => (Pins.of_le hX297.pins (Pin.le_trans hx215.le hx251.le)) _ _ _ (hbp182 _ _ (by simpa using hj)))) ?_
  refine qD rfl (zB (v := (.int .i64 1)) rfl) ?_
  refine qI rfl (zM (vs := [(.agg [u137].toArray), (.int .i64 1)]) Tryz.func25 nm25 rfl rfl rfl ?_)
  refine Calls.mono (markFormX_spec (kz := 1) hX297.pins hd298 hs299 (ord_small _ _) (by omega)) ?_
  rintro _ w300 ⟨rfl, hd301, hx302⟩
  refine ⟨_, rfl, ?_⟩
  have hX303 := hX297.trans hx302 (fun i hi => Or.inl (Nat.le_trans hX116.size hi.1))
  obtain ⟨G304, hle305, hp306, hr307, hf308⟩ := hd301.read hX303.pins
  have hX309 := hX303.promise hle305 hp306 hf308 hX116.size
  refine qD rfl (zD (v := (.int .i64 (1 + totN (ordF ns ms)))) rfl) ?_
  refine qe (zA (zF (zG ?_)))
  refine qD rfl (zD (v := (.int .i64 1)) rfl) ?_
  refine qe (zA (zF (zG ?_)))
  refine qD rfl (yX (cs := [u137]) ag32 sz32 rfl (fun j u hj => (Pins.of_le hX309.pins (Pin.le_trans (Pin.le_trans hx215.le hx251.le) hle305)) _ _ _ (hbp182 _ _ (by simpa using hj)))) ?_
  refine qD rfl (zB (v := (.int .i64 1)) rfl) ?_
  refine qI rfl (zM (vs := [(.agg [u137].toArray), (.int .i64 1)]) Tryz.func26 nm26 rfl rfl rfl ?_)
  refine Calls.mono (heldFormX_spec (kz := 1) (ns := ordF ns ms) hX309.pins hr307 (ord_small _ _) (by omega)) ?_
  rintro _ w311 ⟨G310, rfl, hx312⟩
  refine ⟨_, rfl, ?_⟩
  have hX313 := hX309.tr hx312
  refine qD rfl (zD (v := (.int .i64 (1 + totN (ordF ns ms)))) rfl) ?_
  refine qe (zA (zF (zF (zG ?_))))
  refine qD rfl (zB (v := (.int .i64 (1 + totN (ordF ns ms)))) rfl) ?_
  refine qD rfl (yQ rfl rfl) ?_
  refine qe (zA ?_)
  refine yG (p := (1 + totN (ordF ns ms) : Int) < 0) rfl rfl (fun h314 => ?_) (fun h314 => ?_)
  ·skip
   refine zF (zG ?_)
   refine qD rfl (zD (v := (.bool false)) rfl) ?_
   refine qe (zA ?_)
   refine wp_ret ?_
   refine zX ?_
   refine zT (v := (.bool false)) rfl rfl rfl ?_
   exfalso; omega
  refine wp_skip ?_
  refine zA (zF (zF (zG ?_)))
  refine qD rfl (zB (v := (.int .i64 (1 + totN (ordF ns ms)))) rfl) ?_
  refine qD rfl (zB (v := (.int .i64 (1 + totN (ordF ns ms)))) rfl) ?_
  refine qD rfl (r_neq rfl rfl) ?_
  refine qe (zA ?_)
  refine yG (p := (1 + totN (ordF ns ms) : Int) ≠ (1 + totN (ordF ns ms))) rfl rfl (fun h315 => ?_) (fun h315 => ?_)
  ·skip
   refine zF (zG ?_)
   refine qD rfl (zD (v := (.bool false)) rfl) ?_
   refine qe (zA ?_)
   refine wp_ret ?_
   refine zX ?_
   refine zT (v := (.bool false)) rfl rfl rfl ?_
   exfalso; omega
  refine wp_skip ?_
  refine zA (zF ?_)
  refine c_cut (fun (en : Nat → Value) (W : World) => ∃ (env1 : Nat → Value) (c316 : Nat) (c317 : Value) (G318 : Pin), en = (upd (upd (upd (upd (upd (upd (upd env1 4 (.bool false)) 6 (.pointer (some ⟨c41, 0, none⟩))) 7 (.bool (ordB ns ms))) 10 (.pointer (some ⟨b150, 0, none⟩))) 13 (.int .i64 (1 + totN (ordF ns ms)))) 15 (.pointer (some ⟨c316, 0, none⟩))) 16 (.bool (ordB ns ms))) ∧ Ext noS G w G318 W ∧ Pin.le G310 G318 ∧ (RSl eNode G318 c317 (ordF ns ms)) ∧ (BxP G318 c316 [c317])) ?_ ?_
  ·rintro _ w319 ⟨env1, c316, c317, G318, rfl, hX322, hle323, hr320, hb321⟩
   refine zA (zF (zF (zG ?_)))
   refine qD rfl (yX (cs := [c317]) ag32 sz32 rfl (fun j u hj => hX322.pins _ _ _ (hb321 _ _ (by simpa using hj)))) ?_
   refine qD rfl (yX (cs := [c42]) ag32 sz32 rfl (fun j u hj => (Pins.of_le hX322.pins (Pin.le_trans (Pin.le_trans (Pin.le_trans (Pin.le_trans (Pin.le_trans (Pin.le_trans (Pin.le_trans (Pin.le_trans (Pin.le_trans hx53.le hle76) hx85.le) hle115) hle180) hx215.le) hx251.le) hle305) hx312.le) hle323)) _ _ _ (hb46 _ _ (by simpa using hj)))) ?_
   refine qI rfl (zM (vs := [(.agg [c317].toArray), (.agg [c42].toArray)]) Tryz.func20 nm20 rfl rfl rfl ?_)
   refine Calls.mono (eqForm_same hX322.pins hr320 (hr45.mono (Pin.le_trans (Pin.le_trans (Pin.le_trans (Pin.le_trans (Pin.le_trans (Pin.le_trans (Pin.le_trans (Pin.le_trans (Pin.le_trans hx53.le hle76) hx85.le) hle115) hle180) hx215.le) hx251.le) hle305) hx312.le) hle323))) ?_
   rintro _ w325 ⟨G324, rfl, hx326⟩
   refine ⟨_, rfl, ?_⟩
   have hX327 := hX322.tr hx326
   refine qD rfl (qG rfl) ?_
   refine qD rfl (zB (v := (.bool false)) rfl) ?_
   refine qdg rfl rfl rfl rfl rfl rfl (zB (v := (.bool (ordB ns ms))) rfl) ?_
   refine qdg rfl rfl rfl rfl rfl rfl (zB (v := (.bool (ordB ns ms))) rfl) ?_
   refine qdg rfl rfl rfl rfl rfl rfl (r_neqB_same Tryz.underlying4 rfl rfl) ?_
   refine qD rfl (xE (v := (.bool false)) rfl rfl) ?_
   refine qe (zA ?_)
   refine qW rfl rfl ?_
   refine wp_skip ?_
   refine zA (zF (zG ?_))
   refine qD rfl (zD (v := (.int .i64 1)) rfl) ?_
   refine qe (zA (zF (zG ?_)))
   refine qD rfl (yX (cs := [u137]) ag32 sz32 rfl (fun j u hj => (Pins.of_le hX327.pins (Pin.le_trans (Pin.le_trans (Pin.le_trans (Pin.le_trans (Pin.le_trans hx215.le hx251.le) hle305) hx312.le) hle323) hx326.le)) _ _ _ (hbp182 _ _ (by simpa using hj)))) ?_
   refine qD rfl (zB (v := (.int .i64 1)) rfl) ?_
   refine qI rfl (zM (vs := [(.agg [u137].toArray), (.int .i64 1)]) Tryz.func26 nm26 rfl rfl rfl ?_)
   refine Calls.mono (heldFormX_spec (kz := 1) (ns := ordF ns ms) hX327.pins (hr307.mono (Pin.le_trans (Pin.le_trans hx312.le hle323) hx326.le)) (ord_small _ _) (by omega)) ?_
   rintro _ w329 ⟨G328, rfl, hx330⟩
   refine ⟨_, rfl, ?_⟩
   have hX331 := hX327.tr hx330
   refine qD rfl (zD (v := (.int .i64 (1 + totN (ordF ns ms)))) rfl) ?_
   refine qe (zA (zF (zF (zG ?_))))
   refine qD rfl (zB (v := (.int .i64 (1 + totN (ordF ns ms)))) rfl) ?_
   refine qD rfl (yQ rfl rfl) ?_
   refine qe (zA ?_)
   refine yG (p := (1 + totN (ordF ns ms) : Int) < 0) rfl rfl (fun h => absurd h h314) (fun _ => ?_)
   refine wp_skip ?_
   refine zA (zF (zF (zG ?_)))
   refine qD rfl (zB (v := (.int .i64 (1 + totN (ordF ns ms)))) rfl) ?_
   refine qD rfl (zB (v := (.int .i64 (1 + totN (ordF ns ms)))) rfl) ?_
   refine qD rfl (r_neq rfl rfl) ?_
   refine qe (zA ?_)
   refine yG (p := (1 + totN (ordF ns ms) : Int) ≠ (1 + totN (ordF ns ms))) rfl rfl (fun h => absurd h h315) (fun _ => ?_)
   refine wp_skip ?_
   refine zA (zF (zG ?_))
   refine qD rfl (zD (v := (.bool true)) rfl) ?_
   refine qe (zA ?_)
   refine wp_ret ?_
   refine zX ?_
   refine zT (v := (.bool true)) rfl rfl rfl ?_
   exact ⟨_, rfl, hX331⟩
  ·skip
   refine xF (S := fun wz => Pins G310 wz) (last := 11) (by kernel_rfl) rfl ?_
   have hl334 : Below w311.heap.size w311 w311.drew := (Below.refl _ _).drew
   have hp335 := hX313.pins.below hl334
   have hX336 := hX313.step hp335 hl334
   refine dT (i := 0) rfl rfl (by kernel_rfl) (fun _ hS => yX (cs := [u]) ag24 sz24 rfl (fun j u hj => (Pins.of_le hS (Pin.le_trans (Pin.le_trans (Pin.le_trans (Pin.le_trans (Pin.le_trans (Pin.le_trans (Pin.le_trans (Pin.le_trans (Pin.le_trans (Pin.le_trans (Pin.le_trans (Pin.le_trans hle23 hx31.le) hx38.le) hle48) hx53.le) hle76) hx85.le) hle115) hle180) hx215.le) hx251.le) hle305) hx312.le)) _ _ _ (hbp12 _ _ (by simpa using hj)))) hX336.pins ?_
   refine dT (i := 2) rfl rfl (by kernel_rfl) (fun _ hS => yX (cs := [v]) ag24 sz24 rfl (fun j u hj => (Pins.of_le hS (Pin.le_trans (Pin.le_trans (Pin.le_trans (Pin.le_trans (Pin.le_trans (Pin.le_trans (Pin.le_trans (Pin.le_trans (Pin.le_trans (Pin.le_trans (Pin.le_trans hx31.le hx38.le) hle48) hx53.le) hle76) hx85.le) hle115) hle180) hx215.le) hx251.le) hle305) hx312.le)) _ _ _ (hbp25 _ _ (by simpa using hj)))) hX336.pins ?_
   refine qE (i := 1) (j := 8) (by kernel_rfl) ?_ ?_
   ·skip
    refine (zV (i := 1) rfl rfl rfl (zH rfl _) (zM (vs := [(.agg [u].toArray)]) Tryz.func17 nm17 rfl rfl rfl ?_))
    refine Calls.mono (xQ hX336.pins (hu.mono (Pin.le_trans (Pin.le_trans (Pin.le_trans (Pin.le_trans (Pin.le_trans (Pin.le_trans (Pin.le_trans (Pin.le_trans (Pin.le_trans (Pin.le_trans (Pin.le_trans (Pin.le_trans (Pin.le_trans hle10 hle23) hx31.le) hx38.le) hle48) hx53.le) hle76) hx85.le) hle115) hle180) hx215.le) hx251.le) hle305) hx312.le)) hsn) ?_
    rintro _ w339 ⟨u337, G338, rfl, hr340, hx341⟩
    refine ⟨_, rfl, ?_⟩
    have hX342 := hX336.tr hx341
    refine ⟨fun _ => (Pins.of_le hX342.pins hx341.le), ?_⟩
    refine qE (i := 3) (j := 8) (by kernel_rfl) ?_ ?_
    ·skip
     refine (zV (i := 3) rfl rfl rfl (zH rfl _) (zM (vs := [(.agg [v].toArray)]) Tryz.func17 nm17 rfl rfl rfl ?_))
     refine Calls.mono (xQ hX342.pins (hv.mono (Pin.le_trans (Pin.le_trans (Pin.le_trans (Pin.le_trans (Pin.le_trans (Pin.le_trans (Pin.le_trans (Pin.le_trans (Pin.le_trans (Pin.le_trans (Pin.le_trans (Pin.le_trans (Pin.le_trans (Pin.le_trans hle10 hle23) hx31.le) hx38.le) hle48) hx53.le) hle76) hx85.le) hle115) hle180) hx215.le) hx251.le) hle305) hx312.le) hx341.le)) hsm) ?_
     rintro _ w345 ⟨u343, G344, rfl, hr346, hx347⟩
     refine ⟨_, rfl, ?_⟩
     have hX348 := hX342.tr hx347
     refine ⟨fun _ => (Pins.of_le hX348.pins (Pin.le_trans hx341.le hx347.le)), ?_⟩
     refine qE (i := 4) (j := 8) (by kernel_rfl) ?_ ?_
     ·skip
      refine (zV (i := 4) rfl rfl rfl (zH rfl _) (zM (vs := [(.agg [u337].toArray), (.agg [u343].toArray)]) Tryz.func39 nm39 rfl rfl rfl ?_))
      refine Calls.mono (qS hX348.pins (hr340.mono hx347.le) hr346) ?_
      rintro _ w351 ⟨u349, G350, rfl, hr352, hx353⟩
      refine ⟨_, rfl, ?_⟩
      have hX354 := hX348.tr hx353
      refine ⟨fun _ => (Pins.of_le hX354.pins (Pin.le_trans (Pin.le_trans hx341.le hx347.le) hx353.le)), ?_⟩
      refine dT (i := 5) rfl rfl (by kernel_rfl) (fun _ _ => zB (v := (.tuple #[(.agg [u349].toArray), (.bool (ordB ns ms))])) rfl) (Pins.of_le hX354.pins (Pin.le_trans (Pin.le_trans hx341.le hx347.le) hx353.le)) ?_
      refine dT (i := 6) rfl rfl (by kernel_rfl) (fun _ _ => xA (v := (.agg [u349].toArray)) rfl rfl) (Pins.of_le hX354.pins (Pin.le_trans (Pin.le_trans hx341.le hx347.le) hx353.le)) ?_
      refine dT (i := 7) rfl rfl (by kernel_rfl) (fun _ _ => xA (v := (.bool (ordB ns ms))) rfl rfl) (Pins.of_le hX354.pins (Pin.le_trans (Pin.le_trans hx341.le hx347.le) hx353.le)) ?_
      refine zN (i := 8) (by kernel_rfl) (zV (i := 8) rfl rfl rfl (zH rfl _) (yY [(.slice none 0 0)] zr32 rfl hX354.pins (fun b355 w356 hk357 hb358 hp359 hl360 => ?_)))
      have hX361 := hX354.step hp359 hl360
      have hlo362 : w.heap.size ≤ b355 := by have := hX354.size; omega
      refine ⟨fun _ => (Pins.of_le hX361.pins (Pin.le_trans (Pin.le_trans hx341.le hx347.le) hx353.le)), ?_⟩
      refine zN (i := 9) (by kernel_rfl) (qP (i := 9) rfl rfl rfl (zH rfl _) (xD (cs' := [u349]) (us := [u349]) (v := (.agg [u349].toArray)) sz32 rfl rfl rfl (yZ hr352.one) hX361.pins hb358 (Nat.le_of_ble_eq_true rfl) rfl (fun w363 hb364 hp365 hg366 hz367 => ?_)))
      have hX368 := hX361.write hp365 hg366 ((yW hlo362))
      obtain ⟨G369, hle370, hX371, hbp372, hf373⟩ := hb364.shut hX368 hlo362
      refine ⟨fun _ => (Pins.of_le hX371.pins (Pin.le_trans (Pin.le_trans (Pin.le_trans hx341.le hx347.le) hx353.le) hle370)), ?_⟩
      refine dT (i := 10) rfl rfl (by kernel_rfl) (fun _ _ => zD (v := (.bool (ordB ns ms))) rfl) (Pins.of_le hX371.pins (Pin.le_trans (Pin.le_trans (Pin.le_trans hx341.le hx347.le) hx353.le) hle370)) ?_
      refine yS (by kernel_rfl) ?_
      exact xS ⟨_, b355, u349, G369, (zC (x := 16) (zC (x := 15) (zC (x := 13) (zC (x := 10) (zC (x := 7) (zC (x := 6) (zU (x := 4) rfl) rfl) rfl) rfl) rfl) rfl) rfl), hX371, (Pin.le_trans (Pin.le_trans (Pin.le_trans hx341.le hx347.le) hx353.le) hle370), (hr352.mono hle370), (hbp372.mono (Pin.le_refl _))⟩
     ·skip
      refine (zV (i := 8) rfl rfl rfl (zH rfl _) (yY [(.slice none 0 0)] zr32 rfl hX348.pins (fun b374 w375 hk376 hb377 hp378 hl379 => ?_)))
      have hX380 := hX348.step hp378 hl379
      have hlo381 : w.heap.size ≤ b374 := by have := hX348.size; omega
      refine ⟨fun _ => (Pins.of_le hX380.pins (Pin.le_trans hx341.le hx347.le)), ?_⟩
      refine zN (i := 4) (by kernel_rfl) (zV (i := 4) rfl rfl rfl (zH rfl _) (zM (vs := [(.agg [u337].toArray), (.agg [u343].toArray)]) Tryz.func39 nm39 rfl rfl rfl ?_))
      refine Calls.mono (qS hX380.pins (hr340.mono hx347.le) hr346) ?_
      rintro _ w384 ⟨u382, G383, rfl, hr385, hx386⟩
      refine ⟨_, rfl, ?_⟩
      have hX387 := hX380.tr hx386
      have hb388 := hb377.ext hx386
      refine ⟨fun _ => (Pins.of_le hX387.pins (Pin.le_trans (Pin.le_trans hx341.le hx347.le) hx386.le)), ?_⟩
      refine dT (i := 5) rfl rfl (by kernel_rfl) (fun _ _ => zB (v := (.tuple #[(.agg [u382].toArray), (.bool (ordB ns ms))])) rfl) (Pins.of_le hX387.pins (Pin.le_trans (Pin.le_trans hx341.le hx347.le) hx386.le)) ?_
      refine dT (i := 6) rfl rfl (by kernel_rfl) (fun _ _ => xA (v := (.agg [u382].toArray)) rfl rfl) (Pins.of_le hX387.pins (Pin.le_trans (Pin.le_trans hx341.le hx347.le) hx386.le)) ?_
      refine dT (i := 7) rfl rfl (by kernel_rfl) (fun _ _ => xA (v := (.bool (ordB ns ms))) rfl rfl) (Pins.of_le hX387.pins (Pin.le_trans (Pin.le_trans hx341.le hx347.le) hx386.le)) ?_
      refine zN (i := 9) (by kernel_rfl) (qP (i := 9) rfl rfl rfl (zH rfl _) (xD (cs' := [u382]) (us := [u382]) (v := (.agg [u382].toArray)) sz32 rfl rfl rfl (yZ hr385.one) hX387.pins hb388 (Nat.le_of_ble_eq_true rfl) rfl (fun w389 hb390 hp391 hg392 hz393 => ?_)))
      have hX394 := hX387.write hp391 hg392 ((yW hlo381))
      obtain ⟨G395, hle396, hX397, hbp398, hf399⟩ := hb390.shut hX394 hlo381
      refine ⟨fun _ => (Pins.of_le hX397.pins (Pin.le_trans (Pin.le_trans (Pin.le_trans hx341.le hx347.le) hx386.le) hle396)), ?_⟩
      refine dT (i := 10) rfl rfl (by kernel_rfl) (fun _ _ => zD (v := (.bool (ordB ns ms))) rfl) (Pins.of_le hX397.pins (Pin.le_trans (Pin.le_trans (Pin.le_trans hx341.le hx347.le) hx386.le) hle396)) ?_
      refine yS (by kernel_rfl) ?_
      exact xS ⟨_, b374, u382, G395, (zC (x := 16) (zC (x := 15) (zC (x := 13) (zC (x := 10) (zC (x := 7) (zC (x := 6) (zU (x := 4) rfl) rfl) rfl) rfl) rfl) rfl) rfl), hX397, (Pin.le_trans (Pin.le_trans (Pin.le_trans hx341.le hx347.le) hx386.le) hle396), (hr385.mono hle396), (hbp398.mono (Pin.le_refl _))⟩
    ·skip
     refine (zV (i := 8) rfl rfl rfl (zH rfl _) (yY [(.slice none 0 0)] zr32 rfl hX342.pins (fun b400 w401 hk402 hb403 hp404 hl405 => ?_)))
     have hX406 := hX342.step hp404 hl405
     have hlo407 : w.heap.size ≤ b400 := by have := hX342.size; omega
     refine ⟨fun _ => (Pins.of_le hX406.pins hx341.le), ?_⟩
     refine zN (i := 3) (by kernel_rfl) (zV (i := 3) rfl rfl rfl (zH rfl _) (zM (vs := [(.agg [v].toArray)]) Tryz.func17 nm17 rfl rfl rfl ?_))
     refine Calls.mono (xQ hX406.pins (hv.mono (Pin.le_trans (Pin.le_trans (Pin.le_trans (Pin.le_trans (Pin.le_trans (Pin.le_trans (Pin.le_trans (Pin.le_trans (Pin.le_trans (Pin.le_trans (Pin.le_trans (Pin.le_trans (Pin.le_trans (Pin.le_trans hle10 hle23) hx31.le) hx38.le) hle48) hx53.le) hle76) hx85.le) hle115) hle180) hx215.le) hx251.le) hle305) hx312.le) hx341.le)) hsm) ?_
     rintro _ w410 ⟨u408, G409, rfl, hr411, hx412⟩
     refine ⟨_, rfl, ?_⟩
     have hX413 := hX406.tr hx412
     have hb414 := hb403.ext hx412
     refine ⟨fun _ => (Pins.of_le hX413.pins (Pin.le_trans hx341.le hx412.le)), ?_⟩
     refine zN (i := 4) (by kernel_rfl) (zV (i := 4) rfl rfl rfl (zH rfl _) (zM (vs := [(.agg [u337].toArray), (.agg [u408].toArray)]) Tryz.func39 nm39 rfl rfl rfl ?_))
     refine Calls.mono (qS hX413.pins (hr340.mono hx412.le) hr411) ?_
     rintro _ w417 ⟨u415, G416, rfl, hr418, hx419⟩
     refine ⟨_, rfl, ?_⟩
     have hX420 := hX413.tr hx419
     have hb421 := hb414.ext hx419
     refine ⟨fun _ => (Pins.of_le hX420.pins (Pin.le_trans (Pin.le_trans hx341.le hx412.le) hx419.le)), ?_⟩
     refine dT (i := 5) rfl rfl (by kernel_rfl) (fun _ _ => zB (v := (.tuple #[(.agg [u415].toArray), (.bool (ordB ns ms))])) rfl) (Pins.of_le hX420.pins (Pin.le_trans (Pin.le_trans hx341.le hx412.le) hx419.le)) ?_
     refine dT (i := 6) rfl rfl (by kernel_rfl) (fun _ _ => xA (v := (.agg [u415].toArray)) rfl rfl) (Pins.of_le hX420.pins (Pin.le_trans (Pin.le_trans hx341.le hx412.le) hx419.le)) ?_
     refine dT (i := 7) rfl rfl (by kernel_rfl) (fun _ _ => xA (v := (.bool (ordB ns ms))) rfl rfl) (Pins.of_le hX420.pins (Pin.le_trans (Pin.le_trans hx341.le hx412.le) hx419.le)) ?_
     refine zN (i := 9) (by kernel_rfl) (qP (i := 9) rfl rfl rfl (zH rfl _) (xD (cs' := [u415]) (us := [u415]) (v := (.agg [u415].toArray)) sz32 rfl rfl rfl (yZ hr418.one) hX420.pins hb421 (Nat.le_of_ble_eq_true rfl) rfl (fun w422 hb423 hp424 hg425 hz426 => ?_)))
     have hX427 := hX420.write hp424 hg425 ((yW hlo407))
     obtain ⟨G428, hle429, hX430, hbp431, hf432⟩ := hb423.shut hX427 hlo407
     refine ⟨fun _ => (Pins.of_le hX430.pins (Pin.le_trans (Pin.le_trans (Pin.le_trans hx341.le hx412.le) hx419.le) hle429)), ?_⟩
     refine dT (i := 10) rfl rfl (by kernel_rfl) (fun _ _ => zD (v := (.bool (ordB ns ms))) rfl) (Pins.of_le hX430.pins (Pin.le_trans (Pin.le_trans (Pin.le_trans hx341.le hx412.le) hx419.le) hle429)) ?_
     refine yS (by kernel_rfl) ?_
     exact xS ⟨_, b400, u415, G428, (zC (x := 16) (zC (x := 15) (zC (x := 13) (zC (x := 10) (zC (x := 7) (zC (x := 6) (zU (x := 4) rfl) rfl) rfl) rfl) rfl) rfl) rfl), hX430, (Pin.le_trans (Pin.le_trans (Pin.le_trans hx341.le hx412.le) hx419.le) hle429), (hr418.mono hle429), (hbp431.mono (Pin.le_refl _))⟩
   ·skip
    refine (zV (i := 8) rfl rfl rfl (zH rfl _) (yY [(.slice none 0 0)] zr32 rfl hX336.pins (fun b433 w434 hk435 hb436 hp437 hl438 => ?_)))
    have hX439 := hX336.step hp437 hl438
    have hlo440 : w.heap.size ≤ b433 := by have := hX336.size; omega
    refine ⟨fun _ => hX439.pins, ?_⟩
    refine zN (i := 1) (by kernel_rfl) (zV (i := 1) rfl rfl rfl (zH rfl _) (zM (vs := [(.agg [u].toArray)]) Tryz.func17 nm17 rfl rfl rfl ?_))
    refine Calls.mono (xQ hX439.pins (hu.mono (Pin.le_trans (Pin.le_trans (Pin.le_trans (Pin.le_trans (Pin.le_trans (Pin.le_trans (Pin.le_trans (Pin.le_trans (Pin.le_trans (Pin.le_trans (Pin.le_trans (Pin.le_trans (Pin.le_trans hle10 hle23) hx31.le) hx38.le) hle48) hx53.le) hle76) hx85.le) hle115) hle180) hx215.le) hx251.le) hle305) hx312.le)) hsn) ?_
    rintro _ w443 ⟨u441, G442, rfl, hr444, hx445⟩
    refine ⟨_, rfl, ?_⟩
    have hX446 := hX439.tr hx445
    have hb447 := hb436.ext hx445
    refine ⟨fun _ => (Pins.of_le hX446.pins hx445.le), ?_⟩
    refine zN (i := 3) (by kernel_rfl) (zV (i := 3) rfl rfl rfl (zH rfl _) (zM (vs := [(.agg [v].toArray)]) Tryz.func17 nm17 rfl rfl rfl ?_))
    refine Calls.mono (xQ hX446.pins (hv.mono (Pin.le_trans (Pin.le_trans (Pin.le_trans (Pin.le_trans (Pin.le_trans (Pin.le_trans (Pin.le_trans (Pin.le_trans (Pin.le_trans (Pin.le_trans (Pin.le_trans (Pin.le_trans (Pin.le_trans (Pin.le_trans hle10 hle23) hx31.le) hx38.le) hle48) hx53.le) hle76) hx85.le) hle115) hle180) hx215.le) hx251.le) hle305) hx312.le) hx445.le)) hsm) ?_
    rintro _ w450 ⟨u448, G449, rfl, hr451, hx452⟩
    refine ⟨_, rfl, ?_⟩
    have hX453 := hX446.tr hx452
    have hb454 := hb447.ext hx452
    refine ⟨fun _ => (Pins.of_le hX453.pins (Pin.le_trans hx445.le hx452.le)), ?_⟩
    refine zN (i := 4) (by kernel_rfl) (zV (i := 4) rfl rfl rfl (zH rfl _) (zM (vs := [(.agg [u441].toArray), (.agg [u448].toArray)]) Tryz.func39 nm39 rfl rfl rfl ?_))
    refine Calls.mono (qS hX453.pins (hr444.mono hx452.le) hr451) ?_
    rintro _ w457 ⟨u455, G456, rfl, hr458, hx459⟩
    refine ⟨_, rfl, ?_⟩
    have hX460 := hX453.tr hx459
    have hb461 := hb454.ext hx459
    refine ⟨fun _ => (Pins.of_le hX460.pins (Pin.le_trans (Pin.le_trans hx445.le hx452.le) hx459.le)), ?_⟩
    refine dT (i := 5) rfl rfl (by kernel_rfl) (fun _ _ => zB (v := (.tuple #[(.agg [u455].toArray), (.bool (ordB ns ms))])) rfl) (Pins.of_le hX460.pins (Pin.le_trans (Pin.le_trans hx445.le hx452.le) hx459.le)) ?_
    refine dT (i := 6) rfl rfl (by kernel_rfl) (fun _ _ => xA (v := (.agg [u455].toArray)) rfl rfl) (Pins.of_le hX460.pins (Pin.le_trans (Pin.le_trans hx445.le hx452.le) hx459.le)) ?_
    refine dT (i := 7) rfl rfl (by kernel_rfl) (fun _ _ => xA (v := (.bool (ordB ns ms))) rfl rfl) (Pins.of_le hX460.pins (Pin.le_trans (Pin.le_trans hx445.le hx452.le) hx459.le)) ?_
    refine zN (i := 9) (by kernel_rfl) (qP (i := 9) rfl rfl rfl (zH rfl _) (xD (cs' := [u455]) (us := [u455]) (v := (.agg [u455].toArray)) sz32 rfl rfl rfl (yZ hr458.one) hX460.pins hb461 (Nat.le_of_ble_eq_true rfl) rfl (fun w462 hb463 hp464 hg465 hz466 => ?_)))
    have hX467 := hX460.write hp464 hg465 ((yW hlo440))
    obtain ⟨G468, hle469, hX470, hbp471, hf472⟩ := hb463.shut hX467 hlo440
    refine ⟨fun _ => (Pins.of_le hX470.pins (Pin.le_trans (Pin.le_trans (Pin.le_trans hx445.le hx452.le) hx459.le) hle469)), ?_⟩
    refine dT (i := 10) rfl rfl (by kernel_rfl) (fun _ _ => zD (v := (.bool (ordB ns ms))) rfl) (Pins.of_le hX470.pins (Pin.le_trans (Pin.le_trans (Pin.le_trans hx445.le hx452.le) hx459.le) hle469)) ?_
    refine yS (by kernel_rfl) ?_
    exact xS ⟨_, b433, u455, G468, (zC (x := 16) (zC (x := 15) (zC (x := 13) (zC (x := 10) (zC (x := 7) (zC (x := 6) (zU (x := 4) rfl) rfl) rfl) rfl) rfl) rfl) rfl), hX470, (Pin.le_trans (Pin.le_trans (Pin.le_trans hx445.le hx452.le) hx459.le) hle469), (hr458.mono hle469), (hbp471.mono (Pin.le_refl _))⟩
 ·skip
  refine xF (S := fun wz => Pins G35 wz) (last := 11) (by kernel_rfl) rfl ?_
  have hl473 : Below w36.heap.size w36 w36.drew := (Below.refl _ _).drew
  have hp474 := hX39.pins.below hl473
  have hX475 := hX39.step hp474 hl473
  refine dT (i := 0) rfl rfl (by kernel_rfl) (fun _ hS => yX (cs := [u]) ag24 sz24 rfl (fun j u hj => (Pins.of_le hS (Pin.le_trans (Pin.le_trans hle23 hx31.le) hx38.le)) _ _ _ (hbp12 _ _ (by simpa using hj)))) hX475.pins ?_
  refine dT (i := 2) rfl rfl (by kernel_rfl) (fun _ hS => yX (cs := [v]) ag24 sz24 rfl (fun j u hj => (Pins.of_le hS (Pin.le_trans hx31.le hx38.le)) _ _ _ (hbp25 _ _ (by simpa using hj)))) hX475.pins ?_
  refine qE (i := 1) (j := 8) (by kernel_rfl) ?_ ?_
  ·skip
   refine (zV (i := 1) rfl rfl rfl (zH rfl _) (zM (vs := [(.agg [u].toArray)]) Tryz.func17 nm17 rfl rfl rfl ?_))
   refine Calls.mono (xQ hX475.pins (hu.mono (Pin.le_trans (Pin.le_trans (Pin.le_trans hle10 hle23) hx31.le) hx38.le)) hsn) ?_
   rintro _ w478 ⟨u476, G477, rfl, hr479, hx480⟩
   refine ⟨_, rfl, ?_⟩
   have hX481 := hX475.tr hx480
   refine ⟨fun _ => (Pins.of_le hX481.pins hx480.le), ?_⟩
   refine qE (i := 3) (j := 8) (by kernel_rfl) ?_ ?_
   ·skip
    refine (zV (i := 3) rfl rfl rfl (zH rfl _) (zM (vs := [(.agg [v].toArray)]) Tryz.func17 nm17 rfl rfl rfl ?_))
    refine Calls.mono (xQ hX481.pins (hv.mono (Pin.le_trans (Pin.le_trans (Pin.le_trans (Pin.le_trans hle10 hle23) hx31.le) hx38.le) hx480.le)) hsm) ?_
    rintro _ w484 ⟨u482, G483, rfl, hr485, hx486⟩
    refine ⟨_, rfl, ?_⟩
    have hX487 := hX481.tr hx486
    refine ⟨fun _ => (Pins.of_le hX487.pins (Pin.le_trans hx480.le hx486.le)), ?_⟩
    refine qE (i := 4) (j := 8) (by kernel_rfl) ?_ ?_
    ·skip
     refine (zV (i := 4) rfl rfl rfl (zH rfl _) (zM (vs := [(.agg [u476].toArray), (.agg [u482].toArray)]) Tryz.func38 nm38 rfl rfl rfl ?_))
     refine Calls.mono (qQ hX487.pins (hr479.mono hx486.le) hr485) ?_
     rintro _ w490 ⟨u488, G489, rfl, hr491, hx492⟩
     refine ⟨_, rfl, ?_⟩
     have hX493 := hX487.tr hx492
     refine ⟨fun _ => (Pins.of_le hX493.pins (Pin.le_trans (Pin.le_trans hx480.le hx486.le) hx492.le)), ?_⟩
     refine dT (i := 5) rfl rfl (by kernel_rfl) (fun _ _ => zB (v := (.tuple #[(.agg [u488].toArray), (.bool (ordB ns ms))])) rfl) (Pins.of_le hX493.pins (Pin.le_trans (Pin.le_trans hx480.le hx486.le) hx492.le)) ?_
     refine dT (i := 6) rfl rfl (by kernel_rfl) (fun _ _ => xA (v := (.agg [u488].toArray)) rfl rfl) (Pins.of_le hX493.pins (Pin.le_trans (Pin.le_trans hx480.le hx486.le) hx492.le)) ?_
     refine dT (i := 7) rfl rfl (by kernel_rfl) (fun _ _ => xA (v := (.bool (ordB ns ms))) rfl rfl) (Pins.of_le hX493.pins (Pin.le_trans (Pin.le_trans hx480.le hx486.le) hx492.le)) ?_
     refine zN (i := 8) (by kernel_rfl) (zV (i := 8) rfl rfl rfl (zH rfl _) (yY [(.slice none 0 0)] zr32 rfl hX493.pins (fun b494 w495 hk496 hb497 hp498 hl499 => ?_)))
     have hX500 := hX493.step hp498 hl499
     have hlo501 : w.heap.size ≤ b494 := by have := hX493.size; omega
     refine ⟨fun _ => (Pins.of_le hX500.pins (Pin.le_trans (Pin.le_trans hx480.le hx486.le) hx492.le)), ?_⟩
     refine zN (i := 9) (by kernel_rfl) (qP (i := 9) rfl rfl rfl (zH rfl _) (xD (cs' := [u488]) (us := [u488]) (v := (.agg [u488].toArray)) sz32 rfl rfl rfl (yZ hr491.one) hX500.pins hb497 (Nat.le_of_ble_eq_true rfl) rfl (fun w502 hb503 hp504 hg505 hz506 => ?_)))
     have hX507 := hX500.write hp504 hg505 ((yW hlo501))
     obtain ⟨G508, hle509, hX510, hbp511, hf512⟩ := hb503.shut hX507 hlo501
     refine ⟨fun _ => (Pins.of_le hX510.pins (Pin.le_trans (Pin.le_trans (Pin.le_trans hx480.le hx486.le) hx492.le) hle509)), ?_⟩
     refine dT (i := 10) rfl rfl (by kernel_rfl) (fun _ _ => zD (v := (.bool (ordB ns ms))) rfl) (Pins.of_le hX510.pins (Pin.le_trans (Pin.le_trans (Pin.le_trans hx480.le hx486.le) hx492.le) hle509)) ?_
     refine yS (by kernel_rfl) ?_
     exact xS ⟨_, b494, u488, G508, (zC (x := 7) (zC (x := 6) (zC (x := 4) (zC (x := 3) (zU (x := 2) rfl) rfl) rfl) rfl) rfl), hX510, (Pin.le_trans (Pin.le_trans (Pin.le_trans hx480.le hx486.le) hx492.le) hle509), (hr491.mono hle509), (hbp511.mono (Pin.le_refl _))⟩
    ·skip
     refine (zV (i := 8) rfl rfl rfl (zH rfl _) (yY [(.slice none 0 0)] zr32 rfl hX487.pins (fun b513 w514 hk515 hb516 hp517 hl518 => ?_)))
     have hX519 := hX487.step hp517 hl518
     have hlo520 : w.heap.size ≤ b513 := by have := hX487.size; omega
     refine ⟨fun _ => (Pins.of_le hX519.pins (Pin.le_trans hx480.le hx486.le)), ?_⟩
     refine zN (i := 4) (by kernel_rfl) (zV (i := 4) rfl rfl rfl (zH rfl _) (zM (vs := [(.agg [u476].toArray), (.agg [u482].toArray)]) Tryz.func38 nm38 rfl rfl rfl ?_))
     refine Calls.mono (qQ hX519.pins (hr479.mono hx486.le) hr485) ?_
     rintro _ w523 ⟨u521, G522, rfl, hr524, hx525⟩
     refine ⟨_, rfl, ?_⟩
     have hX526 := hX519.tr hx525
     have hb527 := hb516.ext hx525
     refine ⟨fun _ => (Pins.of_le hX526.pins (Pin.le_trans (Pin.le_trans hx480.le hx486.le) hx525.le)), ?_⟩
     refine dT (i := 5) rfl rfl (by kernel_rfl) (fun _ _ => zB (v := (.tuple #[(.agg [u521].toArray), (.bool (ordB ns ms))])) rfl) (Pins.of_le hX526.pins (Pin.le_trans (Pin.le_trans hx480.le hx486.le) hx525.le)) ?_
     refine dT (i := 6) rfl rfl (by kernel_rfl) (fun _ _ => xA (v := (.agg [u521].toArray)) rfl rfl) (Pins.of_le hX526.pins (Pin.le_trans (Pin.le_trans hx480.le hx486.le) hx525.le)) ?_
     refine dT (i := 7) rfl rfl (by kernel_rfl) (fun _ _ => xA (v := (.bool (ordB ns ms))) rfl rfl) (Pins.of_le hX526.pins (Pin.le_trans (Pin.le_trans hx480.le hx486.le) hx525.le)) ?_
     refine zN (i := 9) (by kernel_rfl) (qP (i := 9) rfl rfl rfl (zH rfl _) (xD (cs' := [u521]) (us := [u521]) (v := (.agg [u521].toArray)) sz32 rfl rfl rfl (yZ hr524.one) hX526.pins hb527 (Nat.le_of_ble_eq_true rfl) rfl (fun w528 hb529 hp530 hg531 hz532 => ?_)))
     have hX533 := hX526.write hp530 hg531 ((yW hlo520))
     obtain ⟨G534, hle535, hX536, hbp537, hf538⟩ := hb529.shut hX533 hlo520
     refine ⟨fun _ => (Pins.of_le hX536.pins (Pin.le_trans (Pin.le_trans (Pin.le_trans hx480.le hx486.le) hx525.le) hle535)), ?_⟩
     refine dT (i := 10) rfl rfl (by kernel_rfl) (fun _ _ => zD (v := (.bool (ordB ns ms))) rfl) (Pins.of_le hX536.pins (Pin.le_trans (Pin.le_trans (Pin.le_trans hx480.le hx486.le) hx525.le) hle535)) ?_
     refine yS (by kernel_rfl) ?_
     exact xS ⟨_, b513, u521, G534, (zC (x := 7) (zC (x := 6) (zC (x := 4) (zC (x := 3) (zU (x := 2) rfl) rfl) rfl) rfl) rfl), hX536, (Pin.le_trans (Pin.le_trans (Pin.le_trans hx480.le hx486.le) hx525.le) hle535), (hr524.mono hle535), (hbp537.mono (Pin.le_refl _))⟩
   ·skip
    refine (zV (i := 8) rfl rfl rfl (zH rfl _) (yY [(.slice none 0 0)] zr32 rfl hX481.pins (fun b539 w540 hk541 hb542 hp543 hl544 => ?_)))
    have hX545 := hX481.step hp543 hl544
    have hlo546 : w.heap.size ≤ b539 := by have := hX481.size; omega
    refine ⟨fun _ => (Pins.of_le hX545.pins hx480.le), ?_⟩
    refine zN (i := 3) (by kernel_rfl) (zV (i := 3) rfl rfl rfl (zH rfl _) (zM (vs := [(.agg [v].toArray)]) Tryz.func17 nm17 rfl rfl rfl ?_))
    refine Calls.mono (xQ hX545.pins (hv.mono (Pin.le_trans (Pin.le_trans (Pin.le_trans (Pin.le_trans hle10 hle23) hx31.le) hx38.le) hx480.le)) hsm) ?_
    rintro _ w549 ⟨u547, G548, rfl, hr550, hx551⟩
    refine ⟨_, rfl, ?_⟩
    have hX552 := hX545.tr hx551
    have hb553 := hb542.ext hx551
    refine ⟨fun _ => (Pins.of_le hX552.pins (Pin.le_trans hx480.le hx551.le)), ?_⟩
    refine zN (i := 4) (by kernel_rfl) (zV (i := 4) rfl rfl rfl (zH rfl _) (zM (vs := [(.agg [u476].toArray), (.agg [u547].toArray)]) Tryz.func38 nm38 rfl rfl rfl ?_))
    refine Calls.mono (qQ hX552.pins (hr479.mono hx551.le) hr550) ?_
    rintro _ w556 ⟨u554, G555, rfl, hr557, hx558⟩
    refine ⟨_, rfl, ?_⟩
    have hX559 := hX552.tr hx558
    have hb560 := hb553.ext hx558
    refine ⟨fun _ => (Pins.of_le hX559.pins (Pin.le_trans (Pin.le_trans hx480.le hx551.le) hx558.le)), ?_⟩
    refine dT (i := 5) rfl rfl (by kernel_rfl) (fun _ _ => zB (v := (.tuple #[(.agg [u554].toArray), (.bool (ordB ns ms))])) rfl) (Pins.of_le hX559.pins (Pin.le_trans (Pin.le_trans hx480.le hx551.le) hx558.le)) ?_
    refine dT (i := 6) rfl rfl (by kernel_rfl) (fun _ _ => xA (v := (.agg [u554].toArray)) rfl rfl) (Pins.of_le hX559.pins (Pin.le_trans (Pin.le_trans hx480.le hx551.le) hx558.le)) ?_
    refine dT (i := 7) rfl rfl (by kernel_rfl) (fun _ _ => xA (v := (.bool (ordB ns ms))) rfl rfl) (Pins.of_le hX559.pins (Pin.le_trans (Pin.le_trans hx480.le hx551.le) hx558.le)) ?_
    refine zN (i := 9) (by kernel_rfl) (qP (i := 9) rfl rfl rfl (zH rfl _) (xD (cs' := [u554]) (us := [u554]) (v := (.agg [u554].toArray)) sz32 rfl rfl rfl (yZ hr557.one) hX559.pins hb560 (Nat.le_of_ble_eq_true rfl) rfl (fun w561 hb562 hp563 hg564 hz565 => ?_)))
    have hX566 := hX559.write hp563 hg564 ((yW hlo546))
    obtain ⟨G567, hle568, hX569, hbp570, hf571⟩ := hb562.shut hX566 hlo546
    refine ⟨fun _ => (Pins.of_le hX569.pins (Pin.le_trans (Pin.le_trans (Pin.le_trans hx480.le hx551.le) hx558.le) hle568)), ?_⟩
    refine dT (i := 10) rfl rfl (by kernel_rfl) (fun _ _ => zD (v := (.bool (ordB ns ms))) rfl) (Pins.of_le hX569.pins (Pin.le_trans (Pin.le_trans (Pin.le_trans hx480.le hx551.le) hx558.le) hle568)) ?_
    refine yS (by kernel_rfl) ?_
    exact xS ⟨_, b539, u554, G567, (zC (x := 7) (zC (x := 6) (zC (x := 4) (zC (x := 3) (zU (x := 2) rfl) rfl) rfl) rfl) rfl), hX569, (Pin.le_trans (Pin.le_trans (Pin.le_trans hx480.le hx551.le) hx558.le) hle568), (hr557.mono hle568), (hbp570.mono (Pin.le_refl _))⟩
  ·skip
   refine (zV (i := 8) rfl rfl rfl (zH rfl _) (yY [(.slice none 0 0)] zr32 rfl hX475.pins (fun b572 w573 hk574 hb575 hp576 hl577 => ?_)))
   have hX578 := hX475.step hp576 hl577
   have hlo579 : w.heap.size ≤ b572 := by have := hX475.size; omega
   refine ⟨fun _ => hX578.pins, ?_⟩
   refine zN (i := 1) (by kernel_rfl) (zV (i := 1) rfl rfl rfl (zH rfl _) (zM (vs := [(.agg [u].toArray)]) Tryz.func17 nm17 rfl rfl rfl ?_))
   refine Calls.mono (xQ hX578.pins (hu.mono (Pin.le_trans (Pin.le_trans (Pin.le_trans hle10 hle23) hx31.le) hx38.le)) hsn) ?_
   rintro _ w582 ⟨u580, G581, rfl, hr583, hx584⟩
   refine ⟨_, rfl, ?_⟩
   have hX585 := hX578.tr hx584
   have hb586 := hb575.ext hx584
   refine ⟨fun _ => (Pins.of_le hX585.pins hx584.le), ?_⟩
   refine zN (i := 3) (by kernel_rfl) (zV (i := 3) rfl rfl rfl (zH rfl _) (zM (vs := [(.agg [v].toArray)]) Tryz.func17 nm17 rfl rfl rfl ?_))
   refine Calls.mono (xQ hX585.pins (hv.mono (Pin.le_trans (Pin.le_trans (Pin.le_trans (Pin.le_trans hle10 hle23) hx31.le) hx38.le) hx584.le)) hsm) ?_
   rintro _ w589 ⟨u587, G588, rfl, hr590, hx591⟩
   refine ⟨_, rfl, ?_⟩
   have hX592 := hX585.tr hx591
   have hb593 := hb586.ext hx591
   refine ⟨fun _ => (Pins.of_le hX592.pins (Pin.le_trans hx584.le hx591.le)), ?_⟩
   refine zN (i := 4) (by kernel_rfl) (zV (i := 4) rfl rfl rfl (zH rfl _) (zM (vs := [(.agg [u580].toArray), (.agg [u587].toArray)]) Tryz.func38 nm38 rfl rfl rfl ?_))
   refine Calls.mono (qQ hX592.pins (hr583.mono hx591.le) hr590) ?_
   rintro _ w596 ⟨u594, G595, rfl, hr597, hx598⟩
   refine ⟨_, rfl, ?_⟩
   have hX599 := hX592.tr hx598
   have hb600 := hb593.ext hx598
   refine ⟨fun _ => (Pins.of_le hX599.pins (Pin.le_trans (Pin.le_trans hx584.le hx591.le) hx598.le)), ?_⟩
   refine dT (i := 5) rfl rfl (by kernel_rfl) (fun _ _ => zB (v := (.tuple #[(.agg [u594].toArray), (.bool (ordB ns ms))])) rfl) (Pins.of_le hX599.pins (Pin.le_trans (Pin.le_trans hx584.le hx591.le) hx598.le)) ?_
   refine dT (i := 6) rfl rfl (by kernel_rfl) (fun _ _ => xA (v := (.agg [u594].toArray)) rfl rfl) (Pins.of_le hX599.pins (Pin.le_trans (Pin.le_trans hx584.le hx591.le) hx598.le)) ?_
   refine dT (i := 7) rfl rfl (by kernel_rfl) (fun _ _ => xA (v := (.bool (ordB ns ms))) rfl rfl) (Pins.of_le hX599.pins (Pin.le_trans (Pin.le_trans hx584.le hx591.le) hx598.le)) ?_
   refine zN (i := 9) (by kernel_rfl) (qP (i := 9) rfl rfl rfl (zH rfl _) (xD (cs' := [u594]) (us := [u594]) (v := (.agg [u594].toArray)) sz32 rfl rfl rfl (yZ hr597.one) hX599.pins hb600 (Nat.le_of_ble_eq_true rfl) rfl (fun w601 hb602 hp603 hg604 hz605 => ?_)))
   have hX606 := hX599.write hp603 hg604 ((yW hlo579))
   obtain ⟨G607, hle608, hX609, hbp610, hf611⟩ := hb602.shut hX606 hlo579
   refine ⟨fun _ => (Pins.of_le hX609.pins (Pin.le_trans (Pin.le_trans (Pin.le_trans hx584.le hx591.le) hx598.le) hle608)), ?_⟩
   refine dT (i := 10) rfl rfl (by kernel_rfl) (fun _ _ => zD (v := (.bool (ordB ns ms))) rfl) (Pins.of_le hX609.pins (Pin.le_trans (Pin.le_trans (Pin.le_trans hx584.le hx591.le) hx598.le) hle608)) ?_
   refine yS (by kernel_rfl) ?_
   exact xS ⟨_, b572, u594, G607, (zC (x := 7) (zC (x := 6) (zC (x := 4) (zC (x := 3) (zU (x := 2) rfl) rfl) rfl) rfl) rfl), hX609, (Pin.le_trans (Pin.le_trans (Pin.le_trans hx584.le hx591.le) hx598.le) hle608), (hr597.mono hle608), (hbp610.mono (Pin.le_refl _))⟩

end LO1
end Go.Proofs.YtpknebplcmgnkaaGreatDoor
