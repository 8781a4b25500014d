/- Texts of this claim in one file: PL1, PA1, SO1, OD1, FO1, NG1, NF1, SM1. -/
import Derived.Test.YtajkbplgbikgdaaGreatDoorOr5
import Derived.Test.YtajkbplgbikgdaaGreatDoorChecked
set_option maxRecDepth 20000
set_option maxHeartbeats 2000000
namespace Go.Proofs.YtajkbplgbikgdaaGreatDoor
namespace PL1
open Go.RowKit Go.GL Go.Proofs
open B1 K1 PO1
theorem mk3 : (Tryz.prog.info? 3).map (fun i => (i.size, i.bytes, i.zero)) = some (1, 8, some (.int .i64 0)) := by kernel_rfl
theorem pl111 : (Tryz.prog.underlying 111).bind (placesD Tryz.prog) = some [(0, 1), (1, 1), (2, 1), (3, 1), (4, 1), (5, 1), (6, 1), (7, 1)] := by kernel_rfl
theorem gS {w : World} {G : Pin} (hP : Pins G w) :
  Calls Tryz.prog 31 [].toArray w fun e w' => ∃ (p : Nat) (mm : PM) (G' : Pin), e = .returned (.pointer (some ⟨p, 0, none⟩)) ∧ Pk 59 3 G' w' p (.slice none 0 0) (.slice none 0 0) (.slice none 0 0) mm ⟨[], [], [], [], [], [], []⟩ ∧ (∀ k, inP p (.slice none 0 0) (.slice none 0 0) (.slice none 0 0) mm k → w.heap.size ≤ k) ∧ Ext noS G w G' w' := by
 refine yG (n := 8) Tryz.func31 Tryz.ntmps31 rfl rfl ?_
 have hX0 := exr noS hP
 refine zG (zH ?_)
 refine qD rfl (zD (v := (.pointer none)) rfl) (qe (zA (zG (zH ?_))))
 refine qI rfl (jF (fun k : ByteArray => Value.string k) (fun v : Int => Value.int .i64 v) hX0.pins (fun m1 w2 hk3 hm4 hp5 hl6 => ?_))
 have hX7 := hX0.step hp5 hl6
 have hlo8 : w.heap.size ≤ m1 := by have := hX0.size; omega
 refine qI rfl (jF encP2 (fun v : Bool => Value.bool v) hX7.pins (fun m9 w10 hk11 hm12 hp13 hl14 => ?_))
 have hX15 := hX7.step hp13 hl14
 have hm16 := hm4.below hl14
 have ha17 : Apart (some m9) (some m1) := zL (congrArg some hk11) hm4.lt
 have hlo18 : w.heap.size ≤ m9 := by have := hX7.size; omega
 refine qI rfl (jF (fun k : Int => Value.int .i64 k) (fun v : Int => Value.int .i64 v) hX15.pins (fun m19 w20 hk21 hm22 hp23 hl24 => ?_))
 have hX25 := hX15.step hp23 hl24
 have hm26 := hm16.below hl24
 have hm27 := hm12.below hl24
 have ha28 : Apart (some m19) (some m1) := zL (congrArg some hk21) hm16.lt
 have ha29 : Apart (some m19) (some m9) := zL (congrArg some hk21) hm12.lt
 have hlo30 : w.heap.size ≤ m19 := by have := hX15.size; omega
 refine qI rfl (jF encP2 (fun v : Int => Value.int .i64 v) hX25.pins (fun m31 w32 hk33 hm34 hp35 hl36 => ?_))
 have hX37 := hX25.step hp35 hl36
 have hm38 := hm26.below hl36
 have hm39 := hm27.below hl36
 have hm40 := hm22.below hl36
 have ha41 : Apart (some m31) (some m1) := zL (congrArg some hk33) hm26.lt
 have ha42 : Apart (some m31) (some m9) := zL (congrArg some hk33) hm27.lt
 have ha43 : Apart (some m31) (some m19) := zL (congrArg some hk33) hm22.lt
 have hlo44 : w.heap.size ≤ m31 := by have := hX25.size; omega
 refine qI rfl (jF (fun k : Int => Value.int .i64 k) (fun v : Int => Value.int .i64 v) hX37.pins (fun m45 w46 hk47 hm48 hp49 hl50 => ?_))
 have hX51 := hX37.step hp49 hl50
 have hm52 := hm38.below hl50
 have hm53 := hm39.below hl50
 have hm54 := hm40.below hl50
 have hm55 := hm34.below hl50
 have ha56 : Apart (some m45) (some m1) := zL (congrArg some hk47) hm38.lt
 have ha57 : Apart (some m45) (some m9) := zL (congrArg some hk47) hm39.lt
 have ha58 : Apart (some m45) (some m19) := zL (congrArg some hk47) hm40.lt
 have ha59 : Apart (some m45) (some m31) := zL (congrArg some hk47) hm34.lt
 have hlo60 : w.heap.size ≤ m45 := by have := hX37.size; omega
 refine qD rfl (xQ [(.slice none 0 0), (.slice none 0 0), (.slice none 0 0), (.map none), (.map none), (.map none), (.map none), (.map none)] [(.slice none 0 0), (.slice none 0 0), (.slice none 0 0), (.map (some m1)), (.map (some m9)), (.map (some m19)), (.map (some m31)), (.map (some m45))] [(3, (.map (some m1)), [(.map (some m1))]), (4, (.map (some m9)), [(.map (some m9))]), (5, (.map (some m19)), [(.map (some m19))]), (6, (.map (some m31)), [(.map (some m31))]), (7, (.map (some m45)), [(.map (some m45))])] eY zr111 rfl pl111 rfl (List.forall_mem_cons.2 ⟨rfl, (List.forall_mem_cons.2 ⟨rfl, (List.forall_mem_cons.2 ⟨rfl, (List.forall_mem_cons.2 ⟨rfl, (List.forall_mem_cons.2 ⟨rfl, (fun _ h => by cases h)⟩)⟩)⟩)⟩)⟩) rfl) (qI rfl (xW [(.slice none 0 0), (.slice none 0 0), (.slice none 0 0), (.map (some m1)), (.map (some m9)), (.map (some m19)), (.map (some m31)), (.map (some m45))] (v := (.agg [(.slice none 0 0), (.slice none 0 0), (.slice none 0 0), (.map (some m1)), (.map (some m9)), (.map (some m19)), (.map (some m31)), (.map (some m45))].toArray)) rfl rfl hX51.pins (fun b61 w62 hk63 hb64 hp65 hl66 => ?_)))
 have hX67 := hX51.step hp65 hl66
 have hm68 := hm52.below hl66
 have hm69 := hm53.below hl66
 have hm70 := hm54.below hl66
 have hm71 := hm55.below hl66
 have hm72 := hm48.below hl66
 have hlo73 : w.heap.size ≤ b61 := by have := hX51.size; omega
 refine qD rfl (zD (v := (.pointer (some ⟨b61, 0, none⟩))) rfl) (qe (zA ?_))
 refine wp_ret (zY (zW (v := (.pointer (some ⟨b61, 0, none⟩))) rfl rfl rfl ?_))
 have hdf : PDiff ⟨m1, m9, m19, m31, m45⟩ := ⟨fun e => ha17.symm _ rfl (congrArg some e.symm), fun e => ha28.symm _ rfl (congrArg some e.symm), fun e => ha41.symm _ rfl (congrArg some e.symm), fun e => ha56.symm _ rfl (congrArg some e.symm), fun e => ha29.symm _ rfl (congrArg some e.symm), fun e => ha42.symm _ rfl (congrArg some e.symm), fun e => ha57.symm _ rfl (congrArg some e.symm), fun e => ha43.symm _ rfl (congrArg some e.symm), fun e => ha58.symm _ rfl (congrArg some e.symm), fun e => ha59.symm _ rfl (congrArg some e.symm)⟩
 have hfr : ∀ k, inP b61 (.slice none 0 0) (.slice none 0 0) (.slice none 0 0) ⟨m1, m9, m19, m31, m45⟩ k → w.heap.size ≤ k := by rintro k (rfl | hk | hk | hk | rfl | rfl | rfl | rfl | rfl) <;> first | (cases hk; done) | exact hlo73 | exact hlo8 | exact hlo18 | exact hlo30 | exact hlo44 | exact hlo60
 exact ⟨b61, ⟨m1, m9, m19, m31, m45⟩, _, rfl, ⟨hb64, (Own.nil _ _ _ _ _), (Own.nil _ _ _ _ _), (Own.nil _ _ _ _ _), hm68, hm69, hm70, hm71, hm72, apart_none.symm, apart_none.symm, apart_none.symm, apart_none, apart_none, apart_none, hdf⟩, hfr, hX67⟩
theorem gM {w : World} {G : Pin} {u v : Value} {xs ys : List Int} (hP : Pins G w) (hu : RSl eInt G u xs) (hv : RSl eInt G v ys) (hs : xs.length ≤ 1048576) (hb : ∀ i, i < xs.length → 0 ≤ xs.getD i 0 ∧ xs.getD i 0 < ys.length) :
  Calls Tryz.prog 73 [u, v].toArray w fun e w' => ∃ (u : Value) (G' : Pin), e = .returned u ∧ Own eInt 3 G' w' w.heap.size u (atL ys xs) ∧ Ext noS G w G' w' := by
 refine yG (n := 27) Tryz.func73 Tryz.ntmps73 rfl rfl ?_
 have hX0 := exr noS hP
 have hm := hu.max
 have hal : (atL ys xs).length = xs.length := xF
 have hrl : (List.replicate xs.length (0 : Int)).length = xs.length := List.length_replicate
 refine zG (zH ?_)
 refine qD rfl (zD (v := (.slice none 0 0)) rfl) (qe (zA (zG (zH ?_))))
 refine qD rfl (zB (v := u) rfl) (qD rfl (zT eU (v := u) rfl hu) (qI rfl (tP (E := eInt) 0 8 (.int .i64 0) eU mk3 (fun _ => rfl) rfl rfl hX0.pins (by omega) (by omega) (by omega) (fun u1 w2 ho3 hp4 hl5 hk6 => ?_))))
 have hX7 := hX0.step hp4 hl5
 have ho8 : Own eInt 3 G w2 w.heap.size u1 (List.replicate xs.length 0) := ho3.weaken hX0.size
 have hm9 : (List.replicate xs.length 0).length = xs.length := List.length_replicate ..
 refine qD rfl (zD (v := u1) rfl) (qe (zA (zG (zG (zH ?_)))))
 refine qD rfl (zB (v := u) rfl) (qD rfl (zT eU (v := u) rfl hu) (qD rfl (zB (v := (.int .i64 0)) rfl) (qe (zA ?_))))
 refine yH (yZ (fun (k : Nat) (en : Nat → Value) (W : World) => ∃ (env1 : Nat → Value) (j : Nat) (os : List Int), en = (upd (upd (upd (upd (upd (upd env1 1 v) 4 (.slice none 0 0)) 5 u1) 11 u) 12 (.int .i64 (xs.length : Int))) 13 (.int .i64 (j : Int))) ∧ k = xs.length - j ∧ Ext noS G w G W ∧ (j ≤ xs.length) ∧ (os = (atL ys xs).take j ++ (List.replicate xs.length 0).drop j) ∧ (os.length = xs.length) ∧ (Own eInt 3 G W w.heap.size u1 (os))) _ ⟨_, 0, List.replicate xs.length 0, (zC (x := 13) (zC (x := 12) (zC (x := 11) (zC (x := 5) (zC (x := 4) (zX (x := 1) rfl) rfl) rfl) rfl) rfl) rfl), rfl, hX7, Nat.zero_le _, rfl, hrl, ho8⟩ ?_)
 rintro k10 _ w11 ⟨env1, j, os, rfl, hk12, hX13, hj, hr, hol, hw14⟩
 refine zG (zH ?_)
 refine qD rfl (xB rfl rfl) (qe (zA (zG ?_)))
 refine yN (p := ((j : Int) : Int) < (xs.length : Int)) rfl rfl (fun h15 => ?_) (fun h15 => ?_)
 have hbj := hb j (by omega)
 refine wp_skip (zA (zG ?_))
 refine yH (zG (zH ?_))
 refine qD rfl (zB (v := (.int .i64 (j : Int))) rfl) (qD rfl (zN eU sz3 (v := u) rfl rfl hu (by omega) (by omega)) (qD rfl (zO (r := xs.getD j 0) rfl ag3 (z := (j : Int)) rfl hu hX13.pins (by omega) (by omega)) (qD rfl (zD (v := (.int .i64 (j : Int))) rfl) (qD rfl (zD (v := (.int .i64 (xs.getD j 0))) rfl) (qe (zA (zH ?_)))))))
 refine qD rfl (zB (v := u1) rfl) (qD rfl (zB (v := (.int .i64 (j : Int))) rfl) (qD rfl (zB (v := v) rfl) (qD rfl (zB (v := (.int .i64 (xs.getD j 0))) rfl) (qD rfl (zN eU sz3 (v := v) rfl rfl hv (by omega) (by omega)) (qD rfl (zO (r := ys.getD (xs.getD j 0).toNat 0) rfl ag3 (z := (xs.getD j 0)) rfl hv hX13.pins (by omega) (by omega)) (qD rfl (zN eU sz3 (v := u1) rfl rfl hw14.read (by omega) (by omega)) (q0 rfl rfl rfl (vX (E := eInt) (v := u1) (u := (.int .i64 (ys.getD (xs.getD j 0).toNat 0))) (z := (j : Int)) (ys.getD (xs.getD j 0).toNat 0) sz3 rfl rfl rfl rfl hX13.pins hw14 (by omega) (by omega) (fun w16 ho17 hp18 hg19 hz20 => ?_)))))))))
 have hX21 := hX13.write hp18 hg19 ((yD hw14))
 refine qe (yQ (zA (zH ?_)))
 refine qD rfl (yX rfl rfl (by omega)) (qD rfl (zB (v := (.int .i64 ((j : Int) + 1))) rfl) (qe (yS (⟨_, ?_, _, rfl, _, j + 1, os.set j (ys.getD (xs.getD j 0).toNat 0), (zC (x := 13) (zC (x := 12) (zC (x := 11) (zC (x := 5) (zC (x := 4) (zX (x := 1) rfl) rfl) rfl) rfl) rfl) rfl), rfl, hX21, (by omega), (by rw [hr]; exact cur_set 0 (by omega) (by omega) (at_getD (by omega))), ((List.length_set ..).trans hol), ho17⟩))))
 omega
 refine wp_exit (yI (yW (yV (zA (zG (zH ?_))))))
 refine qD rfl (zB (v := u1) rfl) (qD rfl (zD (v := u1) rfl) (qe (zA ?_)))
 refine wp_ret (zY (zW (v := u1) rfl rfl rfl ?_))
 rw [cur_end (by omega) (by omega)] at hr
 exact ⟨_, _, rfl, (by rw [← hr]; exact hw14), hX13⟩
theorem pR {w : World} {G : Pin} {p : Nat} {L R B : Value} {mm : PM} {q : PSt} (hP : Pins G w) (hpk : Pk 59 3 G w p L R B mm q) (hok : PoolOk q) {x : Value} {fs : List Nd} (hx : RSl eNode G x fs) (hf : FormOk fs) (hl : q.ns.length + fs.length ≤ 1048576) :
  Calls Tryz.prog 35 [(.pointer (some ⟨p, 0, none⟩)), (.agg [x].toArray)].toArray w fun e w' => ∃ (u : Value) (ats : List Int) (L' R' B' : Value) (q' : PSt) (G' : Pin), e = .returned u ∧ Pk 59 3 G' w' p L' R' B' mm q' ∧ PoolOk q' ∧ PX q q' ∧ PLo w p L R B mm L' R' B' ∧ Ext (inP p L R B mm) G w G' w' ∧ Own eInt 3 G' w' w.heap.size u ats ∧ NP p L' R' B' mm u.ownBlock ∧ LdOk fs q q' fs.length ats := by
 refine yG (n := 34) Tryz.func35 Tryz.ntmps35 rfl rfl ?_
 have hX0 := exr (inP p L R B mm) hP
 have hpin : PIn w (inP p L R B mm) p L R B mm := PIn.self
 have hml1 := pkl q
 have hml2 := pkb hok
 refine zG (zH ?_)
 refine qI rfl (xW [x] (v := (.agg [x].toArray)) rfl rfl hX0.pins (fun b3 w4 hk5 hb6 hp7 hl8 => ?_))
 have hX9 := hX0.step hp7 hl8
 have hpk10 := hpk.below hl8 hp7
 have ha15 := hpk.new (x := (some b3)) (fun k hk => by rw [(congrArg some hk5)] at hk; cases hk; exact Nat.le_refl _)
 have hlo16 : w.heap.size ≤ b3 := by have := hX0.size; omega
 obtain ⟨G17, hle18, hX19, hbp20, hf21⟩ := hb6.shut hX9 hlo16
 have hpk22 := hpk10.more hle18 hf21 ha15
 refine qD rfl (zD (v := (.slice none 0 0)) rfl) (qe (zA (zG (zH ?_))))
 refine qD rfl (zR (k := 0) rfl eW rfl nz24 rfl) (qD rfl (zS (u := x) ag24 rfl (hX19.pins _ _ _ (hbp20 0 _ rfl))) (qD rfl (zT eV (v := x) rfl hx) (qI rfl (sL (E := eInt) eU mk3 rfl rfl hX19.pins (by omega) (by omega) (by omega) (fun u23 w24 ho25 hp26 hl27 hk28 => ?_)))))
 have hX29 := hX19.step hp26 hl27
 have hpk30 := hpk22.below hl27 hp26
 have ha35 := hpk22.new (x := u23.ownBlock) (fun k hk => by rw [hk28] at hk; cases hk; exact Nat.le_refl _)
 have ho36 := ho25.weaken hX19.size
 refine qD rfl (zD (v := u23) rfl) (qe (zA (zG (zG (zH ?_)))))
 refine qD rfl (zR (k := 0) rfl eW rfl nz24 rfl) (qD rfl (zS (u := x) ag24 rfl (hX29.pins _ _ _ (hbp20 0 _ rfl))) (qD rfl (zT eV (v := x) rfl hx) (qD rfl (zB (v := (.int .i64 0)) rfl) (qe (zA ?_)))))
 refine yH (yZ (fun (k : Nat) (en : Nat → Value) (W : World) => ∃ (env1 : Nat → Value) (k4 : Nat) (at_ : Value) (ats : List Int) (L37 : Value) (R38 : Value) (B39 : Value) (q40 : PSt) (GL1 : Pin), en = (upd (upd (upd (upd (upd (upd env1 0 (.pointer (some ⟨p, 0, none⟩))) 4 (.slice none 0 0)) 5 at_) 13 x) 14 (.int .i64 (fs.length : Int))) 15 (.int .i64 (k4 : Int))) ∧ k = fs.length - k4 ∧ Ext (inP p L R B mm) G w GL1 W ∧ Pin.le G17 GL1 ∧ (k4 ≤ fs.length) ∧ (LdOk fs q q40 k4 ats) ∧ (Own eInt 3 GL1 W w.heap.size at_ (ats)) ∧ (Pk 59 3 GL1 W p L37 R38 B39 mm q40) ∧ (PIn w ((inP p L R B mm)) p L37 R38 B39 mm) ∧ (PoolOk q40) ∧ (PX q q40) ∧ (NP p L37 R38 B39 mm at_.ownBlock)) _ ⟨_, 0, u23, [], L, R, B, q, G17, (zC (x := 15) (zC (x := 14) (zC (x := 13) (zC (x := 5) (zC (x := 4) (zX (x := 0) rfl) rfl) rfl) rfl) rfl) rfl), rfl, hX29, Pin.le_refl _, Nat.zero_le _, LdOk.start, ho36, hpk30, hpin, hok, (PX.refl _), ha35⟩ ?_)
 rintro k41 _ w42 ⟨env1, k4, at_, ats, L37, R38, B39, q40, GL1, rfl, hk43, hX44, hlek41, hk, hld, hw45, hpk46, hpin47, hok48, hpx49, hnp50⟩
 have hql51 := hpx49.len
 have hml52 := pkl q40
 have hml53 := pkb hok48
 have hal := hld.len
 have hah := hld.hi
 have hfl := hf.len
 refine zG (zH ?_)
 refine qD rfl (xB rfl rfl) (qe (zA (zG ?_)))
 refine yN (p := ((k4 : Int) : Int) < (fs.length : Int)) rfl rfl (fun h54 => ?_) (fun h54 => ?_)
 have oo := xK hf.opts (show k4 < fs.length by omega)
 have hfe := hf.lens k4 (by omega)
 refine wp_skip (zA (zG ?_))
 refine yH (zG (zH ?_))
 refine qD rfl (zN eV sz65 (v := x) rfl rfl hx (by omega) (by omega)) ?_
 obtain ⟨u55, u56, hr57, hr58, hl59⟩ := jU (hx.at (z := (k4 : Int)) (by omega) (by omega)) (j := k4) rfl
 have hm60 := hr57.max
 have hm61 := hr58.max
 refine qD rfl (hl59 ag65 sz65 rfl (dO hX44.pins (dN hle18 hlek41))) (qI rfl (yO [(.slice none 0 0), (.slice none 0 0)] zr65 rfl hX44.pins (fun b62 w63 hk64 hb65 hp66 hl67 => ?_)))
 have hX68 := hX44.step hp66 hl67
 have ho69 := hw45.below hl67
 have hpk70 := hpk46.below hl67 hp66
 have ha71 : Apart (some b62) at_.ownBlock := zK (congrArg some hk64) hw45.lt
 have ha76 := hpk46.new (x := (some b62)) (fun k hk => by rw [(congrArg some hk64)] at hk; cases hk; exact Nat.le_refl _)
 have hlo77 : w.heap.size ≤ b62 := by have := hX44.size; omega
 refine q0 rfl rfl rfl (o_stp (cs' := [u55, u56]) (us := [u55, u56]) (v := (.agg [u55, u56].toArray)) sz65 rfl rfl rfl (jE hr57.one hr58.one) hX68.pins hb65 (dQ rfl) rfl (fun w78 hb79 hp80 hg81 hz82 => ?_))
 have hX83 := hX68.write hp80 hg81 ((yC hlo77))
 have ho84 := ho69.keptA hg81 ha71.symm
 have hpk85 := hpk70.kept hg81 hp80 ha76
 obtain ⟨G86, hle87, hX88, hbp89, hf90⟩ := hb79.shut hX83 hlo77
 have ho91 := ho84.moreA hle87 hf90 ha71.symm
 have hpk92 := hpk85.more hle87 hf90 ha76
 refine qe (zA ?_)
 refine xD (S := fun wz => Pins G86 wz) (last := 14) (by kernel_rfl) rfl ?_
 have hl93 := bdr w78
 have hp94 := hX88.pins.below hl93
 have hX95 := hX88.step hp94 hl93
 have ho96 := ho91.below hl93
 have hpk97 := hpk92.below hl93 hp94
 refine dT (i := 0) rfl rfl (by kernel_rfl) (fun _ _ => zB (v := at_) rfl) hX95.pins ?_
 refine dT (i := 1) rfl rfl (by kernel_rfl) (fun _ _ => zB (v := (.pointer (some ⟨p, 0, none⟩))) rfl) hX95.pins ?_
 refine dT (i := 2) rfl rfl (by kernel_rfl) (fun _ _ => zR (k := 0) rfl eX rfl nz59 rfl) hX95.pins ?_
 refine dT (i := 3) rfl rfl (by kernel_rfl) (fun _ hS => zS (u := u55) ag59 rfl (hS _ _ _ (hbp89 0 _ rfl))) hX95.pins ?_
 refine dT (i := 4) rfl rfl (by kernel_rfl) (fun _ _ => zB (v := at_) rfl) hX95.pins ?_
 refine dT (i := 6) rfl rfl (by kernel_rfl) (fun _ _ => zR (k := 1) rfl eX rfl nz59 rfl) hX95.pins ?_
 refine dT (i := 7) rfl rfl (by kernel_rfl) (fun _ hS => zS (u := u56) ag59 rfl (hS _ _ _ (hbp89 1 _ rfl))) hX95.pins ?_
 refine dT (i := 8) rfl rfl (by kernel_rfl) (fun _ _ => zB (v := at_) rfl) hX95.pins ?_
 refine zQ (i := 5) (by kernel_rfl) (zU (i := 5) rfl rfl rfl (zI rfl _) (zM (vs := [u55, at_]) Tryz.func73 nm73 rfl rfl rfl ?_))
 refine dP (gM (Gadd.pins hX95.pins at_) ((hr57.mono (dN (dN hle18 hlek41) hle87)).mono (Gadd.le _ _ _)) ho96.read (by omega) (fun i hi => by have h7 := oo.1 _ (yT (d := (0 : Int)) hi); omega)) ?_
 rintro _ w100 ⟨u98, G99, rfl, ho101, hx102⟩
 refine ⟨_, rfl, ?_⟩
 have hx103 := pU hX95.pins hx102
 have ho104 := ho101.anti flat_int (dN (Gadd.le G86 w78.drew at_) hx102.le)
 have hX105 := hX95.step hx103.pins hx103.below
 have ho106 := ho96.below hx103.below
 have hpk107 := hpk97.below hx103.below hx103.pins
 have ha108 : Apart u98.ownBlock at_.ownBlock := zV ho104.lt ho96.lt
 have ha109 := hpk97.new (x := u98.ownBlock) (fun k hk => (ho104.lt k hk).1)
 have ho110 := ho104.weaken hX95.size
 have hm111 : (atL ats ((fs.getD k4 default).l)).length = ((fs.getD k4 default).l).length := xF
 refine ⟨fun _ => hX105.pins, ?_⟩
 refine zQ (i := 9) (by kernel_rfl) (zU (i := 9) rfl rfl rfl (zI rfl _) (zM (vs := [u56, at_]) Tryz.func73 nm73 rfl rfl rfl ?_))
 refine dP (gM (Gadd.pins hX105.pins at_) ((hr58.mono (dN (dN hle18 hlek41) hle87)).mono (Gadd.le _ _ _)) ho106.read (by omega) (fun i hi => by have h7 := oo.2 _ (yT (d := (0 : Int)) hi); omega)) ?_
 rintro _ w114 ⟨u112, G113, rfl, ho115, hx116⟩
 refine ⟨_, rfl, ?_⟩
 have hx117 := pU hX105.pins hx116
 have ho118 := ho115.anti flat_int (dN (Gadd.le G86 w100 at_) hx116.le)
 have hX119 := hX105.step hx117.pins hx117.below
 have ho120 := ho106.below hx117.below
 have ho121 := ho110.below hx117.below
 have hpk122 := hpk107.below hx117.below hx117.pins
 have ha123 : Apart u112.ownBlock at_.ownBlock := zV ho118.lt ho106.lt
 have ha124 : Apart u112.ownBlock u98.ownBlock := zV ho118.lt ho110.lt
 have ha125 := hpk107.new (x := u112.ownBlock) (fun k hk => (ho118.lt k hk).1)
 have ho126 := ho118.weaken hX105.size
 have hm127 : (atL ats ((fs.getD k4 default).r)).length = ((fs.getD k4 default).r).length := xF
 refine ⟨fun _ => hX119.pins, ?_⟩
 obtain ⟨G128, hle131, hX130, hr129, hf132⟩ := ho121.sealed hX119
 have ho133 := ho120.moreO hle131 hf132 ha108.symm
 have ho134 := ho126.moreO hle131 hf132 ha124
 have hpk135 := hpk122.moreO hle131 hf132 ha109
 obtain ⟨G136, hle139, hX138, hr137, hf140⟩ := ho134.sealed hX130
 have ho141 := ho133.moreO hle139 hf140 ha123.symm
 have hpk142 := hpk135.moreO hle139 hf140 ha125
 refine zQ (i := 10) (by kernel_rfl) (zU (i := 10) rfl rfl rfl (zI rfl _) (zM (vs := [(.pointer (some ⟨p, 0, none⟩)), u98, u112]) Tryz.func72 nm72 rfl rfl rfl ?_))
 refine dP (fN hX138.pins hpk142 hok48 (hr129.mono hle139) hr137 (by omega) ⟨by rw [xF]; omega, by rw [xF]; omega⟩ (hld.opt oo.1) (hld.opt oo.2)) ?_
 rintro _ w153 ⟨z143, L148, R149, B150, q151, G152, rfl, hpk154, hok155, hpx156, hlo157, hx158, hpl144, hpd145, hqn146, hcm147⟩
 refine ⟨_, rfl, ?_⟩
 have hX159 := hX138.trans hx158 hpin47
 have ho160 := ho141.extS hx158 hnp50
 have hnp161 := NP.call hnp50 hlo157 (qX ho141)
 have hpin162 := PIn.call hpin47 hlo157 hX138.size
 have hql163 := hpx156.len
 have hml164 := pkl q151
 have hml165 := pkb hok155
 refine ⟨fun _ => (dO hX159.pins (dN (dN hle131 hle139) hx158.le)), ?_⟩
 refine zQ (i := 11) (by kernel_rfl) (zU (i := 11) rfl rfl rfl (zI rfl _) (yY (E := eInt) (e := 3) [(.int .i64 z143)] [z143] eU sz3 zr3 (by exact xT (by rfl)) (yM (by rfl)) rfl rfl rfl rfl (by decide) hX159.pins (fun u166 w167 ho168 hp169 hl170 hk171 => ?_)))
 have hX172 := hX159.step hp169 hl170
 have ho173 := ho160.below hl170
 have hpk174 := hpk154.below hl170 hp169
 have ho181 := ho168.weaken hX159.size
 refine ⟨fun _ => (dO hX172.pins (dN (dN hle131 hle139) hx158.le)), ?_⟩
 refine zQ (i := 12) (by kernel_rfl) (zU (i := 12) rfl rfl rfl (zI rfl _) (zZ (E := eInt) (v := at_) (u := u166) 8 eU ap3 (by decide) rfl rfl hX172.pins ho173 ho181.src (by first | omega | (rw [List.nil_append]; omega) | (rw [List.length_nil]; omega) | (rw [List.length_append]; omega) | (simp; done) | (simp; omega) | (simp only [List.length_append, List.length_cons, List.length_nil]; omega)) (by first | omega | (rw [List.nil_append]; omega) | (rw [List.length_nil]; omega) | (rw [List.length_append]; omega) | (simp; done) | (simp; omega) | (simp only [List.length_append, List.length_cons, List.length_nil]; omega)) (hX172.size) (fun u182 w183 ho184 hp185 hg186 hw187 => ?_)))
 have hX188 := hX172.write hp185 hg186 ((yD ho173))
 have hpk190 := hpk174.kept hg186 hp185 hnp161
 have hnp192 := qQ hnp161 hpk174 hw187
 have hm193 := la1 ats z143
 refine ⟨fun _ => (dO hX188.pins (dN (dN hle131 hle139) hx158.le)), ?_⟩
 refine dT (i := 13) rfl rfl (by kernel_rfl) (fun _ _ => zD (v := u182) rfl) (dO hX188.pins (dN (dN hle131 hle139) hx158.le)) ?_
 refine yP (by kernel_rfl) (yQ (zA (zH ?_)))
 refine qD rfl (yX rfl rfl (by omega)) (qD rfl (zB (v := (.int .i64 ((k4 : Int) + 1))) rfl) (qe (yS (⟨_, ?_, _, rfl, _, k4 + 1, u182, ats ++ ([z143]), L148, R149, B150, q151, G152, (zC (x := 15) (zC (x := 14) (zC (x := 13) (zC (x := 5) (zC (x := 4) (zX (x := 0) rfl) rfl) rfl) rfl) rfl) rfl), rfl, hX188, (dN (dN (dN (dN hlek41 hle87) hle131) hle139) hx158.le), (by omega), (hld.step hf (by omega) hok48 hok155 hpx156 hpl144 hpd145 hqn146), ho184, hpk190, hpin162, hok155, (PX.trans hpx49 hpx156), hnp192⟩))))
 omega
 refine wp_exit (yI (yW (yV (zA (zG (zH ?_))))))
 refine qD rfl (zB (v := at_) rfl) (qD rfl (zD (v := at_) rfl) (qe (zA ?_)))
 refine wp_ret (zY (zW (v := at_) rfl rfl rfl ?_))
 have hkf : k4 = fs.length := by omega
 rw [hkf] at hld
 exact ⟨at_, ats, L37, R38, B39, q40, GL1, rfl, hpk46, hok48, hpx49, PIn.lo hpin47 rfl, hX44, hw45, hnp50, hld⟩
theorem jM {w : World} {G : Pin} {p : Nat} {L R B : Value} {mm : PM} {q : PSt} (hP : Pins G w) (hpk : Pk 59 3 G w p L R B mm q) (hok : PoolOk q) {x : Value} {fs : List Nd} (hx : RSl eNode G x fs) (hf : FormOk fs) (hl : q.ns.length + fs.length ≤ 1048576) (hf1 : 1 ≤ fs.length) :
  Calls Tryz.prog 34 [(.pointer (some ⟨p, 0, none⟩)), (.agg [x].toArray)].toArray w fun e w' => ∃ (z : Int) (L' R' B' : Value) (q' : PSt) (G' : Pin), e = .returned (.int .i64 z) ∧ Pk 59 3 G' w' p L' R' B' mm q' ∧ PoolOk q' ∧ PX q q' ∧ PLo w p L R B mm L' R' B' ∧ Ext (inP p L R B mm) G w G' w' ∧ PlaceOk q' z ∧ pd q' z = gOf fs ∧ q'.ns.length ≤ q.ns.length + fs.length := by
 refine yG (n := 15) Tryz.func34 Tryz.ntmps34 rfl rfl ?_
 have hX0 := exr (inP p L R B mm) hP
 have hpin : PIn w (inP p L R B mm) p L R B mm := PIn.self
 have hml1 := pkl q
 have hml2 := pkb hok
 have hfl := hf.len
 refine zG (zH ?_)
 refine qI rfl (xW [x] (v := (.agg [x].toArray)) rfl rfl hX0.pins (fun b3 w4 hk5 hb6 hp7 hl8 => ?_))
 have hX9 := hX0.step hp7 hl8
 have hpk10 := hpk.below hl8 hp7
 have ha15 := hpk.new (x := (some b3)) (fun k hk => by rw [(congrArg some hk5)] at hk; cases hk; exact Nat.le_refl _)
 have hlo16 : w.heap.size ≤ b3 := by have := hX0.size; omega
 obtain ⟨G17, hle18, hX19, hbp20, hf21⟩ := hb6.shut hX9 hlo16
 have hpk22 := hpk10.more hle18 hf21 ha15
 refine qD rfl (zD (v := (.int .i64 0)) rfl) (qe (zA (zG (zH ?_))))
 refine qD rfl (zB (v := (.pointer (some ⟨p, 0, none⟩))) rfl) (qD rfl (yJ (cs := [x]) ag26 sz26 rfl (fun j u hj => hX19.pins _ _ _ (hbp20 _ _ (by simpa using hj)))) (qI rfl (zM (vs := [(.pointer (some ⟨p, 0, none⟩)), (.agg [x].toArray)]) Tryz.func35 nm35 rfl rfl rfl ?_)))
 refine dP (pR hX19.pins hpk22 hok (hx.mono hle18) hf hl) ?_
 rintro _ w29 ⟨u23, ats, L24, R25, B26, q27, G28, rfl, hpk31, hok32, hpx33, hlo34, hx35, ho30, hnp37, hld36⟩
 refine ⟨_, rfl, ?_⟩
 have hX38 := hX19.trans hx35 hpin
 have hpin39 := PIn.call hpin hlo34 hX19.size
 have hql40 := hpx33.len
 have hml41 := pkl q27
 have hml42 := pkb hok32
 have ho43 := ho30.weaken hX19.size
 have hll44 := hld36.len
 refine qD rfl (zD (v := u23) rfl) (qe (zA (zG (zH ?_))))
 refine qD rfl (zB (v := u23) rfl) (qD rfl (zB (v := u23) rfl) (qD rfl (zT eU (v := u23) rfl ho43.read) (qD rfl (jA rfl rfl (by omega)) (qD rfl (zN eU sz3 (v := u23) rfl rfl ho43.read (by omega) (by omega)) (qD rfl (zO (r := ats.getD ((ats.length : Int) - 1).toNat 0) rfl ag3 (z := ((ats.length : Int) - 1)) rfl ho43.read (Gadd.pins hX38.pins u23) (by omega) (by omega)) (qD rfl (zD (v := (.int .i64 (ats.getD ((ats.length : Int) - 1).toNat 0))) rfl) (qe (zA ?_))))))))
 refine wp_ret (zY (zW (v := (.int .i64 (ats.getD ((ats.length : Int) - 1).toNat 0))) rfl rfl rfl ?_))
 have hrt := hld36.root hf1
 rw [show fs.length - 1 = ((ats.length : Int) - 1).toNat by omega] at hrt
 exact ⟨_, L24, R25, B26, q27, G28, rfl, hpk31, hok32, hpx33, PIn.lo hpin39 rfl, hX38, hrt.1, hrt.2, hld36.hi⟩
def GeP (m : Nat) (p : Nat) (L R B : Value) (mm : PM) : Prop := ∀ {w : World} {G : Pin} {q : PSt} {a b : Int} (_ : Pins G w) (_ : Pk 59 3 G w p L R B mm q) (_ : PoolOk q) (_ : PlaceOk q a) (_ : PlaceOk q b), a.toNat + b.toNat < m →
  Calls Tryz.prog 43 [(.pointer (some ⟨p, 0, none⟩)), (.int .i64 a), (.int .i64 b)].toArray w fun e w' => ∃ (q' : PSt) (G' : Pin), e = .returned (.bool (geB q.ns a b)) ∧ Pk 59 3 G' w' p L R B mm q' ∧ PoolOk q' ∧ PX q q' ∧ (q'.ns = q.ns ∧ q'.bs = q.bs) ∧ Ext (inO (some mm.o)) G w G' w'
theorem ge_step {p : Nat} {L R B : Value} {mm : PM} {m : Nat} {w : World} {G : Pin} {q : PSt} {a b : Int} (hP : Pins G w) (hpk : Pk 59 3 G w p L R B mm q) (hok : PoolOk q) (ha : PlaceOk q a) (hb : PlaceOk q b) (ih : GeP m p L R B mm) (hm : a.toNat + b.toNat < m + 1) :
  Calls Tryz.prog 43 [(.pointer (some ⟨p, 0, none⟩)), (.int .i64 a), (.int .i64 b)].toArray w fun e w' => ∃ (q' : PSt) (G' : Pin), e = .returned (.bool (geB q.ns a b)) ∧ Pk 59 3 G' w' p L R B mm q' ∧ PoolOk q' ∧ PX q q' ∧ (q'.ns = q.ns ∧ q'.bs = q.bs) ∧ Ext (inO (some mm.o)) G w G' w' := by
 refine yG (n := 74) Tryz.func43 Tryz.ntmps43 rfl rfl ?_
 have hX0 := exr (inO (some mm.o)) hP
 have hpin : PIn w (inP p L R B mm) p L R B mm := PIn.self
 have hml1 := pkl q
 have hml2 := pkb hok
 have ha0 := ha.1
 have ha1 := ha.2
 have hb0 := hb.1
 have hb1 := hb.2
 refine zG (zH ?_)
 refine qD rfl (zD (v := (.bool false)) rfl) (qe (zA (zG (zG (zH ?_)))))
 refine qD rfl (zB (v := (.int .i64 a)) rfl) (qD rfl (zB (v := (.int .i64 b)) rfl) (qD rfl (kZ rfl rfl) (qe (zA ?_))))
 refine yN (p := (a : Int) = b) rfl rfl (fun h3 => ?_) (fun h3 => ?_)
 refine zG (zH ?_)
 refine qD rfl (zD (v := (.bool true)) rfl) (qe (zA ?_))
 exact wp_ret (zY (zW (v := (.bool true)) rfl rfl rfl (⟨q, _, congrArg (fun z => Ending.returned (Value.bool z)) (by rw [h3]; exact geB_refl.symm), hpk, hok, (PX.refl _), ⟨rfl, rfl⟩, hX0⟩)))
 refine wp_skip (zA (zG (zH ?_)))
 refine qD rfl (zB (v := (.int .i64 a)) rfl) (qD rfl (zB (v := (.int .i64 b)) rfl) (qD rfl (r_buildA (m := 1) [(.int .i64 0), (.int .i64 0)] [(.int .i64 a), (.int .i64 b)] [(0, (.int .i64 a), [(.int .i64 a)]), (1, (.int .i64 b), [(.int .i64 b)])] dM zr127 rfl sz3 rfl (List.forall_mem_cons.2 ⟨rfl, (List.forall_mem_cons.2 ⟨rfl, (fun _ h => by cases h)⟩)⟩) rfl) (qI rfl (yO [(.int .i64 0), (.int .i64 0)] zr127 rfl hX0.pins (fun b4 w5 hk6 hb7 hp8 hl9 => ?_)))))
 have hX10 := hX0.step hp8 hl9
 have hpk11 := hpk.below hl9 hp8
 have ha16 := hpk.new (x := (some b4)) (fun k hk => by rw [(congrArg some hk6)] at hk; cases hk; exact Nat.le_refl _)
 have hlo17 : w.heap.size ≤ b4 := by have := hX0.size; omega
 refine q0 rfl rfl rfl (o_stp (cs' := [(.int .i64 a), (.int .i64 b)]) (us := [(.int .i64 a), (.int .i64 b)]) (v := (.agg [(.int .i64 a), (.int .i64 b)].toArray)) eS rfl rfl rfl (jE (by rfl) (by rfl)) hX10.pins hb7 (dQ rfl) rfl (fun w18 hb19 hp20 hg21 hz22 => ?_))
 have hX23 := hX10.write hp20 hg21 ((yC hlo17))
 have hpk24 := hpk11.kept hg21 hp20 ha16
 obtain ⟨G25, hle26, hX27, hbp28, hf29⟩ := hb19.shut hX23 hlo17
 have hpk30 := hpk24.more hle26 hf29 ha16
 refine qe (zA (zG (zG ?_)))
 refine xD (S := fun wz => BxR wz p [L, R, B, (.map (some mm.f)), (.map (some mm.o)), (.map (some mm.c)), (.map (some mm.s)), (.map (some mm.n))] ∧ Pins G25 wz) (last := 11) (by kernel_rfl) rfl ?_
 have hl31 := bdr w18
 have hp32 := hX27.pins.below hl31
 have hX33 := hX27.step hp32 hl31
 have hpk34 := hpk30.below hl31 hp32
 refine dT (i := 0) rfl rfl (by kernel_rfl) (fun _ _ => zB (v := (.pointer (some ⟨p, 0, none⟩))) rfl) ⟨hpk34.bx.reads, hX33.pins⟩ ?_
 refine dT (i := 1) rfl rfl (by kernel_rfl) (fun _ _ => xC rfl) ⟨hpk34.bx.reads, hX33.pins⟩ ?_
 refine dT (i := 2) rfl rfl (by kernel_rfl) (fun _ _ => zR (k := 4) rfl eY rfl nz106 rfl) ⟨hpk34.bx.reads, hX33.pins⟩ ?_
 refine dT (i := 3) rfl rfl (by kernel_rfl) (fun _ hS => zS (u := (.map (some mm.o))) ag106 rfl (hS.1 4 _ rfl)) ⟨hpk34.bx.reads, hX33.pins⟩ ?_
 refine dT (i := 4) rfl rfl (by kernel_rfl) (fun _ hS => yJ (cs := [(.int .i64 a), (.int .i64 b)]) ag127 eS rfl (fun j u hj => hS.2 _ _ _ (hbp28 _ _ (by simpa using hj)))) ⟨hpk34.bx.reads, hX33.pins⟩ ?_
 refine zQ (i := 5) (by kernel_rfl) (zU (i := 5) rfl rfl rfl (zI rfl _) (EO.run (mM (k := ((a, b) : Int × Int)) (gT dM dB sz3) Tryz.underlying106 zr4 hpk34.fo rfl rfl) ?_))
 refine ⟨fun _ => ⟨hpk34.bx.reads, hX33.pins⟩, ?_⟩
 refine dT (i := 6) rfl rfl (by kernel_rfl) (fun _ _ => zB (v := (.tuple #[(.bool ((Go.GL.look q.om ((a, b) : Int × Int)).getD false)), (.bool ((Go.GL.look q.om ((a, b) : Int × Int)).isSome))])) rfl) ⟨hpk34.bx.reads, hX33.pins⟩ ?_
 refine dT (i := 7) rfl rfl (by kernel_rfl) (fun _ _ => yR (v := (.bool ((Go.GL.look q.om ((a, b) : Int × Int)).getD false))) rfl rfl) ⟨hpk34.bx.reads, hX33.pins⟩ ?_
 refine dT (i := 8) rfl rfl (by kernel_rfl) (fun _ _ => yR (v := (.bool ((Go.GL.look q.om ((a, b) : Int × Int)).isSome))) rfl rfl) ⟨hpk34.bx.reads, hX33.pins⟩ ?_
 refine dT (i := 9) rfl rfl (by kernel_rfl) (fun _ _ => zD (v := (.bool ((Go.GL.look q.om ((a, b) : Int × Int)).getD false))) rfl) ⟨hpk34.bx.reads, hX33.pins⟩ ?_
 refine dT (i := 10) rfl rfl (by kernel_rfl) (fun _ _ => zD (v := (.bool ((Go.GL.look q.om ((a, b) : Int × Int)).isSome))) rfl) ⟨hpk34.bx.reads, hX33.pins⟩ ?_
 refine yP (by kernel_rfl) (zA (zG (zH ?_)))
 refine qD rfl (zB (v := (.bool ((Go.GL.look q.om ((a, b) : Int × Int)).isSome))) rfl) (qe (zA ?_))
 refine c_if rfl rfl (fun h35 => ?_) (fun h35 => ?_)
 refine zG (zH ?_)
 refine qD rfl (zB (v := (.bool ((Go.GL.look q.om ((a, b) : Int × Int)).getD false))) rfl) (qD rfl (zD (v := (.bool ((Go.GL.look q.om ((a, b) : Int × Int)).getD false))) rfl) (qe (zA ?_)))
 refine wp_ret (zY (zW (v := (.bool ((Go.GL.look q.om ((a, b) : Int × Int)).getD false))) rfl rfl rfl ?_))
 obtain ⟨z, hz⟩ := Option.isSome_iff_exists.1 h35
 exact ⟨q, _, congrArg (fun z => Ending.returned (Value.bool z)) (by rw [hz]; exact (hok.ord _ _ _ hz).2.2), hpk34, hok, (PX.refl _), ⟨rfl, rfl⟩, hX33⟩
 refine wp_skip (zA (zG (zH ?_)))
 refine qD rfl (zD (v := (.bool true)) rfl) (qe (zA (zG (zG (zH ?_)))))
 refine qD rfl (zB (v := (.pointer (some ⟨p, 0, none⟩))) rfl) (qD rfl (xC rfl) (qD rfl (zR (k := 1) rfl eY rfl jK rfl) (qD rfl (zS (u := R) vH rfl (hpk34.bx.cell (o := 1) rfl)) (qD rfl (zB (v := (.int .i64 a)) rfl) (qD rfl (zN dE sz59 (v := R) rfl rfl hpk34.rr.read (by omega) (by omega)) ?_)))))
 obtain ⟨u36, hr37, hl38⟩ := vY (hpk34.rr.at (z := a) (by omega) (by omega)) (j := (a).toNat) rfl
 rw [jO] at hr37
 have hm39 := hr37.max
 refine qD rfl (hl38 ag59 rfl (Gadd.pins hX33.pins R)) (qD rfl (zT eU (v := u36) rfl hr37) (qD rfl (zB (v := (.int .i64 0)) rfl) (qe (zA ?_))))
 refine yH ?_
 have lx44 : (q.ns.getD (a).toNat default).r = (q.ns.getD (a).toNat default).r := rfl
 refine yZ (fun (k : Nat) (en : Nat → Value) (W : World) => ∃ (env1 : Nat → Value) (i : Nat) (q43 : PSt) (GLr : Pin), en = (upd (upd (upd (upd (upd (upd (upd (upd (upd env1 0 (.pointer (some ⟨p, 0, none⟩))) 1 (.int .i64 a)) 2 (.int .i64 b)) 6 (.bool false)) 7 (.pointer (some ⟨b4, 0, none⟩))) 10 (.bool true)) 38 u36) 39 (.int .i64 (((q.ns.getD (a).toNat default).r).length : Int))) 40 (.int .i64 (i : Int))) ∧ k = (q.ns.getD (a).toNat default).r.length - i ∧ Ext (inO (some mm.o)) G w GLr W ∧ Pin.le G25 GLr ∧ (i ≤ (q.ns.getD (a).toNat default).r.length) ∧ (∀ x, x < i → geB q.ns b ((q.ns.getD (a).toNat default).r.getD x 0) = false) ∧ (Pk 59 3 GLr W p L R B mm q43) ∧ (PoolOk q43) ∧ (PX q q43) ∧ (q43.ns = q.ns ∧ q43.bs = q.bs)) _ ⟨_, 0, q, G25, (zC (x := 40) (zC (x := 39) (zC (x := 38) (zC (x := 10) (zC (x := 7) (zC (x := 6) (zC (x := 2) (zC (x := 1) (zX (x := 0) rfl) rfl) rfl) rfl) rfl) rfl) rfl) rfl) rfl), rfl, hX33, Pin.le_refl _, Nat.zero_le _, (fun q hq => absurd hq (Nat.not_lt_zero q)), hpk34, hok, (PX.refl _), ⟨rfl, rfl⟩⟩ ?_
 rintro k45 _ w46 ⟨env1, i, q43, GLr, rfl, hk47, hX48, hlek45, hji, hpr, hpk49, hok50, hpx51, hqn52⟩
 have hql53 := hpx51.len
 have hml54 := pkl q43
 have hml55 := pkb hok50
 have hlnr := congrArg List.length lx44
 refine zG (zH ?_)
 refine qD rfl (xB rfl rfl) (qe (zA (zG ?_)))
 refine yN (p := ((i : Int) : Int) < (((q.ns.getD (a).toNat default).r).length : Int)) rfl rfl (fun h56 => ?_) (fun h56 => ?_)
 have hki := (xK hok.ar.opts (show (a).toNat < q.ns.length by omega)).2 _ (yT (d := (0 : Int)) (show i < (q.ns.getD (a).toNat default).r.length by omega))
 rw [← lx44] at hki
 refine wp_skip (zA (zG ?_))
 refine yH (zG (zH ?_))
 refine qD rfl (zN eU sz3 (v := u36) rfl rfl hr37 (by omega) (by omega)) (qD rfl (zO (r := ((q.ns.getD (a).toNat default).r).getD i 0) rfl ag3 (z := (i : Int)) rfl hr37 (dO hX48.pins hlek45) (by omega) (by omega)) (qD rfl (zD (v := (.int .i64 (((q.ns.getD (a).toNat default).r).getD i 0))) rfl) (qe (zA (zG (zH ?_))))))
 refine qD rfl (zB (v := (.pointer (some ⟨p, 0, none⟩))) rfl) (qD rfl (zB (v := (.int .i64 b)) rfl) (qD rfl (zB (v := (.int .i64 (((q.ns.getD (a).toNat default).r).getD i 0))) rfl) (qI rfl (zM (vs := [(.pointer (some ⟨p, 0, none⟩)), (.int .i64 b), (.int .i64 (((q.ns.getD (a).toNat default).r).getD i 0))]) Tryz.func43 nm43 rfl rfl rfl ?_))))
 refine dP (ih hX48.pins hpk49 hok50 ⟨by omega, by omega⟩ ⟨by omega, by omega⟩ (by omega)) ?_
 rintro _ w59 ⟨q57, G58, rfl, hpk60, hok61, hpx62, hqn63, hx64⟩
 refine ⟨_, rfl, ?_⟩
 have hX65 := hX48.trans hx64 (fun i hi => xL i hi)
 have hql66 := hpx62.len
 have hml67 := pkl q57
 have hml68 := pkb hok61
 have hql69 := congrArg List.length hqn63.1
 refine qe (zA ?_)
 refine c_if rfl rfl (fun h70 => ?_) (fun h70 => ?_)
 refine zG (zH ?_)
 refine qD rfl (zD (v := (.bool false)) rfl) (qe (zA ?_))
 refine wp_exit (s_blkO rfl (yI (yW (yV (zA (zG (zG (zH ?_))))))))
 refine qD rfl (zB (v := (.bool false)) rfl) (qe (zA ?_))
 refine vE rfl rfl (wp_skip (zA (zG ?_)))
 refine xD (S := fun wz => BxR wz p [L, R, B, (.map (some mm.f)), (.map (some mm.o)), (.map (some mm.c)), (.map (some mm.s)), (.map (some mm.n))] ∧ Pins G58 wz) (last := 6) (by kernel_rfl) rfl ?_
 have hl71 := bdr w59
 have hp72 := hX65.pins.below hl71
 have hX73 := hX65.step hp72 hl71
 have hpk74 := hpk60.below hl71 hp72
 refine dT (i := 0) rfl rfl (by kernel_rfl) (fun _ _ => zB (v := (.pointer (some ⟨p, 0, none⟩))) rfl) ⟨hpk74.bx.reads, hX73.pins⟩ ?_
 refine dT (i := 1) rfl rfl (by kernel_rfl) (fun _ _ => xC rfl) ⟨hpk74.bx.reads, hX73.pins⟩ ?_
 refine dT (i := 2) rfl rfl (by kernel_rfl) (fun _ _ => zR (k := 4) rfl eY rfl nz106 rfl) ⟨hpk74.bx.reads, hX73.pins⟩ ?_
 refine dT (i := 3) rfl rfl (by kernel_rfl) (fun _ hS => zS (u := (.map (some mm.o))) ag106 rfl (hS.1 4 _ rfl)) ⟨hpk74.bx.reads, hX73.pins⟩ ?_
 refine dT (i := 4) rfl rfl (by kernel_rfl) (fun _ hS => yJ (cs := [(.int .i64 a), (.int .i64 b)]) ag127 eS rfl (fun j u hj => (dO hS.2 (dN hlek45 hx64.le)) _ _ _ (hbp28 _ _ (by simpa using hj)))) ⟨hpk74.bx.reads, hX73.pins⟩ ?_
 refine dT (i := 5) rfl rfl (by kernel_rfl) (fun _ _ => zB (v := (.bool false)) rfl) ⟨hpk74.bx.reads, hX73.pins⟩ ?_
 refine zQ (i := 6) (by kernel_rfl) (qC (i := 6) rfl rfl rfl (zI rfl _) (qA (val := (fun v : Bool => Value.bool v)) (k := ((a, b) : Int × Int)) (v := false) (gT dM dB sz3) Tryz.underlying106 rfl rfl rfl hX73.pins hpk74.fo (fun w75 hm76 hp77 hg78 hz79 => ?_)))
 have hX81 := hX73.trans (Ext.one hp77 hg78) (fun i hi => xL i hi)
 have hpk80 := hpk74.setO (Ext.one hp77 hg78) hm76
 have hgv : geB q.ns a b = false := sV hok.ar.opts ha (i := i) (by omega) (by rw [← lx44, ← tC hqn52]; exact h70)
 have hok84 := PoolOk.setO hok61 (ha.same (xR hqn52 hqn63)) (hb.same (xR hqn52 hqn63)) (sB (xR hqn52 hqn63) hgv)
 obtain ⟨q82, hq83⟩ : ∃ q, q = ({ q57 with om := putE q57.om ((a, b) : Int × Int) false } : PSt) := ⟨_, rfl⟩
 rw [← hq83] at hpk80 hok84
 have hq83n : q82.ns = q57.ns ∧ q82.bs = q57.bs := by rw [hq83]; exact ⟨rfl, rfl⟩
 have hq83x : PX q57 q82 := by rw [hq83]; exact ⟨Nat.le_refl _, fun _ _ => rfl, fun _ h => h⟩
 have hml85 := pkl q82
 have hml86 := pkb hok84
 have hql87 := hq83x.len
 refine ⟨fun h => absurd rfl h, ?_⟩
 refine yP (by kernel_rfl) (zA (zG (zH ?_)))
 refine qD rfl (zB (v := (.bool false)) rfl) (qD rfl (zD (v := (.bool false)) rfl) (qe (zA ?_)))
 exact wp_ret (zY (zW (v := (.bool false)) rfl rfl rfl (⟨q82, _, congrArg (fun z => Ending.returned (Value.bool z)) (hgv.symm), hpk80, hok84, (PX.trans (PX.trans hpx51 hpx62) hq83x), (xR (xR hqn52 hqn63) hq83n), hX81⟩)))
 refine wp_skip (yQ (zA (zH ?_)))
 refine qD rfl (yX rfl rfl (by omega)) (qD rfl (zB (v := (.int .i64 ((i : Int) + 1))) rfl) (qe (yS (⟨_, ?_, _, rfl, _, i + 1, q57, G58, (zC (x := 40) (zC (x := 39) (zC (x := 38) (zC (x := 10) (zC (x := 7) (zC (x := 6) (zC (x := 2) (zC (x := 1) (zX (x := 0) rfl) rfl) rfl) rfl) rfl) rfl) rfl) rfl) rfl), rfl, hX65, (dN hlek45 hx64.le), (by omega), (fun x h2 => if h3 : x = i then h3 ▸ (by rw [← lx44, ← tC hqn52]; exact h70) else hpr x (by omega)), hpk60, hok61, (PX.trans hpx51 hpx62), (xR hqn52 hqn63)⟩))))
 omega
 refine wp_exit (yI (yW (yV (zA (zG (zG (zH ?_)))))))
 refine qD rfl (zB (v := (.bool true)) rfl) (qe (zA ?_))
 refine kB rfl rfl (zG (zH ?_))
 refine qD rfl (zB (v := (.pointer (some ⟨p, 0, none⟩))) rfl) (qD rfl (xC rfl) (qD rfl (zR (k := 0) rfl eY rfl jK rfl) (qD rfl (zS (u := L) vH rfl (hpk49.bx.cell (o := 0) rfl)) (qD rfl (zB (v := (.int .i64 b)) rfl) (qD rfl (zN dE sz59 (v := L) rfl rfl hpk49.ol.read (by omega) (by omega)) ?_)))))
 obtain ⟨u88, hr89, hl90⟩ := vY (hpk49.ol.at (z := b) (by omega) (by omega)) (j := (b).toNat) rfl
 rw [jP] at hr89
 have hm91 := hr89.max
 refine qD rfl (hl90 ag59 rfl (Gadd.pins hX48.pins L)) (qD rfl (zT eU (v := u88) rfl hr89) (qD rfl (zB (v := (.int .i64 0)) rfl) (qe (zA ?_))))
 refine yH ?_
 have lx96 : (q43.ns.getD (b).toNat default).l = (q.ns.getD (b).toNat default).l := by rw [hqn52.1]
 refine yZ (fun (k : Nat) (en : Nat → Value) (W : World) => ∃ (env1 : Nat → Value) (i2 : Nat) (q95 : PSt) (GLl : Pin), en = (upd (upd (upd (upd (upd (upd (upd (upd env1 0 (.pointer (some ⟨p, 0, none⟩))) 1 (.int .i64 a)) 6 (.bool false)) 7 (.pointer (some ⟨b4, 0, none⟩))) 10 (.bool true)) 56 u88) 57 (.int .i64 (((q43.ns.getD (b).toNat default).l).length : Int))) 58 (.int .i64 (i2 : Int))) ∧ k = (q.ns.getD (b).toNat default).l.length - i2 ∧ Ext (inO (some mm.o)) G w GLl W ∧ Pin.le GLr GLl ∧ (i2 ≤ (q.ns.getD (b).toNat default).l.length) ∧ (∀ x, x < i2 → geB q.ns ((q.ns.getD (b).toNat default).l.getD x 0) a = false) ∧ (Pk 59 3 GLl W p L R B mm q95) ∧ (PoolOk q95) ∧ (PX q43 q95) ∧ (q95.ns = q43.ns ∧ q95.bs = q43.bs)) _ ⟨_, 0, q43, GLr, (zC (x := 58) (zC (x := 57) (zC (x := 56) (zC (x := 10) (zC (x := 7) (zC (x := 6) (zC (x := 1) (zX (x := 0) rfl) rfl) rfl) rfl) rfl) rfl) rfl) rfl), rfl, hX48, Pin.le_refl _, Nat.zero_le _, (fun q hq => absurd hq (Nat.not_lt_zero q)), hpk49, hok50, (PX.refl _), ⟨rfl, rfl⟩⟩ ?_
 rintro k97 _ w98 ⟨env1, i2, q95, GLl, rfl, hk99, hX100, hlek97, hji2, hpl, hpk101, hok102, hpx103, hqn104⟩
 have hql105 := hpx103.len
 have hml106 := pkl q95
 have hml107 := pkb hok102
 have hlnl := congrArg List.length lx96
 refine zG (zH ?_)
 refine qD rfl (xB rfl rfl) (qe (zA (zG ?_)))
 refine yN (p := ((i2 : Int) : Int) < (((q43.ns.getD (b).toNat default).l).length : Int)) rfl rfl (fun h108 => ?_) (fun h108 => ?_)
 have hki := (xK hok.ar.opts (show (b).toNat < q.ns.length by omega)).1 _ (yT (d := (0 : Int)) (show i2 < (q.ns.getD (b).toNat default).l.length by omega))
 rw [← lx96] at hki
 refine wp_skip (zA (zG ?_))
 refine yH (zG (zH ?_))
 refine qD rfl (zN eU sz3 (v := u88) rfl rfl hr89 (by omega) (by omega)) (qD rfl (zO (r := ((q43.ns.getD (b).toNat default).l).getD i2 0) rfl ag3 (z := (i2 : Int)) rfl hr89 (dO hX100.pins hlek97) (by omega) (by omega)) (qD rfl (zD (v := (.int .i64 (((q43.ns.getD (b).toNat default).l).getD i2 0))) rfl) (qe (zA (zG (zH ?_))))))
 refine qD rfl (zB (v := (.pointer (some ⟨p, 0, none⟩))) rfl) (qD rfl (zB (v := (.int .i64 (((q43.ns.getD (b).toNat default).l).getD i2 0))) rfl) (qD rfl (zB (v := (.int .i64 a)) rfl) (qI rfl (zM (vs := [(.pointer (some ⟨p, 0, none⟩)), (.int .i64 (((q43.ns.getD (b).toNat default).l).getD i2 0)), (.int .i64 a)]) Tryz.func43 nm43 rfl rfl rfl ?_))))
 refine dP (ih hX100.pins hpk101 hok102 ⟨by omega, by omega⟩ ⟨by omega, by omega⟩ (by omega)) ?_
 rintro _ w111 ⟨q109, G110, rfl, hpk112, hok113, hpx114, hqn115, hx116⟩
 refine ⟨_, rfl, ?_⟩
 have hX117 := hX100.trans hx116 (fun i hi => xL i hi)
 have hql118 := hpx114.len
 have hml119 := pkl q109
 have hml120 := pkb hok113
 have hql121 := congrArg List.length hqn115.1
 refine qe (zA ?_)
 refine c_if rfl rfl (fun h122 => ?_) (fun h122 => ?_)
 refine zG (zH ?_)
 refine qD rfl (zD (v := (.bool false)) rfl) (qe (zA ?_))
 refine wp_exit (s_blkO rfl (yI (yW (yV (zA (zG ?_))))))
 refine xD (S := fun wz => BxR wz p [L, R, B, (.map (some mm.f)), (.map (some mm.o)), (.map (some mm.c)), (.map (some mm.s)), (.map (some mm.n))] ∧ Pins G110 wz) (last := 6) (by kernel_rfl) rfl ?_
 have hl123 := bdr w111
 have hp124 := hX117.pins.below hl123
 have hX125 := hX117.step hp124 hl123
 have hpk126 := hpk112.below hl123 hp124
 refine dT (i := 0) rfl rfl (by kernel_rfl) (fun _ _ => zB (v := (.pointer (some ⟨p, 0, none⟩))) rfl) ⟨hpk126.bx.reads, hX125.pins⟩ ?_
 refine dT (i := 1) rfl rfl (by kernel_rfl) (fun _ _ => xC rfl) ⟨hpk126.bx.reads, hX125.pins⟩ ?_
 refine dT (i := 2) rfl rfl (by kernel_rfl) (fun _ _ => zR (k := 4) rfl eY rfl nz106 rfl) ⟨hpk126.bx.reads, hX125.pins⟩ ?_
 refine dT (i := 3) rfl rfl (by kernel_rfl) (fun _ hS => zS (u := (.map (some mm.o))) ag106 rfl (hS.1 4 _ rfl)) ⟨hpk126.bx.reads, hX125.pins⟩ ?_
 refine dT (i := 4) rfl rfl (by kernel_rfl) (fun _ hS => yJ (cs := [(.int .i64 a), (.int .i64 b)]) ag127 eS rfl (fun j u hj => (dO hS.2 (dN (dN hlek45 hlek97) hx116.le)) _ _ _ (hbp28 _ _ (by simpa using hj)))) ⟨hpk126.bx.reads, hX125.pins⟩ ?_
 refine dT (i := 5) rfl rfl (by kernel_rfl) (fun _ _ => zB (v := (.bool false)) rfl) ⟨hpk126.bx.reads, hX125.pins⟩ ?_
 refine zQ (i := 6) (by kernel_rfl) (qC (i := 6) rfl rfl rfl (zI rfl _) (qA (val := (fun v : Bool => Value.bool v)) (k := ((a, b) : Int × Int)) (v := false) (gT dM dB sz3) Tryz.underlying106 rfl rfl rfl hX125.pins hpk126.fo (fun w127 hm128 hp129 hg130 hz131 => ?_)))
 have hX133 := hX125.trans (Ext.one hp129 hg130) (fun i hi => xL i hi)
 have hpk132 := hpk126.setO (Ext.one hp129 hg130) hm128
 have hgv : geB q.ns a b = false := geB_no_left hok.ar.opts hb (i := i2) (by omega) (by rw [← lx96, ← tC (xR hqn52 hqn104)]; exact h122)
 have hok136 := PoolOk.setO hok113 (ha.same (xR (xR hqn52 hqn104) hqn115)) (hb.same (xR (xR hqn52 hqn104) hqn115)) (sB (xR (xR hqn52 hqn104) hqn115) hgv)
 obtain ⟨q134, hq135⟩ : ∃ q, q = ({ q109 with om := putE q109.om ((a, b) : Int × Int) false } : PSt) := ⟨_, rfl⟩
 rw [← hq135] at hpk132 hok136
 have hq135n : q134.ns = q109.ns ∧ q134.bs = q109.bs := by rw [hq135]; exact ⟨rfl, rfl⟩
 have hq135x : PX q109 q134 := by rw [hq135]; exact ⟨Nat.le_refl _, fun _ _ => rfl, fun _ h => h⟩
 have hml137 := pkl q134
 have hml138 := pkb hok136
 have hql139 := hq135x.len
 refine ⟨fun h => absurd rfl h, ?_⟩
 refine yP (by kernel_rfl) (zA (zG (zH ?_)))
 refine qD rfl (zB (v := (.bool false)) rfl) (qD rfl (zD (v := (.bool false)) rfl) (qe (zA ?_)))
 exact wp_ret (zY (zW (v := (.bool false)) rfl rfl rfl (⟨q134, _, congrArg (fun z => Ending.returned (Value.bool z)) (hgv.symm), hpk132, hok136, (PX.trans (PX.trans (PX.trans hpx51 hpx103) hpx114) hq135x), (xR (xR (xR hqn52 hqn104) hqn115) hq135n), hX133⟩)))
 refine wp_skip (yQ (zA (zH ?_)))
 refine qD rfl (yX rfl rfl (by omega)) (qD rfl (zB (v := (.int .i64 ((i2 : Int) + 1))) rfl) (qe (yS (⟨_, ?_, _, rfl, _, i2 + 1, q109, G110, (zC (x := 58) (zC (x := 57) (zC (x := 56) (zC (x := 10) (zC (x := 7) (zC (x := 6) (zC (x := 1) (zX (x := 0) rfl) rfl) rfl) rfl) rfl) rfl) rfl) rfl), rfl, hX117, (dN hlek97 hx116.le), (by omega), (fun x h2 => if h3 : x = i2 then h3 ▸ (by rw [← lx96, ← tC (xR hqn52 hqn104)]; exact h122) else hpl x (by omega)), hpk112, hok113, (PX.trans hpx103 hpx114), (xR hqn104 hqn115)⟩))))
 omega
 refine wp_exit (yI (yW (yV (zA (zG ?_)))))
 refine xD (S := fun wz => BxR wz p [L, R, B, (.map (some mm.f)), (.map (some mm.o)), (.map (some mm.c)), (.map (some mm.s)), (.map (some mm.n))] ∧ Pins GLl wz) (last := 6) (by kernel_rfl) rfl ?_
 have hl140 := bdr w98
 have hp141 := hX100.pins.below hl140
 have hX142 := hX100.step hp141 hl140
 have hpk143 := hpk101.below hl140 hp141
 refine dT (i := 0) rfl rfl (by kernel_rfl) (fun _ _ => zB (v := (.pointer (some ⟨p, 0, none⟩))) rfl) ⟨hpk143.bx.reads, hX142.pins⟩ ?_
 refine dT (i := 1) rfl rfl (by kernel_rfl) (fun _ _ => xC rfl) ⟨hpk143.bx.reads, hX142.pins⟩ ?_
 refine dT (i := 2) rfl rfl (by kernel_rfl) (fun _ _ => zR (k := 4) rfl eY rfl nz106 rfl) ⟨hpk143.bx.reads, hX142.pins⟩ ?_
 refine dT (i := 3) rfl rfl (by kernel_rfl) (fun _ hS => zS (u := (.map (some mm.o))) ag106 rfl (hS.1 4 _ rfl)) ⟨hpk143.bx.reads, hX142.pins⟩ ?_
 refine dT (i := 4) rfl rfl (by kernel_rfl) (fun _ hS => yJ (cs := [(.int .i64 a), (.int .i64 b)]) ag127 eS rfl (fun j u hj => (dO hS.2 (dN hlek45 hlek97)) _ _ _ (hbp28 _ _ (by simpa using hj)))) ⟨hpk143.bx.reads, hX142.pins⟩ ?_
 refine dT (i := 5) rfl rfl (by kernel_rfl) (fun _ _ => zB (v := (.bool true)) rfl) ⟨hpk143.bx.reads, hX142.pins⟩ ?_
 refine zQ (i := 6) (by kernel_rfl) (qC (i := 6) rfl rfl rfl (zI rfl _) (qA (val := (fun v : Bool => Value.bool v)) (k := ((a, b) : Int × Int)) (v := true) (gT dM dB sz3) Tryz.underlying106 rfl rfl rfl hX142.pins hpk143.fo (fun w144 hm145 hp146 hg147 hz148 => ?_)))
 have hX150 := hX142.trans (Ext.one hp146 hg147) (fun i hi => xL i hi)
 have hpk149 := hpk143.setO (Ext.one hp146 hg147) hm145
 have hgv : geB q.ns a b = true := geB_yes hok.ar.opts ha hb (fun i hi => hpr i (by omega)) (fun i hi => hpl i (by omega))
 have hok153 := PoolOk.setO hok102 (ha.same (xR hqn52 hqn104)) (hb.same (xR hqn52 hqn104)) (sB (xR hqn52 hqn104) hgv)
 obtain ⟨q151, hq152⟩ : ∃ q, q = ({ q95 with om := putE q95.om ((a, b) : Int × Int) true } : PSt) := ⟨_, rfl⟩
 rw [← hq152] at hpk149 hok153
 have hq152n : q151.ns = q95.ns ∧ q151.bs = q95.bs := by rw [hq152]; exact ⟨rfl, rfl⟩
 have hq152x : PX q95 q151 := by rw [hq152]; exact ⟨Nat.le_refl _, fun _ _ => rfl, fun _ h => h⟩
 have hml154 := pkl q151
 have hml155 := pkb hok153
 have hql156 := hq152x.len
 refine ⟨fun h => absurd rfl h, ?_⟩
 refine yP (by kernel_rfl) (zA (zG (zH ?_)))
 refine qD rfl (zB (v := (.bool true)) rfl) (qD rfl (zD (v := (.bool true)) rfl) (qe (zA ?_)))
 exact wp_ret (zY (zW (v := (.bool true)) rfl rfl rfl (⟨q151, _, congrArg (fun z => Ending.returned (Value.bool z)) (hgv.symm), hpk149, hok153, (PX.trans (PX.trans hpx51 hpx103) hq152x), (xR (xR hqn52 hqn104) hq152n), hX150⟩)))
theorem geP_all {p : Nat} {L R B : Value} {mm : PM} : ∀ m, GeP m p L R B mm
 | 0 => fun _ _ _ _ _ h => absurd h (Nat.not_lt_zero _)
 | m + 1 => fun hP hpk hok ha hb hm => ge_step hP hpk hok ha hb (geP_all m) hm
theorem ge_spec {p : Nat} {L R B : Value} {mm : PM} {w : World} {G : Pin} {q : PSt} {a b : Int} (hP : Pins G w) (hpk : Pk 59 3 G w p L R B mm q) (hok : PoolOk q) (ha : PlaceOk q a) (hb : PlaceOk q b) :
  Calls Tryz.prog 43 [(.pointer (some ⟨p, 0, none⟩)), (.int .i64 a), (.int .i64 b)].toArray w fun e w' => ∃ (q' : PSt) (G' : Pin), e = .returned (.bool (geB q.ns a b)) ∧ Pk 59 3 G' w' p L R B mm q' ∧ PoolOk q' ∧ PX q q' ∧ (q'.ns = q.ns ∧ q'.bs = q.bs) ∧ Ext (inO (some mm.o)) G w G' w' :=
 geP_all _ hP hpk hok ha hb (Nat.lt_succ_self _)
end PL1
end Go.Proofs.YtajkbplgbikgdaaGreatDoor
namespace Go.Proofs.YtajkbplgbikgdaaGreatDoor
namespace PA1
open Go.RowKit Go.GL Go.Proofs
theorem mR {w : World} {G : Pin} {p : Nat} {L R B : Value} {mm : PM} {q : PSt} (hP : Pins G w) (hpk : Pk 59 3 G w p L R B mm q) (hok : PoolOk q) {x : Value} {xs : List Int} (hx : RSl eInt G x xs) (hr : ∀ i, i < xs.length → PlaceOk q (xs.getD i 0)) (hxl : xs.length ≤ 1048576) :
  Calls Tryz.prog 70 [(.pointer (some ⟨p, 0, none⟩)), x].toArray w fun e w' => ∃ (u : Value) (zs : List Int) (G' : Pin), e = .returned u ∧ Own eInt 3 G' w' w.heap.size u zs ∧ PtOk q xs zs zs.length ∧ Ext noS G w G' w' := by
 refine yG (n := 82) Tryz.func70 Tryz.ntmps70 rfl rfl ?_
 have hX0 := exr noS hP
 have hpin : PIn w (inP p L R B mm) p L R B mm := PIn.self
 have hml1 := pkl q
 have hml2 := pkb hok
 have hm := hx.max
 refine zG (zH ?_)
 refine qD rfl (zD (v := (.slice none 0 0)) rfl) (qe (zA (zG (zH ?_))))
 refine qI rfl (jF (fun k : Int => Value.int .i64 k) (fun v : Bool => Value.bool v) hX0.pins (fun m3 w4 hk5 hm6 hp7 hl8 => ?_))
 have hX9 := hX0.step hp7 hl8
 have hpk10 := hpk.below hl8 hp7
 have hnp11 := hpk.new (x := some m3) (fun k hk => by cases hk; omega)
 have hlo12 : w.heap.size ≤ m3 := by have := hX0.size; omega
 refine qD rfl (zD (v := (.map (some m3))) rfl) (qe (zA (zG (zH ?_))))
 refine qI rfl (xG (E := eInt) (e := 3) eU sz3 hX9.pins (fun u13 w14 ho15 hp16 hl17 hk18 => ?_))
 have hX19 := hX9.step hp16 hl17
 have hm20 := hm6.below hl17
 have hpk21 := hpk10.below hl17 hp16
 have ha26 := hpk10.new (x := u13.ownBlock) (fun k hk => by rw [hk18] at hk; cases hk; exact Nat.le_refl _)
 have ho27 := ho15.weaken hX9.size
 refine qD rfl (zD (v := u13) rfl) (qe (zA (zG (zG (zH ?_)))))
 refine qD rfl (zB (v := x) rfl) (qD rfl (zT eU (v := x) rfl hx) (qD rfl (zB (v := (.int .i64 0)) rfl) (qe (zA ?_))))
 refine yH (yZ (fun (k : Nat) (en : Nat → Value) (W : World) => ∃ (env1 : Nat → Value) (i : Nat) (lv : Value) (ls : List Int) (sn : List (Int × Bool)) (GL1 : Pin), en = (upd (upd (upd (upd (upd (upd (upd env1 0 (.pointer (some ⟨p, 0, none⟩))) 4 (.slice none 0 0)) 5 (.map (some m3))) 6 lv) 16 x) 17 (.int .i64 (xs.length : Int))) 18 (.int .i64 (i : Int))) ∧ k = xs.length - i ∧ Ext noS G w GL1 W ∧ Pin.le G GL1 ∧ (i ≤ xs.length) ∧ (PtOk q (xs.take i) ls 0) ∧ (SnOk sn ls) ∧ (Own eInt 3 GL1 W w.heap.size lv (ls)) ∧ (Mp (fun k : Int => Value.int .i64 k) (fun v : Bool => Value.bool v) W m3 (sn)) ∧ (Pk 59 3 GL1 W p L R B mm q) ∧ (NP p L R B mm lv.ownBlock)) _ ⟨_, 0, u13, [], [], G, (zC (x := 18) (zC (x := 17) (zC (x := 16) (zC (x := 6) (zC (x := 5) (zC (x := 4) (zX (x := 0) rfl) rfl) rfl) rfl) rfl) rfl) rfl), rfl, hX19, Pin.le_refl _, Nat.zero_le _, PtOk.start, SnOk.start, ho27, hm20, hpk21, ha26⟩ ?_)
 rintro k32 _ w33 ⟨env1, i, lv, ls, sn, GL1, rfl, hk34, hX35, hlek32, hi, hpt, hsn, hw36, hm37, hpk38, hnp39⟩
 have hpl0 := hpt.len
 refine zG (zH ?_)
 refine qD rfl (xB rfl rfl) (qe (zA (zG ?_)))
 refine yN (p := ((i : Int) : Int) < (xs.length : Int)) rfl rfl (fun h40 => ?_) (fun h40 => ?_)
 refine wp_skip (zA (zG ?_))
 refine yH (zG (zH ?_))
 refine qD rfl (zN eU sz3 (v := x) rfl rfl hx (by omega) (by omega)) (qD rfl (zO (r := xs.getD i 0) rfl ag3 (z := (i : Int)) rfl hx (dO hX35.pins hlek32) (by omega) (by omega)) (qD rfl (zD (v := (.int .i64 (xs.getD i 0))) rfl) (qe (zA (zG (zH ?_))))))
 refine qD rfl (zB (v := (.map (some m3))) rfl) (qD rfl (zB (v := (.int .i64 (xs.getD i 0))) rfl) (qD rfl (fC (k := (xs.getD i 0)) (qS dB) Tryz.underlying152 zr4 hm37 rfl rfl) (qD rfl (qR rfl) (qe (zA ?_)))))
 refine vN rfl rfl (fun h41 => ?_) (fun h41 => ?_)
 refine wp_skip (yQ (zA (zH ?_)))
 refine qD rfl (yX rfl rfl (by omega)) (qD rfl (zB (v := (.int .i64 ((i : Int) + 1))) rfl) (qe (yS (⟨_, ?_, _, rfl, _, i + 1, lv, ls, sn, GL1, (zC (x := 18) (zC (x := 17) (zC (x := 16) (zC (x := 6) (zC (x := 5) (zC (x := 4) (zX (x := 0) rfl) rfl) rfl) rfl) rfl) rfl) rfl), rfl, hX35, hlek32, (by omega), (hpt.rseen (by omega) (hsn.yes h41)), hsn, hw36, hm37, hpk38, hnp39⟩))))
 omega
 refine zG (zH ?_)
 refine qD rfl (zB (v := (.map (some m3))) rfl) (qD rfl (zB (v := (.int .i64 (xs.getD i 0))) rfl) (q0 rfl rfl rfl (qA (val := (fun v : Bool => Value.bool v)) (k := (xs.getD i 0)) (v := true) (qS dB) Tryz.underlying152 rfl rfl rfl hX35.pins hm37 (fun w42 hm43 hp44 hg45 hz46 => ?_))))
 have hX47 := hX35.write hp44 hg45 ((yC hlo12))
 have ho48 := hw36.keptA hg45 (yF hm37 hw36).symm
 have hpk49 := hpk38.kept hg45 hp44 hnp11
 refine qe (zA (zH ?_))
 refine qD rfl (zB (v := lv) rfl) (qD rfl (zB (v := (.int .i64 (xs.getD i 0))) rfl) (qI rfl (yY (E := eInt) (e := 3) [(.int .i64 (xs.getD i 0))] [xs.getD i 0] eU sz3 zr3 (by exact xT (by rfl)) (yM (by rfl)) rfl rfl rfl rfl (by decide) hX47.pins (fun u50 w51 ho52 hp53 hl54 hk55 => ?_))))
 have hX56 := hX47.step hp53 hl54
 have ho57 := ho48.below hl54
 have hm58 := hm43.below hl54
 have hpk59 := hpk49.below hl54 hp53
 have ho66 := ho52.weaken hX47.size
 refine qI rfl (zZ (E := eInt) (v := lv) (u := u50) 8 eU ap3 (by decide) rfl rfl hX56.pins ho57 ho66.src (by first | omega | (rw [List.nil_append]; omega) | (rw [List.length_nil]; omega) | (rw [List.length_append]; omega) | (simp; done) | (simp; omega) | (simp only [List.length_append, List.length_cons, List.length_nil]; omega)) (by first | omega | (rw [List.nil_append]; omega) | (rw [List.length_nil]; omega) | (rw [List.length_append]; omega) | (simp; done) | (simp; omega) | (simp only [List.length_append, List.length_cons, List.length_nil]; omega)) (hX56.size) (fun u67 w68 ho69 hp70 hg71 hw72 => ?_))
 have hX73 := hX56.write hp70 hg71 ((yD ho57))
 have hm75 := hm58.kept hg71 (yF hm58 ho57)
 have hpk76 := hpk59.kept hg71 hp70 hnp39
 have hnp78 := qQ hnp39 hpk59 hw72
 have hm79 := la1 ls (xs.getD i 0)
 refine qD rfl (zD (v := u67) rfl) (qe (yQ (zA (zH ?_))))
 refine qD rfl (yX rfl rfl (by omega)) (qD rfl (zB (v := (.int .i64 ((i : Int) + 1))) rfl) (qe (yS (⟨_, ?_, _, rfl, _, i + 1, u67, ls ++ ([xs.getD i 0]), putE sn (xs.getD i 0) true, GL1, (zC (x := 18) (zC (x := 17) (zC (x := 16) (zC (x := 6) (zC (x := 5) (zC (x := 4) (zX (x := 0) rfl) rfl) rfl) rfl) rfl) rfl) rfl), rfl, hX73, hlek32, (by omega), (hpt.rnew (by omega) (hsn.no h41) (hr i (by omega))), hsn.put, ho69, hm75, hpk76, hnp78⟩))))
 omega
 refine wp_exit (yI (yW (yV (zA (zG (zG (zH ?_)))))))
 refine qD rfl (zD (v := (.int .i64 0)) rfl) (qe (zA ?_))
 refine yH ?_
 have hin : i = xs.length := by omega
 rw [hin, jI (Nat.le_refl _)] at hpt
 refine yZ (fun (k : Nat) (en : Nat → Value) (W : World) => ∃ (env1 : Nat → Value) (k2 : Nat) (lv2 : Value) (ls2 : List Int) (sn2 : List (Int × Bool)) (GL2 : Pin), en = (upd (upd (upd (upd (upd env1 0 (.pointer (some ⟨p, 0, none⟩))) 4 (.slice none 0 0)) 5 (.map (some m3))) 6 lv2) 9 (.int .i64 (k2 : Int))) ∧ k = q.ns.length - k2 ∧ Ext noS G w GL2 W ∧ Pin.le GL1 GL2 ∧ (PtOk q xs ls2 k2) ∧ (SnOk sn2 ls2) ∧ (Own eInt 3 GL2 W w.heap.size lv2 (ls2)) ∧ (Mp (fun k : Int => Value.int .i64 k) (fun v : Bool => Value.bool v) W m3 (sn2)) ∧ (Pk 59 3 GL2 W p L R B mm q) ∧ (NP p L R B mm lv2.ownBlock)) _ ⟨_, 0, lv, ls, sn, GL1, (zC (x := 9) (zC (x := 6) (zC (x := 5) (zC (x := 4) (zX (x := 0) rfl) rfl) rfl) rfl) rfl), rfl, hX35, Pin.le_refl _, hpt, hsn, hw36, hm37, hpk38, hnp39⟩ ?_
 rintro k84 _ w85 ⟨env1, k2, lv2, ls2, sn2, GL2, rfl, hk86, hX87, hlek84, hpt2, hsn2, hw88, hm89, hpk90, hnp91⟩
 have hpl2 := hpt2.len
 have hkl2 := hpt2.kl
 refine zG (zG (zH ?_))
 refine qD rfl (zB (v := (.int .i64 (k2 : Int))) rfl) (qD rfl (zB (v := lv2) rfl) (qD rfl (zT eU (v := lv2) rfl hw88.read) (qD rfl (xB rfl rfl) (qe (zA ?_)))))
 refine yN (p := ((k2 : Int) : Int) < (ls2.length : Int)) rfl rfl (fun h92 => ?_) (fun h92 => ?_)
 have hzp := hpt2.pl _ (yT (d := (0 : Int)) (show k2 < ls2.length by omega))
 have hz0 := hzp.1
 have hz1 := hzp.2
 have holl := hok.ar.ok.lens (ls2.getD k2 0).toNat (by omega)
 refine wp_skip (zA (zG ?_))
 refine yH (zG ?_)
 have hq93 := Gadd.pins hX87.pins lv2
 have hq94 := Gadd.pins hX87.pins L
 have hq95 := Gadd.pins hX87.pins R
 have hr96 := hw88.read
 have hr97 := hpk90.ol.read
 have hr98 := hpk90.rr.read
 refine xD (S := fun wz => BxR wz p [L, R, B, (.map (some mm.f)), (.map (some mm.o)), (.map (some mm.c)), (.map (some mm.s)), (.map (some mm.n))] ∧ Pins (Gadd GL2 w85 lv2) wz ∧ Pins (Gadd GL2 w85 L) wz ∧ Pins (Gadd GL2 w85 R) wz) (last := 22) (by kernel_rfl) rfl ?_
 have hl99 := bdr w85
 have hp100 := hX87.pins.below hl99
 have hX101 := hX87.step hp100 hl99
 have ho102 := hw88.below hl99
 have hm103 := hm89.below hl99
 have hpk104 := hpk90.below hl99 hp100
 have hq105 := hq93.below hl99
 have hq106 := hq94.below hl99
 have hq107 := hq95.below hl99
 refine dT (i := 0) rfl rfl (by kernel_rfl) (fun _ _ => zB (v := (.pointer (some ⟨p, 0, none⟩))) rfl) ⟨hpk104.bx.reads, hq105, hq106, hq107⟩ ?_
 refine dT (i := 1) rfl rfl (by kernel_rfl) (fun _ _ => xC rfl) ⟨hpk104.bx.reads, hq105, hq106, hq107⟩ ?_
 refine dT (i := 2) rfl rfl (by kernel_rfl) (fun _ _ => zR (k := 0) rfl eY rfl jK rfl) ⟨hpk104.bx.reads, hq105, hq106, hq107⟩ ?_
 refine dT (i := 3) rfl rfl (by kernel_rfl) (fun _ hS => zS (u := L) vH rfl (hS.1 0 _ rfl)) ⟨hpk104.bx.reads, hq105, hq106, hq107⟩ ?_
 refine dT (i := 4) rfl rfl (by kernel_rfl) (fun _ _ => zB (v := lv2) rfl) ⟨hpk104.bx.reads, hq105, hq106, hq107⟩ ?_
 refine dT (i := 5) rfl rfl (by kernel_rfl) (fun _ _ => zB (v := (.int .i64 (k2 : Int))) rfl) ⟨hpk104.bx.reads, hq105, hq106, hq107⟩ ?_
 refine dT (i := 6) rfl rfl (by kernel_rfl) (fun _ _ => zN eU sz3 (v := lv2) rfl rfl hr96 (by omega) (by omega)) ⟨hpk104.bx.reads, hq105, hq106, hq107⟩ ?_
 refine dT (i := 7) rfl rfl (by kernel_rfl) (fun _ hS => zO (r := ls2.getD k2 0) rfl ag3 (z := (k2 : Int)) rfl hr96 hS.2.1 (by omega) (by omega)) ⟨hpk104.bx.reads, hq105, hq106, hq107⟩ ?_
 refine dT (i := 8) rfl rfl (by kernel_rfl) (fun _ _ => zN dE sz59 (v := L) rfl rfl hr97 (by omega) (by omega)) ⟨hpk104.bx.reads, hq105, hq106, hq107⟩ ?_
 obtain ⟨u108, hr109, hl110⟩ := vY (hpk90.ol.at (z := (ls2.getD k2 0)) (by omega) (by omega)) (j := (ls2.getD k2 0).toNat) rfl
 rw [jP] at hr109
 have hm111 := hr109.max
 refine dT (i := 9) rfl rfl (by kernel_rfl) (fun _ hS => hl110 ag59 rfl hS.2.2.1) ⟨hpk104.bx.reads, hq105, hq106, hq107⟩ ?_
 refine dT (i := 10) rfl rfl (by kernel_rfl) (fun _ _ => zB (v := (.pointer (some ⟨p, 0, none⟩))) rfl) ⟨hpk104.bx.reads, hq105, hq106, hq107⟩ ?_
 refine dT (i := 11) rfl rfl (by kernel_rfl) (fun _ _ => xC rfl) ⟨hpk104.bx.reads, hq105, hq106, hq107⟩ ?_
 refine dT (i := 12) rfl rfl (by kernel_rfl) (fun _ _ => zR (k := 1) rfl eY rfl jK rfl) ⟨hpk104.bx.reads, hq105, hq106, hq107⟩ ?_
 refine dT (i := 13) rfl rfl (by kernel_rfl) (fun _ hS => zS (u := R) vH rfl (hS.1 1 _ rfl)) ⟨hpk104.bx.reads, hq105, hq106, hq107⟩ ?_
 refine dT (i := 14) rfl rfl (by kernel_rfl) (fun _ _ => zB (v := lv2) rfl) ⟨hpk104.bx.reads, hq105, hq106, hq107⟩ ?_
 refine dT (i := 15) rfl rfl (by kernel_rfl) (fun _ _ => zB (v := (.int .i64 (k2 : Int))) rfl) ⟨hpk104.bx.reads, hq105, hq106, hq107⟩ ?_
 refine dT (i := 16) rfl rfl (by kernel_rfl) (fun _ _ => zN eU sz3 (v := lv2) rfl rfl hr96 (by omega) (by omega)) ⟨hpk104.bx.reads, hq105, hq106, hq107⟩ ?_
 refine dT (i := 17) rfl rfl (by kernel_rfl) (fun _ hS => zO (r := ls2.getD k2 0) rfl ag3 (z := (k2 : Int)) rfl hr96 hS.2.1 (by omega) (by omega)) ⟨hpk104.bx.reads, hq105, hq106, hq107⟩ ?_
 refine dT (i := 18) rfl rfl (by kernel_rfl) (fun _ _ => zN dE sz59 (v := R) rfl rfl hr98 (by omega) (by omega)) ⟨hpk104.bx.reads, hq105, hq106, hq107⟩ ?_
 obtain ⟨u112, hr113, hl114⟩ := vY (hpk90.rr.at (z := (ls2.getD k2 0)) (by omega) (by omega)) (j := (ls2.getD k2 0).toNat) rfl
 rw [jO] at hr113
 have hm115 := hr113.max
 refine dT (i := 19) rfl rfl (by kernel_rfl) (fun _ hS => hl114 ag59 rfl hS.2.2.2) ⟨hpk104.bx.reads, hq105, hq106, hq107⟩ ?_
 refine dT (i := 20) rfl rfl (by kernel_rfl) (fun _ _ => r_buildA (m := 1) [(.slice none 0 0), (.slice none 0 0)] [u108, u112] [(0, u108, [u108]), (1, u112, [u112])] Tryz.underlying129 zr129 rfl sz59 rfl (List.forall_mem_cons.2 ⟨(xE hr109.one), (List.forall_mem_cons.2 ⟨(xE hr113.one), (fun _ h => by cases h)⟩)⟩) rfl) ⟨hpk104.bx.reads, hq105, hq106, hq107⟩ ?_
 refine dT (i := 21) rfl rfl (by kernel_rfl) (fun _ _ => zB (v := (.int .i64 0)) rfl) ⟨hpk104.bx.reads, hq105, hq106, hq107⟩ ?_
 refine yP (by kernel_rfl) (zA (yH (yZ (fun (k : Nat) (en : Nat → Value) (W : World) => ∃ (env1 : Nat → Value) (s : Nat) (lv3 : Value) (ls3 : List Int) (sn3 : List (Int × Bool)) (GL3 : Pin), en = (upd (upd (upd (upd (upd (upd (upd env1 0 (.pointer (some ⟨p, 0, none⟩))) 4 (.slice none 0 0)) 5 (.map (some m3))) 6 lv3) 9 (.int .i64 (k2 : Int))) 59 (.agg [u108, u112].toArray)) 60 (.int .i64 (s : Int))) ∧ k = 2 - s ∧ Ext noS G w GL3 W ∧ Pin.le GL2 GL3 ∧ (s ≤ 2) ∧ (PtIn q xs ls3 k2 (ls2.getD k2 0) (dzL (q.ns.getD (ls2.getD k2 0).toNat default).l (q.ns.getD (ls2.getD k2 0).toNat default).r s)) ∧ (SnOk sn3 ls3) ∧ (Own eInt 3 GL3 W w.heap.size lv3 (ls3)) ∧ (Mp (fun k : Int => Value.int .i64 k) (fun v : Bool => Value.bool v) W m3 (sn3)) ∧ (Pk 59 3 GL3 W p L R B mm q) ∧ (NP p L R B mm lv3.ownBlock)) _ ⟨_, 0, lv2, ls2, sn2, GL2, (zC (x := 60) (zC (x := 59) (zC (x := 9) (zC (x := 6) (zC (x := 5) (zC (x := 4) (zX (x := 0) rfl) rfl) rfl) rfl) rfl) rfl) rfl), rfl, hX101, Pin.le_refl _, Nat.zero_le _, (PtIn.start hpt2 (by omega)), hsn2, ho102, hm103, hpk104, hnp91⟩ ?_)))
 rintro k120 _ w121 ⟨env1, s, lv3, ls3, sn3, GL3, rfl, hk122, hX123, hlek120, hs, hin3, hsn3, hw124, hm125, hpk126, hnp127⟩
 have hpl3 := hin3.ok.len
 refine zG (zH ?_)
 refine qD rfl (xB rfl rfl) (qe (zA (zG ?_)))
 refine yN (p := ((s : Int) : Int) < 2) rfl rfl (fun h128 => ?_) (fun h128 => ?_)
 refine wp_skip (zA (zG ?_))
 refine yH (zG (zH ?_))
 obtain ⟨u129, hr130, hl131⟩ := name_index2 (hr109.mono hlek120) (hr113.mono hlek120) (z := (s : Int)) s (by omega) (by omega) rfl
 have hm132 := hr130.max
 refine qD rfl (hl131 Tryz.underlying129 rfl sz59 ag59 rfl rfl) (qD rfl (zD (v := u129) rfl) (qe (zA (zG (zH ?_)))))
 refine qD rfl (zB (v := u129) rfl) (qD rfl (zT eU (v := u129) rfl hr130) (qD rfl (zB (v := (.int .i64 0)) rfl) (qe (zA ?_))))
 refine yH (yZ (fun (k : Nat) (en : Nat → Value) (W : World) => ∃ (env1 : Nat → Value) (j : Nat) (lv4 : Value) (ls4 : List Int) (sn4 : List (Int × Bool)) (GL4 : Pin), en = (upd (upd (upd (upd (upd (upd (upd (upd (upd (upd env1 0 (.pointer (some ⟨p, 0, none⟩))) 4 (.slice none 0 0)) 5 (.map (some m3))) 6 lv4) 9 (.int .i64 (k2 : Int))) 59 (.agg [u108, u112].toArray)) 60 (.int .i64 (s : Int))) 63 u129) 64 (.int .i64 ((pick2 s ((q.ns.getD (ls2.getD k2 0).toNat default).l) ((q.ns.getD (ls2.getD k2 0).toNat default).r)).length : Int))) 65 (.int .i64 (j : Int))) ∧ k = (pick2 s (q.ns.getD (ls2.getD k2 0).toNat default).l (q.ns.getD (ls2.getD k2 0).toNat default).r).length - j ∧ Ext noS G w GL4 W ∧ Pin.le GL3 GL4 ∧ (j ≤ (pick2 s (q.ns.getD (ls2.getD k2 0).toNat default).l (q.ns.getD (ls2.getD k2 0).toNat default).r).length) ∧ (PtIn q xs ls4 k2 (ls2.getD k2 0) (dzL (q.ns.getD (ls2.getD k2 0).toNat default).l (q.ns.getD (ls2.getD k2 0).toNat default).r s ++ (pick2 s (q.ns.getD (ls2.getD k2 0).toNat default).l (q.ns.getD (ls2.getD k2 0).toNat default).r).take j)) ∧ (SnOk sn4 ls4) ∧ (Own eInt 3 GL4 W w.heap.size lv4 (ls4)) ∧ (Mp (fun k : Int => Value.int .i64 k) (fun v : Bool => Value.bool v) W m3 (sn4)) ∧ (Pk 59 3 GL4 W p L R B mm q) ∧ (NP p L R B mm lv4.ownBlock)) _ ⟨_, 0, lv3, ls3, sn3, GL3, (zC (x := 65) (zC (x := 64) (zC (x := 63) (zC (x := 60) (zC (x := 59) (zC (x := 9) (zC (x := 6) (zC (x := 5) (zC (x := 4) (zX (x := 0) rfl) rfl) rfl) rfl) rfl) rfl) rfl) rfl) rfl) rfl), rfl, hX123, Pin.le_refl _, Nat.zero_le _, (by rw [List.take_zero, List.append_nil]; exact hin3), hsn3, hw124, hm125, hpk126, hnp127⟩ ?_)
 rintro k137 _ w138 ⟨env1, j, lv4, ls4, sn4, GL4, rfl, hk139, hX140, hlek137, hj, hin4, hsn4, hw141, hm142, hpk143, hnp144⟩
 have hpl5 := hin4.ok.len
 refine zG (zH ?_)
 refine qD rfl (xB rfl rfl) (qe (zA (zG ?_)))
 refine yN (p := ((j : Int) : Int) < ((pick2 s ((q.ns.getD (ls2.getD k2 0).toNat default).l) ((q.ns.getD (ls2.getD k2 0).toNat default).r)).length : Int)) rfl rfl (fun h145 => ?_) (fun h145 => ?_)
 refine wp_skip (zA (zG ?_))
 refine yH (zG (zH ?_))
 refine qD rfl (zN eU sz3 (v := u129) rfl rfl hr130 (by omega) (by omega)) (qD rfl (zO (r := (pick2 s ((q.ns.getD (ls2.getD k2 0).toNat default).l) ((q.ns.getD (ls2.getD k2 0).toNat default).r)).getD j 0) rfl ag3 (z := (j : Int)) rfl hr130 (dO hX140.pins hlek137) (by omega) (by omega)) (qD rfl (zD (v := (.int .i64 ((pick2 s ((q.ns.getD (ls2.getD k2 0).toNat default).l) ((q.ns.getD (ls2.getD k2 0).toNat default).r)).getD j 0))) rfl) (qe (zA (zG (zH ?_))))))
 refine qD rfl (zB (v := (.map (some m3))) rfl) (qD rfl (zB (v := (.int .i64 ((pick2 s ((q.ns.getD (ls2.getD k2 0).toNat default).l) ((q.ns.getD (ls2.getD k2 0).toNat default).r)).getD j 0))) rfl) (qD rfl (fC (k := ((pick2 s ((q.ns.getD (ls2.getD k2 0).toNat default).l) ((q.ns.getD (ls2.getD k2 0).toNat default).r)).getD j 0)) (qS dB) Tryz.underlying152 zr4 hm142 rfl rfl) (qD rfl (qR rfl) (qe (zA ?_)))))
 refine vN rfl rfl (fun h146 => ?_) (fun h146 => ?_)
 refine wp_skip (yQ (zA (zH ?_)))
 refine qD rfl (yX rfl rfl (by omega)) (qD rfl (zB (v := (.int .i64 ((j : Int) + 1))) rfl) (qe (yS (⟨_, ?_, _, rfl, _, j + 1, lv4, ls4, sn4, GL4, (zC (x := 65) (zC (x := 64) (zC (x := 63) (zC (x := 60) (zC (x := 59) (zC (x := 9) (zC (x := 6) (zC (x := 5) (zC (x := 4) (zX (x := 0) rfl) rfl) rfl) rfl) rfl) rfl) rfl) rfl) rfl) rfl), rfl, hX140, hlek137, (by omega), (by rw [qE _ 0 (show j < (pick2 s (q.ns.getD (ls2.getD k2 0).toNat default).l (q.ns.getD (ls2.getD k2 0).toNat default).r).length by omega), ← List.append_assoc]; exact hin4.seen (hsn4.yes h146)), hsn4, hw141, hm142, hpk143, hnp144⟩))))
 omega
 refine zG (zH ?_)
 refine qD rfl (zB (v := (.map (some m3))) rfl) (qD rfl (zB (v := (.int .i64 ((pick2 s ((q.ns.getD (ls2.getD k2 0).toNat default).l) ((q.ns.getD (ls2.getD k2 0).toNat default).r)).getD j 0))) rfl) (q0 rfl rfl rfl (qA (val := (fun v : Bool => Value.bool v)) (k := ((pick2 s ((q.ns.getD (ls2.getD k2 0).toNat default).l) ((q.ns.getD (ls2.getD k2 0).toNat default).r)).getD j 0)) (v := true) (qS dB) Tryz.underlying152 rfl rfl rfl hX140.pins hm142 (fun w147 hm148 hp149 hg150 hz151 => ?_))))
 have hX152 := hX140.write hp149 hg150 ((yC hlo12))
 have ho153 := hw141.keptA hg150 (yF hm142 hw141).symm
 have hpk154 := hpk143.kept hg150 hp149 hnp11
 refine qe (zA (zH ?_))
 refine qD rfl (zB (v := lv4) rfl) (qD rfl (zB (v := (.int .i64 ((pick2 s ((q.ns.getD (ls2.getD k2 0).toNat default).l) ((q.ns.getD (ls2.getD k2 0).toNat default).r)).getD j 0))) rfl) (qI rfl (yY (E := eInt) (e := 3) [(.int .i64 ((pick2 s ((q.ns.getD (ls2.getD k2 0).toNat default).l) ((q.ns.getD (ls2.getD k2 0).toNat default).r)).getD j 0))] [(pick2 s ((q.ns.getD (ls2.getD k2 0).toNat default).l) ((q.ns.getD (ls2.getD k2 0).toNat default).r)).getD j 0] eU sz3 zr3 (by exact xT (by rfl)) (yM (by rfl)) rfl rfl rfl rfl (by decide) hX152.pins (fun u155 w156 ho157 hp158 hl159 hk160 => ?_))))
 have hX161 := hX152.step hp158 hl159
 have ho162 := ho153.below hl159
 have hm163 := hm148.below hl159
 have hpk164 := hpk154.below hl159 hp158
 have ho171 := ho157.weaken hX152.size
 refine qI rfl (zZ (E := eInt) (v := lv4) (u := u155) 8 eU ap3 (by decide) rfl rfl hX161.pins ho162 ho171.src (by first | omega | (rw [List.nil_append]; omega) | (rw [List.length_nil]; omega) | (rw [List.length_append]; omega) | (simp; done) | (simp; omega) | (simp only [List.length_append, List.length_cons, List.length_nil]; omega)) (by first | omega | (rw [List.nil_append]; omega) | (rw [List.length_nil]; omega) | (rw [List.length_append]; omega) | (simp; done) | (simp; omega) | (simp only [List.length_append, List.length_cons, List.length_nil]; omega)) (hX161.size) (fun u172 w173 ho174 hp175 hg176 hw177 => ?_))
 have hX178 := hX161.write hp175 hg176 ((yD ho162))
 have hm180 := hm163.kept hg176 (yF hm163 ho162)
 have hpk181 := hpk164.kept hg176 hp175 hnp144
 have hnp183 := qQ hnp144 hpk164 hw177
 have hm184 := la1 ls4 ((pick2 s ((q.ns.getD (ls2.getD k2 0).toNat default).l) ((q.ns.getD (ls2.getD k2 0).toNat default).r)).getD j 0)
 refine qD rfl (zD (v := u172) rfl) (qe (yQ (zA (zH ?_))))
 refine qD rfl (yX rfl rfl (by omega)) (qD rfl (zB (v := (.int .i64 ((j : Int) + 1))) rfl) (qe (yS (⟨_, ?_, _, rfl, _, j + 1, u172, ls4 ++ ([(pick2 s ((q.ns.getD (ls2.getD k2 0).toNat default).l) ((q.ns.getD (ls2.getD k2 0).toNat default).r)).getD j 0]), putE sn4 ((pick2 s ((q.ns.getD (ls2.getD k2 0).toNat default).l) ((q.ns.getD (ls2.getD k2 0).toNat default).r)).getD j 0) true, GL4, (zC (x := 65) (zC (x := 64) (zC (x := 63) (zC (x := 60) (zC (x := 59) (zC (x := 9) (zC (x := 6) (zC (x := 5) (zC (x := 4) (zX (x := 0) rfl) rfl) rfl) rfl) rfl) rfl) rfl) rfl) rfl) rfl), rfl, hX178, hlek137, (by omega), (by rw [qE _ 0 (show j < (pick2 s (q.ns.getD (ls2.getD k2 0).toNat default).l (q.ns.getD (ls2.getD k2 0).toNat default).r).length by omega), ← List.append_assoc]; exact hin4.new hok (hsn4.no h146) (dz_in (by omega) (by omega))), hsn4.put, ho174, hm180, hpk181, hnp183⟩))))
 omega
 have hjn : j = (pick2 s (q.ns.getD (ls2.getD k2 0).toNat default).l (q.ns.getD (ls2.getD k2 0).toNat default).r).length := by omega
 rw [hjn, jI (Nat.le_refl _)] at hin4
 have hin5 : PtIn q xs ls4 k2 (ls2.getD k2 0) (dzL (q.ns.getD (ls2.getD k2 0).toNat default).l (q.ns.getD (ls2.getD k2 0).toNat default).r (s + 1)) := by rw [dz_next (by omega)]; exact hin4
 refine wp_exit (yI (yW (yV (yQ (zA (zH ?_))))))
 refine qD rfl (yX rfl rfl (by omega)) (qD rfl (zB (v := (.int .i64 ((s : Int) + 1))) rfl) (qe (yS (⟨_, ?_, _, rfl, _, s + 1, lv4, ls4, sn4, GL4, (zC (x := 60) (zC (x := 59) (zC (x := 9) (zC (x := 6) (zC (x := 5) (zC (x := 4) (zX (x := 0) rfl) rfl) rfl) rfl) rfl) rfl) rfl), rfl, hX140, (dN hlek120 hlek137), (by omega), hin5, hsn4, hw141, hm142, hpk143, hnp144⟩))))
 omega
 have hs2 : s = 2 := by omega
 rw [hs2] at hin3
 have hdone := hin3.done (fun o ho => ho)
 have hpl4 := hdone.kl
 refine wp_exit (yI (yW (yV (yQ (zA (zH ?_))))))
 refine qD rfl (zB (v := (.int .i64 (k2 : Int))) rfl) (qD rfl (yX rfl rfl (by omega)) (qD rfl (zD (v := (.int .i64 ((k2 : Int) + 1))) rfl) (qe (yS (⟨_, ?_, _, rfl, _, k2 + 1, lv3, ls3, sn3, GL3, (zC (x := 9) (zC (x := 6) (zC (x := 5) (zC (x := 4) (zX (x := 0) rfl) rfl) rfl) rfl) rfl), rfl, hX123, (dN hlek84 hlek120), hdone, hsn3, hw124, hm125, hpk126, hnp127⟩)))))
 omega
 refine wp_exit (yI (yW (yV (zA (zG (zH ?_))))))
 refine qD rfl (zB (v := lv2) rfl) (qD rfl (zD (v := lv2) rfl) (qe (zA ?_)))
 refine wp_ret (zY (zW (v := lv2) rfl rfl rfl ?_))
 have hkk : k2 = ls2.length := by omega
 rw [hkk] at hpt2
 exact ⟨_, _, _, rfl, hw88, hpt2, hX87⟩
end PA1
end Go.Proofs.YtajkbplgbikgdaaGreatDoor
namespace Go.Proofs.YtajkbplgbikgdaaGreatDoor
namespace SO1
open Go.RowKit Go.GL Go.Proofs
open B1
theorem cmpB_spec {w : World} {G : Pin} {p : Nat} {L R B : Value} {mm : PM} {q : PSt} (hP : Pins G w) (hpk : Pk 59 3 G w p L R B mm q) (hok : PoolOk q) {bx : Nat} (hbx : BxP G bx [.pointer (some ⟨p, 0, none⟩)]) {a b : Int} (ha : PlaceOk q a) (hb : PlaceOk q b) :
  Calls Tryz.prog 116 [(.int .i64 a), (.int .i64 b), (.pointer (some ⟨bx, 0, none⟩))].toArray w fun e w' => e = .returned (.int .i64 (cmpI (bn q a) (bn q b))) ∧ ∃ n os, w' = Go.Sort.grow (w.drewN n) os := by
 refine yG (n := 21) Tryz.func116 Tryz.ntmps116 rfl rfl ?_
 have hX0 := exr noS hP
 have hpin : PIn w (inP p L R B mm) p L R B mm := PIn.self
 have hml1 := pkl q
 have hml2 := pkb hok
 have ha0 := ha.1
 have ha1 := ha.2
 have hb0 := hb.1
 have hb1 := hb.2
 refine zG (zH ?_)
 refine qD rfl (zD (v := (.int .i64 0)) rfl) (qe (zA (zG ?_)))
 have hq3 := Gadd.pins hX0.pins B
 have hr4 := hpk.ob.read
 refine xD (S := fun wz => Pins G wz ∧ BxR wz p [L, R, B, (.map (some mm.f)), (.map (some mm.o)), (.map (some mm.c)), (.map (some mm.s)), (.map (some mm.n))] ∧ Pins (Gadd G w B) wz) (last := 16) (by kernel_rfl) rfl ?_
 have hl5 := bdr w
 have hp6 := hX0.pins.below hl5
 have hdr7 : w.drew.drawn = w.drawn + 1 := rfl
 have hX8 := hX0.step hp6 hl5
 have hpk9 := hpk.below hl5 hp6
 have hq10 := hq3.below hl5
 refine dT (i := 0) rfl rfl (by kernel_rfl) (fun _ hS => zS (u := (.pointer (some ⟨p, 0, none⟩))) ag54 rfl (hS.1 _ _ _ (hbx 0 _ rfl))) ⟨hX8.pins, hpk9.bx.reads, hq10⟩ ?_
 refine dT (i := 1) rfl rfl (by kernel_rfl) (fun _ _ => xC rfl) ⟨hX8.pins, hpk9.bx.reads, hq10⟩ ?_
 refine dT (i := 2) rfl rfl (by kernel_rfl) (fun _ _ => zR (k := 2) rfl eY rfl nz59 rfl) ⟨hX8.pins, hpk9.bx.reads, hq10⟩ ?_
 refine dT (i := 3) rfl rfl (by kernel_rfl) (fun _ hS => zS (u := B) ag59 rfl (hS.2.1 2 _ rfl)) ⟨hX8.pins, hpk9.bx.reads, hq10⟩ ?_
 refine dT (i := 4) rfl rfl (by kernel_rfl) (fun _ _ => zB (v := (.int .i64 a)) rfl) ⟨hX8.pins, hpk9.bx.reads, hq10⟩ ?_
 refine dT (i := 5) rfl rfl (by kernel_rfl) (fun _ _ => zN eU sz3 (v := B) rfl rfl hr4 (by omega) (by omega)) ⟨hX8.pins, hpk9.bx.reads, hq10⟩ ?_
 refine dT (i := 6) rfl rfl (by kernel_rfl) (fun _ hS => zO (r := q.bs.getD (a).toNat 0) rfl ag3 (z := a) rfl hr4 hS.2.2 (by omega) (by omega)) ⟨hX8.pins, hpk9.bx.reads, hq10⟩ ?_
 refine dT (i := 7) rfl rfl (by kernel_rfl) (fun _ hS => zS (u := (.pointer (some ⟨p, 0, none⟩))) ag54 rfl (hS.1 _ _ _ (hbx 0 _ rfl))) ⟨hX8.pins, hpk9.bx.reads, hq10⟩ ?_
 refine dT (i := 8) rfl rfl (by kernel_rfl) (fun _ _ => xC rfl) ⟨hX8.pins, hpk9.bx.reads, hq10⟩ ?_
 refine dT (i := 9) rfl rfl (by kernel_rfl) (fun _ _ => zR (k := 2) rfl eY rfl nz59 rfl) ⟨hX8.pins, hpk9.bx.reads, hq10⟩ ?_
 refine dT (i := 10) rfl rfl (by kernel_rfl) (fun _ hS => zS (u := B) ag59 rfl (hS.2.1 2 _ rfl)) ⟨hX8.pins, hpk9.bx.reads, hq10⟩ ?_
 refine dT (i := 11) rfl rfl (by kernel_rfl) (fun _ _ => zB (v := (.int .i64 b)) rfl) ⟨hX8.pins, hpk9.bx.reads, hq10⟩ ?_
 refine dT (i := 12) rfl rfl (by kernel_rfl) (fun _ _ => zN eU sz3 (v := B) rfl rfl hr4 (by omega) (by omega)) ⟨hX8.pins, hpk9.bx.reads, hq10⟩ ?_
 refine dT (i := 13) rfl rfl (by kernel_rfl) (fun _ hS => zO (r := q.bs.getD (b).toNat 0) rfl ag3 (z := b) rfl hr4 hS.2.2 (by omega) (by omega)) ⟨hX8.pins, hpk9.bx.reads, hq10⟩ ?_
 refine zQ (i := 14) (by kernel_rfl) (zU (i := 14) rfl rfl rfl (zI rfl _) (zM (vs := [(.int .i64 (q.bs.getD (a).toNat 0)), (.int .i64 (q.bs.getD (b).toNat 0))]) Tryz.func85 nm85 rfl rfl rfl ?_))
 refine dP (vG hX8.pins) ?_
 rintro _ _ ⟨rfl, rfl⟩
 refine ⟨_, rfl, ?_⟩
 refine ⟨fun _ => ⟨hX8.pins, hpk9.bx.reads, hq10⟩, ?_⟩
 refine dT (i := 15) rfl rfl (by kernel_rfl) (fun _ _ => zD (v := (.int .i64 (cmpI (q.bs.getD (a).toNat 0) (q.bs.getD (b).toNat 0)))) rfl) ⟨hX8.pins, hpk9.bx.reads, hq10⟩ ?_
 exact yP (by kernel_rfl) (zA (wp_ret (zY (zW (v := (.int .i64 (cmpI (q.bs.getD (a).toNat 0) (q.bs.getD (b).toNat 0)))) rfl rfl rfl (⟨rfl, grow_of hX8.below (by omega)⟩)))))
theorem cmpE_spec {w : World} {G : Pin} {x y : Ent} (hP : Pins G w) (hx : EntOk G x) (hy : EntOk G y) :
  Calls Tryz.prog 119 [(.agg [(.int .i64 x.id), x.l, x.r].toArray), (.agg [(.int .i64 y.id), y.l, y.r].toArray)].toArray w fun e w' => e = .returned (.int .i64 (orL [cmpL x.nd.l y.nd.l, cmpL x.nd.r y.nd.r])) ∧ ∃ n os, w' = Go.Sort.grow (w.drewN n) os := by
 refine yG (n := 21) Tryz.func119 Tryz.ntmps119 rfl rfl ?_
 have hX0 := exr noS hP
 refine zG (zH ?_)
 refine qI rfl (o_boxd [(.int .i64 x.id), x.l, x.r] (v := (.agg [(.int .i64 x.id), x.l, x.r].toArray)) rfl rfl hX0.pins (fun b1 w2 hdn7 hk3 hb4 hp5 hl6 => ?_))
 have hX8 := hX0.step hp5 hl6
 have hlo9 : w.heap.size ≤ b1 := by have := hX0.size; omega
 obtain ⟨G10, hle11, hX12, hbp13, hf14⟩ := hb4.shut hX8 hlo9
 refine qI rfl (o_boxd [(.int .i64 y.id), y.l, y.r] (v := (.agg [(.int .i64 y.id), y.l, y.r].toArray)) rfl rfl hX12.pins (fun b15 w16 hdn21 hk17 hb18 hp19 hl20 => ?_))
 have hX22 := hX12.step hp19 hl20
 have hlo23 : w.heap.size ≤ b15 := by have := hX12.size; omega
 obtain ⟨G24, hle25, hX26, hbp27, hf28⟩ := hb18.shut hX22 hlo23
 refine qD rfl (zD (v := (.int .i64 0)) rfl) (qe (zA (zG ?_)))
 refine xD (S := fun wz => Pins G24 wz) (last := 17) (by kernel_rfl) rfl ?_
 have hl29 := bdr w16
 have hp30 := hX26.pins.below hl29
 have hdr31 : w16.drew.drawn = w16.drawn + 1 := rfl
 have hX32 := hX26.step hp30 hl29
 refine dT (i := 0) rfl rfl (by kernel_rfl) (fun _ _ => zR (k := 1) rfl dG rfl nz65 rfl) hX32.pins ?_
 refine dT (i := 1) rfl rfl (by kernel_rfl) (fun _ _ => zR (k := 1) rfl eX rfl nz59 rfl) hX32.pins ?_
 refine dT (i := 2) rfl rfl (by kernel_rfl) (fun _ hS => zS (u := x.l) ag59 rfl ((dO hS hle25) _ _ _ (hbp13 1 _ rfl))) hX32.pins ?_
 refine dT (i := 3) rfl rfl (by kernel_rfl) (fun _ _ => zR (k := 1) rfl dG rfl nz65 rfl) hX32.pins ?_
 refine dT (i := 4) rfl rfl (by kernel_rfl) (fun _ _ => zR (k := 1) rfl eX rfl nz59 rfl) hX32.pins ?_
 refine dT (i := 5) rfl rfl (by kernel_rfl) (fun _ hS => zS (u := y.l) ag59 rfl (hS _ _ _ (hbp27 1 _ rfl))) hX32.pins ?_
 refine dT (i := 7) rfl rfl (by kernel_rfl) (fun _ _ => zR (k := 1) rfl dG rfl nz65 rfl) hX32.pins ?_
 refine dT (i := 8) rfl rfl (by kernel_rfl) (fun _ _ => zR (k := 2) rfl eX rfl nz59 rfl) hX32.pins ?_
 refine dT (i := 9) rfl rfl (by kernel_rfl) (fun _ hS => zS (u := x.r) ag59 rfl ((dO hS hle25) _ _ _ (hbp13 2 _ rfl))) hX32.pins ?_
 refine dT (i := 10) rfl rfl (by kernel_rfl) (fun _ _ => zR (k := 1) rfl dG rfl nz65 rfl) hX32.pins ?_
 refine dT (i := 11) rfl rfl (by kernel_rfl) (fun _ _ => zR (k := 2) rfl eX rfl nz59 rfl) hX32.pins ?_
 refine dT (i := 12) rfl rfl (by kernel_rfl) (fun _ hS => zS (u := y.r) ag59 rfl (hS _ _ _ (hbp27 2 _ rfl))) hX32.pins ?_
 refine zQ (i := 6) (by kernel_rfl) (zU (i := 6) rfl rfl rfl (zI rfl _) (zM (vs := [x.l, y.l]) Tryz.func86 nm86 rfl rfl rfl ?_))
 refine dP (jJ hX32.pins (hx.1.mono (dN hle11 hle25)) (hy.1.mono (dN hle11 hle25))) ?_
 rintro _ _ ⟨rfl, rfl⟩
 refine ⟨_, rfl, ?_⟩
 refine ⟨fun _ => hX32.pins, ?_⟩
 refine zQ (i := 13) (by kernel_rfl) (zU (i := 13) rfl rfl rfl (zI rfl _) (zM (vs := [x.r, y.r]) Tryz.func86 nm86 rfl rfl rfl ?_))
 refine dP (jJ hX32.pins (hx.2.1.mono (dN hle11 hle25)) (hy.2.1.mono (dN hle11 hle25))) ?_
 rintro _ _ ⟨rfl, rfl⟩
 refine ⟨_, rfl, ?_⟩
 refine ⟨fun _ => hX32.pins, ?_⟩
 refine zQ (i := 14) (by kernel_rfl) (zU (i := 14) rfl rfl rfl (zI rfl _) (o_buildFd (E := eInt) (e := 3) [(.int .i64 (cmpL x.nd.l y.nd.l)), (.int .i64 (cmpL x.nd.r y.nd.r))] [cmpL x.nd.l y.nd.l, cmpL x.nd.r y.nd.r] eU sz3 zr3 (by exact reps2 (by rfl) (by rfl)) (jE (by rfl) (by rfl)) rfl rfl rfl rfl (by decide) hX32.pins (fun u33 w34 hdn39 ho35 hp36 hl37 hk38 => ?_)))
 have hX40 := hX32.step hp36 hl37
 have ho41 := ho35.weaken hX32.size
 refine ⟨fun _ => hX40.pins, ?_⟩
 obtain ⟨G42, hle45, hX44, hr43, hf46⟩ := ho41.sealed hX40
 refine zQ (i := 15) (by kernel_rfl) (zU (i := 15) rfl rfl rfl (zI rfl _) (zM (vs := [u33]) Tryz.func84 nm84 rfl rfl rfl ?_))
 refine dP (nL hX44.pins hr43) ?_
 rintro _ _ ⟨rfl, rfl⟩
 refine ⟨_, rfl, ?_⟩
 refine ⟨fun _ => (dO hX44.pins hle45), ?_⟩
 refine dT (i := 16) rfl rfl (by kernel_rfl) (fun _ _ => zD (v := (.int .i64 (orL ([cmpL x.nd.l y.nd.l, cmpL x.nd.r y.nd.r])))) rfl) (dO hX44.pins hle45) ?_
 exact yP (by kernel_rfl) (zA (wp_ret (zY (zW (v := (.int .i64 (orL ([cmpL x.nd.l y.nd.l, cmpL x.nd.r y.nd.r])))) rfl rfl rfl (⟨rfl, grow_of hX44.below (by omega)⟩)))))
theorem sortB_spec {w : World} {G : Pin} {p : Nat} {L R B : Value} {mm : PM} {q : PSt} (hP : Pins G w) (hpk : Pk 59 3 G w p L R B mm q) (hok : PoolOk q) {bx base : Nat} (hbx : BxP G bx [.pointer (some ⟨p, 0, none⟩)]) {v : Value} {zs : List Int} (hv : Own eInt 3 G w base v zs) (hz : ∀ z ∈ zs, PlaceOk q z) (hnp : NP p L R B mm v.ownBlock) (hl : zs.length ≤ 1048576) :
  Calls Tryz.prog 115 [v, (.func (.func 116) #[] #[(.pointer (some ⟨bx, 0, none⟩))])].toArray w fun en w' => ∃ ys : List Int, en = .returned (.tuple #[]) ∧ Own eInt 3 G w' base v ys ∧ ys.Perm zs ∧ (∀ i j, i < j → j < ys.length → bn q (ys.getD i 0) ≤ bn q (ys.getD j 0)) ∧ Ext (inO v.ownBlock) G w G w' := by
 have hnone : ∀ a cap, v = .slice a 0 cap → zs = [] → Calls Tryz.prog 115 [v, (.func (.func 116) #[] #[(.pointer (some ⟨bx, 0, none⟩))])].toArray w fun en w' => ∃ ys : List Int, en = .returned (.tuple #[]) ∧ Own eInt 3 G w' base v ys ∧ ys.Perm zs ∧ (∀ i j, i < j → j < ys.length → bn q (ys.getD i 0) ≤ bn q (ys.getD j 0)) ∧ Ext (inO v.ownBlock) G w G w' := by
  rintro a cap rfl rfl
  refine (Tryz.slices_SortFunc_none (α := Int) a cap _ w).mono ?_
  rintro en w' ⟨rfl, rfl⟩
  exact ⟨[], rfl, hv, List.Perm.refl _, fun i j _ hj => absurd hj (Nat.not_lt_zero j), Ext.refl hP⟩
 rcases tN hv with ⟨hv0, hz0⟩ | ⟨g, cap, hvg⟩
 ·exact hnone _ _ hv0 hz0
 by_cases h0 : zs.length = 0
 ·exact hnone _ _ (by rw [hvg, h0]) (List.eq_nil_of_length_eq_zero h0)
 subst hvg
 letI : Inhabited (Plc q) := ⟨⟨zs.getD 0 0, hz _ (yT (by omega))⟩⟩
 obtain ⟨_, h1, h2, h3⟩ := tM hv
 obtain ⟨d, hd⟩ : ∃ d, d = (plcs q zs hz).toArray := ⟨_, rfl⟩
 have hdm : d.map (·.1) = zs.toArray := by rw [hd]; simp only [List.map_toArray]; rw [plcs_val hz]
 have hds : d.size = zs.length := by have := congrArg Array.size hdm; simpa using this
 have hH : Go.Sort.Holds (fun x : Plc q => Value.int .i64 x.1) w g 0 d := holds_map (enc' := Value.int .i64) (f := fun x : Plc q => x.1) (fun _ => rfl) (by rw [hdm]; exact h3)
 have hcmp : Go.Proofs.CmpLays1 Tryz.prog 116 #[(.pointer (some ⟨bx, 0, none⟩))] (fun x : Plc q => Value.int .i64 x.1) (cfB q) g 0 d.size w := fun m os dk hs x y => by
  have hgr : w.grownBy (Go.Proofs.sortWorld (fun x : Plc q => Value.int .i64 x.1) w g 0 m dk os) (some g) := by
   unfold Go.Proofs.sortWorld
   rw [mP (enc := fun x : Plc q => Value.int .i64 x.1) (enc' := id) (f := fun x : Plc q => Value.int .i64 x.1) (fun _ => rfl)]
   exact fI
  have hx := Ext.one (hP.grown hgr (fun k hk => by cases hk; exact hv.free g rfl)) hgr
  exact cmpB_spec hx.pins (hpk.extS hx fun k hk hs => hnp k hs hk) hok hbx x.2 y.2
 have hcon := Tryz.slices_SortFunc (fun x : Plc q => Value.int .i64 x.1) (fun _ => rfl) (cfB q) (swoB q) 116 #[(.pointer (some ⟨bx, 0, none⟩))] g 0 cap d w (Go.Proofs.enters_of Tryz.func116 (by kernel_rfl) rfl) hcmp hH h1 (by omega)
 rw [hds] at hcon
 refine hcon.mono ?_
 rintro en w' ⟨rfl, d', n, os, hp, hs, hw⟩
 rw [← hds] at hp hs
 obtain ⟨hsz, hpl⟩ := pO hp
 have hyl : (d'.map (·.1)).toList.length = zs.length := by simp [hsz, hds]
 obtain ⟨a, b, c⟩ := sJ (w' := w') (ys := (d'.map (·.1)).toList) (d := d'.map (·.1)) (os := os) (m := n) hv hP (by rw [hw]; unfold Go.Proofs.sortWorld; rw [mP (enc := fun x : Plc q => Value.int .i64 x.1) (enc' := Value.int .i64) (f := fun x : Plc q => x.1) (fun _ => rfl)]) (by simp [hsz, hds]) (List.take_length ..)
 rw [hyl] at a
 refine ⟨_, rfl, a, ?_, fun i j hij hj => ?_, Ext.one b c⟩
 ·have h5 := hpl.map (·.1)
  have e2 : d.toList.map (·.1) = zs := by rw [hd]; exact plcs_val hz
  rw [e2] at h5; simpa using h5
 ·rw [hyl] at hj
  have h5 := hs i j (Nat.zero_le _) hij (by omega)
  rw [ltB] at h5
  have g1 : ∀ i, i < zs.length → (d'.map (·.1)).toList.getD i 0 = (d'[i]!).1 := fun i hi => by
   rw [getElem!_pos d' i (by omega)]
   simp [List.getD, show i < d'.size by omega]
  rw [g1 i (by omega), g1 j hj]
  have := of_decide_eq_false h5
  omega
theorem sortE_spec {w : World} {G : Pin} {base lo hi : Nat} {v : Value} {es : List Ent} {LV : List Leaf} (hP : Pins G w) (hv : Own eEnt 157 G w base v es) (hL : Lvs 3 G w lo hi LV) (hm : ∀ x ∈ es, (x.l, x.nd.l) ∈ LV ∧ (x.r, x.nd.r) ∈ LV) (hap : ApL LV v.ownBlock) (hl : es.length ≤ 1048576) :
  Calls Tryz.prog 118 [v, (.func (.func 119) #[] #[])].toArray w fun en w' => ∃ ys : List Ent, en = .returned (.tuple #[]) ∧ Own eEnt 157 G w' base v ys ∧ ys.Perm es ∧ (∀ i j, i < j → j < ys.length → ¬ aheadI (ys.getD j default).nd (ys.getD i default).nd < 0) ∧ Ext (inO v.ownBlock) G w G w' := by
 have hnone : ∀ a cap, v = .slice a 0 cap → es = [] → Calls Tryz.prog 118 [v, (.func (.func 119) #[] #[])].toArray w fun en w' => ∃ ys : List Ent, en = .returned (.tuple #[]) ∧ Own eEnt 157 G w' base v ys ∧ ys.Perm es ∧ (∀ i j, i < j → j < ys.length → ¬ aheadI (ys.getD j default).nd (ys.getD i default).nd < 0) ∧ Ext (inO v.ownBlock) G w G w' := by
  rintro a cap rfl rfl
  refine (Tryz.slices_SortFunc_ent_none (α := Int) a cap _ w).mono ?_
  rintro en w' ⟨rfl, rfl⟩
  exact ⟨[], rfl, hv, List.Perm.refl _, fun i j _ hj => absurd hj (Nat.not_lt_zero j), Ext.refl hP⟩
 rcases own_casesF hv with ⟨hv0, hz0⟩ | ⟨g, cap, hvg⟩
 ·exact hnone _ _ hv0 hz0
 by_cases h0 : es.length = 0
 ·exact hnone _ _ (by rw [hvg, h0]) (List.eq_nil_of_length_eq_zero h0)
 subst hvg
 have hz : ∀ x ∈ es, EntOk (GLv G w LV) x := fun x hx => ⟨hL.read (hm x hx).1, hL.read (hm x hx).2, (hL.own _ (hm x hx).1).one, (hL.own _ (hm x hx).2).one⟩
 letI : Inhabited (EntS (GLv G w LV)) := ⟨⟨es.getD 0 default, hz _ (yT (by omega))⟩⟩
 obtain ⟨_, h1, cells, hcl, hr, hH0⟩ := own_cellsF hv
 obtain ⟨d, hd⟩ : ∃ d, d = (ents (GLv G w LV) es hz).toArray := ⟨_, rfl⟩
 have hdm : d.toList.map (·.1) = es := by rw [hd]; exact ents_val hz
 have hds : d.size = es.length := by have := congrArg List.length hdm; simpa using this
 have hdi : ∀ i, i < d.size → (d[i]!).1 = es.getD i default := fun i hi => by
  rw [getElem!_pos d i hi]
  have := congrArg (fun l : List Ent => l[i]?) hdm
  simp only [List.getElem?_map, Array.getElem?_toList, Array.getElem?_eq_getElem hi, Option.map_some] at this
  simp [List.getD, ← this]
 have hflat : Go.Sort.flatK (encE (G := GLv G w LV)) 3 d = cells.toArray := flatK_cells (by rw [hds]; exact hcl) fun i hi => by
  have h4 := hr i (es.getD i default) (by simp [List.getD, show i < es.length by omega])
  have h5 : (cells.drop (i * 3)).take 3 = [.int .i64 (es.getD i default).id, (es.getD i default).l, (es.getD i default).r] := h4.1
  rw [h5, ← hdi i hi]; rfl
 have hH : Go.Sort.HoldsK (encE (G := GLv G w LV)) 3 w g 0 d := by unfold Go.Sort.HoldsK; rw [hflat]; exact hH0
 have hcmp : Go.Proofs.CmpLays Tryz.prog 119 #[] (encE (G := GLv G w LV)) 3 cfE g 0 d.size w := fun m os dk hs x y => by
  have hgr : w.grownBy (Go.Proofs.sortWorldK (encE (G := GLv G w LV)) 3 w g 0 m dk os) (some g) := by
   unfold Go.Proofs.sortWorldK Go.Sort.putRowK
   exact fI
  have hpp : Pins (GLv G w LV) (Go.Proofs.sortWorldK (encE (G := GLv G w LV)) 3 w g 0 m dk os) := (GLv.pins hP).grown hgr fun k hk o u hG => by
   cases hk
   rcases hG with hG | ⟨⟨p, hp, hpo⟩, _⟩
   ·exact hv.free g rfl o u hG
   ·exact hap p hp g hpo rfl
  exact cmpE_spec hpp x.2 y.2
 have hcon := Tryz.slices_SortFunc_ent 3 (Go.GL.run_isAgg (by kernel_rfl)) (Go.GL.run_sizeOf (by kernel_rfl)) (encE (G := GLv G w LV)) (fun _ => rfl) (fun x u hu => by
  simp only [encE, List.mem_cons, List.not_mem_nil, or_false] at hu
  rcases hu with rfl | rfl | rfl
  ·rfl
  ·exact x.2.2.2.1
  ·exact x.2.2.2.2) cfE (swoE _) 119 #[] g 0 cap d w (Go.Proofs.enters_of Tryz.func119 (by kernel_rfl) rfl) hcmp hH h1 (by omega)
 rw [hds] at hcon
 refine hcon.mono ?_
 rintro en w' ⟨rfl, d', n, os, hp, hs, hw⟩
 rw [← hds] at hp hs
 obtain ⟨hsz, hpl⟩ := pO hp
 have hyl : (d'.toList.map (·.1)).length = es.length := by simp [hsz, hds]
 have g1 : ∀ i, i < es.length → (d'.toList.map (·.1)).getD i default = (d'[i]!).1 := fun i hi => by
  rw [getElem!_pos d' i (by omega)]
  simp [List.getD, show i < d'.size by omega]
 obtain ⟨a, b, c⟩ := own_putF (ys := d'.toList.map (·.1)) (F := Go.Sort.flatK (encE (G := GLv G w LV)) 3 d') (os := os) (m := n) hv hP hw (by rw [Go.Sort.size_flatK, hsz, hds]; rfl) hyl (fun i y hy => by
  have hi : i < es.length := by have := (List.getElem?_eq_some_iff.1 hy).1; omega
  have e1 := g1 i hi
  have e0 : (d'.toList.map (·.1)).getD i default = y := by rw [List.getD_eq_getElem?_getD, hy]; rfl
  have e2 : y = (d'[i]!).1 := e0.symm.trans e1
  have h5 := chunkK (enc := encE (G := GLv G w LV)) (k := 3) (fun _ => rfl) (d := d') (i := i) (by omega)
  refine ⟨h5.trans ?_, ?_, ?_⟩
  ·rw [e2]; rfl
  ·rw [e2]; exact (d'[i]!).2.2.2.1
  ·rw [e2]; exact (d'[i]!).2.2.2.2)
 refine ⟨_, rfl, a, ?_, fun i j hij hj => ?_, Ext.one b c⟩
 ·have h5 := hpl.map (·.1)
  rw [hdm] at h5; exact h5
 ·rw [hyl] at hj
  have h5 := hs i j (Nat.zero_le _) hij (by omega)
  rw [ltE] at h5
  rw [g1 i (by omega), g1 j hj]
  exact of_decide_eq_false h5
end SO1
end Go.Proofs.YtajkbplgbikgdaaGreatDoor
namespace Go.Proofs.YtajkbplgbikgdaaGreatDoor
namespace OD1
open Go.RowKit Go.GL Go.Proofs
open B1 PO1 PA1 SO1
theorem mk3 : (Tryz.prog.info? 3).map (fun i => (i.size, i.bytes, i.zero)) = some (1, 8, some (.int .i64 0)) := by kernel_rfl
theorem mk65 : (Tryz.prog.info? 65).map (fun i => (i.size, i.bytes, i.zero)) = some (2, 48, some (.agg #[(.slice none 0 0), (.slice none 0 0)])) := by kernel_rfl
theorem pl157 : (Tryz.prog.underlying 157).bind (placesD Tryz.prog) = some [(0, 1), (1, 2)] := by kernel_rfl
theorem pl65 : (Tryz.prog.underlying 65).bind (placesD Tryz.prog) = some [(0, 1), (1, 1)] := by kernel_rfl
theorem rJ {w : World} {G : Pin} {v : Value} {xs : List Int} {m : Nat} {rk : List (Int × Int)} (hP : Pins G w) (hv : RSl eInt G v xs) (hmp : Mp (fun k : Int => Value.int .i64 k) (fun v : Int => Value.int .i64 v) w m rk) (hs : xs.length ≤ 1048576) :
  Calls Tryz.prog 117 [v, (.map (some m))].toArray w fun e w' => ∃ (u : Value) (G' : Pin), e = .returned u ∧ Own eInt 3 G' w' w.heap.size u (sortM (xs.map (rkI rk))) ∧ Ext noS G w G' w' := by
 refine yG (n := 28) Tryz.func117 Tryz.ntmps117 rfl rfl ?_
 have hX0 := exr noS hP
 have hm := hv.max
 have hal : (xs.map (rkI rk)).length = xs.length := List.length_map ..
 have hrl : (List.replicate xs.length (0 : Int)).length = xs.length := List.length_replicate
 refine zG (zH ?_)
 refine qD rfl (zD (v := (.slice none 0 0)) rfl) (qe (zA (zG (zH ?_))))
 refine qD rfl (zB (v := v) rfl) (qD rfl (zT eU (v := v) rfl hv) (qI rfl (tP (E := eInt) 0 8 (.int .i64 0) eU mk3 (fun _ => rfl) rfl rfl hX0.pins (by omega) (by omega) (by omega) (fun u1 w2 ho3 hp4 hl5 hk6 => ?_))))
 have hX7 := hX0.step hp4 hl5
 have hm8 := hmp.below hl5
 have ho9 : Own eInt 3 G w2 w.heap.size u1 (List.replicate xs.length 0) := ho3.weaken hX0.size
 have hm10 : (List.replicate xs.length 0).length = xs.length := List.length_replicate ..
 refine qD rfl (zD (v := u1) rfl) (qe (zA (zG (zG (zH ?_)))))
 refine qD rfl (zB (v := v) rfl) (qD rfl (zT eU (v := v) rfl hv) (qD rfl (zB (v := (.int .i64 0)) rfl) (qe (zA ?_))))
 refine yH (yZ (fun (k : Nat) (en : Nat → Value) (W : World) => ∃ (env1 : Nat → Value) (j : Nat) (os : List Int), en = (upd (upd (upd (upd (upd (upd env1 1 (.map (some m))) 4 (.slice none 0 0)) 5 u1) 11 v) 12 (.int .i64 (xs.length : Int))) 13 (.int .i64 (j : Int))) ∧ k = xs.length - j ∧ Ext noS G w G W ∧ (j ≤ xs.length) ∧ (os = (xs.map (rkI rk)).take j ++ (List.replicate xs.length 0).drop j) ∧ (os.length = xs.length) ∧ (Own eInt 3 G W w.heap.size u1 (os)) ∧ (Mp (fun k : Int => Value.int .i64 k) (fun v : Int => Value.int .i64 v) W m (rk))) _ ⟨_, 0, List.replicate xs.length 0, (zC (x := 13) (zC (x := 12) (zC (x := 11) (zC (x := 5) (zC (x := 4) (zX (x := 1) rfl) rfl) rfl) rfl) rfl) rfl), rfl, hX7, Nat.zero_le _, rfl, hrl, ho9, hm8⟩ ?_)
 rintro k11 _ w12 ⟨env1, j, os, rfl, hk13, hX14, hj, hr, hol, hw15, hm16⟩
 refine zG (zH ?_)
 refine qD rfl (xB rfl rfl) (qe (zA (zG ?_)))
 refine yN (p := ((j : Int) : Int) < (xs.length : Int)) rfl rfl (fun h17 => ?_) (fun h17 => ?_)
 refine wp_skip (zA (zG ?_))
 refine yH (zG (zH ?_))
 refine qD rfl (zB (v := (.int .i64 (j : Int))) rfl) (qD rfl (zN eU sz3 (v := v) rfl rfl hv (by omega) (by omega)) (qD rfl (zO (r := xs.getD j 0) rfl ag3 (z := (j : Int)) rfl hv hX14.pins (by omega) (by omega)) (qD rfl (zD (v := (.int .i64 (j : Int))) rfl) (qD rfl (zD (v := (.int .i64 (xs.getD j 0))) rfl) (qe (zA (zH ?_)))))))
 refine qD rfl (zB (v := u1) rfl) (qD rfl (zB (v := (.int .i64 (j : Int))) rfl) (qD rfl (zB (v := (.map (some m))) rfl) (qD rfl (zB (v := (.int .i64 (xs.getD j 0))) rfl) (qD rfl (qN (k := (xs.getD j 0)) (qS dB) dF zr3 hm16 rfl rfl) (qD rfl (zN eU sz3 (v := u1) rfl rfl hw15.read (by omega) (by omega)) (q0 rfl rfl rfl (vX (E := eInt) (v := u1) (u := (.int .i64 ((Go.GL.look rk (xs.getD j 0)).getD 0))) (z := (j : Int)) ((Go.GL.look rk (xs.getD j 0)).getD 0) sz3 rfl rfl rfl rfl hX14.pins hw15 (by omega) (by omega) (fun w18 ho19 hp20 hg21 hz22 => ?_))))))))
 have hX23 := hX14.write hp20 hg21 ((yD hw15))
 have hm24 := hm16.kept hg21 (yF hm16 hw15)
 refine qe (yQ (zA (zH ?_)))
 refine qD rfl (yX rfl rfl (by omega)) (qD rfl (zB (v := (.int .i64 ((j : Int) + 1))) rfl) (qe (yS (⟨_, ?_, _, rfl, _, j + 1, (os).set j ((Go.GL.look rk (xs.getD j 0)).getD 0), (zC (x := 13) (zC (x := 12) (zC (x := 11) (zC (x := 5) (zC (x := 4) (zX (x := 1) rfl) rfl) rfl) rfl) rfl) rfl), rfl, hX23, (by omega), (by rw [hr]; exact cur_set 0 (by omega) (by omega) (rk_getD (by omega))), ((List.length_set ..).trans hol), ho19, hm24⟩))))
 omega
 refine wp_exit (yI (yW (yV (zA (zG (zH ?_))))))
 refine qD rfl (zB (v := u1) rfl) (qI rfl (zM (vs := [u1]) Tryz.func177 nm177 rfl rfl rfl ?_))
 refine dP (mI hX14.pins hw15 (by omega)) ?_
 rintro _ w26 ⟨G25, rfl, ho27, hx28⟩
 refine ⟨_, rfl, ?_⟩
 have hX29 := hX14.trans hx28 (fun i hi => (yD hw15) i hi)
 have hm31 := vI os
 refine qe (zA (zG (zH ?_)))
 refine qD rfl (zB (v := u1) rfl) (qD rfl (zD (v := u1) rfl) (qe (zA ?_)))
 refine wp_ret (zY (zW (v := u1) rfl rfl rfl ?_))
 rw [cur_end (by omega) (by omega)] at hr
 exact ⟨_, _, rfl, (by rw [← hr]; exact ho27), hX29⟩
theorem order_spec {w : World} {G : Pin} {p : Nat} {L R B : Value} {mm : PM} {q : PSt} (hP : Pins G w) (hpk : Pk 59 3 G w p L R B mm q) (hok : PoolOk q) {x : Value} {xs : List Int} (hx : RSl eInt G x xs) (hr : ∀ i, i < xs.length → PlaceOk q (xs.getD i 0)) (hxl : xs.length ≤ 1048576) :
  Calls Tryz.prog 71 [(.pointer (some ⟨p, 0, none⟩)), x].toArray w fun e w' => ∃ (u v : Value) (ls : List Int) (ns : List Nd) (zs : List Int) (G' : Pin), e = .returned (.tuple #[u, v]) ∧ Own eInt 3 G' w' w.heap.size u ls ∧ DForm 65 3 G' w' w.heap.size w'.heap.size v ns ∧ OrI q zs ls ls.length ns ∧ PtOk q xs zs zs.length ∧ Ext noS G w G' w' := by
 refine yG (n := 122) Tryz.func71 Tryz.ntmps71 rfl rfl ?_
 have hX0 := exr noS hP
 have hpin : PIn w (inP p L R B mm) p L R B mm := PIn.self
 have hml1 := pkl q
 have hml2 := pkb hok
 have hlv0 : Lvs 3 G w w.heap.size w.heap.size [] := Lvs.nil
 have hm := hx.max
 refine zG (zH ?_)
 refine qI rfl (xW [(.pointer (some ⟨p, 0, none⟩))] (v := (.pointer (some ⟨p, 0, none⟩))) rfl rfl hX0.pins (fun b3 w4 hk5 hb6 hp7 hl8 => ?_))
 have hX9 := hX0.step hp7 hl8
 have hlv10 := (hlv0.below hl8).top
 have hpk11 := hpk.below hl8 hp7
 have ha16 : ApL [] (some b3) := ApL.fresh hlv0 (fun k hk => by rw [(congrArg some hk5)] at hk; cases hk; exact Nat.le_refl _)
 have ha17 := hpk.new (x := (some b3)) (fun k hk => by rw [(congrArg some hk5)] at hk; cases hk; exact Nat.le_refl _)
 have hlo18 : w.heap.size ≤ b3 := by have := hX0.size; omega
 obtain ⟨G19, hle20, hX21, hbp22, hf23⟩ := hb6.shut hX9 hlo18
 have hlv24 := hlv10.more hle20 hf23 ha16
 have hpk25 := hpk11.more hle20 hf23 ha17
 refine qD rfl (zD (v := (.slice none 0 0)) rfl) (qD rfl (zD (v := (.slice none 0 0)) rfl) (qe (zA (zG (zH ?_)))))
 refine qD rfl (zS (u := (.pointer (some ⟨p, 0, none⟩))) ag54 rfl (hX21.pins _ _ _ (hbp22 0 _ rfl))) (qD rfl (zB (v := x) rfl) (qI rfl (zM (vs := [(.pointer (some ⟨p, 0, none⟩)), x]) Tryz.func70 nm70 rfl rfl rfl ?_)))
 refine dP (mR hX21.pins hpk25 hok (hx.mono hle20) hr hxl) ?_
 rintro _ w29 ⟨u26, zs27, G28, rfl, ho30, hpt31, hx32⟩
 refine ⟨_, rfl, ?_⟩
 have hX33 := hX21.tr hx32
 have hlv34 := (hlv24.ext hx32).top
 have hpk35 := hpk25.ext hx32
 have ha36 : ApL [] u26.ownBlock := ApL.fresh hlv24 (fun k hk => (ho30.lt k hk).1)
 have hnp37 := hpk25.new (x := u26.ownBlock) (fun k hk => (ho30.lt k hk).1)
 have ho38 := ho30.weaken hX21.size
 have hql39 := hpt31.len
 refine qD rfl (zD (v := u26) rfl) (qe (zA (zG (zH ?_))))
 refine qD rfl (zB (v := u26) rfl) (qD rfl (r_makeFunc [(.pointer (some ⟨b3, 0, none⟩))] rfl) (qI rfl (zM (vs := [u26, (.func (.func 116) #[] #[(.pointer (some ⟨b3, 0, none⟩))])]) Tryz.func115 nm115 rfl rfl rfl ?_)))
 refine dP (sortB_spec hX33.pins hpk35 hok (hbp22.mono hx32.le) ho38 hpt31.pl hnp37 (by omega)) ?_
 rintro _ w41 ⟨ys40, rfl, ho42, hperm43, hsrt44, hx45⟩
 refine ⟨_, rfl, ?_⟩
 have hX46 := hX33.trans hx45 (fun i hi => (yD ho38) i hi)
 have hlv47 := Lvs.turned hlv34 hx45 ha36
 have hpk48 := hpk35.extS hx45 (fun k hk hx => hnp37 k hx hk)
 have hm49 := hperm43.length_eq
 refine qe (zA (zG (zH ?_)))
 refine qI rfl (jF (fun k : Int => Value.int .i64 k) (fun v : Int => Value.int .i64 v) hX46.pins (fun m50 w51 hk52 hm53 hp54 hl55 => ?_))
 have hX56 := hX46.step hp54 hl55
 have ho57 := ho42.below hl55
 have hlv58 := (hlv47.below hl55).top
 have hpk59 := hpk48.below hl55 hp54
 have hnp60 := hpk48.new (x := some m50) (fun k hk => by cases hk; omega)
 have hlo61 : w.heap.size ≤ m50 := by have := hX46.size; omega
 refine qD rfl (zD (v := (.map (some m50))) rfl) (qe (zA (zG (zH ?_))))
 refine qD rfl (zB (v := u26) rfl) (qD rfl (zT eU (v := u26) rfl ho57.read) (qI rfl (sL (E := eVal2) eV mk65 rfl rfl hX56.pins (by omega) (by omega) (by omega) (fun u62 w63 ho64 hp65 hl66 hk67 => ?_))))
 have hX68 := hX56.step hp65 hl66
 have ho69 := ho57.below hl66
 have hlv70 := (hlv58.below hl66).top
 have hm71 := hm53.below hl66
 have hpk72 := hpk59.below hl66 hp65
 have ha73 : Apart u62.ownBlock u26.ownBlock := zK hk67 ho57.lt
 have ha78 : ApL [] u62.ownBlock := ApL.fresh hlv58 (fun k hk => by rw [hk67] at hk; cases hk; exact Nat.le_refl _)
 have ha79 := hpk59.new (x := u62.ownBlock) (fun k hk => by rw [hk67] at hk; cases hk; exact Nat.le_refl _)
 have ho80 := ho64.weaken hX56.size
 refine qD rfl (zD (v := u62) rfl) (qe (zA (zG (zG (zH ?_)))))
 refine qD rfl (zD (v := (.int .i64 0)) rfl) (qe (zA ?_))
 refine yH (yZ (fun (k : Nat) (en : Nat → Value) (W : World) => ∃ (env1 : Nat → Value) (n : Nat) (nv : Value) (done : List Ent) (ps : List (Value × Value)) (rk : List (Int × Int)) (LV : List Leaf) (ls : List Int) (GL1 : Pin), en = (upd (upd (upd (upd (upd (upd (upd env1 2 (.pointer (some ⟨b3, 0, none⟩))) 4 (.slice none 0 0)) 5 (.slice none 0 0)) 6 u26) 7 (.map (some m50))) 8 nv) 9 (.int .i64 (n : Int))) ∧ k = ls.length - n ∧ Ext noS G w GL1 W ∧ Pin.le G28 GL1 ∧ (OrI q zs27 ls n (done.map Ent.nd)) ∧ (RkOk ls n rk) ∧ (LV.Perm (lvE done)) ∧ (ps = done.map Ent.pr) ∧ (Own eInt 3 GL1 W w.heap.size u26 (ls)) ∧ (Own eVal2 65 GL1 W w.heap.size nv (ps)) ∧ (Apart u26.ownBlock nv.ownBlock) ∧ (Lvs 3 GL1 W w.heap.size W.heap.size LV) ∧ (ApL LV u26.ownBlock) ∧ (ApL LV nv.ownBlock) ∧ (Mp (fun k : Int => Value.int .i64 k) (fun v : Int => Value.int .i64 v) W m50 (rk)) ∧ (Pk 59 3 GL1 W p L R B mm q) ∧ (NP p L R B mm nv.ownBlock)) _ ⟨_, 0, u62, [], [], [], [], ys40, G28, (zC (x := 9) (zC (x := 8) (zC (x := 7) (zC (x := 6) (zC (x := 5) (zC (x := 4) (zX (x := 2) rfl) rfl) rfl) rfl) rfl) rfl) rfl), rfl, hX68, Pin.le_refl _, (OrI.start hperm43 hsrt44), (fun i hi => absurd hi (Nat.not_lt_zero i)), (List.Perm.refl _), rfl, ho69, ho80, ha73.symm, hlv70, ha36, ha78, hm71, hpk72, ha79⟩ ?_)
 rintro k85 _ w86 ⟨env1, n, nv, done, ps, rk, LV, ls, GL1, rfl, hk87, hX88, hlek85, hor, hrk, hLV, hps, hw89, hw90, ha91, hlv92, ha93, ha94, hm95, hpk96, hnp97⟩
 have hll := hor.perm.length_eq
 have hnl := hor.nl
 have hdl : done.length = n := by have := hor.len; simpa using this
 have hpsl : ps.length = n := by rw [hps, List.length_map]; exact hdl
 have hplk : ∀ i, i < ls.length → 0 ≤ ls.getD i 0 ∧ ls.getD i 0 < q.ns.length := fun i hi => hpt31.pl _ (hor.mem.1 (yT hi))
 refine zG (zG (zH ?_))
 refine qD rfl (zB (v := (.int .i64 (n : Int))) rfl) (qD rfl (zB (v := u26) rfl) (qD rfl (zT eU (v := u26) rfl hw89.read) (qD rfl (xB rfl rfl) (qe (zA ?_)))))
 refine yN (p := ((n : Int) : Int) < (ls.length : Int)) rfl rfl (fun h98 => ?_) (fun h98 => ?_)
 have hzn := hplk n (by omega)
 refine wp_skip (zA (yH (zG (zH ?_))))
 refine qI rfl (xG (E := eEnt) (e := 157) dI eR hX88.pins (fun u99 w100 ho101 hp102 hl103 hk104 => ?_))
 have hX105 := hX88.step hp102 hl103
 have ho106 := hw89.below hl103
 have ho107 := hw90.below hl103
 have hlv108 := (hlv92.below hl103).top
 have hm109 := hm95.below hl103
 have hpk110 := hpk96.below hl103 hp102
 have ha111 : Apart u99.ownBlock u26.ownBlock := zK hk104 hw89.lt
 have ha112 : Apart u99.ownBlock nv.ownBlock := zK hk104 hw90.lt
 have ha117 : ApL LV u99.ownBlock := ApL.fresh hlv92 (fun k hk => by rw [hk104] at hk; cases hk; exact Nat.le_refl _)
 have ha118 := hpk96.new (x := u99.ownBlock) (fun k hk => by rw [hk104] at hk; cases hk; exact Nat.le_refl _)
 have ho119 := ho101.weaken hX88.size
 refine qD rfl (zD (v := u99) rfl) (qe (zA (zG (zG (zH ?_)))))
 refine qD rfl (zB (v := (.int .i64 (n : Int))) rfl) (qD rfl (zD (v := (.int .i64 (n : Int))) rfl) (qe (zA ?_)))
 refine yH (c_cutE (fun (en : Nat → Value) (W : World) => ∃ (env1 : Nat → Value) (kk : Nat) (gv : Value) (gs : List Ent) (LV2 : List Leaf) (GL2 : Pin), en = (upd (upd (upd (upd (upd (upd (upd (upd (upd env1 2 (.pointer (some ⟨b3, 0, none⟩))) 4 (.slice none 0 0)) 5 (.slice none 0 0)) 6 u26) 7 (.map (some m50))) 8 nv) 9 (.int .i64 (n : Int))) 10 gv) 11 (.int .i64 (kk : Int))) ∧ Ext noS G w GL2 W ∧ Pin.le GL1 GL2 ∧ (kk = n + gs.length) ∧ (GrI q ls n (gs.map Ent.gn)) ∧ (LV2.Perm (lvE done ++ lvE gs)) ∧ (n + gs.length = ls.length ∨ bn q (ls.getD (n + gs.length) 0) ≠ bn q (ls.getD n 0)) ∧ (Own eEnt 157 GL2 W w.heap.size gv (gs)) ∧ (Own eInt 3 GL2 W w.heap.size u26 (ls)) ∧ (Own eVal2 65 GL2 W w.heap.size nv (ps)) ∧ (Apart gv.ownBlock u26.ownBlock) ∧ (Apart gv.ownBlock nv.ownBlock) ∧ (Lvs 3 GL2 W w.heap.size W.heap.size LV2) ∧ (ApL LV2 gv.ownBlock) ∧ (ApL LV2 u26.ownBlock) ∧ (ApL LV2 nv.ownBlock) ∧ (Mp (fun k : Int => Value.int .i64 k) (fun v : Int => Value.int .i64 v) W m50 (rk)) ∧ (Pk 59 3 GL2 W p L R B mm q) ∧ (NP p L R B mm gv.ownBlock)) 2 ?_ ?_)
 ·rintro _ w125 ⟨env1, kk, gv, gs, LV2, GL2, rfl, hX127, hlek124, hkk, hgr, hLV2, hend, hw128, hw129, hw130, ha131, ha132, hlv133, ha134, ha135, ha136, hm137, hpk138, hnp139⟩
  have hgl := hgr.le
  rw [List.length_map] at hgl
  have hg1 : 0 < gs.length := Nat.pos_of_ne_zero fun h => hend.elim (fun e => by omega) (fun e => by rw [h] at e; exact e rfl)
  refine yV (zA (zG (zH ?_)))
  refine qD rfl (zB (v := gv) rfl) (qI rfl (zM (vs := [gv, (.func (.func 119) #[] #[])]) Tryz.func118 nm118 rfl rfl rfl ?_))
  refine dP (sortE_spec hX127.pins hw128 hlv133 (fun x hx => ⟨hLV2.mem_iff.2 (List.mem_append_right _ (lvE_mem hx).1), hLV2.mem_iff.2 (List.mem_append_right _ (lvE_mem hx).2)⟩) ha134 (by omega)) ?_
  rintro _ w141 ⟨gs140, rfl, ho142, hperm143, hasc144, hx145⟩
  refine ⟨_, rfl, ?_⟩
  have hX146 := hX127.trans hx145 (fun i hi => (yD hw128) i hi)
  have ho147 := hw129.extS hx145 (notO ha131.symm)
  have ho148 := hw130.extS hx145 (notO ha132.symm)
  have hlv149 := Lvs.turned hlv133 hx145 ha134
  have hm150 := hm137.extS hx145 (qM (yF hm137 hw128))
  have hpk151 := hpk138.extS hx145 (fun k hk hx => hnp139 k hx hk)
  have hm152 := hperm143.length_eq
  refine qe (zA (zG (zG (zH ?_))))
  refine qD rfl (zB (v := gv) rfl) (qD rfl (zT dI (v := gv) rfl ho142.read) (qD rfl (zB (v := (.int .i64 0)) rfl) (qe (zA ?_))))
  refine yH ?_
  have hgp : (gs140.map Ent.gn).Perm (gs.map Ent.gn) := hperm143.map _
  have hgl2 : n + gs140.length ≤ ls.length := by omega
  have hRl : (regroup ls n (gs140.map Ent.gn)).length = ls.length := vM (by rw [List.length_map]; omega)
  have hRn : (regroup ls n (gs140.map Ent.gn)).Nodup := (gN hgr hgp).nodup_iff.2 (hor.perm.nodup_iff.2 hpt31.nd)
  refine yZ (fun (k : Nat) (en : Nat → Value) (W : World) => ∃ (env1 : Nat → Value) (j : Nat) (nv3 : Value) (ls3 : List Int) (ps3 : List (Value × Value)) (rk3 : List (Int × Int)) (GL3 : Pin), en = (upd (upd (upd (upd (upd (upd (upd (upd (upd (upd (upd env1 2 (.pointer (some ⟨b3, 0, none⟩))) 4 (.slice none 0 0)) 5 (.slice none 0 0)) 6 u26) 7 (.map (some m50))) 8 nv3) 9 (.int .i64 (n : Int))) 10 gv) 90 gv) 91 (.int .i64 (gs140.length : Int))) 92 (.int .i64 (j : Int))) ∧ k = gs140.length - j ∧ Ext noS G w GL3 W ∧ Pin.le GL2 GL3 ∧ (j ≤ gs140.length) ∧ (ls3 = ls.take n ++ (gs140.take j).map Ent.id ++ ls.drop (n + j)) ∧ (RkOk (regroup ls n (gs140.map Ent.gn)) (n + j) rk3) ∧ (ps3 = (done ++ gs140.take j).map Ent.pr) ∧ (Own eInt 3 GL3 W w.heap.size u26 (ls3)) ∧ (Own eVal2 65 GL3 W w.heap.size nv3 (ps3)) ∧ (Own eEnt 157 GL3 W w.heap.size gv (gs140)) ∧ (Apart u26.ownBlock nv3.ownBlock) ∧ (Apart nv3.ownBlock gv.ownBlock) ∧ (Lvs 3 GL3 W w.heap.size W.heap.size LV2) ∧ (ApL LV2 u26.ownBlock) ∧ (ApL LV2 nv3.ownBlock) ∧ (ApL LV2 gv.ownBlock) ∧ (Mp (fun k : Int => Value.int .i64 k) (fun v : Int => Value.int .i64 v) W m50 (rk3)) ∧ (Pk 59 3 GL3 W p L R B mm q) ∧ (NP p L R B mm nv3.ownBlock)) _ ⟨_, 0, nv, ls, ps, rk, GL2, (zC (x := 92) (zC (x := 91) (zC (x := 90) (zC (x := 10) (zC (x := 9) (zC (x := 8) (zC (x := 7) (zC (x := 6) (zC (x := 5) (zC (x := 4) (zX (x := 2) rfl) rfl) rfl) rfl) rfl) rfl) rfl) rfl) rfl) rfl) rfl), rfl, hX146, Pin.le_refl _, Nat.zero_le _, (by simp), (hrk.reg hgl2), (by rw [List.take_zero, List.append_nil]; exact hps), ho147, ho148, ho142, ha91, ha132.symm, hlv149, ha135, ha136, ha134, hm150, hpk151, hnp97⟩ ?_
  rintro k157 _ w158 ⟨env1, j, nv3, ls3, ps3, rk3, GL3, rfl, hk159, hX160, hlek157, hj, hls3, hrk3, hps3, hw161, hw162, hw163, ha164, ha165, hlv166, ha167, ha168, ha169, hm170, hpk171, hnp172⟩
  have hl3 : ls3.length = ls.length := by rw [hls3]; simp; omega
  have hps3l : ps3.length = n + j := by rw [hps3]; simp; omega
  refine zG (zH ?_)
  refine qD rfl (xB rfl rfl) (qe (zA (zG ?_)))
  refine yN (p := ((j : Int) : Int) < (gs140.length : Int)) rfl rfl (fun h173 => ?_) (fun h173 => ?_)
  refine wp_skip (zA (zG ?_))
  refine yH (zG (zH ?_))
  refine qD rfl (zB (v := (.int .i64 (j : Int))) rfl) (qD rfl (zN dI eR (v := gv) rfl rfl hw163.read (by omega) (by omega)) ?_)
  obtain ⟨cs174, hrep175, hagg176, hcell177⟩ := nm_el (j := j) default (hw163.at (z := (j : Int)) (by omega) (by omega)) rfl
  obtain ⟨rfl, hone178, hone179⟩ := hrep175
  refine qD rfl (hagg176 ag157 eR rfl (Gadd.pins hX160.pins gv)) (qI rfl (yO [(.int .i64 0), (.slice none 0 0), (.slice none 0 0)] zr157 rfl hX160.pins (fun b180 w181 hk182 hb183 hp184 hl185 => ?_)))
  have hX186 := hX160.step hp184 hl185
  have ho187 := hw161.below hl185
  have ho188 := hw162.below hl185
  have ho189 := hw163.below hl185
  have hlv190 := (hlv166.below hl185).top
  have hm191 := hm170.below hl185
  have hpk192 := hpk171.below hl185 hp184
  have ha193 : Apart (some b180) u26.ownBlock := zK (congrArg some hk182) hw161.lt
  have ha194 : Apart (some b180) nv3.ownBlock := zK (congrArg some hk182) hw162.lt
  have ha195 : Apart (some b180) gv.ownBlock := zK (congrArg some hk182) hw163.lt
  have ha200 : ApL LV2 (some b180) := ApL.fresh hlv166 (fun k hk => by rw [(congrArg some hk182)] at hk; cases hk; exact Nat.le_refl _)
  have ha201 := hpk171.new (x := (some b180)) (fun k hk => by rw [(congrArg some hk182)] at hk; cases hk; exact Nat.le_refl _)
  have hlo202 : w.heap.size ≤ b180 := by have := hX160.size; omega
  refine qD rfl (zD (v := (.int .i64 (j : Int))) rfl) (q0 rfl rfl rfl (o_stp (cs' := [(.int .i64 ((gs140.getD j default).id)), (gs140.getD j default).l, (gs140.getD j default).r]) (us := [(.int .i64 ((gs140.getD j default).id)), (gs140.getD j default).l, (gs140.getD j default).r]) (v := (.agg [(.int .i64 ((gs140.getD j default).id)), (gs140.getD j default).l, (gs140.getD j default).r].toArray)) eR rfl rfl rfl (ones3 (by rfl) hone178 hone179) hX186.pins hb183 (dQ rfl) rfl (fun w203 hb204 hp205 hg206 hz207 => ?_)))
  have hX208 := hX186.write hp205 hg206 ((yC hlo202))
  have ho209 := ho187.keptA hg206 ha193.symm
  have ho210 := ho188.keptA hg206 ha194.symm
  have ho211 := ho189.keptA hg206 ha195.symm
  have hlv212 := (hlv190.kept hg206 ha200).top
  have hm213 := hm191.kept hg206 (xO hm191 hb183)
  have hpk214 := hpk192.kept hg206 hp205 ha201
  obtain ⟨G215, hle216, hX217, hbp218, hf219⟩ := hb204.shut hX208 hlo202
  have ho220 := ho209.moreA hle216 hf219 ha193.symm
  have ho221 := ho210.moreA hle216 hf219 ha194.symm
  have ho222 := ho211.moreA hle216 hf219 ha195.symm
  have hlv223 := hlv212.more hle216 hf219 ha200
  have hpk224 := hpk214.more hle216 hf219 ha201
  refine qe (zA (zG (zH ?_)))
  refine qD rfl (zB (v := u26) rfl) (qD rfl (zB (v := (.int .i64 (n : Int))) rfl) (qD rfl (zB (v := (.int .i64 (j : Int))) rfl) (qD rfl (yX rfl rfl (by omega)) (qD rfl (zR (k := 0) rfl dG rfl nz3 rfl) (qD rfl (zS (u := (.int .i64 ((gs140.getD j default).id))) ag3 rfl (hX217.pins _ _ _ (hbp218 0 _ rfl))) (qD rfl (zN eU sz3 (v := u26) rfl rfl ho220.read (by omega) (by omega)) (q0 rfl rfl rfl (vX (E := eInt) (v := u26) (u := (.int .i64 ((gs140.getD j default).id))) (z := ((n : Int) + (j : Int))) ((gs140.getD j default).id) sz3 rfl rfl rfl rfl hX217.pins ho220 (by omega) (by omega) (fun w225 ho226 hp227 hg228 hz229 => ?_)))))))))
  have hX230 := hX217.write hp227 hg228 ((yD ho220))
  have ho231 := ho221.keptA hg228 ha164.symm
  have ho232 := ho222.keptA hg228 ha131
  have hlv233 := (hlv223.kept hg228 ha167).top
  have hm234 := hm213.kept hg228 (yF hm213 ho220)
  have hpk235 := hpk224.kept hg228 hp227 hnp37
  refine qe (zA (zG (zH ?_)))
  refine qD rfl (zB (v := (.map (some m50))) rfl) (qD rfl (zR (k := 0) rfl dG rfl nz3 rfl) (qD rfl (zS (u := (.int .i64 ((gs140.getD j default).id))) ag3 rfl (hX230.pins _ _ _ (hbp218 0 _ rfl))) (qD rfl (zB (v := (.int .i64 (n : Int))) rfl) (qD rfl (zB (v := (.int .i64 (j : Int))) rfl) (qD rfl (yX rfl rfl (by omega)) (q0 rfl rfl rfl (qA (val := (fun v : Int => Value.int .i64 v)) (k := ((gs140.getD j default).id)) (v := ((n : Int) + (j : Int))) (qS dB) dF rfl rfl rfl hX230.pins hm234 (fun w236 hm237 hp238 hg239 hz240 => ?_))))))))
  have hX241 := hX230.write hp238 hg239 ((yC hlo61))
  have ho242 := ho226.keptA hg239 (yF hm234 ho226).symm
  have ho243 := ho231.keptA hg239 (yF hm234 ho231).symm
  have ho244 := ho232.keptA hg239 (yF hm234 ho232).symm
  have hlv245 := (hlv233.kept hg239 (fun p hp => (yF hm234 (hlv233.own p hp)).symm)).top
  have hpk246 := hpk235.kept hg239 hp238 hnp60
  refine qe (zA (zH ?_))
  refine qD rfl (zB (v := nv3) rfl) (qD rfl (zR (k := 1) rfl dG rfl nz65 rfl) (qD rfl (yJ (cs := [(gs140.getD j default).l, (gs140.getD j default).r]) ag65 sz65 rfl (fun j u hj => hX241.pins _ _ _ (hbp218 _ _ (by rw [Nat.add_comm]; simpa using hj)))) (qI rfl (xJ (E := eVal2) (e := 65) [(gs140.getD j default).l, (gs140.getD j default).r] (((gs140.getD j default).l, (gs140.getD j default).r) : Value × Value) eV sz65 zr65 ⟨rfl, hone178, hone179⟩ rfl (by decide) hX241.pins (fun u247 w248 ho249 hp250 hl251 hk252 => ?_)))))
  have hX253 := hX241.step hp250 hl251
  have ho254 := ho242.below hl251
  have ho255 := ho243.below hl251
  have ho256 := ho244.below hl251
  have hlv257 := (hlv245.below hl251).top
  have hm258 := hm237.below hl251
  have hpk259 := hpk246.below hl251 hp250
  have ho269 := ho249.weaken hX241.size
  refine qI rfl (zZ (E := eVal2) (v := nv3) (u := u247) 48 eV ap65 (by decide) rfl rfl hX253.pins ho255 ho269.src (by first | omega | (rw [List.nil_append]; omega) | (rw [List.length_nil]; omega) | (rw [List.length_append]; omega) | (simp; done) | (simp; omega) | (simp only [List.length_append, List.length_cons, List.length_nil]; omega)) (by first | omega | (rw [List.nil_append]; omega) | (rw [List.length_nil]; omega) | (rw [List.length_append]; omega) | (simp; done) | (simp; omega) | (simp only [List.length_append, List.length_cons, List.length_nil]; omega)) (hX253.size) (fun u270 w271 ho272 hp273 hg274 hw275 => ?_))
  have hX276 := hX253.write hp273 hg274 ((yD ho255))
  have ho277 := ho254.keptA hg274 ha164
  have ho278 := ho256.keptA hg274 ha165.symm
  have hlv280 := (hlv257.kept hg274 ha168).top
  have hm281 := hm258.kept hg274 (yF hm258 ho255)
  have hpk282 := hpk259.kept hg274 hp273 hnp172
  have ha283 : Apart u26.ownBlock u270.ownBlock := zJ ha164 hw275 ho254.lt
  have ha284 : Apart gv.ownBlock u270.ownBlock := zJ ha165.symm hw275 ho256.lt
  have ha286 : ApL LV2 u270.ownBlock := ApL.app hlv257 ha168 hw275
  have hnp287 := qQ hnp172 hpk259 hw275
  have hm288 := la1 ps3 (((gs140.getD j default).l, (gs140.getD j default).r) : Value × Value)
  refine qD rfl (zD (v := u270) rfl) (qe (yQ (zA (zH ?_))))
  refine qD rfl (yX rfl rfl (by omega)) (qD rfl (zB (v := (.int .i64 ((j : Int) + 1))) rfl) (qe (yS (⟨_, ?_, _, rfl, _, j + 1, u270, (ls3).set ((n : Int) + (j : Int)).toNat ((gs140.getD j default).id), ps3 ++ ([(((gs140.getD j default).l, (gs140.getD j default).r) : Value × Value)]), putE rk3 ((gs140.getD j default).id) ((n : Int) + (j : Int)), G215, (zC (x := 92) (zC (x := 91) (zC (x := 90) (zC (x := 10) (zC (x := 9) (zC (x := 8) (zC (x := 7) (zC (x := 6) (zC (x := 5) (zC (x := 4) (zX (x := 2) rfl) rfl) rfl) rfl) rfl) rfl) rfl) rfl) rfl) rfl) rfl), rfl, hX276, (dN hlek157 hle216), (by omega), (by rw [hls3, show ((n : Int) + (j : Int)).toNat = n + j by omega]; exact reg_step (by omega) (by omega)), (hrk3.ent hRn hgl2 (by omega)), (by rw [hps3, qE _ default (by omega), ← List.append_assoc, List.map_append (l₁ := done ++ _)]; rfl), ho277, ho272, ho278, ha283, ha284.symm, hlv280, ha167, ha286, ha169, hm281, hpk282, hnp287⟩))))
  omega
  refine wp_exit (yI (yW (yV (zA (zH ?_)))))
  refine qD rfl (zB (v := (.int .i64 (n : Int))) rfl) (qD rfl (zB (v := gv) rfl) (qD rfl (zT dI (v := gv) rfl hw163.read) (qD rfl (yX rfl rfl (by omega)) (qD rfl (zD (v := (.int .i64 ((n : Int) + (gs140.length : Int)))) rfl) (qe (yQ (yS ?_)))))))
  have hjn : j = gs140.length := by omega
  rw [hjn, reg_end] at hls3
  rw [hjn] at hrk3 hps3
  rw [List.take_length] at hps3
  have hls3l : ls3.length = ls.length := by rw [hls3]; exact hRl
  refine ⟨_, ?_, _, rfl, _, n + gs140.length, nv3, done ++ gs140, ps3, rk3, LV2, ls3, GL3, (zC (x := 9) (zC (x := 8) (zC (x := 7) (zC (x := 6) (zC (x := 5) (zC (x := 4) (zX (x := 2) rfl) rfl) rfl) rfl) rfl) rfl) rfl), rfl, hX160, (dN (dN hlek85 hlek124) hlek157), (by rw [hls3]; exact hor.ents hok hpt31 hgr (by omega) hend hperm143 hasc144), (by rw [hls3]; exact hrk3), (hLV2.trans (by rw [lvE_app]; exact List.Perm.append_left _ (lvE_perm hperm143.symm))), hps3, hw161, hw162, ha164, hlv166, ha167, ha168, hm170, hpk171, hnp172⟩
  omega
 refine yZ (fun (k : Nat) (en : Nat → Value) (W : World) => ∃ (env1 : Nat → Value) (kk : Nat) (gv : Value) (gs : List Ent) (LV2 : List Leaf) (GL2 : Pin), en = (upd (upd (upd (upd (upd (upd (upd (upd (upd env1 2 (.pointer (some ⟨b3, 0, none⟩))) 4 (.slice none 0 0)) 5 (.slice none 0 0)) 6 u26) 7 (.map (some m50))) 8 nv) 9 (.int .i64 (n : Int))) 10 gv) 11 (.int .i64 (kk : Int))) ∧ k = ls.length - kk ∧ Ext noS G w GL2 W ∧ Pin.le GL1 GL2 ∧ (kk = n + gs.length) ∧ (GrI q ls n (gs.map Ent.gn)) ∧ (LV2.Perm (lvE done ++ lvE gs)) ∧ (Own eEnt 157 GL2 W w.heap.size gv (gs)) ∧ (Own eInt 3 GL2 W w.heap.size u26 (ls)) ∧ (Own eVal2 65 GL2 W w.heap.size nv (ps)) ∧ (Apart gv.ownBlock u26.ownBlock) ∧ (Apart gv.ownBlock nv.ownBlock) ∧ (Lvs 3 GL2 W w.heap.size W.heap.size LV2) ∧ (ApL LV2 gv.ownBlock) ∧ (ApL LV2 u26.ownBlock) ∧ (ApL LV2 nv.ownBlock) ∧ (Mp (fun k : Int => Value.int .i64 k) (fun v : Int => Value.int .i64 v) W m50 (rk)) ∧ (Pk 59 3 GL2 W p L R B mm q) ∧ (NP p L R B mm gv.ownBlock)) _ ⟨_, n, u99, [], LV, GL1, (zC (x := 11) (zC (x := 10) (zC (x := 9) (zC (x := 8) (zC (x := 7) (zC (x := 6) (zC (x := 5) (zC (x := 4) (zX (x := 2) rfl) rfl) rfl) rfl) rfl) rfl) rfl) rfl) rfl), rfl, hX105, Pin.le_refl _, rfl, (GrI.start hor), (by simpa [lvE] using hLV), ho119, ho106, ho107, ha111, ha112, hlv108, ha117, ha93, ha94, hm109, hpk110, ha118⟩ ?_
 rintro k124 _ w125 ⟨env1, kk, gv, gs, LV2, GL2, rfl, hk126, hX127, hlek124, hkk, hgr, hLV2, hw128, hw129, hw130, ha131, ha132, hlv133, ha134, ha135, ha136, hm137, hpk138, hnp139⟩
 have hgl := hgr.le
 rw [List.length_map] at hgl
 refine zG (zG ?_)
 have hq289 := Gadd.pins hX127.pins u26
 have hq290 := Gadd.pins hX127.pins B
 have hr291 := hw129.read
 have hr292 := hpk138.ob.read
 refine xD (S := fun wz => Pins (Gadd GL2 w125 u26) wz ∧ Pins GL2 wz ∧ BxR wz p [L, R, B, (.map (some mm.f)), (.map (some mm.o)), (.map (some mm.c)), (.map (some mm.s)), (.map (some mm.n))] ∧ Pins (Gadd GL2 w125 B) wz) (last := 27) (by kernel_rfl) rfl ?_
 have hl293 := bdr w125
 have hp294 := hX127.pins.below hl293
 have hX295 := hX127.step hp294 hl293
 have ho296 := hw128.below hl293
 have ho297 := hw129.below hl293
 have ho298 := hw130.below hl293
 have hlv299 := (hlv133.below hl293).top
 have hm300 := hm137.below hl293
 have hpk301 := hpk138.below hl293 hp294
 have hq302 := hq289.below hl293
 have hq303 := hq290.below hl293
 refine dT (i := 0) rfl rfl (by kernel_rfl) (fun _ _ => zB (v := (.int .i64 (kk : Int))) rfl) ⟨hq302, hX295.pins, hpk301.bx.reads, hq303⟩ ?_
 refine dT (i := 1) rfl rfl (by kernel_rfl) (fun _ _ => zB (v := u26) rfl) ⟨hq302, hX295.pins, hpk301.bx.reads, hq303⟩ ?_
 refine dT (i := 2) rfl rfl (by kernel_rfl) (fun _ _ => zT eU (v := u26) rfl hr291) ⟨hq302, hX295.pins, hpk301.bx.reads, hq303⟩ ?_
 refine dT (i := 3) rfl rfl (by kernel_rfl) (fun _ _ => xB rfl rfl) ⟨hq302, hX295.pins, hpk301.bx.reads, hq303⟩ ?_
 refine dT (i := 4) rfl rfl (by kernel_rfl) (fun _ _ => zB (v := (.bool (decide (((kk : Int) : Int) < (ls.length : Int))))) rfl) ⟨hq302, hX295.pins, hpk301.bx.reads, hq303⟩ ?_
 refine drbd (p := ((kk : Int) : Int) < (ls.length : Int)) (t := 35) rfl (fun h304 => ?_) (fun h304 => ?_)
 have hzk := hplk kk (by omega)
 have hollk := hok.ar.ok.lens (ls.getD kk 0).toNat (by omega)
 refine yL (i := 5) rfl rfl rfl (yB rfl rfl rfl rfl) (by kernel_rfl) (fun _ hS => zS (u := (.pointer (some ⟨p, 0, none⟩))) ag54 rfl ((dO hS.2.1 (dN (dN hx32.le hlek85) hlek124)) _ _ _ (hbp22 0 _ rfl))) ⟨hq302, hX295.pins, hpk301.bx.reads, hq303⟩ (yL (i := 6) rfl rfl rfl (yB rfl rfl rfl rfl) (by kernel_rfl) (fun _ _ => xC rfl) ⟨hq302, hX295.pins, hpk301.bx.reads, hq303⟩ (yL (i := 7) rfl rfl rfl (yB rfl rfl rfl rfl) (by kernel_rfl) (fun _ _ => zR (k := 2) rfl eY rfl nz59 rfl) ⟨hq302, hX295.pins, hpk301.bx.reads, hq303⟩ (yL (i := 8) rfl rfl rfl (yB rfl rfl rfl rfl) (by kernel_rfl) (fun _ hS => zS (u := B) ag59 rfl (hS.2.2.1 2 _ rfl)) ⟨hq302, hX295.pins, hpk301.bx.reads, hq303⟩ (yL (i := 9) rfl rfl rfl (yB rfl rfl rfl rfl) (by kernel_rfl) (fun _ _ => zB (v := u26) rfl) ⟨hq302, hX295.pins, hpk301.bx.reads, hq303⟩ (yL (i := 10) rfl rfl rfl (yB rfl rfl rfl rfl) (by kernel_rfl) (fun _ _ => zB (v := (.int .i64 (kk : Int))) rfl) ⟨hq302, hX295.pins, hpk301.bx.reads, hq303⟩ (yL (i := 11) rfl rfl rfl (yB rfl rfl rfl rfl) (by kernel_rfl) (fun _ _ => zN eU sz3 (v := u26) rfl rfl hr291 (by omega) (by omega)) ⟨hq302, hX295.pins, hpk301.bx.reads, hq303⟩ (yL (i := 12) rfl rfl rfl (yB rfl rfl rfl rfl) (by kernel_rfl) (fun _ hS => zO (r := ls.getD kk 0) rfl ag3 (z := (kk : Int)) rfl hr291 hS.1 (by omega) (by omega)) ⟨hq302, hX295.pins, hpk301.bx.reads, hq303⟩ (yL (i := 13) rfl rfl rfl (yB rfl rfl rfl rfl) (by kernel_rfl) (fun _ _ => zN eU sz3 (v := B) rfl rfl hr292 (by omega) (by omega)) ⟨hq302, hX295.pins, hpk301.bx.reads, hq303⟩ (yL (i := 14) rfl rfl rfl (yB rfl rfl rfl rfl) (by kernel_rfl) (fun _ hS => zO (r := q.bs.getD (ls.getD kk 0).toNat 0) rfl ag3 (z := (ls.getD kk 0)) rfl hr292 hS.2.2.2 (by omega) (by omega)) ⟨hq302, hX295.pins, hpk301.bx.reads, hq303⟩ (yL (i := 15) rfl rfl rfl (yB rfl rfl rfl rfl) (by kernel_rfl) (fun _ hS => zS (u := (.pointer (some ⟨p, 0, none⟩))) ag54 rfl ((dO hS.2.1 (dN (dN hx32.le hlek85) hlek124)) _ _ _ (hbp22 0 _ rfl))) ⟨hq302, hX295.pins, hpk301.bx.reads, hq303⟩ (yL (i := 16) rfl rfl rfl (yB rfl rfl rfl rfl) (by kernel_rfl) (fun _ _ => xC rfl) ⟨hq302, hX295.pins, hpk301.bx.reads, hq303⟩ (yL (i := 17) rfl rfl rfl (yB rfl rfl rfl rfl) (by kernel_rfl) (fun _ _ => zR (k := 2) rfl eY rfl nz59 rfl) ⟨hq302, hX295.pins, hpk301.bx.reads, hq303⟩ (yL (i := 18) rfl rfl rfl (yB rfl rfl rfl rfl) (by kernel_rfl) (fun _ hS => zS (u := B) ag59 rfl (hS.2.2.1 2 _ rfl)) ⟨hq302, hX295.pins, hpk301.bx.reads, hq303⟩ (yL (i := 19) rfl rfl rfl (yB rfl rfl rfl rfl) (by kernel_rfl) (fun _ _ => zB (v := u26) rfl) ⟨hq302, hX295.pins, hpk301.bx.reads, hq303⟩ (yL (i := 20) rfl rfl rfl (yB rfl rfl rfl rfl) (by kernel_rfl) (fun _ _ => zB (v := (.int .i64 (n : Int))) rfl) ⟨hq302, hX295.pins, hpk301.bx.reads, hq303⟩ (yL (i := 21) rfl rfl rfl (yB rfl rfl rfl rfl) (by kernel_rfl) (fun _ _ => zN eU sz3 (v := u26) rfl rfl hr291 (by omega) (by omega)) ⟨hq302, hX295.pins, hpk301.bx.reads, hq303⟩ ?_))))))))))))))))
 refine yL (i := 22) rfl rfl rfl (yB rfl rfl rfl rfl) (by kernel_rfl) (fun _ hS => zO (r := ls.getD n 0) rfl ag3 (z := (n : Int)) rfl hr291 hS.1 (by omega) (by omega)) ⟨hq302, hX295.pins, hpk301.bx.reads, hq303⟩ (yL (i := 23) rfl rfl rfl (yB rfl rfl rfl rfl) (by kernel_rfl) (fun _ _ => zN eU sz3 (v := B) rfl rfl hr292 (by omega) (by omega)) ⟨hq302, hX295.pins, hpk301.bx.reads, hq303⟩ (yL (i := 24) rfl rfl rfl (yB rfl rfl rfl rfl) (by kernel_rfl) (fun _ hS => zO (r := q.bs.getD (ls.getD n 0).toNat 0) rfl ag3 (z := (ls.getD n 0)) rfl hr292 hS.2.2.2 (by omega) (by omega)) ⟨hq302, hX295.pins, hpk301.bx.reads, hq303⟩ (yL (i := 25) rfl rfl rfl (yB rfl rfl rfl rfl) (by kernel_rfl) (fun _ _ => kZ rfl rfl) ⟨hq302, hX295.pins, hpk301.bx.reads, hq303⟩ (dT (i := 26) rfl rfl (by kernel_rfl) (fun _ _ => xI (v := (.bool (decide ((q.bs.getD (ls.getD kk 0).toNat 0 : Int) = (q.bs.getD (ls.getD n 0).toNat 0))))) rfl rfl) ⟨hq302, hX295.pins, hpk301.bx.reads, hq303⟩ ?_))))
 refine yP (by kernel_rfl) (zA (yN (p := (q.bs.getD (ls.getD kk 0).toNat 0 : Int) = (q.bs.getD (ls.getD n 0).toNat 0)) rfl rfl (fun h305 => ?_) (fun h305 => ?_)))
 refine wp_skip (zA (zG ?_))
 refine yH (zG (zH ?_))
 refine qD rfl (zB (v := u26) rfl) (qD rfl (zB (v := (.int .i64 (kk : Int))) rfl) (qD rfl (zN eU sz3 (v := u26) rfl rfl ho297.read (by omega) (by omega)) (qD rfl (zO (r := ls.getD kk 0) rfl ag3 (z := (kk : Int)) rfl ho297.read (Gadd.pins hX295.pins u26) (by omega) (by omega)) (qD rfl (zD (v := (.int .i64 (ls.getD kk 0))) rfl) (qe (zA ?_))))))
 have hq306 := Gadd.pins hX295.pins L
 have hq307 := Gadd.pins hX295.pins R
 have hr308 := hpk301.ol.read
 have hr309 := hpk301.rr.read
 refine xD (S := fun wz => Pins GL2 wz ∧ BxR wz p [L, R, B, (.map (some mm.f)), (.map (some mm.o)), (.map (some mm.c)), (.map (some mm.s)), (.map (some mm.n))] ∧ Pins (Gadd GL2 w125.drew L) wz ∧ Pins (Gadd GL2 w125.drew R) wz) (last := 25) (by kernel_rfl) rfl ?_
 have hl310 : Below w125.drew.heap.size w125.drew w125.drew.drew := (Below.refl _ _).drew
 have hp311 := hX295.pins.below hl310
 have hX312 := hX295.step hp311 hl310
 have ho313 := ho296.below hl310
 have ho314 := ho297.below hl310
 have ho315 := ho298.below hl310
 have hlv316 := (hlv299.below hl310).top
 have hm317 := hm300.below hl310
 have hpk318 := hpk301.below hl310 hp311
 have hq319 := hq306.below hl310
 have hq320 := hq307.below hl310
 refine dT (i := 0) rfl rfl (by kernel_rfl) (fun _ _ => zB (v := gv) rfl) ⟨hX312.pins, hpk318.bx.reads, hq319, hq320⟩ ?_
 refine dT (i := 1) rfl rfl (by kernel_rfl) (fun _ _ => zB (v := (.int .i64 (ls.getD kk 0))) rfl) ⟨hX312.pins, hpk318.bx.reads, hq319, hq320⟩ ?_
 refine dT (i := 2) rfl rfl (by kernel_rfl) (fun _ hS => zS (u := (.pointer (some ⟨p, 0, none⟩))) ag54 rfl ((dO hS.1 (dN (dN hx32.le hlek85) hlek124)) _ _ _ (hbp22 0 _ rfl))) ⟨hX312.pins, hpk318.bx.reads, hq319, hq320⟩ ?_
 refine dT (i := 3) rfl rfl (by kernel_rfl) (fun _ _ => xC rfl) ⟨hX312.pins, hpk318.bx.reads, hq319, hq320⟩ ?_
 refine dT (i := 4) rfl rfl (by kernel_rfl) (fun _ _ => zR (k := 0) rfl eY rfl jK rfl) ⟨hX312.pins, hpk318.bx.reads, hq319, hq320⟩ ?_
 refine dT (i := 5) rfl rfl (by kernel_rfl) (fun _ hS => zS (u := L) vH rfl (hS.2.1 0 _ rfl)) ⟨hX312.pins, hpk318.bx.reads, hq319, hq320⟩ ?_
 refine dT (i := 6) rfl rfl (by kernel_rfl) (fun _ _ => zB (v := (.int .i64 (ls.getD kk 0))) rfl) ⟨hX312.pins, hpk318.bx.reads, hq319, hq320⟩ ?_
 refine dT (i := 7) rfl rfl (by kernel_rfl) (fun _ _ => zN dE sz59 (v := L) rfl rfl hr308 (by omega) (by omega)) ⟨hX312.pins, hpk318.bx.reads, hq319, hq320⟩ ?_
 obtain ⟨u321, hr322, hl323⟩ := vY (hpk301.ol.at (z := (ls.getD kk 0)) (by omega) (by omega)) (j := (ls.getD kk 0).toNat) rfl
 rw [jP] at hr322
 have hm324 := hr322.max
 refine dT (i := 8) rfl rfl (by kernel_rfl) (fun _ hS => hl323 ag59 rfl hS.2.2.1) ⟨hX312.pins, hpk318.bx.reads, hq319, hq320⟩ ?_
 refine dT (i := 9) rfl rfl (by kernel_rfl) (fun _ _ => zB (v := (.map (some m50))) rfl) ⟨hX312.pins, hpk318.bx.reads, hq319, hq320⟩ ?_
 refine dT (i := 11) rfl rfl (by kernel_rfl) (fun _ hS => zS (u := (.pointer (some ⟨p, 0, none⟩))) ag54 rfl ((dO hS.1 (dN (dN hx32.le hlek85) hlek124)) _ _ _ (hbp22 0 _ rfl))) ⟨hX312.pins, hpk318.bx.reads, hq319, hq320⟩ ?_
 refine dT (i := 12) rfl rfl (by kernel_rfl) (fun _ _ => xC rfl) ⟨hX312.pins, hpk318.bx.reads, hq319, hq320⟩ ?_
 refine dT (i := 13) rfl rfl (by kernel_rfl) (fun _ _ => zR (k := 1) rfl eY rfl jK rfl) ⟨hX312.pins, hpk318.bx.reads, hq319, hq320⟩ ?_
 refine dT (i := 14) rfl rfl (by kernel_rfl) (fun _ hS => zS (u := R) vH rfl (hS.2.1 1 _ rfl)) ⟨hX312.pins, hpk318.bx.reads, hq319, hq320⟩ ?_
 refine dT (i := 15) rfl rfl (by kernel_rfl) (fun _ _ => zB (v := (.int .i64 (ls.getD kk 0))) rfl) ⟨hX312.pins, hpk318.bx.reads, hq319, hq320⟩ ?_
 refine dT (i := 16) rfl rfl (by kernel_rfl) (fun _ _ => zN dE sz59 (v := R) rfl rfl hr309 (by omega) (by omega)) ⟨hX312.pins, hpk318.bx.reads, hq319, hq320⟩ ?_
 obtain ⟨u325, hr326, hl327⟩ := vY (hpk301.rr.at (z := (ls.getD kk 0)) (by omega) (by omega)) (j := (ls.getD kk 0).toNat) rfl
 rw [jO] at hr326
 have hm328 := hr326.max
 refine dT (i := 17) rfl rfl (by kernel_rfl) (fun _ hS => hl327 ag59 rfl hS.2.2.2) ⟨hX312.pins, hpk318.bx.reads, hq319, hq320⟩ ?_
 refine dT (i := 18) rfl rfl (by kernel_rfl) (fun _ _ => zB (v := (.map (some m50))) rfl) ⟨hX312.pins, hpk318.bx.reads, hq319, hq320⟩ ?_
 refine zQ (i := 10) (by kernel_rfl) (zU (i := 10) rfl rfl rfl (zI rfl _) (zM (vs := [u321, (.map (some m50))]) Tryz.func117 nm117 rfl rfl rfl ?_))
 refine dP (rJ hX312.pins hr322 hm317 (by omega)) ?_
 rintro _ w331 ⟨u329, G330, rfl, ho332, hx333⟩
 refine ⟨_, rfl, ?_⟩
 have hX334 := hX312.tr hx333
 have ho335 := ho313.ext hx333
 have ho336 := ho314.ext hx333
 have ho337 := ho315.ext hx333
 have hlv338 := (hlv316.ext hx333).top
 have hm339 := hm317.below hx333.below
 have hpk340 := hpk318.ext hx333
 have ha341 : Apart u329.ownBlock gv.ownBlock := zV ho332.lt ho313.lt
 have ha342 : Apart u329.ownBlock u26.ownBlock := zV ho332.lt ho314.lt
 have ha343 : Apart u329.ownBlock nv.ownBlock := zV ho332.lt ho315.lt
 have ha344 : ApL LV2 u329.ownBlock := ApL.fresh hlv316 (fun k hk => (ho332.lt k hk).1)
 have ho346 := ho332.weaken hX312.size
 have hq347 := hq319.below hx333.below
 have hq348 := hq320.below hx333.below
 refine ⟨fun _ => ⟨(dO hX334.pins hx333.le), hpk340.bx.reads, hq347, hq348⟩, ?_⟩
 refine zQ (i := 19) (by kernel_rfl) (zU (i := 19) rfl rfl rfl (zI rfl _) (zM (vs := [u325, (.map (some m50))]) Tryz.func117 nm117 rfl rfl rfl ?_))
 refine dP (rJ hX334.pins (hr326.mono hx333.le) hm339 (by omega)) ?_
 rintro _ w351 ⟨u349, G350, rfl, ho352, hx353⟩
 refine ⟨_, rfl, ?_⟩
 have hX354 := hX334.tr hx353
 have ho355 := ho335.ext hx353
 have ho356 := ho336.ext hx353
 have ho357 := ho337.ext hx353
 have ho358 := ho346.ext hx353
 have hlv359 := (hlv338.ext hx353).top
 have hm360 := hm339.below hx353.below
 have hpk361 := hpk340.ext hx353
 have ha362 : Apart u349.ownBlock gv.ownBlock := zV ho352.lt ho335.lt
 have ha363 : Apart u349.ownBlock u26.ownBlock := zV ho352.lt ho336.lt
 have ha364 : Apart u349.ownBlock nv.ownBlock := zV ho352.lt ho337.lt
 have ha365 : Apart u349.ownBlock u329.ownBlock := zV ho352.lt ho346.lt
 have ha366 : ApL LV2 u349.ownBlock := ApL.fresh hlv338 (fun k hk => (ho352.lt k hk).1)
 have ho368 := ho352.weaken hX334.size
 have hq369 := hq347.below hx353.below
 have hq370 := hq348.below hx353.below
 refine ⟨fun _ => ⟨(dO hX354.pins (dN hx333.le hx353.le)), hpk361.bx.reads, hq369, hq370⟩, ?_⟩
 refine dT (i := 20) rfl rfl (by kernel_rfl) (fun _ _ => xQ [(.slice none 0 0), (.slice none 0 0)] [u329, u349] [(0, u329, [u329]), (1, u349, [u349])] eX zr65 rfl pl65 rfl (List.forall_mem_cons.2 ⟨(xE ho358.one), (List.forall_mem_cons.2 ⟨(xE ho368.one), (fun _ h => by cases h)⟩)⟩) rfl) ⟨(dO hX354.pins (dN hx333.le hx353.le)), hpk361.bx.reads, hq369, hq370⟩ ?_
 refine dT (i := 21) rfl rfl (by kernel_rfl) (fun _ _ => xQ [(.int .i64 0), (.slice none 0 0), (.slice none 0 0)] [(.int .i64 (ls.getD kk 0)), u329, u349] [(0, (.int .i64 (ls.getD kk 0)), [(.int .i64 (ls.getD kk 0))]), (1, (.agg [u329, u349].toArray), [u329, u349])] dG zr157 rfl pl157 rfl (List.forall_mem_cons.2 ⟨rfl, (List.forall_mem_cons.2 ⟨rfl, (fun _ h => by cases h)⟩)⟩) rfl) ⟨(dO hX354.pins (dN hx333.le hx353.le)), hpk361.bx.reads, hq369, hq370⟩ ?_
 refine zQ (i := 22) (by kernel_rfl) (zU (i := 22) rfl rfl rfl (zI rfl _) (xJ (E := eEnt) (e := 157) [(.int .i64 (ls.getD kk 0)), u329, u349] (⟨ls.getD kk 0, u329, u349, ⟨sortM (((q.ns.getD (ls.getD kk 0).toNat default).l).map (rkI rk)), sortM (((q.ns.getD (ls.getD kk 0).toNat default).r).map (rkI rk))⟩⟩ : Ent) dI eR zr157 ⟨rfl, ho358.one, ho368.one⟩ rfl (by decide) hX354.pins (fun u371 w372 ho373 hp374 hl375 hk376 => ?_)))
 have hX377 := hX354.step hp374 hl375
 have ho378 := ho355.below hl375
 have ho379 := ho356.below hl375
 have ho380 := ho357.below hl375
 have ho381 := ho358.below hl375
 have ho382 := ho368.below hl375
 have hlv383 := (hlv359.below hl375).top
 have hm384 := hm360.below hl375
 have hpk385 := hpk361.below hl375 hp374
 have ho397 := ho373.weaken hX354.size
 have hq398 := hq369.below hl375
 have hq399 := hq370.below hl375
 refine ⟨fun _ => ⟨(dO hX377.pins (dN hx333.le hx353.le)), hpk385.bx.reads, hq398, hq399⟩, ?_⟩
 refine zQ (i := 23) (by kernel_rfl) (zU (i := 23) rfl rfl rfl (zI rfl _) (zZ (E := eEnt) (v := gv) (u := u371) 56 dI ap157 (by decide) rfl rfl hX377.pins ho378 ho397.src (by first | omega | (rw [List.nil_append]; omega) | (rw [List.length_nil]; omega) | (rw [List.length_append]; omega) | (simp; done) | (simp; omega) | (simp only [List.length_append, List.length_cons, List.length_nil]; omega)) (by first | omega | (rw [List.nil_append]; omega) | (rw [List.length_nil]; omega) | (rw [List.length_append]; omega) | (simp; done) | (simp; omega) | (simp only [List.length_append, List.length_cons, List.length_nil]; omega)) (hX377.size) (fun u400 w401 ho402 hp403 hg404 hw405 => ?_)))
 have hX406 := hX377.write hp403 hg404 ((yD ho378))
 have ho407 := ho379.keptA hg404 ha131.symm
 have ho408 := ho380.keptA hg404 ha132.symm
 have ho409 := ho381.keptA hg404 ha341
 have ho410 := ho382.keptA hg404 ha362
 have hlv412 := (hlv383.kept hg404 ha134).top
 have hm413 := hm384.kept hg404 (yF hm384 ho378)
 have hpk414 := hpk385.kept hg404 hp403 hnp139
 have ha415 : Apart u26.ownBlock u400.ownBlock := zJ ha131.symm hw405 ho379.lt
 have ha416 : Apart nv.ownBlock u400.ownBlock := zJ ha132.symm hw405 ho380.lt
 have ha417 : Apart u329.ownBlock u400.ownBlock := zJ ha341 hw405 ho381.lt
 have ha418 : Apart u349.ownBlock u400.ownBlock := zJ ha362 hw405 ho382.lt
 have ha420 : ApL LV2 u400.ownBlock := ApL.app hlv383 ha134 hw405
 have hnp421 := qQ hnp139 hpk385 hw405
 have hm422 := la1 gs (⟨ls.getD kk 0, u329, u349, ⟨sortM (((q.ns.getD (ls.getD kk 0).toNat default).l).map (rkI rk)), sortM (((q.ns.getD (ls.getD kk 0).toNat default).r).map (rkI rk))⟩⟩ : Ent)
 have hq423 := Gadd.turn hq398 (dO hX406.pins (dN hx333.le hx353.le)) (Ext.one hp403 hg404) (notO (NP.hl hnp139).symm)
 have hq424 := Gadd.turn hq399 (dO hX406.pins (dN hx333.le hx353.le)) (Ext.one hp403 hg404) (notO (NP.hr hnp139).symm)
 refine ⟨fun _ => ⟨(dO hX406.pins (dN hx333.le hx353.le)), hpk414.bx.reads, hq423, hq424⟩, ?_⟩
 refine dT (i := 24) rfl rfl (by kernel_rfl) (fun _ _ => zD (v := u400) rfl) ⟨(dO hX406.pins (dN hx333.le hx353.le)), hpk414.bx.reads, hq423, hq424⟩ ?_
 refine yP (by kernel_rfl) (yQ (zA (zH ?_)))
 refine qD rfl (zB (v := (.int .i64 (kk : Int))) rfl) (qD rfl (yX rfl rfl (by omega)) (qD rfl (zD (v := (.int .i64 ((kk : Int) + 1))) rfl) (qe (yS ?_))))
 have hlv425 := hlv412.add ho409 ha344
 have ha426 : ApL (LV2 ++ [(u329, sortM (((q.ns.getD (ls.getD kk 0).toNat default).l).map (rkI rk)))]) u26.ownBlock := ha135.add ha342
 have ha427 : ApL (LV2 ++ [(u329, sortM (((q.ns.getD (ls.getD kk 0).toNat default).l).map (rkI rk)))]) nv.ownBlock := ha136.add ha343
 have ha428 : ApL (LV2 ++ [(u329, sortM (((q.ns.getD (ls.getD kk 0).toNat default).l).map (rkI rk)))]) u349.ownBlock := ha366.add ha365.symm
 have ha429 : ApL (LV2 ++ [(u329, sortM (((q.ns.getD (ls.getD kk 0).toNat default).l).map (rkI rk)))]) u400.ownBlock := ha420.add ha417
 have hlv430 := hlv425.add ho410 ha428
 have ha431 : ApL ((LV2 ++ [(u329, sortM (((q.ns.getD (ls.getD kk 0).toNat default).l).map (rkI rk)))]) ++ [(u349, sortM (((q.ns.getD (ls.getD kk 0).toNat default).r).map (rkI rk)))]) u26.ownBlock := ha426.add ha363
 have ha432 : ApL ((LV2 ++ [(u329, sortM (((q.ns.getD (ls.getD kk 0).toNat default).l).map (rkI rk)))]) ++ [(u349, sortM (((q.ns.getD (ls.getD kk 0).toNat default).r).map (rkI rk)))]) nv.ownBlock := ha427.add ha364
 have ha433 : ApL ((LV2 ++ [(u329, sortM (((q.ns.getD (ls.getD kk 0).toNat default).l).map (rkI rk)))]) ++ [(u349, sortM (((q.ns.getD (ls.getD kk 0).toNat default).r).map (rkI rk)))]) u400.ownBlock := ha429.add ha418
 refine ⟨_, ?_, _, rfl, _, kk + 1, u400, gs ++ ([(⟨ls.getD kk 0, u329, u349, ⟨sortM (((q.ns.getD (ls.getD kk 0).toNat default).l).map (rkI rk)), sortM (((q.ns.getD (ls.getD kk 0).toNat default).r).map (rkI rk))⟩⟩ : Ent)]), (LV2 ++ [(u329, sortM (((q.ns.getD (ls.getD kk 0).toNat default).l).map (rkI rk)))]) ++ [(u349, sortM (((q.ns.getD (ls.getD kk 0).toNat default).r).map (rkI rk)))], G350, (zC (x := 11) (zC (x := 10) (zC (x := 9) (zC (x := 8) (zC (x := 7) (zC (x := 6) (zC (x := 5) (zC (x := 4) (zX (x := 2) rfl) rfl) rfl) rfl) rfl) rfl) rfl) rfl) rfl), rfl, hX406, (dN (dN hlek124 hx333.le) hx353.le), (by rw [List.length_append]; simp; omega), (hgr.ent hor hok hpt31 hrk hkk (by omega) h305), (by rw [lvE_app, ← List.append_assoc, List.append_assoc LV2]; exact hLV2.append_right _), ho402, ho407, ho408, ha415.symm, ha416.symm, hlv430, ha433, ha431, ha432, hm413, hpk414, hnp421⟩
 omega
 exact wp_exit (yI (yW (rZ ⟨_, kk, gv, gs, LV2, GL2, (zC (x := 11) (zC (x := 10) (zC (x := 9) (zC (x := 8) (zC (x := 7) (zC (x := 6) (zC (x := 5) (zC (x := 4) (zX (x := 2) rfl) rfl) rfl) rfl) rfl) rfl) rfl) rfl) rfl), hX295, hlek124, hkk, hgr, hLV2, (Or.inr (by rw [← hkk]; exact h305)), ho296, ho297, ho298, ha131, ha132, hlv299, ha134, ha135, ha136, hm300, hpk301, hnp139⟩)))
 refine yE (i := 5) rfl rfl (yK rfl rfl rfl rfl rfl) (by kernel_rfl) ⟨hq302, hX295.pins, hpk301.bx.reads, hq303⟩ (yE (i := 6) rfl rfl (yK rfl rfl rfl rfl rfl) (by kernel_rfl) ⟨hq302, hX295.pins, hpk301.bx.reads, hq303⟩ (yE (i := 7) rfl rfl (yK rfl rfl rfl rfl rfl) (by kernel_rfl) ⟨hq302, hX295.pins, hpk301.bx.reads, hq303⟩ (yE (i := 8) rfl rfl (yK rfl rfl rfl rfl rfl) (by kernel_rfl) ⟨hq302, hX295.pins, hpk301.bx.reads, hq303⟩ (yE (i := 9) rfl rfl (yK rfl rfl rfl rfl rfl) (by kernel_rfl) ⟨hq302, hX295.pins, hpk301.bx.reads, hq303⟩ (yE (i := 10) rfl rfl (yK rfl rfl rfl rfl rfl) (by kernel_rfl) ⟨hq302, hX295.pins, hpk301.bx.reads, hq303⟩ (yE (i := 11) rfl rfl (yK rfl rfl rfl rfl rfl) (by kernel_rfl) ⟨hq302, hX295.pins, hpk301.bx.reads, hq303⟩ (yE (i := 12) rfl rfl (yK rfl rfl rfl rfl rfl) (by kernel_rfl) ⟨hq302, hX295.pins, hpk301.bx.reads, hq303⟩ (yE (i := 13) rfl rfl (yK rfl rfl rfl rfl rfl) (by kernel_rfl) ⟨hq302, hX295.pins, hpk301.bx.reads, hq303⟩ (yE (i := 14) rfl rfl (yK rfl rfl rfl rfl rfl) (by kernel_rfl) ⟨hq302, hX295.pins, hpk301.bx.reads, hq303⟩ (yE (i := 15) rfl rfl (yK rfl rfl rfl rfl rfl) (by kernel_rfl) ⟨hq302, hX295.pins, hpk301.bx.reads, hq303⟩ (yE (i := 16) rfl rfl (yK rfl rfl rfl rfl rfl) (by kernel_rfl) ⟨hq302, hX295.pins, hpk301.bx.reads, hq303⟩ (yE (i := 17) rfl rfl (yK rfl rfl rfl rfl rfl) (by kernel_rfl) ⟨hq302, hX295.pins, hpk301.bx.reads, hq303⟩ (yE (i := 18) rfl rfl (yK rfl rfl rfl rfl rfl) (by kernel_rfl) ⟨hq302, hX295.pins, hpk301.bx.reads, hq303⟩ (yE (i := 19) rfl rfl (yK rfl rfl rfl rfl rfl) (by kernel_rfl) ⟨hq302, hX295.pins, hpk301.bx.reads, hq303⟩ (yE (i := 20) rfl rfl (yK rfl rfl rfl rfl rfl) (by kernel_rfl) ⟨hq302, hX295.pins, hpk301.bx.reads, hq303⟩ (yE (i := 21) rfl rfl (yK rfl rfl rfl rfl rfl) (by kernel_rfl) ⟨hq302, hX295.pins, hpk301.bx.reads, hq303⟩ (yE (i := 22) rfl rfl (yK rfl rfl rfl rfl rfl) (by kernel_rfl) ⟨hq302, hX295.pins, hpk301.bx.reads, hq303⟩ (yE (i := 23) rfl rfl (yK rfl rfl rfl rfl rfl) (by kernel_rfl) ⟨hq302, hX295.pins, hpk301.bx.reads, hq303⟩ (yE (i := 24) rfl rfl (yK rfl rfl rfl rfl rfl) (by kernel_rfl) ⟨hq302, hX295.pins, hpk301.bx.reads, hq303⟩ (yE (i := 25) rfl rfl (yK rfl rfl rfl rfl rfl) (by kernel_rfl) ⟨hq302, hX295.pins, hpk301.bx.reads, hq303⟩ (dT (i := 26) rfl rfl (by kernel_rfl) (fun _ _ => xA (v := (.bool false)) rfl rfl) ⟨hq302, hX295.pins, hpk301.bx.reads, hq303⟩ ?_)))))))))))))))))))))
 exact yP (by kernel_rfl) (zA (vE rfl rfl (wp_exit (yI (yW (rZ ⟨_, kk, gv, gs, LV2, GL2, (zC (x := 11) (zC (x := 10) (zC (x := 9) (zC (x := 8) (zC (x := 7) (zC (x := 6) (zC (x := 5) (zC (x := 4) (zX (x := 2) rfl) rfl) rfl) rfl) rfl) rfl) rfl) rfl) rfl), hX295, hlek124, hkk, hgr, hLV2, (Or.inl (by omega)), ho296, ho297, ho298, ha131, ha132, hlv299, ha134, ha135, ha136, hm300, hpk301, hnp139⟩))))))
 refine wp_exit (yI (yW (yV (zA (zG (zH ?_))))))
 refine qD rfl (zB (v := u26) rfl) (qD rfl (zB (v := nv) rfl) (qD rfl (zD (v := u26) rfl) (qD rfl (zD (v := nv) rfl) (qe (zA ?_)))))
 refine wp_ret (zY (nN (v := u26) (u := nv) rfl rfl rfl rfl rfl ?_))
 have hnn : n = ls.length := by omega
 rw [hnn] at hor
 have hon := hw90
 rw [hps] at hon
 have hlv := hlv92.perm hLV
 have hap := ha94.perm hLV
 rw [lvE_lvN] at hlv hap
 exact ⟨_, _, ls, done.map Ent.nd, zs27, _, rfl, hw89, ⟨done.map Ent.pr, by rw [List.length_map, List.length_map], hon, fun k hk => (hon.lt k hk).2, hlv, hap⟩, hor, hpt31, hX88⟩
end OD1
end Go.Proofs.YtajkbplgbikgdaaGreatDoor
namespace Go.Proofs.YtajkbplgbikgdaaGreatDoor
namespace FO1
open Go.RowKit Go.GL Go.Proofs
open B1 PO1 PA1 SO1 OD1
theorem pl26 : (Tryz.prog.underlying 26).bind (placesD Tryz.prog) = some [(0, 1)] := by kernel_rfl
theorem fR {w : World} {G : Pin} {p : Nat} {L R B : Value} {mm : PM} {q : PSt} (hP : Pins G w) (hpk : Pk 59 3 G w p L R B mm q) (hok : PoolOk q) {i : Int} (hi : PlaceOk q i) :
  Calls Tryz.prog 32 [(.pointer (some ⟨p, 0, none⟩)), (.int .i64 i)].toArray w fun e w' => ∃ (u : Value) (G' : Pin), e = .returned (.tuple #[(.agg [u].toArray), .bool (fitB (pd q i))]) ∧ DForm 65 3 G' w' w.heap.size w'.heap.size u (frmG (pd q i)) ∧ Ext noS G w G' w' := by
 refine yG (n := 44) Tryz.func32 Tryz.ntmps32 rfl rfl ?_
 have hX0 := exr noS hP
 have hpin : PIn w (inP p L R B mm) p L R B mm := PIn.self
 have hml1 := pkl q
 have hml2 := pkb hok
 have hi0 := hi.1
 have hi1 := hi.2
 have hone1 := place_one hi
 refine zG (zH ?_)
 refine qI rfl (yO [(.slice none 0 0)] zr26 rfl hX0.pins (fun b3 w4 hk5 hb6 hp7 hl8 => ?_))
 have hX9 := hX0.step hp7 hl8
 have hpk10 := hpk.below hl8 hp7
 have hlo16 : w.heap.size ≤ b3 := by have := hX0.size; omega
 refine qD rfl (zD (v := (.bool false)) rfl) (qe (zA (zG (zG (zH ?_)))))
 refine qD rfl (zB (v := (.pointer (some ⟨p, 0, none⟩))) rfl) (qD rfl (zB (v := (.int .i64 i)) rfl) (qI rfl (yY (E := eInt) (e := 3) [(.int .i64 i)] [i] eU sz3 zr3 (by exact xT (by rfl)) (yM (by rfl)) rfl rfl rfl rfl (by decide) hX9.pins (fun u17 w18 ho19 hp20 hl21 hk22 => ?_))))
 have hX23 := hX9.step hp20 hl21
 have hb24 := hb6.below hl21
 have hpk25 := hpk10.below hl21 hp20
 have ha30 : Apart u17.ownBlock (some b3) := zL hk22 hb6.lt
 have ha31 := hpk10.new (x := u17.ownBlock) (fun k hk => by rw [hk22] at hk; cases hk; exact Nat.le_refl _)
 have ho32 := ho19.weaken hX9.size
 obtain ⟨G40, hle43, hX42, hr41, hf44⟩ := ho32.sealed hX23
 have hb45 := hb24.moreO hf44 ha30.symm
 have hpk46 := hpk25.moreO hle43 hf44 ha31
 refine qI rfl (zM (vs := [(.pointer (some ⟨p, 0, none⟩)), u17]) Tryz.func70 nm70 rfl rfl rfl ?_)
 refine dP (mR hX42.pins hpk46 hok hr41 hone1 (by simp)) ?_
 rintro _ w36 ⟨u33, zs34, G35, rfl, ho37, hpt38, hx39⟩
 refine ⟨_, rfl, ?_⟩
 have hX47 := hX42.tr hx39
 have hb48 := hb45.ext hx39
 have hpk49 := hpk46.ext hx39
 have ho52 := ho37.weaken hX42.size
 have hql53 := hpt38.len
 have hfl := form_len hok hi hpt38
 refine qD rfl (zT eU (v := u33) rfl ho52.read) (qD rfl (jY rfl rfl) (qe (zA ?_)))
 refine yN (p := (120 : Int) < (zs34.length : Int)) rfl rfl (fun h54 => ?_) (fun h54 => ?_)
 refine zG (zH ?_)
 refine qD rfl (xQ [(.slice none 0 0)] [(.slice none 0 0)] [] eW zr26 rfl pl26 rfl (fun _ h => by cases h) rfl) (q0 rfl rfl rfl (o_stp (cs' := [(.slice none 0 0)]) (us := [(.slice none 0 0)]) (v := (.agg [(.slice none 0 0)].toArray)) sz26 rfl rfl rfl (yM (by rfl)) hX47.pins hb48 (dQ rfl) rfl (fun w55 hb56 hp57 hg58 hz59 => ?_)))
 have hX60 := hX47.write hp57 hg58 ((yC hlo16))
 refine qD rfl (zD (v := (.bool false)) rfl) (qe (zA ?_))
 refine wp_ret (zY (jW (cs := [(.slice none 0 0)]) (v := (.bool false)) rfl rfl rfl rfl rfl ag26 sz26 (fun j u hj => by rw [Nat.zero_add]; exact hb56.cell hj) ?_))
 have hfb : fitB (pd q i) = false := fit_long (by omega)
 rw [hfb, frm_no hfb]
 exact ⟨_, _, rfl, DForm.nil, hX60⟩
 refine wp_skip (zA (zG (zH ?_)))
 refine qD rfl (zB (v := (.pointer (some ⟨p, 0, none⟩))) rfl) (qD rfl (zB (v := (.int .i64 i)) rfl) (qI rfl (yY (E := eInt) (e := 3) [(.int .i64 i)] [i] eU sz3 zr3 (by exact xT (by rfl)) (yM (by rfl)) rfl rfl rfl rfl (by decide) hX47.pins (fun u63 w64 ho65 hp66 hl67 hk68 => ?_))))
 have hX69 := hX47.step hp66 hl67
 have hb71 := hb48.below hl67
 have hpk72 := hpk49.below hl67 hp66
 have ha77 : Apart u63.ownBlock (some b3) := zL hk68 hb48.lt
 have ha79 := hpk49.new (x := u63.ownBlock) (fun k hk => by rw [hk68] at hk; cases hk; exact Nat.le_refl _)
 have ho80 := ho65.weaken hX47.size
 obtain ⟨G99, hle102, hX101, hr100, hf103⟩ := ho80.sealed hX69
 have hb105 := hb71.moreO hf103 ha77.symm
 have hpk106 := hpk72.moreO hle102 hf103 ha79
 refine qI rfl (zM (vs := [(.pointer (some ⟨p, 0, none⟩)), u63]) Tryz.func71 nm71 rfl rfl rfl ?_)
 refine dP (order_spec hX101.pins hpk106 hok hr100 hone1 (by simp)) ?_
 rintro _ w87 ⟨u81, v82, ls83, ns84, zs85, G86, rfl, ho88, hd89, hor90, hpt91, hx92⟩
 refine ⟨_, rfl, ?_⟩
 have hX107 := hX101.tr hx92
 have hb109 := hb105.ext hx92
 have hpk110 := hpk106.ext hx92
 have hfo := hor90.form hok hpt91
 obtain ⟨ps93, hpl94, ho95, hlt96, hlv97, hap98⟩ := hd89.ex
 have ho116 := ho95.weaken hX101.size
 have hlv117 := (hlv97.weaken hX101.size (Nat.le_refl _)).top
 have ha118 : Apart (some b3) v82.ownBlock := (yA ho95.lt hb105.lt).symm
 have ha119 : ApL (lvN ps93 ns84) (some b3) := fun p hp => yA (hlv97.own p hp).lt hb105.lt
 refine qD rfl (zB (v := (.tuple #[u81, v82])) rfl) (qD rfl (yR (v := u81) rfl rfl) (qD rfl (yR (v := v82) rfl rfl) (qD rfl (zD (v := u81) rfl) (qD rfl (zD (v := v82) rfl) (qe (zA (zG (zG (zH ?_)))))))))
 refine qD rfl (zB (v := v82) rfl) (qD rfl (zT eV (v := v82) rfl ho116.read) (qD rfl (zB (v := (.int .i64 0)) rfl) (qe (zA ?_))))
 refine yH ?_
 have hlo := hfo.1.lo
 have hlf := hfo.eq
 rw [hlf] at hfl
 refine yZ (fun (k : Nat) (en : Nat → Value) (W : World) => ∃ (env1 : Nat → Value) (j : Nat) (GL1 : Pin), en = (upd (upd (upd (upd (upd env1 4 (.pointer (some ⟨b3, 0, none⟩))) 7 v82) 24 v82) 25 (.int .i64 (ps93.length : Int))) 26 (.int .i64 (j : Int))) ∧ k = ns84.length - j ∧ Ext noS G w GL1 W ∧ Pin.le G86 GL1 ∧ (j ≤ ns84.length) ∧ (∀ k, k < j → (ns84.getD k default).l.length ≤ 24 ∧ (ns84.getD k default).r.length ≤ 24) ∧ (Own eVal2 65 GL1 W w.heap.size v82 (ps93)) ∧ (Bx GL1 W b3 [(.slice none 0 0)]) ∧ (Lvs 3 GL1 W w.heap.size W.heap.size (lvN ps93 ns84)) ∧ (ApL (lvN ps93 ns84) v82.ownBlock) ∧ (ApL (lvN ps93 ns84) (some b3)) ∧ (Pk 59 3 GL1 W p L R B mm q)) _ ⟨_, 0, G86, (zC (x := 26) (zC (x := 25) (zC (x := 24) (zC (x := 7) (zX (x := 4) rfl) rfl) rfl) rfl) rfl), rfl, hX107, Pin.le_refl _, Nat.zero_le _, (fun k hk => absurd hk (Nat.not_lt_zero k)), ho116, hb109, hlv117, hap98, ha119, hpk110⟩ ?_
 rintro k124 _ w125 ⟨env1, j, GL1, rfl, hk126, hX127, hlek124, hj, hop, hw128, hw129, hlv130, ha131, ha132, hpk133⟩
 refine zG (zH ?_)
 refine qD rfl (xB rfl rfl) (qe (zA (zG ?_)))
 refine yN (p := ((j : Int) : Int) < (ps93.length : Int)) rfl rfl (fun h134 => ?_) (fun h134 => ?_)
 refine wp_skip (zA (zG ?_))
 refine yH (zG (zH ?_))
 refine qD rfl (zN eV sz65 (v := v82) rfl rfl hw128.read (by omega) (by omega)) ?_
 obtain ⟨cs135, hrep136, hagg137, hcell138⟩ := nm_el (j := j) default (hw128.at (z := (j : Int)) (by omega) (by omega)) rfl
 obtain ⟨rfl, hone139, hone140⟩ := hrep136
 refine qD rfl (hagg137 ag65 sz65 rfl (Gadd.pins hX127.pins v82)) (qI rfl (yO [(.slice none 0 0), (.slice none 0 0)] zr65 rfl hX127.pins (fun b141 w142 hk143 hb144 hp145 hl146 => ?_)))
 have hX147 := hX127.step hp145 hl146
 have ho148 := hw128.below hl146
 have hb149 := hw129.below hl146
 have hlv150 := (hlv130.below hl146).top
 have hpk151 := hpk133.below hl146 hp145
 have ha152 : Apart (some b141) v82.ownBlock := zK (congrArg some hk143) hw128.lt
 have ha156 : Apart (some b141) (some b3) := zL (congrArg some hk143) hw129.lt
 have ha158 : ApL (lvN ps93 ns84) (some b141) := ApL.fresh hlv130 (fun k hk => by rw [(congrArg some hk143)] at hk; cases hk; exact Nat.le_refl _)
 have ha159 := hpk133.new (x := (some b141)) (fun k hk => by rw [(congrArg some hk143)] at hk; cases hk; exact Nat.le_refl _)
 have hlo160 : w.heap.size ≤ b141 := by have := hX127.size; omega
 refine q0 rfl rfl rfl (o_stp (cs' := [(ps93.getD j default).1, (ps93.getD j default).2]) (us := [(ps93.getD j default).1, (ps93.getD j default).2]) (v := (.agg [(ps93.getD j default).1, (ps93.getD j default).2].toArray)) sz65 rfl rfl rfl (jE hone139 hone140) hX147.pins hb144 (dQ rfl) rfl (fun w161 hb162 hp163 hg164 hz165 => ?_))
 have hX166 := hX147.write hp163 hg164 ((yC hlo160))
 have ho167 := ho148.keptA hg164 ha152.symm
 have hb168 := hb149.keptA hg164 ha156.symm
 have hlv169 := (hlv150.kept hg164 ha158).top
 have hpk170 := hpk151.kept hg164 hp163 ha159
 obtain ⟨G171, hle172, hX173, hbp174, hf175⟩ := hb162.shut hX166 hlo160
 have ho176 := ho167.moreA hle172 hf175 ha152.symm
 have hb177 := hb168.moreA hf175 ha156.symm
 have hlv178 := hlv169.more hle172 hf175 ha158
 have hpk179 := hpk170.more hle172 hf175 ha159
 refine qe (zA (zG (zH ?_)))
 have hpj : ps93[j]? = some (ps93.getD j default) := by simp [List.getD, show j < ps93.length by omega]
 have hnj : ns84[j]? = some (ns84.getD j default) := by simp [List.getD, show j < ns84.length by omega]
 have hr180 := (hlv178.own _ (sQ hpj hnj).1).read
 have hr181 := (hlv178.own _ (sQ hpj hnj).2).read
 refine qD rfl (zR (k := 0) rfl eX rfl nz59 rfl) (qD rfl (zS (u := (ps93.getD j default).1) ag59 rfl (hX173.pins _ _ _ (hbp174 0 _ rfl))) (qD rfl (zT eU (v := (ps93.getD j default).1) rfl hr180) (qD rfl (jY rfl rfl) (qD rfl (zB (v := (.bool (decide ((24 : Int) < (((ns84.getD j default).l).length : Int))))) rfl) (qbd (p := (24 : Int) < (((ns84.getD j default).l).length : Int)) (t := 34) rfl (fun h182 => ?_) (fun h182 => ?_))))))
 refine qs rfl rfl rfl rfl rfl rfl (qs rfl rfl rfl rfl rfl rfl (qs rfl rfl rfl rfl rfl rfl (qs rfl rfl rfl rfl rfl rfl (qD rfl (xI (v := (.bool true)) rfl rfl) (qe (zA ?_))))))
 refine kB rfl rfl (zG (zH ?_))
 refine qD rfl (xQ [(.slice none 0 0)] [(.slice none 0 0)] [] eW zr26 rfl pl26 rfl (fun _ h => by cases h) rfl) (q0 rfl rfl rfl (o_stp (cs' := [(.slice none 0 0)]) (us := [(.slice none 0 0)]) (v := (.agg [(.slice none 0 0)].toArray)) sz26 rfl rfl rfl (yM (by rfl)) hX173.pins hb177 (dQ rfl) rfl (fun w183 hb184 hp185 hg186 hz187 => ?_)))
 have hX188 := hX173.write hp185 hg186 ((yC hlo16))
 refine qD rfl (zD (v := (.bool false)) rfl) (qe (zA ?_))
 refine wp_ret (zY (jW (cs := [(.slice none 0 0)]) (v := (.bool false)) rfl rfl rfl rfl rfl ag26 sz26 (fun j u hj => by rw [Nat.zero_add]; exact hb184.cell hj) ?_))
 have hfb : fitB (pd q i) = false := fit_opt hfo (k := j) (by omega) (by omega)
 rw [hfb, frm_no hfb]
 exact ⟨_, _, rfl, DForm.nil, hX188⟩
 refine qdg rfl rfl rfl rfl rfl rfl (zR (k := 1) rfl eX rfl nz59 rfl) (qdg rfl rfl rfl rfl rfl rfl (zS (u := (ps93.getD j default).2) ag59 rfl (hX173.pins _ _ _ (hbp174 1 _ rfl))) (qdg rfl rfl rfl rfl rfl rfl (zT eU (v := (ps93.getD j default).2) rfl hr181) (qdg rfl rfl rfl rfl rfl rfl (jY rfl rfl) (qD rfl (xA (v := (.bool (decide ((24 : Int) < (((ns84.getD j default).r).length : Int))))) rfl rfl) (qe (zA ?_))))))
 refine yN (p := (24 : Int) < (((ns84.getD j default).r).length : Int)) rfl rfl (fun h192 => ?_) (fun h192 => ?_)
 refine zG (zH ?_)
 refine qD rfl (xQ [(.slice none 0 0)] [(.slice none 0 0)] [] eW zr26 rfl pl26 rfl (fun _ h => by cases h) rfl) (q0 rfl rfl rfl (o_stp (cs' := [(.slice none 0 0)]) (us := [(.slice none 0 0)]) (v := (.agg [(.slice none 0 0)].toArray)) sz26 rfl rfl rfl (yM (by rfl)) hX173.pins hb177 (dQ rfl) rfl (fun w193 hb194 hp195 hg196 hz197 => ?_)))
 have hX198 := hX173.write hp195 hg196 ((yC hlo16))
 refine qD rfl (zD (v := (.bool false)) rfl) (qe (zA ?_))
 refine wp_ret (zY (jW (cs := [(.slice none 0 0)]) (v := (.bool false)) rfl rfl rfl rfl rfl ag26 sz26 (fun j u hj => by rw [Nat.zero_add]; exact hb194.cell hj) ?_))
 have hfb : fitB (pd q i) = false := fit_opt hfo (k := j) (by omega) (by omega)
 rw [hfb, frm_no hfb]
 exact ⟨_, _, rfl, DForm.nil, hX198⟩
 refine wp_skip (yQ (zA (zH ?_)))
 refine qD rfl (yX rfl rfl (by omega)) (qD rfl (zB (v := (.int .i64 ((j : Int) + 1))) rfl) (qe (yS (⟨_, ?_, _, rfl, _, j + 1, G171, (zC (x := 26) (zC (x := 25) (zC (x := 24) (zC (x := 7) (zX (x := 4) rfl) rfl) rfl) rfl) rfl), rfl, hX173, (dN hlek124 hle172), (by omega), (fun k hk => if h : k = j then h ▸ (by omega) else hop k (by omega)), ho176, hb177, hlv178, ha131, ha132, hpk179⟩))))
 omega
 refine wp_exit (yI (yW (yV (zA (zG (zH ?_))))))
 refine qD rfl (zB (v := v82) rfl) (qD rfl (xQ [(.slice none 0 0)] [v82] [(0, v82, [v82])] eW zr26 rfl pl26 rfl (List.forall_mem_cons.2 ⟨(xE hw128.one), (fun _ h => by cases h)⟩) rfl) (q0 rfl rfl rfl (o_stp (cs' := [v82]) (us := [v82]) (v := (.agg [v82].toArray)) sz26 rfl rfl rfl (yM hw128.one) hX127.pins hw129 (dQ rfl) rfl (fun w202 hb203 hp204 hg205 hz206 => ?_))))
 have hX207 := hX127.write hp204 hg205 ((yC hlo16))
 have ho208 := hw128.keptA hg205 ha118.symm
 have hlv209 := (hlv130.kept hg205 ha132).top
 refine qD rfl (zD (v := (.bool true)) rfl) (qe (zA ?_))
 refine wp_ret (zY (jW (cs := [v82]) (v := (.bool true)) rfl rfl rfl rfl rfl ag26 sz26 (fun j u hj => by rw [Nat.zero_add]; exact hb203.cell hj) ?_))
 have hfb : fitB (pd q i) = true := fit_yes hfo (by omega) (fun k hk => hop k (by omega))
 rw [hfb, frm_yes hfo hfb]
 exact ⟨_, _, rfl, ⟨ps93, hpl94, ho208, (fun k hk => (ho208.lt k hk).2), hlv209, ha131⟩, hX207⟩
end FO1
end Go.Proofs.YtajkbplgbikgdaaGreatDoor
namespace Go.Proofs.YtajkbplgbikgdaaGreatDoor
namespace NG1
open Go.RowKit Go.GL Go.Proofs
open B1 K1 PO1 PL1
end NG1
end Go.Proofs.YtajkbplgbikgdaaGreatDoor
namespace Go.Proofs.YtajkbplgbikgdaaGreatDoor
namespace NF1
open Go.RowKit Go.GL Go.Proofs
open B1 C1 D1 E1 K1 PO1 PL1 PA1 SO1 OD1 FO1 NG1
end NF1
end Go.Proofs.YtajkbplgbikgdaaGreatDoor
namespace Go.Proofs.YtajkbplgbikgdaaGreatDoor
namespace SM1
open Go.RowKit Go.GL Go.Proofs
open B1 C1 D1 E1 K1 PO1 PL1 PA1 SO1 OD1 FO1 NG1 NF1
theorem pl26 : (Tryz.prog.underlying 26).bind (placesD Tryz.prog) = some [(0, 1)] := by kernel_rfl
theorem l5Pair_spec {w : World} {G : Pin} {u v : Value} {fs gs : List Nd} (hP : Pins G w) (hu : RSl eNode G u fs) (hv : RSl eNode G v gs) :
  Calls Tryz.prog 36 [(.agg [u].toArray), (.agg [v].toArray)].toArray w fun e w' => ∃ G', e = .returned (.bool (pairB fs gs)) ∧ Ext noS G w G' w' := by
 refine yG (n := 21) Tryz.func36 Tryz.ntmps36 rfl rfl ?_
 have hX0 := exr noS hP
 have hmu := hu.max
 have hmv := hv.max
 refine zG (zH ?_)
 refine qI rfl (xW [u] (v := (.agg [u].toArray)) rfl rfl hX0.pins (fun b1 w2 hk3 hb4 hp5 hl6 => ?_))
 have hX7 := hX0.step hp5 hl6
 have hlo8 : w.heap.size ≤ b1 := by have := hX0.size; omega
 obtain ⟨G9, hle10, hX11, hbp12, hf13⟩ := hb4.shut hX7 hlo8
 refine qI rfl (xW [v] (v := (.agg [v].toArray)) rfl rfl hX11.pins (fun b14 w15 hk16 hb17 hp18 hl19 => ?_))
 have hX20 := hX11.step hp18 hl19
 have hlo21 : w.heap.size ≤ b14 := by have := hX11.size; omega
 obtain ⟨G22, hle23, hX24, hbp25, hf26⟩ := hb17.shut hX20 hlo21
 refine qD rfl (zD (v := (.bool false)) rfl) (qe (zA (zG (zH ?_))))
 refine qD rfl (yJ (cs := [u]) ag26 sz26 rfl (fun j u hj => (dO hX24.pins hle23) _ _ _ (hbp12 _ _ (by simpa using hj)))) (qI rfl (zM (vs := [(.agg [u].toArray)]) Tryz.func74 nm74 rfl rfl rfl ?_))
 refine dP (fG hX24.pins (hu.mono (dN hle10 hle23))) ?_
 rintro _ w28 ⟨G27, rfl, hx29⟩
 refine ⟨_, rfl, ?_⟩
 have hX30 := hX24.tr hx29
 refine qD rfl (zB (v := (.bool (decP (GoodS fs)))) rfl) (qb (t := 7) rfl (fun h31 => ?_) (fun h31 => ?_))
 refine qdg rfl rfl rfl rfl rfl rfl (yJ (cs := [v]) ag26 sz26 rfl (fun j u hj => (dO hX30.pins hx29.le) _ _ _ (hbp25 _ _ (by simpa using hj)))) (q1g rfl rfl rfl rfl rfl rfl (zM (vs := [(.agg [v].toArray)]) Tryz.func74 nm74 rfl rfl rfl ?_))
 refine dP (fG hX30.pins (hv.mono (dN (dN hle10 hle23) hx29.le))) ?_
 rintro _ w33 ⟨G32, rfl, hx34⟩
 refine ⟨_, rfl, ?_⟩
 have hX35 := hX30.tr hx34
 refine qD rfl (xI (v := (.bool (decP (GoodS gs)))) rfl rfl) (qD rfl (zB (v := (.bool (decP (GoodS gs)))) rfl) (qb (t := 11) rfl (fun h36 => ?_) (fun h36 => ?_)))
 refine qdg rfl rfl rfl rfl rfl rfl (zR (k := 0) rfl eW rfl nz24 rfl) (qdg rfl rfl rfl rfl rfl rfl (zS (u := u) ag24 rfl ((dO hX35.pins (dN (dN hle23 hx29.le) hx34.le)) _ _ _ (hbp12 0 _ rfl))) (qdg rfl rfl rfl rfl rfl rfl (zT eV (v := u) rfl hu) (qdg rfl rfl rfl rfl rfl rfl (zR (k := 0) rfl eW rfl nz24 rfl) (qdg rfl rfl rfl rfl rfl rfl (zS (u := v) ag24 rfl ((dO hX35.pins (dN hx29.le hx34.le)) _ _ _ (hbp25 0 _ rfl))) (qdg rfl rfl rfl rfl rfl rfl (zT eV (v := v) rfl hv) ?_)))))
 have hx0 : goodB fs = true := (fP fs).symm.trans h31
 have hx1 : goodB gs = true := (fP gs).symm.trans h36
 have hx2 := (goodB_true.1 hx0).hi
 have hx3 := (goodB_true.1 hx1).hi
 have hx4 := mul_120 hx2 hx3
 refine qdg rfl rfl rfl rfl rfl rfl (r_mul rfl rfl (by omega)) (qdg rfl rfl rfl rfl rfl rfl (fV rfl rfl) (qD rfl (xI (v := (.bool (decide (((fs.length : Int) * (gs.length : Int) : Int) ≤ 1600)))) rfl rfl) (qD rfl (zD (v := (.bool (decide (((fs.length : Int) * (gs.length : Int) : Int) ≤ 1600)))) rfl) (qe (zA ?_)))))
 exact wp_ret (zY (zW (v := (.bool (decide (((fs.length : Int) * (gs.length : Int) : Int) ≤ 1600)))) rfl rfl rfl (⟨_, congrArg (fun z => Ending.returned (Value.bool z)) (by unfold pairB; rw [hx0, hx1]; exact decide_eq_decide.2 pair_int), hX35⟩)))
 refine qs rfl rfl rfl rfl rfl rfl (qs rfl rfl rfl rfl rfl rfl (qs rfl rfl rfl rfl rfl rfl (qs rfl rfl rfl rfl rfl rfl (qs rfl rfl rfl rfl rfl rfl (qs rfl rfl rfl rfl rfl rfl (qs rfl rfl rfl rfl rfl rfl (qs rfl rfl rfl rfl rfl rfl (qD rfl (xA (v := (.bool false)) rfl rfl) (qD rfl (zD (v := (.bool false)) rfl) (qe (zA ?_)))))))))))
 refine wp_ret (zY (zW (v := (.bool false)) rfl rfl rfl ?_))
 have hx0 : goodB fs = true := (fP fs).symm.trans h31
 have hx1 : goodB gs = false := (fP gs).symm.trans h36
 exact ⟨_, congrArg (fun z => Ending.returned (Value.bool z)) (by unfold pairB; rw [hx0, hx1]; rfl), hX35⟩
 refine qs rfl rfl rfl rfl rfl rfl (qs rfl rfl rfl rfl rfl rfl (qD rfl (xA (v := (.bool false)) rfl rfl) (qD rfl (zB (v := (.bool false)) rfl) (qs rfl rfl rfl rfl rfl rfl (qs rfl rfl rfl rfl rfl rfl (qs rfl rfl rfl rfl rfl rfl (qs rfl rfl rfl rfl rfl rfl (qs rfl rfl rfl rfl rfl rfl (qs rfl rfl rfl rfl rfl rfl (qs rfl rfl rfl rfl rfl rfl (qs rfl rfl rfl rfl rfl rfl (qD rfl (xA (v := (.bool false)) rfl rfl) (qD rfl (zD (v := (.bool false)) rfl) (qe (zA ?_)))))))))))))))
 refine wp_ret (zY (zW (v := (.bool false)) rfl rfl rfl ?_))
 have hx0 : goodB fs = false := (fP fs).symm.trans h31
 exact ⟨_, congrArg (fun z => Ending.returned (Value.bool z)) (by unfold pairB; rw [hx0]; rfl), hX30⟩
theorem pairs_spec {w : World} {G : Pin} {u v : Value} {fs gs : List Nd} (hP : Pins G w) (hu : RSl eNode G u fs) (hv : RSl eNode G v gs) :
  Calls Tryz.prog 30 [(.agg [u].toArray), (.agg [v].toArray)].toArray w fun e w' => ∃ G', e = .returned (.bool (pairB fs gs)) ∧ Ext noS G w G' w' := by
 refine yG (n := 21) Tryz.func30 Tryz.ntmps30 rfl rfl ?_
 have hX0 := exr noS hP
 have hmu := hu.max
 have hmv := hv.max
 refine zG (zH ?_)
 refine qI rfl (xW [u] (v := (.agg [u].toArray)) rfl rfl hX0.pins (fun b1 w2 hk3 hb4 hp5 hl6 => ?_))
 have hX7 := hX0.step hp5 hl6
 have hlo8 : w.heap.size ≤ b1 := by have := hX0.size; omega
 obtain ⟨G9, hle10, hX11, hbp12, hf13⟩ := hb4.shut hX7 hlo8
 refine qI rfl (xW [v] (v := (.agg [v].toArray)) rfl rfl hX11.pins (fun b14 w15 hk16 hb17 hp18 hl19 => ?_))
 have hX20 := hX11.step hp18 hl19
 have hlo21 : w.heap.size ≤ b14 := by have := hX11.size; omega
 obtain ⟨G22, hle23, hX24, hbp25, hf26⟩ := hb17.shut hX20 hlo21
 refine qD rfl (zD (v := (.bool false)) rfl) (qe (zA (zG (zH ?_))))
 refine qD rfl (yJ (cs := [u]) ag26 sz26 rfl (fun j u hj => (dO hX24.pins hle23) _ _ _ (hbp12 _ _ (by simpa using hj)))) (qI rfl (zM (vs := [(.agg [u].toArray)]) Tryz.func42 nm42 rfl rfl rfl ?_))
 refine dP (jV hX24.pins (hu.mono (dN hle10 hle23))) ?_
 rintro _ w28 ⟨G27, rfl, hx29⟩
 refine ⟨_, rfl, ?_⟩
 have hX30 := hX24.tr hx29
 refine qD rfl (zB (v := (.bool (goodB fs))) rfl) (qb (t := 7) rfl (fun h31 => ?_) (fun h31 => ?_))
 refine qdg rfl rfl rfl rfl rfl rfl (yJ (cs := [v]) ag26 sz26 rfl (fun j u hj => (dO hX30.pins hx29.le) _ _ _ (hbp25 _ _ (by simpa using hj)))) (q1g rfl rfl rfl rfl rfl rfl (zM (vs := [(.agg [v].toArray)]) Tryz.func42 nm42 rfl rfl rfl ?_))
 refine dP (jV hX30.pins (hv.mono (dN (dN hle10 hle23) hx29.le))) ?_
 rintro _ w33 ⟨G32, rfl, hx34⟩
 refine ⟨_, rfl, ?_⟩
 have hX35 := hX30.tr hx34
 refine qD rfl (xI (v := (.bool (goodB gs))) rfl rfl) (qD rfl (zB (v := (.bool (goodB gs))) rfl) (qb (t := 11) rfl (fun h36 => ?_) (fun h36 => ?_)))
 refine qdg rfl rfl rfl rfl rfl rfl (zR (k := 0) rfl eW rfl nz24 rfl) (qdg rfl rfl rfl rfl rfl rfl (zS (u := u) ag24 rfl ((dO hX35.pins (dN (dN hle23 hx29.le) hx34.le)) _ _ _ (hbp12 0 _ rfl))) (qdg rfl rfl rfl rfl rfl rfl (zT eV (v := u) rfl hu) (qdg rfl rfl rfl rfl rfl rfl (zR (k := 0) rfl eW rfl nz24 rfl) (qdg rfl rfl rfl rfl rfl rfl (zS (u := v) ag24 rfl ((dO hX35.pins (dN hx29.le hx34.le)) _ _ _ (hbp25 0 _ rfl))) (qdg rfl rfl rfl rfl rfl rfl (zT eV (v := v) rfl hv) ?_)))))
 have hx0 : goodB fs = true := h31
 have hx1 : goodB gs = true := h36
 have hx2 := (goodB_true.1 hx0).hi
 have hx3 := (goodB_true.1 hx1).hi
 have hx4 := mul_120 hx2 hx3
 refine qdg rfl rfl rfl rfl rfl rfl (r_mul rfl rfl (by omega)) (qdg rfl rfl rfl rfl rfl rfl (fV rfl rfl) (qD rfl (xI (v := (.bool (decide (((fs.length : Int) * (gs.length : Int) : Int) ≤ 1600)))) rfl rfl) (qD rfl (zD (v := (.bool (decide (((fs.length : Int) * (gs.length : Int) : Int) ≤ 1600)))) rfl) (qe (zA ?_)))))
 exact wp_ret (zY (zW (v := (.bool (decide (((fs.length : Int) * (gs.length : Int) : Int) ≤ 1600)))) rfl rfl rfl (⟨_, congrArg (fun z => Ending.returned (Value.bool z)) (by unfold pairB; rw [hx0, hx1]; exact decide_eq_decide.2 pair_int), hX35⟩)))
 refine qs rfl rfl rfl rfl rfl rfl (qs rfl rfl rfl rfl rfl rfl (qs rfl rfl rfl rfl rfl rfl (qs rfl rfl rfl rfl rfl rfl (qs rfl rfl rfl rfl rfl rfl (qs rfl rfl rfl rfl rfl rfl (qs rfl rfl rfl rfl rfl rfl (qs rfl rfl rfl rfl rfl rfl (qD rfl (xA (v := (.bool false)) rfl rfl) (qD rfl (zD (v := (.bool false)) rfl) (qe (zA ?_)))))))))))
 refine wp_ret (zY (zW (v := (.bool false)) rfl rfl rfl ?_))
 have hx0 : goodB fs = true := h31
 have hx1 : goodB gs = false := h36
 exact ⟨_, congrArg (fun z => Ending.returned (Value.bool z)) (by unfold pairB; rw [hx0, hx1]; rfl), hX35⟩
 refine qs rfl rfl rfl rfl rfl rfl (qs rfl rfl rfl rfl rfl rfl (qD rfl (xA (v := (.bool false)) rfl rfl) (qD rfl (zB (v := (.bool false)) rfl) (qs rfl rfl rfl rfl rfl rfl (qs rfl rfl rfl rfl rfl rfl (qs rfl rfl rfl rfl rfl rfl (qs rfl rfl rfl rfl rfl rfl (qs rfl rfl rfl rfl rfl rfl (qs rfl rfl rfl rfl rfl rfl (qs rfl rfl rfl rfl rfl rfl (qs rfl rfl rfl rfl rfl rfl (qD rfl (xA (v := (.bool false)) rfl rfl) (qD rfl (zD (v := (.bool false)) rfl) (qe (zA ?_)))))))))))))))
 refine wp_ret (zY (zW (v := (.bool false)) rfl rfl rfl ?_))
 have hx0 : goodB fs = false := h31
 exact ⟨_, congrArg (fun z => Ending.returned (Value.bool z)) (by unfold pairB; rw [hx0]; rfl), hX30⟩
theorem l3If_spec {w : World} {G : Pin} {v : Value} {fs : List Nd} (hP : Pins G w) (hv : RSl eNode G v fs) :
  Calls Tryz.prog 37 [(.agg [v].toArray)].toArray w fun e w' => ∃ (u : Value) (G' : Pin), e = .returned (.tuple #[(.agg [u].toArray), .bool (decP (FitsP fs))]) ∧ RSl eNode G' u (ifF fs) ∧ Ext noS G w G' w' := by
 refine yG (n := 9) Tryz.func37 Tryz.ntmps37 rfl rfl ?_
 have hX0 := exr noS hP
 refine zG (zH ?_)
 refine qI rfl (xW [v] (v := (.agg [v].toArray)) rfl rfl hX0.pins (fun b1 w2 hk3 hb4 hp5 hl6 => ?_))
 have hX7 := hX0.step hp5 hl6
 have hlo8 : w.heap.size ≤ b1 := by have := hX0.size; omega
 obtain ⟨G9, hle10, hX11, hbp12, hf13⟩ := hb4.shut hX7 hlo8
 refine qI rfl (yO [(.slice none 0 0)] zr26 rfl hX11.pins (fun b14 w15 hk16 hb17 hp18 hl19 => ?_))
 have hX20 := hX11.step hp18 hl19
 have hlo21 : w.heap.size ≤ b14 := by have := hX11.size; omega
 refine qD rfl (zD (v := (.bool false)) rfl) (qe (zA (zG (zG (zH ?_)))))
 refine qD rfl (yJ (cs := [v]) ag26 sz26 rfl (fun j u hj => hX20.pins _ _ _ (hbp12 _ _ (by simpa using hj)))) (qI rfl (zM (vs := [(.agg [v].toArray)]) Tryz.func75 nm75 rfl rfl rfl ?_))
 refine dP (rM hX20.pins (hv.mono hle10)) ?_
 rintro _ w23 ⟨G22, rfl, hx24⟩
 refine ⟨_, rfl, ?_⟩
 have hX25 := hX20.tr hx24
 have hb26 := hb17.ext hx24
 refine qD rfl (qR rfl) (qe (zA ?_))
 refine vN rfl rfl (fun h27 => ?_) (fun h27 => ?_)
 refine wp_skip (zA (zG (zH ?_)))
 refine qD rfl (yJ (cs := [v]) ag26 sz26 rfl (fun j u hj => (dO hX25.pins hx24.le) _ _ _ (hbp12 _ _ (by simpa using hj)))) (q0 rfl rfl rfl (o_stp (cs' := [v]) (us := [v]) (v := (.agg [v].toArray)) sz26 rfl rfl rfl (yM hv.one) hX25.pins hb26 (dQ rfl) rfl (fun w28 hb29 hp30 hg31 hz32 => ?_)))
 have hX33 := hX25.write hp30 hg31 ((yC hlo21))
 refine qD rfl (zD (v := (.bool true)) rfl) (qe (zA ?_))
 exact wp_ret (zY (jW (cs := [v]) (v := (.bool true)) rfl rfl rfl rfl rfl ag26 sz26 (fun j u hj => by rw [Nat.zero_add]; exact hb29.cell hj) (⟨_, _, congrArg (fun z => Ending.returned (Value.tuple #[(.agg [v].toArray), Value.bool z])) (h27).symm, (by unfold ifF; rw [h27]; exact (hv.mono (dN hle10 hx24.le))), hX33⟩)))
 refine zG (zH ?_)
 refine qD rfl (xQ [(.slice none 0 0)] [(.slice none 0 0)] [] eW zr26 rfl pl26 rfl (fun _ h => by cases h) rfl) (q0 rfl rfl rfl (o_stp (cs' := [(.slice none 0 0)]) (us := [(.slice none 0 0)]) (v := (.agg [(.slice none 0 0)].toArray)) sz26 rfl rfl rfl (yM (by rfl)) hX25.pins hb26 (dQ rfl) rfl (fun w34 hb35 hp36 hg37 hz38 => ?_)))
 have hX39 := hX25.write hp36 hg37 ((yC hlo21))
 refine qD rfl (zD (v := (.bool false)) rfl) (qe (zA ?_))
 exact wp_ret (zY (jW (cs := [(.slice none 0 0)]) (v := (.bool false)) rfl rfl rfl rfl rfl ag26 sz26 (fun j u hj => by rw [Nat.zero_add]; exact hb35.cell hj) (⟨_, _, congrArg (fun z => Ending.returned (Value.tuple #[(.agg [(.slice none 0 0)].toArray), Value.bool z])) (h27).symm, (by unfold ifF; rw [h27]; exact qJ _ _), hX39⟩)))
end SM1
end Go.Proofs.YtajkbplgbikgdaaGreatDoor
