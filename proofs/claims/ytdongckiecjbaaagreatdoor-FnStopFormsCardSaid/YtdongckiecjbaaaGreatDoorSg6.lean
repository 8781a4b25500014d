/- Texts of this claim in one file: PL1, AT1, MK1, DR1, DR2, DV1, AR1, AR2, AR3, AR4, AR5. -/
import Derived.Test.YtdongckiecjbaaaGreatDoorSg5
import Derived.Test.YtdongckiecjbaaaGreatDoorChecked
set_option maxRecDepth 20000
set_option maxHeartbeats 2000000
namespace Go.Proofs.YtdongckiecjbaaaGreatDoor
namespace PL1
open Go.RowKit Go.GL Go.Proofs
open B1 K1 PO1
theorem mk3 : (Tryz.prog.info? 3).map (fun i => (i.size, i.bytes, i.zero)) = some (1, 8, some (.int .i64 0)) := by kernel_rfl
theorem pl85 : (Tryz.prog.underlying 85).bind (placesD Tryz.prog) = some [(0, 1), (1, 1), (2, 1), (3, 1), (4, 1), (5, 1), (6, 1), (7, 1)] := by kernel_rfl
variable {G : Pin} {p : Nat} {L R B x : Value} {mm : PM} {q : PSt} {fs : List Nd} {a b : Int}
theorem pG {w : World} (hP : Pins G w) :
  Calls Tryz.prog 20 [].toArray w fun e w' => ∃ (p : Nat) (mm : PM) (G' : Pin), e = .returned (.pointer (some ⟨p, 0, none⟩)) ∧ Pk 44 3 G' w' p (.slice none 0 0) (.slice none 0 0) (.slice none 0 0) mm ⟨[], [], [], [], [], [], []⟩ ∧ (∀ k, inP p (.slice none 0 0) (.slice none 0 0) (.slice none 0 0) mm k → w.heap.size ≤ k) ∧ Ext noS G w G' w' := by
 refine yD (n := 8) Tryz.func20 Tryz.ntmps20 rfl rfl ?_
 have hX0 := exr noS hP
 refine zE (zF ?_)
 refine qD rfl (zD (v := (.pointer none)) rfl) (qe (zA (zE (zF ?_))))
 refine qI rfl (vQ (fun k : ByteArray => Value.string k) (fun v : Int => Value.int .i64 v) hX0.pins (fun m1 w2 hk3 hm4 hp5 hl6 => ?_))
 have hX7 := hX0.step hp5 hl6
 have hlo8 : w.heap.size ≤ m1 := by have := hX0.size; omega
 refine qI rfl (vQ encP2 (fun v : Bool => Value.bool v) hX7.pins (fun m9 w10 hk11 hm12 hp13 hl14 => ?_))
 have hX15 := hX7.step hp13 hl14
 have hm16 := hm4.below hl14
 have ha17 : Apart (some m9) (some m1) := zK (congrArg some hk11) hm4.lt
 have hlo18 : w.heap.size ≤ m9 := by have := hX7.size; omega
 refine qI rfl (vQ (fun k : Int => Value.int .i64 k) (fun v : Int => Value.int .i64 v) hX15.pins (fun m19 w20 hk21 hm22 hp23 hl24 => ?_))
 have hX25 := hX15.step hp23 hl24
 have hm26 := hm16.below hl24
 have hm27 := hm12.below hl24
 have ha28 : Apart (some m19) (some m1) := zK (congrArg some hk21) hm16.lt
 have ha29 : Apart (some m19) (some m9) := zK (congrArg some hk21) hm12.lt
 have hlo30 : w.heap.size ≤ m19 := by have := hX15.size; omega
 refine qI rfl (vQ encP2 (fun v : Int => Value.int .i64 v) hX25.pins (fun m31 w32 hk33 hm34 hp35 hl36 => ?_))
 have hX37 := hX25.step hp35 hl36
 have hm38 := hm26.below hl36
 have hm39 := hm27.below hl36
 have hm40 := hm22.below hl36
 have ha41 : Apart (some m31) (some m1) := zK (congrArg some hk33) hm26.lt
 have ha42 : Apart (some m31) (some m9) := zK (congrArg some hk33) hm27.lt
 have ha43 : Apart (some m31) (some m19) := zK (congrArg some hk33) hm22.lt
 have hlo44 : w.heap.size ≤ m31 := by have := hX25.size; omega
 refine qI rfl (vQ (fun k : Int => Value.int .i64 k) (fun v : Int => Value.int .i64 v) hX37.pins (fun m45 w46 hk47 hm48 hp49 hl50 => ?_))
 have hX51 := hX37.step hp49 hl50
 have hm52 := hm38.below hl50
 have hm53 := hm39.below hl50
 have hm54 := hm40.below hl50
 have hm55 := hm34.below hl50
 have ha56 : Apart (some m45) (some m1) := zK (congrArg some hk47) hm38.lt
 have ha57 : Apart (some m45) (some m9) := zK (congrArg some hk47) hm39.lt
 have ha58 : Apart (some m45) (some m19) := zK (congrArg some hk47) hm40.lt
 have ha59 : Apart (some m45) (some m31) := zK (congrArg some hk47) hm34.lt
 have hlo60 : w.heap.size ≤ m45 := by have := hX37.size; omega
 refine qD rfl (xR [(.slice none 0 0), (.slice none 0 0), (.slice none 0 0), (.map none), (.map none), (.map none), (.map none), (.map none)] [(.slice none 0 0), (.slice none 0 0), (.slice none 0 0), (.map (some m1)), (.map (some m9)), (.map (some m19)), (.map (some m31)), (.map (some m45))] [(3, (.map (some m1)), [(.map (some m1))]), (4, (.map (some m9)), [(.map (some m9))]), (5, (.map (some m19)), [(.map (some m19))]), (6, (.map (some m31)), [(.map (some m31))]), (7, (.map (some m45)), [(.map (some m45))])] dC zr85 rfl pl85 rfl (List.forall_mem_cons.2 ⟨rfl, (List.forall_mem_cons.2 ⟨rfl, (List.forall_mem_cons.2 ⟨rfl, (List.forall_mem_cons.2 ⟨rfl, (List.forall_mem_cons.2 ⟨rfl, (fun _ h => by cases h)⟩)⟩)⟩)⟩)⟩) rfl) (qI rfl (xY [(.slice none 0 0), (.slice none 0 0), (.slice none 0 0), (.map (some m1)), (.map (some m9)), (.map (some m19)), (.map (some m31)), (.map (some m45))] (v := (.agg [(.slice none 0 0), (.slice none 0 0), (.slice none 0 0), (.map (some m1)), (.map (some m9)), (.map (some m19)), (.map (some m31)), (.map (some m45))].toArray)) rfl rfl hX51.pins (fun b61 w62 hk63 hb64 hp65 hl66 => ?_)))
 have hX67 := hX51.step hp65 hl66
 have hm68 := hm52.below hl66
 have hm69 := hm53.below hl66
 have hm70 := hm54.below hl66
 have hm71 := hm55.below hl66
 have hm72 := hm48.below hl66
 have hlo73 : w.heap.size ≤ b61 := by have := hX51.size; omega
 refine qD rfl (zD (v := (.pointer (some ⟨b61, 0, none⟩))) rfl) (qe (zA ?_))
 refine wp_ret (zW (zT (v := (.pointer (some ⟨b61, 0, none⟩))) rfl rfl rfl ?_))
 have hdf : PDiff ⟨m1, m9, m19, m31, m45⟩ := ⟨fun e => ha17.symm _ rfl (congrArg some e.symm), fun e => ha28.symm _ rfl (congrArg some e.symm), fun e => ha41.symm _ rfl (congrArg some e.symm), fun e => ha56.symm _ rfl (congrArg some e.symm), fun e => ha29.symm _ rfl (congrArg some e.symm), fun e => ha42.symm _ rfl (congrArg some e.symm), fun e => ha57.symm _ rfl (congrArg some e.symm), fun e => ha43.symm _ rfl (congrArg some e.symm), fun e => ha58.symm _ rfl (congrArg some e.symm), fun e => ha59.symm _ rfl (congrArg some e.symm)⟩
 have hfr : ∀ k, inP b61 (.slice none 0 0) (.slice none 0 0) (.slice none 0 0) ⟨m1, m9, m19, m31, m45⟩ k → w.heap.size ≤ k := by rintro k (rfl | hk | hk | hk | rfl | rfl | rfl | rfl | rfl) <;> first | (cases hk; done) | exact hlo73 | exact hlo8 | exact hlo18 | exact hlo30 | exact hlo44 | exact hlo60
 exact ⟨b61, ⟨m1, m9, m19, m31, m45⟩, _, rfl, ⟨hb64, (Own.nil _ _ _ _ _), (Own.nil _ _ _ _ _), (Own.nil _ _ _ _ _), hm68, hm69, hm70, hm71, hm72, apart_none.symm, apart_none.symm, apart_none.symm, apart_none, apart_none, apart_none, hdf⟩, hfr, hX67⟩
theorem gA {w : World} {u v : Value} {xs ys : List Int} (hP : Pins G w) (hu : RSl eInt G u xs) (hv : RSl eInt G v ys) (hs : xs.length ≤ 1048576) (hb : ∀ i, i < xs.length → 0 ≤ xs.getD i 0 ∧ xs.getD i 0 < ys.length) :
  Calls Tryz.prog 58 [u, v].toArray w fun e w' => ∃ (u : Value) (G' : Pin), e = .returned u ∧ Own eInt 3 G' w' w.heap.size u (atL ys xs) ∧ Ext noS G w G' w' := by
 refine yD (n := 27) Tryz.func58 Tryz.ntmps58 rfl rfl ?_
 have hX0 := exr noS hP
 have hm := hu.max
 have hal : (atL ys xs).length = xs.length := xE
 have hrl : (List.replicate xs.length (0 : Int)).length = xs.length := List.length_replicate
 refine zE (zF ?_)
 refine qD rfl (zD (v := (.slice none 0 0)) rfl) (qe (zA (zE (zF ?_))))
 refine qD rfl (zB (v := u) rfl) (qD rfl (zP eR (v := u) rfl hu) (qI rfl (kQ (E := eInt) 0 8 (.int .i64 0) eR mk3 (fun _ => rfl) rfl rfl hX0.pins (by omega) (by omega) (by omega) (fun u1 w2 ho3 hp4 hl5 hk6 => ?_))))
 have hX7 := hX0.step hp4 hl5
 have ho8 : Own eInt 3 G w2 w.heap.size u1 (List.replicate xs.length 0) := ho3.weaken hX0.size
 have hm9 : (List.replicate xs.length 0).length = xs.length := List.length_replicate ..
 refine qD rfl (zD (v := u1) rfl) (qe (zA (zE (zE (zF ?_)))))
 refine qD rfl (zB (v := u) rfl) (qD rfl (zP eR (v := u) rfl hu) (qD rfl (zB (v := (.int .i64 0)) rfl) (qe (zA ?_))))
 refine zX (yM (fun (k : Nat) (en : Nat → Value) (W : World) => ∃ (env1 : Nat → Value) (j : Nat) (os : List Int), en = (upd (upd (upd (upd (upd (upd env1 1 v) 4 (.slice none 0 0)) 5 u1) 11 u) 12 (.int .i64 (xs.length : Int))) 13 (.int .i64 (j : Int))) ∧ k = xs.length - j ∧ Ext noS G w G W ∧ (j ≤ xs.length) ∧ (os = (atL ys xs).take j ++ (List.replicate xs.length 0).drop j) ∧ (os.length = xs.length) ∧ (Own eInt 3 G W w.heap.size u1 (os))) _ ⟨_, 0, List.replicate xs.length 0, (zC (x := 13) (zC (x := 12) (zC (x := 11) (zC (x := 5) (zC (x := 4) (zS (x := 1) rfl) rfl) rfl) rfl) rfl) rfl), rfl, hX7, Nat.zero_le _, rfl, hrl, ho8⟩ ?_)
 rintro k10 _ w11 ⟨env1, j, os, rfl, hk12, hX13, hj, hr, hol, hw14⟩
 refine zE (zF ?_)
 refine qD rfl (yQ rfl rfl) (qe (zA (zE ?_)))
 refine yF (p := ((j : Int) : Int) < (xs.length : Int)) rfl rfl (fun h15 => ?_) (fun h15 => ?_)
 have hbj := hb j (by omega)
 refine wp_skip (zA (zE ?_))
 refine zX (zE (zF ?_))
 refine qD rfl (zB (v := (.int .i64 (j : Int))) rfl) (qD rfl (zL eR sz3 (v := u) rfl rfl hu (by omega) (by omega)) (qD rfl (zO (r := xs.getD j 0) rfl ag3 (z := (j : Int)) rfl hu hX13.pins (by omega) (by omega)) (qD rfl (zD (v := (.int .i64 (j : Int))) rfl) (qD rfl (zD (v := (.int .i64 (xs.getD j 0))) rfl) (qe (zA (zF ?_)))))))
 refine qD rfl (zB (v := u1) rfl) (qD rfl (zB (v := (.int .i64 (j : Int))) rfl) (qD rfl (zB (v := v) rfl) (qD rfl (zB (v := (.int .i64 (xs.getD j 0))) rfl) (qD rfl (zL eR sz3 (v := v) rfl rfl hv (by omega) (by omega)) (qD rfl (zO (r := ys.getD (xs.getD j 0).toNat 0) rfl ag3 (z := (xs.getD j 0)) rfl hv hX13.pins (by omega) (by omega)) (qD rfl (zL eR sz3 (v := u1) rfl rfl hw14.read (by omega) (by omega)) (q0 rfl rfl rfl (jP (E := eInt) (v := u1) (u := (.int .i64 (ys.getD (xs.getD j 0).toNat 0))) (z := (j : Int)) (ys.getD (xs.getD j 0).toNat 0) sz3 rfl rfl rfl rfl hX13.pins hw14 (by omega) (by omega) (fun w16 ho17 hp18 hg19 hz20 => ?_)))))))))
 have hX21 := hX13.write hp18 hg19 ((yB hw14))
 refine qe (yC (zA (zF ?_)))
 refine qD rfl (yH rfl rfl (by omega)) (qD rfl (zB (v := (.int .i64 ((j : Int) + 1))) rfl) (qe (yE (⟨_, ?_, _, rfl, _, j + 1, os.set j (ys.getD (xs.getD j 0).toNat 0), (zC (x := 13) (zC (x := 12) (zC (x := 11) (zC (x := 5) (zC (x := 4) (zS (x := 1) rfl) rfl) rfl) rfl) rfl) rfl), rfl, hX21, (by omega), (by rw [hr]; exact cur_set 0 (by omega) (by omega) (at_getD (by omega))), ((List.length_set ..).trans hol), ho17⟩))))
 omega
 refine wp_exit (zZ (yJ (yI (zA (zE (zF ?_))))))
 refine qD rfl (zB (v := u1) rfl) (qD rfl (zD (v := u1) rfl) (qe (zA ?_)))
 refine wp_ret (zW (zT (v := u1) rfl rfl rfl ?_))
 rw [cur_end (by omega) (by omega)] at hr
 exact ⟨_, _, rfl, (by rw [← hr]; exact hw14), hX13⟩
theorem load_spec {w : World} (hP : Pins G w) (hpk : Pk 44 3 G w p L R B mm q) (hok : PoolOk q) (hx : RSl eNode G x fs) (hf : FormOk fs) (hl : q.ns.length + fs.length ≤ 1048576) :
  Calls Tryz.prog 42 [(.pointer (some ⟨p, 0, none⟩)), (.agg [x].toArray)].toArray w fun e w' => ∃ (u : Value) (ats : List Int) (L' R' B' : Value) (q' : PSt) (G' : Pin), e = .returned u ∧ Pk 44 3 G' w' p L' R' B' mm q' ∧ PoolOk q' ∧ PX q q' ∧ PLo w p L R B mm L' R' B' ∧ Ext (inP p L R B mm) G w G' w' ∧ Own eInt 3 G' w' w.heap.size u ats ∧ NP p L' R' B' mm u.ownBlock ∧ LdOk fs q q' fs.length ats := by
 refine yD (n := 34) Tryz.func42 Tryz.ntmps42 rfl rfl ?_
 have hX0 := exr (inP p L R B mm) hP
 have hpin : PIn w (inP p L R B mm) p L R B mm := PIn.self
 have hml1 := pkl q
 have hml2 := pkb hok
 refine zE (zF ?_)
 refine qI rfl (xY [x] (v := (.agg [x].toArray)) rfl rfl hX0.pins (fun b3 w4 hk5 hb6 hp7 hl8 => ?_))
 have hX9 := hX0.step hp7 hl8
 have hpk10 := hpk.below hl8 hp7
 have ha15 := hpk.new (x := (some b3)) (fun k hk => by rw [(congrArg some hk5)] at hk; cases hk; exact Nat.le_refl _)
 have hlo16 : w.heap.size ≤ b3 := by have := hX0.size; omega
 obtain ⟨G17, hle18, hX19, hbp20, hf21⟩ := hb6.shut hX9 hlo16
 have hpk22 := hpk10.more hle18 hf21 ha15
 refine qD rfl (zD (v := (.slice none 0 0)) rfl) (qe (zA (zE (zF ?_))))
 refine qD rfl (zN (k := 0) rfl eU rfl nz24 rfl) (qD rfl (zM (u := x) ag24 rfl (hX19.pins _ _ _ (hbp20 0 _ rfl))) (qD rfl (zP eS (v := x) rfl hx) (qI rfl (o_make0 (E := eInt) eR mk3 rfl rfl hX19.pins (by omega) (by omega) (by omega) (fun u23 w24 ho25 hp26 hl27 hk28 => ?_)))))
 have hX29 := hX19.step hp26 hl27
 have hpk30 := hpk22.below hl27 hp26
 have ha35 := hpk22.new (x := u23.ownBlock) (fun k hk => by rw [hk28] at hk; cases hk; exact Nat.le_refl _)
 have ho36 := ho25.weaken hX19.size
 refine qD rfl (zD (v := u23) rfl) (qe (zA (zE (zE (zF ?_)))))
 refine qD rfl (zN (k := 0) rfl eU rfl nz24 rfl) (qD rfl (zM (u := x) ag24 rfl (hX29.pins _ _ _ (hbp20 0 _ rfl))) (qD rfl (zP eS (v := x) rfl hx) (qD rfl (zB (v := (.int .i64 0)) rfl) (qe (zA ?_)))))
 refine zX (yM (fun (k : Nat) (en : Nat → Value) (W : World) => ∃ (env1 : Nat → Value) (k4 : Nat) (at_ : Value) (ats : List Int) (L37 : Value) (R38 : Value) (B39 : Value) (q40 : PSt) (GL1 : Pin), en = (upd (upd (upd (upd (upd (upd env1 0 (.pointer (some ⟨p, 0, none⟩))) 4 (.slice none 0 0)) 5 at_) 13 x) 14 (.int .i64 (fs.length : Int))) 15 (.int .i64 (k4 : Int))) ∧ k = fs.length - k4 ∧ Ext (inP p L R B mm) G w GL1 W ∧ Pin.le G17 GL1 ∧ (k4 ≤ fs.length) ∧ (LdOk fs q q40 k4 ats) ∧ (Own eInt 3 GL1 W w.heap.size at_ (ats)) ∧ (Pk 44 3 GL1 W p L37 R38 B39 mm q40) ∧ (PIn w ((inP p L R B mm)) p L37 R38 B39 mm) ∧ (PoolOk q40) ∧ (PX q q40) ∧ (NP p L37 R38 B39 mm at_.ownBlock)) _ ⟨_, 0, u23, [], L, R, B, q, G17, (zC (x := 15) (zC (x := 14) (zC (x := 13) (zC (x := 5) (zC (x := 4) (zS (x := 0) rfl) rfl) rfl) rfl) rfl) rfl), rfl, hX29, Pin.le_refl _, Nat.zero_le _, LdOk.start, ho36, hpk30, hpin, hok, (PX.refl _), ha35⟩ ?_)
 rintro k41 _ w42 ⟨env1, k4, at_, ats, L37, R38, B39, q40, GL1, rfl, hk43, hX44, hlek41, hk, hld, hw45, hpk46, hpin47, hok48, hpx49, hnp50⟩
 have hql51 := hpx49.len
 have hml52 := pkl q40
 have hml53 := pkb hok48
 have hal := hld.len
 have hah := hld.hi
 have hfl := hf.len
 refine zE (zF ?_)
 refine qD rfl (yQ rfl rfl) (qe (zA (zE ?_)))
 refine yF (p := ((k4 : Int) : Int) < (fs.length : Int)) rfl rfl (fun h54 => ?_) (fun h54 => ?_)
 have oo := xJ hf.opts (show k4 < fs.length by omega)
 have hfe := hf.lens k4 (by omega)
 refine wp_skip (zA (zE ?_))
 refine zX (zE (zF ?_))
 refine qD rfl (zL eS sz46 (v := x) rfl rfl hx (by omega) (by omega)) ?_
 obtain ⟨u55, u56, hr57, hr58, hl59⟩ := jL (hx.at (z := (k4 : Int)) (by omega) (by omega)) (j := k4) rfl
 have hm60 := hr57.max
 have hm61 := hr58.max
 refine qD rfl (hl59 ag46 sz46 rfl (dN hX44.pins (dM hle18 hlek41))) (qI rfl (yN [(.slice none 0 0), (.slice none 0 0)] zr46 rfl hX44.pins (fun b62 w63 hk64 hb65 hp66 hl67 => ?_)))
 have hX68 := hX44.step hp66 hl67
 have ho69 := hw45.below hl67
 have hpk70 := hpk46.below hl67 hp66
 have ha71 : Apart (some b62) at_.ownBlock := zI (congrArg some hk64) hw45.lt
 have ha76 := hpk46.new (x := (some b62)) (fun k hk => by rw [(congrArg some hk64)] at hk; cases hk; exact Nat.le_refl _)
 have hlo77 : w.heap.size ≤ b62 := by have := hX44.size; omega
 refine q0 rfl rfl rfl (o_stp (cs' := [u55, u56]) (us := [u55, u56]) (v := (.agg [u55, u56].toArray)) sz46 rfl rfl rfl (xO hr57.one hr58.one) hX68.pins hb65 (dP rfl) rfl (fun w78 hb79 hp80 hg81 hz82 => ?_))
 have hX83 := hX68.write hp80 hg81 ((yG hlo77))
 have ho84 := ho69.keptA hg81 ha71.symm
 have hpk85 := hpk70.kept hg81 hp80 ha76
 obtain ⟨G86, hle87, hX88, hbp89, hf90⟩ := hb79.shut hX83 hlo77
 have ho91 := ho84.moreA hle87 hf90 ha71.symm
 have hpk92 := hpk85.more hle87 hf90 ha76
 refine qe (zA ?_)
 refine yZ (S := fun wz => Pins G86 wz) (last := 14) (by kernel_rfl) rfl ?_
 have hl93 := bdr w78
 have hp94 := hX88.pins.below hl93
 have hX95 := hX88.step hp94 hl93
 have ho96 := ho91.below hl93
 have hpk97 := hpk92.below hl93 hp94
 refine dT (i := 0) rfl rfl (by kernel_rfl) (fun _ _ => zB (v := at_) rfl) hX95.pins ?_
 refine dT (i := 1) rfl rfl (by kernel_rfl) (fun _ _ => zB (v := (.pointer (some ⟨p, 0, none⟩))) rfl) hX95.pins ?_
 refine dT (i := 2) rfl rfl (by kernel_rfl) (fun _ _ => zN (k := 0) rfl eV rfl nz44 rfl) hX95.pins ?_
 refine dT (i := 3) rfl rfl (by kernel_rfl) (fun _ hS => zM (u := u55) ag44 rfl (hS _ _ _ (hbp89 0 _ rfl))) hX95.pins ?_
 refine dT (i := 4) rfl rfl (by kernel_rfl) (fun _ _ => zB (v := at_) rfl) hX95.pins ?_
 refine dT (i := 6) rfl rfl (by kernel_rfl) (fun _ _ => zN (k := 1) rfl eV rfl nz44 rfl) hX95.pins ?_
 refine dT (i := 7) rfl rfl (by kernel_rfl) (fun _ hS => zM (u := u56) ag44 rfl (hS _ _ _ (hbp89 1 _ rfl))) hX95.pins ?_
 refine dT (i := 8) rfl rfl (by kernel_rfl) (fun _ _ => zB (v := at_) rfl) hX95.pins ?_
 refine zQ (i := 5) (by kernel_rfl) (zV (i := 5) rfl rfl rfl (zG rfl _) (zR (vs := [u55, at_]) Tryz.func58 nm58 rfl rfl rfl ?_))
 refine dO (gA (Gadd.pins hX95.pins at_) ((hr57.mono (dM (dM hle18 hlek41) hle87)).mono (Gadd.le _ _ _)) ho96.read (by omega) (fun i hi => by have h7 := oo.1 _ (yX (d := (0 : Int)) hi); omega)) ?_
 rintro _ w100 ⟨u98, G99, rfl, ho101, hx102⟩
 refine ⟨_, rfl, ?_⟩
 have hx103 := tC hX95.pins hx102
 have ho104 := ho101.anti eH (dM (Gadd.le G86 w78.drew at_) hx102.le)
 have hX105 := hX95.step hx103.pins hx103.below
 have ho106 := ho96.below hx103.below
 have hpk107 := hpk97.below hx103.below hx103.pins
 have ha108 : Apart u98.ownBlock at_.ownBlock := zY ho104.lt ho96.lt
 have ha109 := hpk97.new (x := u98.ownBlock) (fun k hk => (ho104.lt k hk).1)
 have ho110 := ho104.weaken hX95.size
 have hm111 : (atL ats ((fs.getD k4 default).l)).length = ((fs.getD k4 default).l).length := xE
 refine ⟨fun _ => hX105.pins, ?_⟩
 refine zQ (i := 9) (by kernel_rfl) (zV (i := 9) rfl rfl rfl (zG rfl _) (zR (vs := [u56, at_]) Tryz.func58 nm58 rfl rfl rfl ?_))
 refine dO (gA (Gadd.pins hX105.pins at_) ((hr58.mono (dM (dM hle18 hlek41) hle87)).mono (Gadd.le _ _ _)) ho106.read (by omega) (fun i hi => by have h7 := oo.2 _ (yX (d := (0 : Int)) hi); omega)) ?_
 rintro _ w114 ⟨u112, G113, rfl, ho115, hx116⟩
 refine ⟨_, rfl, ?_⟩
 have hx117 := tC hX105.pins hx116
 have ho118 := ho115.anti eH (dM (Gadd.le G86 w100 at_) hx116.le)
 have hX119 := hX105.step hx117.pins hx117.below
 have ho120 := ho106.below hx117.below
 have ho121 := ho110.below hx117.below
 have hpk122 := hpk107.below hx117.below hx117.pins
 have ha123 : Apart u112.ownBlock at_.ownBlock := zY ho118.lt ho106.lt
 have ha124 : Apart u112.ownBlock u98.ownBlock := zY ho118.lt ho110.lt
 have ha125 := hpk107.new (x := u112.ownBlock) (fun k hk => (ho118.lt k hk).1)
 have ho126 := ho118.weaken hX105.size
 have hm127 : (atL ats ((fs.getD k4 default).r)).length = ((fs.getD k4 default).r).length := xE
 refine ⟨fun _ => hX119.pins, ?_⟩
 obtain ⟨G128, hle131, hX130, hr129, hf132⟩ := ho121.sealed hX119
 have ho133 := ho120.moreO hle131 hf132 ha108.symm
 have ho134 := ho126.moreO hle131 hf132 ha124
 have hpk135 := hpk122.moreO hle131 hf132 ha109
 obtain ⟨G136, hle139, hX138, hr137, hf140⟩ := ho134.sealed hX130
 have ho141 := ho133.moreO hle139 hf140 ha123.symm
 have hpk142 := hpk135.moreO hle139 hf140 ha125
 refine zQ (i := 10) (by kernel_rfl) (zV (i := 10) rfl rfl rfl (zG rfl _) (zR (vs := [(.pointer (some ⟨p, 0, none⟩)), u98, u112]) Tryz.func57 nm57 rfl rfl rfl ?_))
 refine dO (node_spec hX138.pins hpk142 hok48 (hr129.mono hle139) hr137 (by omega) ⟨by rw [xE]; omega, by rw [xE]; omega⟩ (hld.opt oo.1) (hld.opt oo.2)) ?_
 rintro _ w153 ⟨z143, L148, R149, B150, q151, G152, rfl, hpk154, hok155, hpx156, hlo157, hx158, hpl144, hpd145, hqn146, hcm147⟩
 refine ⟨_, rfl, ?_⟩
 have hX159 := hX138.trans hx158 hpin47
 have ho160 := ho141.extS hx158 hnp50
 have hnp161 := NP.call hnp50 hlo157 (qS ho141)
 have hpin162 := PIn.call hpin47 hlo157 hX138.size
 have hql163 := hpx156.len
 have hml164 := pkl q151
 have hml165 := pkb hok155
 refine ⟨fun _ => (dN hX159.pins (dM (dM hle131 hle139) hx158.le)), ?_⟩
 refine zQ (i := 11) (by kernel_rfl) (zV (i := 11) rfl rfl rfl (zG rfl _) (yL (E := eInt) (e := 3) [(.int .i64 z143)] [z143] eR sz3 zr3 (by exact xM (by rfl)) (yO (by rfl)) rfl rfl rfl rfl (by decide) hX159.pins (fun u166 w167 ho168 hp169 hl170 hk171 => ?_)))
 have hX172 := hX159.step hp169 hl170
 have ho173 := ho160.below hl170
 have hpk174 := hpk154.below hl170 hp169
 have ho181 := ho168.weaken hX159.size
 refine ⟨fun _ => (dN hX172.pins (dM (dM hle131 hle139) hx158.le)), ?_⟩
 refine zQ (i := 12) (by kernel_rfl) (zV (i := 12) rfl rfl rfl (zG rfl _) (zU (E := eInt) (v := at_) (u := u166) 8 eR ap3 (by decide) rfl rfl hX172.pins ho173 ho181.src (by first | omega | (rw [List.nil_append]; omega) | (rw [List.length_nil]; omega) | (rw [List.length_append]; omega) | (simp; done) | (simp; omega) | (simp only [List.length_append, List.length_cons, List.length_nil]; omega)) (by first | omega | (rw [List.nil_append]; omega) | (rw [List.length_nil]; omega) | (rw [List.length_append]; omega) | (simp; done) | (simp; omega) | (simp only [List.length_append, List.length_cons, List.length_nil]; omega)) (hX172.size) (fun u182 w183 ho184 hp185 hg186 hw187 => ?_)))
 have hX188 := hX172.write hp185 hg186 ((yB ho173))
 have hpk190 := hpk174.kept hg186 hp185 hnp161
 have hnp192 := pF hnp161 hpk174 hw187
 have hm193 := la1 ats z143
 refine ⟨fun _ => (dN hX188.pins (dM (dM hle131 hle139) hx158.le)), ?_⟩
 refine dT (i := 13) rfl rfl (by kernel_rfl) (fun _ _ => zD (v := u182) rfl) (dN hX188.pins (dM (dM hle131 hle139) hx158.le)) ?_
 refine yP (by kernel_rfl) (yC (zA (zF ?_)))
 refine qD rfl (yH rfl rfl (by omega)) (qD rfl (zB (v := (.int .i64 ((k4 : Int) + 1))) rfl) (qe (yE (⟨_, ?_, _, rfl, _, k4 + 1, u182, ats ++ ([z143]), L148, R149, B150, q151, G152, (zC (x := 15) (zC (x := 14) (zC (x := 13) (zC (x := 5) (zC (x := 4) (zS (x := 0) rfl) rfl) rfl) rfl) rfl) rfl), rfl, hX188, (dM (dM (dM (dM hlek41 hle87) hle131) hle139) hx158.le), (by omega), (hld.step hf (by omega) hok48 hok155 hpx156 hpl144 hpd145 hqn146), ho184, hpk190, hpin162, hok155, (PX.trans hpx49 hpx156), hnp192⟩))))
 omega
 refine wp_exit (zZ (yJ (yI (zA (zE (zF ?_))))))
 refine qD rfl (zB (v := at_) rfl) (qD rfl (zD (v := at_) rfl) (qe (zA ?_)))
 refine wp_ret (zW (zT (v := at_) rfl rfl rfl ?_))
 have hkf : k4 = fs.length := by omega
 rw [hkf] at hld
 exact ⟨at_, ats, L37, R38, B39, q40, GL1, rfl, hpk46, hok48, hpx49, PIn.lo hpin47 rfl, hX44, hw45, hnp50, hld⟩
theorem jV {w : World} (hP : Pins G w) (hpk : Pk 44 3 G w p L R B mm q) (hok : PoolOk q) (hx : RSl eNode G x fs) (hf : FormOk fs) (hl : q.ns.length + fs.length ≤ 1048576) (hf1 : 1 ≤ fs.length) :
  Calls Tryz.prog 22 [(.pointer (some ⟨p, 0, none⟩)), (.agg [x].toArray)].toArray w fun e w' => ∃ (z : Int) (L' R' B' : Value) (q' : PSt) (G' : Pin), e = .returned (.int .i64 z) ∧ Pk 44 3 G' w' p L' R' B' mm q' ∧ PoolOk q' ∧ PX q q' ∧ PLo w p L R B mm L' R' B' ∧ Ext (inP p L R B mm) G w G' w' ∧ PlaceOk q' z ∧ pd q' z = gOf fs ∧ q'.ns.length ≤ q.ns.length + fs.length := by
 refine yD (n := 15) Tryz.func22 Tryz.ntmps22 rfl rfl ?_
 have hX0 := exr (inP p L R B mm) hP
 have hpin : PIn w (inP p L R B mm) p L R B mm := PIn.self
 have hml1 := pkl q
 have hml2 := pkb hok
 have hfl := hf.len
 refine zE (zF ?_)
 refine qI rfl (xY [x] (v := (.agg [x].toArray)) rfl rfl hX0.pins (fun b3 w4 hk5 hb6 hp7 hl8 => ?_))
 have hX9 := hX0.step hp7 hl8
 have hpk10 := hpk.below hl8 hp7
 have ha15 := hpk.new (x := (some b3)) (fun k hk => by rw [(congrArg some hk5)] at hk; cases hk; exact Nat.le_refl _)
 have hlo16 : w.heap.size ≤ b3 := by have := hX0.size; omega
 obtain ⟨G17, hle18, hX19, hbp20, hf21⟩ := hb6.shut hX9 hlo16
 have hpk22 := hpk10.more hle18 hf21 ha15
 refine qD rfl (zD (v := (.int .i64 0)) rfl) (qe (zA (zE (zF ?_))))
 refine qD rfl (zB (v := (.pointer (some ⟨p, 0, none⟩))) rfl) (qD rfl (yK (cs := [x]) ag26 sz26 rfl (fun j u hj => hX19.pins _ _ _ (hbp20 _ _ (by simpa using hj)))) (qI rfl (zR (vs := [(.pointer (some ⟨p, 0, none⟩)), (.agg [x].toArray)]) Tryz.func42 nm42 rfl rfl rfl ?_)))
 refine dO (load_spec hX19.pins hpk22 hok (hx.mono hle18) hf hl) ?_
 rintro _ w29 ⟨u23, ats, L24, R25, B26, q27, G28, rfl, hpk31, hok32, hpx33, hlo34, hx35, ho30, hnp37, hld36⟩
 refine ⟨_, rfl, ?_⟩
 have hX38 := hX19.trans hx35 hpin
 have hpin39 := PIn.call hpin hlo34 hX19.size
 have hql40 := hpx33.len
 have hml41 := pkl q27
 have hml42 := pkb hok32
 have ho43 := ho30.weaken hX19.size
 have hll44 := hld36.len
 refine qD rfl (zD (v := u23) rfl) (qe (zA (zE (zF ?_))))
 refine qD rfl (zB (v := u23) rfl) (qD rfl (zB (v := u23) rfl) (qD rfl (zP eR (v := u23) rfl ho43.read) (qD rfl (qM rfl rfl (by omega)) (qD rfl (zL eR sz3 (v := u23) rfl rfl ho43.read (by omega) (by omega)) (qD rfl (zO (r := ats.getD ((ats.length : Int) - 1).toNat 0) rfl ag3 (z := ((ats.length : Int) - 1)) rfl ho43.read (Gadd.pins hX38.pins u23) (by omega) (by omega)) (qD rfl (zD (v := (.int .i64 (ats.getD ((ats.length : Int) - 1).toNat 0))) rfl) (qe (zA ?_))))))))
 refine wp_ret (zW (zT (v := (.int .i64 (ats.getD ((ats.length : Int) - 1).toNat 0))) rfl rfl rfl ?_))
 have hrt := hld36.root hf1
 rw [show fs.length - 1 = ((ats.length : Int) - 1).toNat by omega] at hrt
 exact ⟨_, L24, R25, B26, q27, G28, rfl, hpk31, hok32, hpx33, PIn.lo hpin39 rfl, hX38, hrt.1, hrt.2, hld36.hi⟩
def GeP (m : Nat) (p : Nat) (L R B : Value) (mm : PM) : Prop := ∀ {w : World} {G : Pin} {q : PSt} {a b : Int} (_ : Pins G w) (_ : Pk 44 3 G w p L R B mm q) (_ : PoolOk q) (_ : PlaceOk q a) (_ : PlaceOk q b), a.toNat + b.toNat < m →
  Calls Tryz.prog 21 [(.pointer (some ⟨p, 0, none⟩)), (.int .i64 a), (.int .i64 b)].toArray w fun e w' => ∃ (q' : PSt) (G' : Pin), e = .returned (.bool (geB q.ns a b)) ∧ Pk 44 3 G' w' p L R B mm q' ∧ PoolOk q' ∧ PX q q' ∧ (q'.ns = q.ns ∧ q'.bs = q.bs) ∧ Ext (inO (some mm.o)) G w G' w'
theorem ge_step {m : Nat} {w : World} (hP : Pins G w) (hpk : Pk 44 3 G w p L R B mm q) (hok : PoolOk q) (ha : PlaceOk q a) (hb : PlaceOk q b) (ih : GeP m p L R B mm) (hm : a.toNat + b.toNat < m + 1) :
  Calls Tryz.prog 21 [(.pointer (some ⟨p, 0, none⟩)), (.int .i64 a), (.int .i64 b)].toArray w fun e w' => ∃ (q' : PSt) (G' : Pin), e = .returned (.bool (geB q.ns a b)) ∧ Pk 44 3 G' w' p L R B mm q' ∧ PoolOk q' ∧ PX q q' ∧ (q'.ns = q.ns ∧ q'.bs = q.bs) ∧ Ext (inO (some mm.o)) G w G' w' := by
 refine yD (n := 74) Tryz.func21 Tryz.ntmps21 rfl rfl ?_
 have hX0 := exr (inO (some mm.o)) hP
 have hpin : PIn w (inP p L R B mm) p L R B mm := PIn.self
 have hml1 := pkl q
 have hml2 := pkb hok
 have ha0 := ha.1
 have ha1 := ha.2
 have hb0 := hb.1
 have hb1 := hb.2
 refine zE (zF ?_)
 refine qD rfl (zD (v := (.bool false)) rfl) (qe (zA (zE (zE (zF ?_)))))
 refine qD rfl (zB (v := (.int .i64 a)) rfl) (qD rfl (zB (v := (.int .i64 b)) rfl) (qD rfl (jN rfl rfl) (qe (zA ?_))))
 refine yF (p := (a : Int) = b) rfl rfl (fun h3 => ?_) (fun h3 => ?_)
 refine zE (zF ?_)
 refine qD rfl (zD (v := (.bool true)) rfl) (qe (zA ?_))
 exact wp_ret (zW (zT (v := (.bool true)) rfl rfl rfl (⟨q, _, congrArg (fun z => Ending.returned (Value.bool z)) (by rw [h3]; exact geB_refl.symm), hpk, hok, (PX.refl _), ⟨rfl, rfl⟩, hX0⟩)))
 refine wp_skip (zA (zE (zF ?_)))
 refine qD rfl (zB (v := (.int .i64 a)) rfl) (qD rfl (zB (v := (.int .i64 b)) rfl) (qD rfl (r_buildA (m := 1) [(.int .i64 0), (.int .i64 0)] [(.int .i64 a), (.int .i64 b)] [(0, (.int .i64 a), [(.int .i64 a)]), (1, (.int .i64 b), [(.int .i64 b)])] Tryz.underlying86 zr86 rfl sz3 rfl (List.forall_mem_cons.2 ⟨rfl, (List.forall_mem_cons.2 ⟨rfl, (fun _ h => by cases h)⟩)⟩) rfl) (qI rfl (yN [(.int .i64 0), (.int .i64 0)] zr86 rfl hX0.pins (fun b4 w5 hk6 hb7 hp8 hl9 => ?_)))))
 have hX10 := hX0.step hp8 hl9
 have hpk11 := hpk.below hl9 hp8
 have ha16 := hpk.new (x := (some b4)) (fun k hk => by rw [(congrArg some hk6)] at hk; cases hk; exact Nat.le_refl _)
 have hlo17 : w.heap.size ≤ b4 := by have := hX0.size; omega
 refine q0 rfl rfl rfl (o_stp (cs' := [(.int .i64 a), (.int .i64 b)]) (us := [(.int .i64 a), (.int .i64 b)]) (v := (.agg [(.int .i64 a), (.int .i64 b)].toArray)) sz86 rfl rfl rfl (xO (by rfl) (by rfl)) hX10.pins hb7 (dP rfl) rfl (fun w18 hb19 hp20 hg21 hz22 => ?_))
 have hX23 := hX10.write hp20 hg21 ((yG hlo17))
 have hpk24 := hpk11.kept hg21 hp20 ha16
 obtain ⟨G25, hle26, hX27, hbp28, hf29⟩ := hb19.shut hX23 hlo17
 have hpk30 := hpk24.more hle26 hf29 ha16
 refine qe (zA (zE (zE ?_)))
 refine yZ (S := fun wz => BxR wz p [L, R, B, (.map (some mm.f)), (.map (some mm.o)), (.map (some mm.c)), (.map (some mm.s)), (.map (some mm.n))] ∧ Pins G25 wz) (last := 11) (by kernel_rfl) rfl ?_
 have hl31 := bdr w18
 have hp32 := hX27.pins.below hl31
 have hX33 := hX27.step hp32 hl31
 have hpk34 := hpk30.below hl31 hp32
 refine dT (i := 0) rfl rfl (by kernel_rfl) (fun _ _ => zB (v := (.pointer (some ⟨p, 0, none⟩))) rfl) ⟨hpk34.bx.reads, hX33.pins⟩ ?_
 refine dT (i := 1) rfl rfl (by kernel_rfl) (fun _ _ => xF rfl) ⟨hpk34.bx.reads, hX33.pins⟩ ?_
 refine dT (i := 2) rfl rfl (by kernel_rfl) (fun _ _ => zN (k := 4) rfl dC rfl nz81 rfl) ⟨hpk34.bx.reads, hX33.pins⟩ ?_
 refine dT (i := 3) rfl rfl (by kernel_rfl) (fun _ hS => zM (u := (.map (some mm.o))) ag81 rfl (hS.1 4 _ rfl)) ⟨hpk34.bx.reads, hX33.pins⟩ ?_
 refine dT (i := 4) rfl rfl (by kernel_rfl) (fun _ hS => yK (cs := [(.int .i64 a), (.int .i64 b)]) ag86 sz86 rfl (fun j u hj => hS.2 _ _ _ (hbp28 _ _ (by simpa using hj)))) ⟨hpk34.bx.reads, hX33.pins⟩ ?_
 refine zQ (i := 5) (by kernel_rfl) (zV (i := 5) rfl rfl rfl (zG rfl _) (EO.run (rO (k := ((a, b) : Int × Int)) (gE Tryz.underlying86 dH sz3) Tryz.underlying81 zr4 hpk34.fo rfl rfl) ?_))
 refine ⟨fun _ => ⟨hpk34.bx.reads, hX33.pins⟩, ?_⟩
 refine dT (i := 6) rfl rfl (by kernel_rfl) (fun _ _ => zB (v := (.tuple #[(.bool ((Go.GL.look q.om ((a, b) : Int × Int)).getD false)), (.bool ((Go.GL.look q.om ((a, b) : Int × Int)).isSome))])) rfl) ⟨hpk34.bx.reads, hX33.pins⟩ ?_
 refine dT (i := 7) rfl rfl (by kernel_rfl) (fun _ _ => xA (v := (.bool ((Go.GL.look q.om ((a, b) : Int × Int)).getD false))) rfl rfl) ⟨hpk34.bx.reads, hX33.pins⟩ ?_
 refine dT (i := 8) rfl rfl (by kernel_rfl) (fun _ _ => xA (v := (.bool ((Go.GL.look q.om ((a, b) : Int × Int)).isSome))) rfl rfl) ⟨hpk34.bx.reads, hX33.pins⟩ ?_
 refine dT (i := 9) rfl rfl (by kernel_rfl) (fun _ _ => zD (v := (.bool ((Go.GL.look q.om ((a, b) : Int × Int)).getD false))) rfl) ⟨hpk34.bx.reads, hX33.pins⟩ ?_
 refine dT (i := 10) rfl rfl (by kernel_rfl) (fun _ _ => zD (v := (.bool ((Go.GL.look q.om ((a, b) : Int × Int)).isSome))) rfl) ⟨hpk34.bx.reads, hX33.pins⟩ ?_
 refine yP (by kernel_rfl) (zA (zE (zF ?_)))
 refine qD rfl (zB (v := (.bool ((Go.GL.look q.om ((a, b) : Int × Int)).isSome))) rfl) (qe (zA ?_))
 refine c_if rfl rfl (fun h35 => ?_) (fun h35 => ?_)
 refine zE (zF ?_)
 refine qD rfl (zB (v := (.bool ((Go.GL.look q.om ((a, b) : Int × Int)).getD false))) rfl) (qD rfl (zD (v := (.bool ((Go.GL.look q.om ((a, b) : Int × Int)).getD false))) rfl) (qe (zA ?_)))
 refine wp_ret (zW (zT (v := (.bool ((Go.GL.look q.om ((a, b) : Int × Int)).getD false))) rfl rfl rfl ?_))
 obtain ⟨z, hz⟩ := Option.isSome_iff_exists.1 h35
 exact ⟨q, _, congrArg (fun z => Ending.returned (Value.bool z)) (by rw [hz]; exact (hok.ord _ _ _ hz).2.2), hpk34, hok, (PX.refl _), ⟨rfl, rfl⟩, hX33⟩
 refine wp_skip (zA (zE (zF ?_)))
 refine qD rfl (zD (v := (.bool true)) rfl) (qe (zA (zE (zE (zF ?_)))))
 refine qD rfl (zB (v := (.pointer (some ⟨p, 0, none⟩))) rfl) (qD rfl (xF rfl) (qD rfl (zN (k := 1) rfl dC rfl nz29 rfl) (qD rfl (zM (u := R) ag29 rfl (hpk34.bx.cell (o := 1) rfl)) (qD rfl (zB (v := (.int .i64 a)) rfl) (qD rfl (zL eT sz44 (v := R) rfl rfl hpk34.rr.read (by omega) (by omega)) ?_)))))
 obtain ⟨u36, hr37, hl38⟩ := vR (hpk34.rr.at (z := a) (by omega) (by omega)) (j := (a).toNat) rfl
 rw [mapr_getD] at hr37
 have hm39 := hr37.max
 refine qD rfl (hl38 ag44 rfl (Gadd.pins hX33.pins R)) (qD rfl (zP eR (v := u36) rfl hr37) (qD rfl (zB (v := (.int .i64 0)) rfl) (qe (zA ?_))))
 refine zX ?_
 have lx44 : (q.ns.getD (a).toNat default).r = (q.ns.getD (a).toNat default).r := rfl
 refine yM (fun (k : Nat) (en : Nat → Value) (W : World) => ∃ (env1 : Nat → Value) (i : Nat) (q43 : PSt) (GLr : Pin), en = (upd (upd (upd (upd (upd (upd (upd (upd (upd env1 0 (.pointer (some ⟨p, 0, none⟩))) 1 (.int .i64 a)) 2 (.int .i64 b)) 6 (.bool false)) 7 (.pointer (some ⟨b4, 0, none⟩))) 10 (.bool true)) 38 u36) 39 (.int .i64 (((q.ns.getD (a).toNat default).r).length : Int))) 40 (.int .i64 (i : Int))) ∧ k = (q.ns.getD (a).toNat default).r.length - i ∧ Ext (inO (some mm.o)) G w GLr W ∧ Pin.le G25 GLr ∧ (i ≤ (q.ns.getD (a).toNat default).r.length) ∧ (∀ x, x < i → geB q.ns b ((q.ns.getD (a).toNat default).r.getD x 0) = false) ∧ (Pk 44 3 GLr W p L R B mm q43) ∧ (PoolOk q43) ∧ (PX q q43) ∧ (q43.ns = q.ns ∧ q43.bs = q.bs)) _ ⟨_, 0, q, G25, (zC (x := 40) (zC (x := 39) (zC (x := 38) (zC (x := 10) (zC (x := 7) (zC (x := 6) (zC (x := 2) (zC (x := 1) (zS (x := 0) rfl) rfl) rfl) rfl) rfl) rfl) rfl) rfl) rfl), rfl, hX33, Pin.le_refl _, Nat.zero_le _, (fun q hq => absurd hq (Nat.not_lt_zero q)), hpk34, hok, (PX.refl _), ⟨rfl, rfl⟩⟩ ?_
 rintro k45 _ w46 ⟨env1, i, q43, GLr, rfl, hk47, hX48, hlek45, hji, hpr, hpk49, hok50, hpx51, hqn52⟩
 have hql53 := hpx51.len
 have hml54 := pkl q43
 have hml55 := pkb hok50
 have hlnr := congrArg List.length lx44
 refine zE (zF ?_)
 refine qD rfl (yQ rfl rfl) (qe (zA (zE ?_)))
 refine yF (p := ((i : Int) : Int) < (((q.ns.getD (a).toNat default).r).length : Int)) rfl rfl (fun h56 => ?_) (fun h56 => ?_)
 have hki := (xJ hok.ar.opts (show (a).toNat < q.ns.length by omega)).2 _ (yX (d := (0 : Int)) (show i < (q.ns.getD (a).toNat default).r.length by omega))
 rw [← lx44] at hki
 refine wp_skip (zA (zE ?_))
 refine zX (zE (zF ?_))
 refine qD rfl (zL eR sz3 (v := u36) rfl rfl hr37 (by omega) (by omega)) (qD rfl (zO (r := ((q.ns.getD (a).toNat default).r).getD i 0) rfl ag3 (z := (i : Int)) rfl hr37 (dN hX48.pins hlek45) (by omega) (by omega)) (qD rfl (zD (v := (.int .i64 (((q.ns.getD (a).toNat default).r).getD i 0))) rfl) (qe (zA (zE (zF ?_))))))
 refine qD rfl (zB (v := (.pointer (some ⟨p, 0, none⟩))) rfl) (qD rfl (zB (v := (.int .i64 b)) rfl) (qD rfl (zB (v := (.int .i64 (((q.ns.getD (a).toNat default).r).getD i 0))) rfl) (qI rfl (zR (vs := [(.pointer (some ⟨p, 0, none⟩)), (.int .i64 b), (.int .i64 (((q.ns.getD (a).toNat default).r).getD i 0))]) Tryz.func21 nm21 rfl rfl rfl ?_))))
 refine dO (ih hX48.pins hpk49 hok50 ⟨by omega, by omega⟩ ⟨by omega, by omega⟩ (by omega)) ?_
 rintro _ w59 ⟨q57, G58, rfl, hpk60, hok61, hpx62, hqn63, hx64⟩
 refine ⟨_, rfl, ?_⟩
 have hX65 := hX48.trans hx64 (fun i hi => xH i hi)
 have hql66 := hpx62.len
 have hml67 := pkl q57
 have hml68 := pkb hok61
 have hql69 := congrArg List.length hqn63.1
 refine qe (zA ?_)
 refine c_if rfl rfl (fun h70 => ?_) (fun h70 => ?_)
 refine zE (zF ?_)
 refine qD rfl (zD (v := (.bool false)) rfl) (qe (zA ?_))
 refine wp_exit (s_blkO rfl (zZ (yJ (yI (zA (zE (zE (zF ?_))))))))
 refine qD rfl (zB (v := (.bool false)) rfl) (qe (zA ?_))
 refine qQ rfl rfl (wp_skip (zA (zE ?_)))
 refine yZ (S := fun wz => BxR wz p [L, R, B, (.map (some mm.f)), (.map (some mm.o)), (.map (some mm.c)), (.map (some mm.s)), (.map (some mm.n))] ∧ Pins G58 wz) (last := 6) (by kernel_rfl) rfl ?_
 have hl71 := bdr w59
 have hp72 := hX65.pins.below hl71
 have hX73 := hX65.step hp72 hl71
 have hpk74 := hpk60.below hl71 hp72
 refine dT (i := 0) rfl rfl (by kernel_rfl) (fun _ _ => zB (v := (.pointer (some ⟨p, 0, none⟩))) rfl) ⟨hpk74.bx.reads, hX73.pins⟩ ?_
 refine dT (i := 1) rfl rfl (by kernel_rfl) (fun _ _ => xF rfl) ⟨hpk74.bx.reads, hX73.pins⟩ ?_
 refine dT (i := 2) rfl rfl (by kernel_rfl) (fun _ _ => zN (k := 4) rfl dC rfl nz81 rfl) ⟨hpk74.bx.reads, hX73.pins⟩ ?_
 refine dT (i := 3) rfl rfl (by kernel_rfl) (fun _ hS => zM (u := (.map (some mm.o))) ag81 rfl (hS.1 4 _ rfl)) ⟨hpk74.bx.reads, hX73.pins⟩ ?_
 refine dT (i := 4) rfl rfl (by kernel_rfl) (fun _ hS => yK (cs := [(.int .i64 a), (.int .i64 b)]) ag86 sz86 rfl (fun j u hj => (dN hS.2 (dM hlek45 hx64.le)) _ _ _ (hbp28 _ _ (by simpa using hj)))) ⟨hpk74.bx.reads, hX73.pins⟩ ?_
 refine dT (i := 5) rfl rfl (by kernel_rfl) (fun _ _ => zB (v := (.bool false)) rfl) ⟨hpk74.bx.reads, hX73.pins⟩ ?_
 refine zQ (i := 6) (by kernel_rfl) (xX (i := 6) rfl rfl rfl (zG rfl _) (vJ (val := (fun v : Bool => Value.bool v)) (k := ((a, b) : Int × Int)) (v := false) (gE Tryz.underlying86 dH sz3) Tryz.underlying81 rfl rfl rfl hX73.pins hpk74.fo (fun w75 hm76 hp77 hg78 hz79 => ?_)))
 have hX81 := hX73.trans (Ext.one hp77 hg78) (fun i hi => xH i hi)
 have hpk80 := hpk74.setO (Ext.one hp77 hg78) hm76
 have hgv : geB q.ns a b = false := pR hok.ar.opts ha (i := i) (by omega) (by rw [← lx44, ← gM hqn52]; exact h70)
 have hok84 := PoolOk.setO hok61 (ha.same (xK hqn52 hqn63)) (hb.same (xK hqn52 hqn63)) (nY (xK hqn52 hqn63) hgv)
 obtain ⟨q82, hq83⟩ : ∃ q, q = ({ q57 with om := putE q57.om ((a, b) : Int × Int) false } : PSt) := ⟨_, rfl⟩
 rw [← hq83] at hpk80 hok84
 have hq83n : q82.ns = q57.ns ∧ q82.bs = q57.bs := by rw [hq83]; exact ⟨rfl, rfl⟩
 have hq83x : PX q57 q82 := by rw [hq83]; exact ⟨Nat.le_refl _, fun _ _ => rfl, fun _ h => h⟩
 have hml85 := pkl q82
 have hml86 := pkb hok84
 have hql87 := hq83x.len
 refine ⟨fun h => absurd rfl h, ?_⟩
 refine yP (by kernel_rfl) (zA (zE (zF ?_)))
 refine qD rfl (zB (v := (.bool false)) rfl) (qD rfl (zD (v := (.bool false)) rfl) (qe (zA ?_)))
 exact wp_ret (zW (zT (v := (.bool false)) rfl rfl rfl (⟨q82, _, congrArg (fun z => Ending.returned (Value.bool z)) (hgv.symm), hpk80, hok84, (PX.trans (PX.trans hpx51 hpx62) hq83x), (xK (xK hqn52 hqn63) hq83n), hX81⟩)))
 refine wp_skip (yC (zA (zF ?_)))
 refine qD rfl (yH rfl rfl (by omega)) (qD rfl (zB (v := (.int .i64 ((i : Int) + 1))) rfl) (qe (yE (⟨_, ?_, _, rfl, _, i + 1, q57, G58, (zC (x := 40) (zC (x := 39) (zC (x := 38) (zC (x := 10) (zC (x := 7) (zC (x := 6) (zC (x := 2) (zC (x := 1) (zS (x := 0) rfl) rfl) rfl) rfl) rfl) rfl) rfl) rfl) rfl), rfl, hX65, (dM hlek45 hx64.le), (by omega), (fun x h2 => if h3 : x = i then h3 ▸ (by rw [← lx44, ← gM hqn52]; exact h70) else hpr x (by omega)), hpk60, hok61, (PX.trans hpx51 hpx62), (xK hqn52 hqn63)⟩))))
 omega
 refine wp_exit (zZ (yJ (yI (zA (zE (zE (zF ?_)))))))
 refine qD rfl (zB (v := (.bool true)) rfl) (qe (zA ?_))
 refine qZ rfl rfl (zE (zF ?_))
 refine qD rfl (zB (v := (.pointer (some ⟨p, 0, none⟩))) rfl) (qD rfl (xF rfl) (qD rfl (zN (k := 0) rfl dC rfl nz29 rfl) (qD rfl (zM (u := L) ag29 rfl (hpk49.bx.cell (o := 0) rfl)) (qD rfl (zB (v := (.int .i64 b)) rfl) (qD rfl (zL eT sz44 (v := L) rfl rfl hpk49.ol.read (by omega) (by omega)) ?_)))))
 obtain ⟨u88, hr89, hl90⟩ := vR (hpk49.ol.at (z := b) (by omega) (by omega)) (j := (b).toNat) rfl
 rw [mapl_getD] at hr89
 have hm91 := hr89.max
 refine qD rfl (hl90 ag44 rfl (Gadd.pins hX48.pins L)) (qD rfl (zP eR (v := u88) rfl hr89) (qD rfl (zB (v := (.int .i64 0)) rfl) (qe (zA ?_))))
 refine zX ?_
 have lx96 : (q43.ns.getD (b).toNat default).l = (q.ns.getD (b).toNat default).l := by rw [hqn52.1]
 refine yM (fun (k : Nat) (en : Nat → Value) (W : World) => ∃ (env1 : Nat → Value) (i2 : Nat) (q95 : PSt) (GLl : Pin), en = (upd (upd (upd (upd (upd (upd (upd (upd env1 0 (.pointer (some ⟨p, 0, none⟩))) 1 (.int .i64 a)) 6 (.bool false)) 7 (.pointer (some ⟨b4, 0, none⟩))) 10 (.bool true)) 56 u88) 57 (.int .i64 (((q43.ns.getD (b).toNat default).l).length : Int))) 58 (.int .i64 (i2 : Int))) ∧ k = (q.ns.getD (b).toNat default).l.length - i2 ∧ Ext (inO (some mm.o)) G w GLl W ∧ Pin.le GLr GLl ∧ (i2 ≤ (q.ns.getD (b).toNat default).l.length) ∧ (∀ x, x < i2 → geB q.ns ((q.ns.getD (b).toNat default).l.getD x 0) a = false) ∧ (Pk 44 3 GLl W p L R B mm q95) ∧ (PoolOk q95) ∧ (PX q43 q95) ∧ (q95.ns = q43.ns ∧ q95.bs = q43.bs)) _ ⟨_, 0, q43, GLr, (zC (x := 58) (zC (x := 57) (zC (x := 56) (zC (x := 10) (zC (x := 7) (zC (x := 6) (zC (x := 1) (zS (x := 0) rfl) rfl) rfl) rfl) rfl) rfl) rfl) rfl), rfl, hX48, Pin.le_refl _, Nat.zero_le _, (fun q hq => absurd hq (Nat.not_lt_zero q)), hpk49, hok50, (PX.refl _), ⟨rfl, rfl⟩⟩ ?_
 rintro k97 _ w98 ⟨env1, i2, q95, GLl, rfl, hk99, hX100, hlek97, hji2, hpl, hpk101, hok102, hpx103, hqn104⟩
 have hql105 := hpx103.len
 have hml106 := pkl q95
 have hml107 := pkb hok102
 have hlnl := congrArg List.length lx96
 refine zE (zF ?_)
 refine qD rfl (yQ rfl rfl) (qe (zA (zE ?_)))
 refine yF (p := ((i2 : Int) : Int) < (((q43.ns.getD (b).toNat default).l).length : Int)) rfl rfl (fun h108 => ?_) (fun h108 => ?_)
 have hki := (xJ hok.ar.opts (show (b).toNat < q.ns.length by omega)).1 _ (yX (d := (0 : Int)) (show i2 < (q.ns.getD (b).toNat default).l.length by omega))
 rw [← lx96] at hki
 refine wp_skip (zA (zE ?_))
 refine zX (zE (zF ?_))
 refine qD rfl (zL eR sz3 (v := u88) rfl rfl hr89 (by omega) (by omega)) (qD rfl (zO (r := ((q43.ns.getD (b).toNat default).l).getD i2 0) rfl ag3 (z := (i2 : Int)) rfl hr89 (dN hX100.pins hlek97) (by omega) (by omega)) (qD rfl (zD (v := (.int .i64 (((q43.ns.getD (b).toNat default).l).getD i2 0))) rfl) (qe (zA (zE (zF ?_))))))
 refine qD rfl (zB (v := (.pointer (some ⟨p, 0, none⟩))) rfl) (qD rfl (zB (v := (.int .i64 (((q43.ns.getD (b).toNat default).l).getD i2 0))) rfl) (qD rfl (zB (v := (.int .i64 a)) rfl) (qI rfl (zR (vs := [(.pointer (some ⟨p, 0, none⟩)), (.int .i64 (((q43.ns.getD (b).toNat default).l).getD i2 0)), (.int .i64 a)]) Tryz.func21 nm21 rfl rfl rfl ?_))))
 refine dO (ih hX100.pins hpk101 hok102 ⟨by omega, by omega⟩ ⟨by omega, by omega⟩ (by omega)) ?_
 rintro _ w111 ⟨q109, G110, rfl, hpk112, hok113, hpx114, hqn115, hx116⟩
 refine ⟨_, rfl, ?_⟩
 have hX117 := hX100.trans hx116 (fun i hi => xH i hi)
 have hql118 := hpx114.len
 have hml119 := pkl q109
 have hml120 := pkb hok113
 have hql121 := congrArg List.length hqn115.1
 refine qe (zA ?_)
 refine c_if rfl rfl (fun h122 => ?_) (fun h122 => ?_)
 refine zE (zF ?_)
 refine qD rfl (zD (v := (.bool false)) rfl) (qe (zA ?_))
 refine wp_exit (s_blkO rfl (zZ (yJ (yI (zA (zE ?_))))))
 refine yZ (S := fun wz => BxR wz p [L, R, B, (.map (some mm.f)), (.map (some mm.o)), (.map (some mm.c)), (.map (some mm.s)), (.map (some mm.n))] ∧ Pins G110 wz) (last := 6) (by kernel_rfl) rfl ?_
 have hl123 := bdr w111
 have hp124 := hX117.pins.below hl123
 have hX125 := hX117.step hp124 hl123
 have hpk126 := hpk112.below hl123 hp124
 refine dT (i := 0) rfl rfl (by kernel_rfl) (fun _ _ => zB (v := (.pointer (some ⟨p, 0, none⟩))) rfl) ⟨hpk126.bx.reads, hX125.pins⟩ ?_
 refine dT (i := 1) rfl rfl (by kernel_rfl) (fun _ _ => xF rfl) ⟨hpk126.bx.reads, hX125.pins⟩ ?_
 refine dT (i := 2) rfl rfl (by kernel_rfl) (fun _ _ => zN (k := 4) rfl dC rfl nz81 rfl) ⟨hpk126.bx.reads, hX125.pins⟩ ?_
 refine dT (i := 3) rfl rfl (by kernel_rfl) (fun _ hS => zM (u := (.map (some mm.o))) ag81 rfl (hS.1 4 _ rfl)) ⟨hpk126.bx.reads, hX125.pins⟩ ?_
 refine dT (i := 4) rfl rfl (by kernel_rfl) (fun _ hS => yK (cs := [(.int .i64 a), (.int .i64 b)]) ag86 sz86 rfl (fun j u hj => (dN hS.2 (dM (dM hlek45 hlek97) hx116.le)) _ _ _ (hbp28 _ _ (by simpa using hj)))) ⟨hpk126.bx.reads, hX125.pins⟩ ?_
 refine dT (i := 5) rfl rfl (by kernel_rfl) (fun _ _ => zB (v := (.bool false)) rfl) ⟨hpk126.bx.reads, hX125.pins⟩ ?_
 refine zQ (i := 6) (by kernel_rfl) (xX (i := 6) rfl rfl rfl (zG rfl _) (vJ (val := (fun v : Bool => Value.bool v)) (k := ((a, b) : Int × Int)) (v := false) (gE Tryz.underlying86 dH sz3) Tryz.underlying81 rfl rfl rfl hX125.pins hpk126.fo (fun w127 hm128 hp129 hg130 hz131 => ?_)))
 have hX133 := hX125.trans (Ext.one hp129 hg130) (fun i hi => xH i hi)
 have hpk132 := hpk126.setO (Ext.one hp129 hg130) hm128
 have hgv : geB q.ns a b = false := eD hok.ar.opts hb (i := i2) (by omega) (by rw [← lx96, ← gM (xK hqn52 hqn104)]; exact h122)
 have hok136 := PoolOk.setO hok113 (ha.same (xK (xK hqn52 hqn104) hqn115)) (hb.same (xK (xK hqn52 hqn104) hqn115)) (nY (xK (xK hqn52 hqn104) hqn115) hgv)
 obtain ⟨q134, hq135⟩ : ∃ q, q = ({ q109 with om := putE q109.om ((a, b) : Int × Int) false } : PSt) := ⟨_, rfl⟩
 rw [← hq135] at hpk132 hok136
 have hq135n : q134.ns = q109.ns ∧ q134.bs = q109.bs := by rw [hq135]; exact ⟨rfl, rfl⟩
 have hq135x : PX q109 q134 := by rw [hq135]; exact ⟨Nat.le_refl _, fun _ _ => rfl, fun _ h => h⟩
 have hml137 := pkl q134
 have hml138 := pkb hok136
 have hql139 := hq135x.len
 refine ⟨fun h => absurd rfl h, ?_⟩
 refine yP (by kernel_rfl) (zA (zE (zF ?_)))
 refine qD rfl (zB (v := (.bool false)) rfl) (qD rfl (zD (v := (.bool false)) rfl) (qe (zA ?_)))
 exact wp_ret (zW (zT (v := (.bool false)) rfl rfl rfl (⟨q134, _, congrArg (fun z => Ending.returned (Value.bool z)) (hgv.symm), hpk132, hok136, (PX.trans (PX.trans (PX.trans hpx51 hpx103) hpx114) hq135x), (xK (xK (xK hqn52 hqn104) hqn115) hq135n), hX133⟩)))
 refine wp_skip (yC (zA (zF ?_)))
 refine qD rfl (yH rfl rfl (by omega)) (qD rfl (zB (v := (.int .i64 ((i2 : Int) + 1))) rfl) (qe (yE (⟨_, ?_, _, rfl, _, i2 + 1, q109, G110, (zC (x := 58) (zC (x := 57) (zC (x := 56) (zC (x := 10) (zC (x := 7) (zC (x := 6) (zC (x := 1) (zS (x := 0) rfl) rfl) rfl) rfl) rfl) rfl) rfl) rfl), rfl, hX117, (dM hlek97 hx116.le), (by omega), (fun x h2 => if h3 : x = i2 then h3 ▸ (by rw [← lx96, ← gM (xK hqn52 hqn104)]; exact h122) else hpl x (by omega)), hpk112, hok113, (PX.trans hpx103 hpx114), (xK hqn104 hqn115)⟩))))
 omega
 refine wp_exit (zZ (yJ (yI (zA (zE ?_)))))
 refine yZ (S := fun wz => BxR wz p [L, R, B, (.map (some mm.f)), (.map (some mm.o)), (.map (some mm.c)), (.map (some mm.s)), (.map (some mm.n))] ∧ Pins GLl wz) (last := 6) (by kernel_rfl) rfl ?_
 have hl140 := bdr w98
 have hp141 := hX100.pins.below hl140
 have hX142 := hX100.step hp141 hl140
 have hpk143 := hpk101.below hl140 hp141
 refine dT (i := 0) rfl rfl (by kernel_rfl) (fun _ _ => zB (v := (.pointer (some ⟨p, 0, none⟩))) rfl) ⟨hpk143.bx.reads, hX142.pins⟩ ?_
 refine dT (i := 1) rfl rfl (by kernel_rfl) (fun _ _ => xF rfl) ⟨hpk143.bx.reads, hX142.pins⟩ ?_
 refine dT (i := 2) rfl rfl (by kernel_rfl) (fun _ _ => zN (k := 4) rfl dC rfl nz81 rfl) ⟨hpk143.bx.reads, hX142.pins⟩ ?_
 refine dT (i := 3) rfl rfl (by kernel_rfl) (fun _ hS => zM (u := (.map (some mm.o))) ag81 rfl (hS.1 4 _ rfl)) ⟨hpk143.bx.reads, hX142.pins⟩ ?_
 refine dT (i := 4) rfl rfl (by kernel_rfl) (fun _ hS => yK (cs := [(.int .i64 a), (.int .i64 b)]) ag86 sz86 rfl (fun j u hj => (dN hS.2 (dM hlek45 hlek97)) _ _ _ (hbp28 _ _ (by simpa using hj)))) ⟨hpk143.bx.reads, hX142.pins⟩ ?_
 refine dT (i := 5) rfl rfl (by kernel_rfl) (fun _ _ => zB (v := (.bool true)) rfl) ⟨hpk143.bx.reads, hX142.pins⟩ ?_
 refine zQ (i := 6) (by kernel_rfl) (xX (i := 6) rfl rfl rfl (zG rfl _) (vJ (val := (fun v : Bool => Value.bool v)) (k := ((a, b) : Int × Int)) (v := true) (gE Tryz.underlying86 dH sz3) Tryz.underlying81 rfl rfl rfl hX142.pins hpk143.fo (fun w144 hm145 hp146 hg147 hz148 => ?_)))
 have hX150 := hX142.trans (Ext.one hp146 hg147) (fun i hi => xH i hi)
 have hpk149 := hpk143.setO (Ext.one hp146 hg147) hm145
 have hgv : geB q.ns a b = true := geB_yes hok.ar.opts ha hb (fun i hi => hpr i (by omega)) (fun i hi => hpl i (by omega))
 have hok153 := PoolOk.setO hok102 (ha.same (xK hqn52 hqn104)) (hb.same (xK hqn52 hqn104)) (nY (xK hqn52 hqn104) hgv)
 obtain ⟨q151, hq152⟩ : ∃ q, q = ({ q95 with om := putE q95.om ((a, b) : Int × Int) true } : PSt) := ⟨_, rfl⟩
 rw [← hq152] at hpk149 hok153
 have hq152n : q151.ns = q95.ns ∧ q151.bs = q95.bs := by rw [hq152]; exact ⟨rfl, rfl⟩
 have hq152x : PX q95 q151 := by rw [hq152]; exact ⟨Nat.le_refl _, fun _ _ => rfl, fun _ h => h⟩
 have hml154 := pkl q151
 have hml155 := pkb hok153
 have hql156 := hq152x.len
 refine ⟨fun h => absurd rfl h, ?_⟩
 refine yP (by kernel_rfl) (zA (zE (zF ?_)))
 refine qD rfl (zB (v := (.bool true)) rfl) (qD rfl (zD (v := (.bool true)) rfl) (qe (zA ?_)))
 exact wp_ret (zW (zT (v := (.bool true)) rfl rfl rfl (⟨q151, _, congrArg (fun z => Ending.returned (Value.bool z)) (hgv.symm), hpk149, hok153, (PX.trans (PX.trans hpx51 hpx103) hq152x), (xK (xK hqn52 hqn104) hq152n), hX150⟩)))
theorem geP_all {p : Nat} {L R B : Value} {mm : PM} : ∀ m, GeP m p L R B mm
 | 0 => fun _ _ _ _ _ h => absurd h (Nat.not_lt_zero _)
 | m + 1 => fun hP hpk hok ha hb hm => ge_step hP hpk hok ha hb (geP_all m) hm
theorem ge_spec {w : World} (hP : Pins G w) (hpk : Pk 44 3 G w p L R B mm q) (hok : PoolOk q) (ha : PlaceOk q a) (hb : PlaceOk q b) :
  Calls Tryz.prog 21 [(.pointer (some ⟨p, 0, none⟩)), (.int .i64 a), (.int .i64 b)].toArray w fun e w' => ∃ (q' : PSt) (G' : Pin), e = .returned (.bool (geB q.ns a b)) ∧ Pk 44 3 G' w' p L R B mm q' ∧ PoolOk q' ∧ PX q q' ∧ (q'.ns = q.ns ∧ q'.bs = q.bs) ∧ Ext (inO (some mm.o)) G w G' w' :=
 geP_all _ hP hpk hok ha hb (Nat.lt_succ_self _)
end PL1
end Go.Proofs.YtdongckiecjbaaaGreatDoor
namespace Go.Proofs.YtdongckiecjbaaaGreatDoor
namespace AT1
open Go.RowKit Go.GL Go.Proofs
open B1 K1 PO1 PL1
theorem mR {w : World} {G : Pin} {u v : Value} {ax bs : List Nd} (hP : Pins G w) (hu : RSl eNode G u ax) (hv : RSl eNode G v bs) :
  Calls Tryz.prog 10 [(.agg [u].toArray), (.agg [v].toArray)].toArray w fun e w' => ∃ G', e = .returned (.tuple #[.bool (alB ax bs), .bool (goodB ax && goodB bs)]) ∧ Ext noS G w G' w' := by
 refine yD (n := 24) Tryz.func10 Tryz.ntmps10 rfl rfl ?_
 have hX0 := exr noS hP
 refine zE (zF ?_)
 refine qI rfl (xY [u] (v := (.agg [u].toArray)) rfl rfl hX0.pins (fun b1 w2 hk3 hb4 hp5 hl6 => ?_))
 have hX7 := hX0.step hp5 hl6
 have hlo8 : w.heap.size ≤ b1 := by have := hX0.size; omega
 obtain ⟨G9, hle10, hX11, hbp12, hf13⟩ := hb4.shut hX7 hlo8
 refine qI rfl (xY [v] (v := (.agg [v].toArray)) rfl rfl hX11.pins (fun b14 w15 hk16 hb17 hp18 hl19 => ?_))
 have hX20 := hX11.step hp18 hl19
 have hlo21 : w.heap.size ≤ b14 := by have := hX11.size; omega
 obtain ⟨G22, hle23, hX24, hbp25, hf26⟩ := hb17.shut hX20 hlo21
 refine qD rfl (zD (v := (.bool false)) rfl) (qD rfl (zD (v := (.bool false)) rfl) (qe (zA (zE (zE (zF ?_))))))
 refine qD rfl (yK (cs := [u]) ag26 sz26 rfl (fun j u hj => (dN hX24.pins hle23) _ _ _ (hbp12 _ _ (by simpa using hj)))) (qI rfl (zR (vs := [(.agg [u].toArray)]) Tryz.func14 nm14 rfl rfl rfl ?_))
 refine dO (vN hX24.pins (hu.mono (dM hle10 hle23))) ?_
 rintro _ w28 ⟨G27, rfl, hx29⟩
 refine ⟨_, rfl, ?_⟩
 have hX30 := hX24.tr hx29
 refine qD rfl (qE rfl) (qD rfl (zB (v := (.bool (!(goodB ax)))) rfl) (qbn (t := 10) rfl (fun h31 => ?_) (fun h31 => ?_)))
 refine qdg rfl rfl rfl rfl rfl rfl (yK (cs := [v]) ag26 sz26 rfl (fun j u hj => (dN hX30.pins hx29.le) _ _ _ (hbp25 _ _ (by simpa using hj)))) (q1g rfl rfl rfl rfl rfl rfl (zR (vs := [(.agg [v].toArray)]) Tryz.func14 nm14 rfl rfl rfl ?_))
 refine dO (vN hX30.pins (hv.mono (dM (dM hle10 hle23) hx29.le))) ?_
 rintro _ w33 ⟨G32, rfl, hx34⟩
 refine ⟨_, rfl, ?_⟩
 have hX35 := hX30.tr hx34
 refine qdg rfl rfl rfl rfl rfl rfl (qE rfl) (qD rfl (yS (v := (.bool (!(goodB bs)))) rfl rfl) (qe (zA ?_)))
 refine gO rfl rfl (fun h36 => ?_) (fun h36 => ?_)
 refine wp_skip (zA (zE (zF ?_)))
 have hga : GoodP ax := goodB_true.1 h31
 have hgb : GoodP bs := goodB_true.1 h36
 have hla := hga.lo
 have hlb := hgb.lo
 have hha := hga.hi
 have hhb := hgb.hi
 refine qI rfl (zR (vs := []) Tryz.func20 nm20 rfl rfl rfl ?_)
 refine dO (pG hX35.pins) ?_
 rintro _ w40 ⟨p37, mm38, G39, rfl, hpk41, hfr42, hx43⟩
 refine ⟨_, rfl, ?_⟩
 have hX47 := hX35.tr hx43
 have hpin48 : PIn w (noS) p37 (.slice none 0 0) (.slice none 0 0) (.slice none 0 0) mm38 := PIn.fresh hfr42 hX35.size
 obtain ⟨q44, hq45⟩ : ∃ q, q = (⟨[], [], [], [], [], [], []⟩ : PSt) := ⟨_, rfl⟩
 rw [← hq45] at hpk41
 have hok46 : PoolOk q44 := by rw [hq45]; exact PoolOk.empty
 have hq45l : q44.ns.length = 0 := by rw [hq45]; rfl
 obtain ⟨L49, R50, B51, eL49, eR50, eB51⟩ : ∃ (l r b : Value), l = .slice none 0 0 ∧ r = .slice none 0 0 ∧ b = .slice none 0 0 := ⟨_, _, _, rfl, rfl, rfl⟩
 have hpk412 : Pk 44 3 G39 w40 p37 L49 R50 B51 mm38 q44 := by rw [eL49, eR50, eB51]; exact hpk41
 have hpin482 : PIn w (noS) p37 L49 R50 B51 mm38 := by rw [eL49, eR50, eB51]; exact hpin48
 have hml52 := pkl q44
 have hml53 := pkb hok46
 refine qD rfl (zD (v := (.pointer (some ⟨p37, 0, none⟩))) rfl) (qe (zA (zE ?_)))
 refine yZ (S := fun wz => Pins G39 wz) (last := 10) (by kernel_rfl) rfl ?_
 have hl54 := bdr w40
 have hp55 := hX47.pins.below hl54
 have hX56 := hX47.step hp55 hl54
 have hpk57 := hpk412.below hl54 hp55
 refine dT (i := 0) rfl rfl (by kernel_rfl) (fun _ _ => zB (v := (.pointer (some ⟨p37, 0, none⟩))) rfl) hX56.pins ?_
 refine dT (i := 1) rfl rfl (by kernel_rfl) (fun _ _ => zB (v := (.pointer (some ⟨p37, 0, none⟩))) rfl) hX56.pins ?_
 refine dT (i := 2) rfl rfl (by kernel_rfl) (fun _ hS => yK (cs := [u]) ag26 sz26 rfl (fun j u hj => (dN hS (dM (dM (dM hle23 hx29.le) hx34.le) hx43.le)) _ _ _ (hbp12 _ _ (by simpa using hj)))) hX56.pins ?_
 refine dT (i := 4) rfl rfl (by kernel_rfl) (fun _ _ => zB (v := (.pointer (some ⟨p37, 0, none⟩))) rfl) hX56.pins ?_
 refine dT (i := 5) rfl rfl (by kernel_rfl) (fun _ hS => yK (cs := [v]) ag26 sz26 rfl (fun j u hj => (dN hS (dM (dM hx29.le hx34.le) hx43.le)) _ _ _ (hbp25 _ _ (by simpa using hj)))) hX56.pins ?_
 refine zQ (i := 3) (by kernel_rfl) (zV (i := 3) rfl rfl rfl (zG rfl _) (zR (vs := [(.pointer (some ⟨p37, 0, none⟩)), (.agg [u].toArray)]) Tryz.func22 nm22 rfl rfl rfl ?_))
 refine dO (jV hX56.pins hpk57 hok46 (hu.mono (dM (dM (dM (dM hle10 hle23) hx29.le) hx34.le) hx43.le)) (nM hga) (by omega) hla) ?_
 rintro _ w67 ⟨z58, L62, R63, B64, q65, G66, rfl, hpk68, hok69, hpx70, hlo71, hx72, hpl59, hpd60, hqn61⟩
 refine ⟨_, rfl, ?_⟩
 have hX73 := hX56.trans hx72 hpin482
 have hpin74 := PIn.call hpin482 hlo71 hX56.size
 have hql75 := hpx70.len
 have hml76 := pkl q65
 have hml77 := pkb hok69
 refine ⟨fun _ => (dN hX73.pins hx72.le), ?_⟩
 refine zQ (i := 6) (by kernel_rfl) (zV (i := 6) rfl rfl rfl (zG rfl _) (zR (vs := [(.pointer (some ⟨p37, 0, none⟩)), (.agg [v].toArray)]) Tryz.func22 nm22 rfl rfl rfl ?_))
 refine dO (jV hX73.pins hpk68 hok69 (hv.mono (dM (dM (dM (dM (dM hle10 hle23) hx29.le) hx34.le) hx43.le) hx72.le)) (nM hgb) (by omega) hlb) ?_
 rintro _ w87 ⟨z78, L82, R83, B84, q85, G86, rfl, hpk88, hok89, hpx90, hlo91, hx92, hpl79, hpd80, hqn81⟩
 refine ⟨_, rfl, ?_⟩
 have hX93 := hX73.trans hx92 hpin74
 have hpin94 := PIn.call hpin74 hlo91 hX73.size
 have hql95 := hpx90.len
 have hml96 := pkl q85
 have hml97 := pkb hok89
 refine ⟨fun _ => (dN hX93.pins (dM hx72.le hx92.le)), ?_⟩
 refine zQ (i := 7) (by kernel_rfl) (zV (i := 7) rfl rfl rfl (zG rfl _) (zR (vs := [(.pointer (some ⟨p37, 0, none⟩)), (.int .i64 z58), (.int .i64 z78)]) Tryz.func21 nm21 rfl rfl rfl ?_))
 refine dO (ge_spec hX93.pins hpk88 hok89 (hpx90.place hpl59) hpl79) ?_
 rintro _ w100 ⟨q98, G99, rfl, hpk101, hok102, hpx103, hqn104, hx105⟩
 refine ⟨_, rfl, ?_⟩
 have hX106 := hX93.trans hx105 (fun i hi => (PIn.o hpin94) i hi)
 have hql107 := hpx103.len
 have hml108 := pkl q98
 have hml109 := pkb hok102
 have hql110 := congrArg List.length hqn104.1
 refine ⟨fun _ => (dN hX106.pins (dM (dM hx72.le hx92.le) hx105.le)), ?_⟩
 refine dT (i := 8) rfl rfl (by kernel_rfl) (fun _ _ => zD (v := (.bool (geB q85.ns z58 z78))) rfl) (dN hX106.pins (dM (dM hx72.le hx92.le) hx105.le)) ?_
 refine dT (i := 9) rfl rfl (by kernel_rfl) (fun _ _ => zD (v := (.bool true)) rfl) (dN hX106.pins (dM (dM hx72.le hx92.le) hx105.le)) ?_
 refine yP (by kernel_rfl) (zA (wp_ret (zW (tG (v := (.bool (geB q85.ns z58 z78))) (u := (.bool true)) rfl rfl rfl rfl rfl ?_))))
 have hr1 := (hpx90.pd hok69 hok89 hpl59).trans hpd60
 have hr2 := hpd80
 obtain ⟨e1, e2⟩ := alB_good hga hgb
 rw [e1, e2]
 exact ⟨_, congrArg (fun z => Ending.returned (Value.tuple #[Value.bool z, Value.bool true])) (geB_roots hr1 hr2), hX106⟩
 refine zE (zF ?_)
 refine qD rfl (zD (v := (.bool false)) rfl) (qD rfl (zD (v := (.bool false)) rfl) (qe (zA ?_)))
 refine wp_ret (zW (tG (v := (.bool false)) (u := (.bool false)) rfl rfl rfl rfl rfl ?_))
 obtain ⟨e1, e2⟩ := alB_bad (Or.inr h36)
 rw [e1, e2]
 exact ⟨_, rfl, hX35⟩
 refine qs rfl rfl rfl rfl rfl rfl (qs rfl rfl rfl rfl rfl rfl (qs rfl rfl rfl rfl rfl rfl (qD rfl (yW (v := (.bool true)) rfl rfl) (qe (zA ?_)))))
 refine qZ rfl rfl (zE (zF ?_))
 refine qD rfl (zD (v := (.bool false)) rfl) (qD rfl (zD (v := (.bool false)) rfl) (qe (zA ?_)))
 refine wp_ret (zW (tG (v := (.bool false)) (u := (.bool false)) rfl rfl rfl rfl rfl ?_))
 obtain ⟨e1, e2⟩ := alB_bad (Or.inl h31)
 rw [e1, e2]
 exact ⟨_, rfl, hX30⟩
end AT1
end Go.Proofs.YtdongckiecjbaaaGreatDoor
namespace Go.Proofs.YtdongckiecjbaaaGreatDoor
namespace MK1
open Go.RowKit Go.GL Go.Proofs
open B1 C1 D1 E1
theorem pl91 : (Tryz.prog.underlying 91).bind (placesD Tryz.prog) = some [(0, 1), (1, 1)] := by kernel_rfl
theorem l3Make_own {w : World} {G : Pin} {u v : Value} {fs gs : List (List Nd)} (hP : Pins G w) (hu : RSl (eSl eNode) G u fs) (hv : RSl (eSl eNode) G v gs) (hfa : AllW fs) (hga : AllW gs) :
  Calls Tryz.prog 28 [u, v].toArray w fun e w' => ∃ (u : Value) (G' : Pin), e = .returned (.agg [u].toArray) ∧ RSl eNode G' u (formG (mkGm fs gs)) ∧ Ext noS G w G' w' ∧ ∃ Gi, Own eNode 46 Gi w' w.heap.size u (formG (mkGm fs gs)) ∧ Pin.le Gi G' := by
 refine yD (n := 50) Tryz.func28 Tryz.ntmps28 rfl rfl ?_
 have hX0 := exr noS hP
 have hmu := hu.max
 have hmv := hv.max
 have hfle := hfa.len
 have hgle := hga.len
 refine zE (zF ?_)
 refine qI rfl (yN [(.slice none 0 0)] zr26 rfl hX0.pins (fun b1 w2 hk3 hb4 hp5 hl6 => ?_))
 have hX7 := hX0.step hp5 hl6
 have hlo8 : w.heap.size ≤ b1 := by have := hX0.size; omega
 refine qe (zA (zE (zF ?_)))
 refine qD rfl (xR [(.slice none 0 0), (.slice none 0 0)] [(.slice none 0 0), (.slice none 0 0)] [] eZ zr91 rfl pl91 rfl (fun _ h => by cases h) rfl) (qI rfl (xY [(.slice none 0 0), (.slice none 0 0)] (v := (.agg [(.slice none 0 0), (.slice none 0 0)].toArray)) rfl rfl hX7.pins (fun b9 w10 hk11 hb12 hp13 hl14 => ?_)))
 have hX15 := hX7.step hp13 hl14
 have hb16 := hb4.below hl14
 have ha17 : Apart (some b9) (some b1) := zK (congrArg some hk11) hb4.lt
 have hlo18 : w.heap.size ≤ b9 := by have := hX7.size; omega
 refine qD rfl (zD (v := (.pointer (some ⟨b9, 0, none⟩))) rfl) (qe (zA (zE (zF ?_))))
 refine qI rfl (yR (E := eInt) (e := 3) eR sz3 hX15.pins (fun u19 w20 ho21 hp22 hl23 hk24 => ?_))
 have hX25 := hX15.step hp22 hl23
 have hb26 := hb16.below hl23
 have hb27 := hb12.below hl23
 have ha28 : Apart u19.ownBlock (some b1) := zK hk24 hb16.lt
 have ha29 : Apart u19.ownBlock (some b9) := zK hk24 hb12.lt
 have ho30 := ho21.weaken hX15.size
 refine qI rfl (yR (E := eInt) (e := 3) eR sz3 hX25.pins (fun u31 w32 ho33 hp34 hl35 hk36 => ?_))
 have hX37 := hX25.step hp34 hl35
 have ho38 := ho30.below hl35
 have hb39 := hb26.below hl35
 have hb40 := hb27.below hl35
 have ha41 : Apart u31.ownBlock u19.ownBlock := zI hk36 ho30.lt
 have ha42 : Apart u31.ownBlock (some b1) := zK hk36 hb26.lt
 have ha43 : Apart u31.ownBlock (some b9) := zK hk36 hb27.lt
 have ho44 := ho33.weaken hX25.size
 refine qD rfl (zD (v := u19) rfl) (qD rfl (zD (v := u31) rfl) (qe (zA (zE (zE (zF ?_))))))
 refine qD rfl (zD (v := (.int .i64 0)) rfl) (qe (zA ?_))
 refine zX (yM (fun (k : Nat) (en : Nat → Value) (W : World) => ∃ (env1 : Nat → Value) (i5 : Nat) (atA : Value) (atsA : List Int) (uA : Value) (vA : Value) (nsA : List Nd) (bsA : List Int) (GLA : Pin), en = (upd (upd (upd (upd (upd (upd (upd env1 0 u) 1 v) 4 (.pointer (some ⟨b1, 0, none⟩))) 5 (.pointer (some ⟨b9, 0, none⟩))) 6 atA) 7 u31) 8 (.int .i64 (i5 : Int))) ∧ k = fs.length - i5 ∧ Ext noS G w GLA W ∧ Pin.le G GLA ∧ (i5 ≤ fs.length) ∧ (PoolOk (bkq nsA bsA)) ∧ (GsOk (bkq nsA bsA) atsA ((fs.take i5).map gOf)) ∧ (nsA.length ≤ 1000 * i5) ∧ (Own eInt 3 GLA W w.heap.size atA (atsA)) ∧ (Own eNode 46 GLA W 0 uA (nsA)) ∧ (Own eInt 3 GLA W 0 vA (bsA)) ∧ (Own eInt 3 GLA W w.heap.size u31 ([])) ∧ (Bx GLA W b1 [(.slice none 0 0)]) ∧ (Bx GLA W b9 [uA, vA]) ∧ (Apart atA.ownBlock uA.ownBlock) ∧ (Apart atA.ownBlock vA.ownBlock) ∧ (Apart atA.ownBlock u31.ownBlock) ∧ (Apart atA.ownBlock (some b1)) ∧ (Apart atA.ownBlock (some b9)) ∧ (Apart uA.ownBlock vA.ownBlock) ∧ (Apart uA.ownBlock u31.ownBlock) ∧ (Apart uA.ownBlock (some b1)) ∧ (Apart uA.ownBlock (some b9)) ∧ (Apart vA.ownBlock u31.ownBlock) ∧ (Apart vA.ownBlock (some b1)) ∧ (Apart vA.ownBlock (some b9)) ∧ (Lo w noS uA.ownBlock) ∧ (Lo w noS vA.ownBlock)) _ ⟨_, 0, u19, [], (.slice none 0 0), (.slice none 0 0), [], [], G, (zC (x := 8) (zC (x := 7) (zC (x := 6) (zC (x := 5) (zC (x := 4) (zC (x := 1) (zS (x := 0) rfl) rfl) rfl) rfl) rfl) rfl) rfl), rfl, hX37, Pin.le_refl _, Nat.zero_le _, (sD Ar.empty), GsOk.nil, (by simp), ho38, (Own.nil _ _ _ _ _), (Own.nil _ _ _ _ _), ho44, hb39, hb40, apart_none.symm, apart_none.symm, ha41.symm, ha28, ha29, apart_none, apart_none, apart_none, apart_none, apart_none, apart_none, apart_none, (rD _ _), (rD _ _)⟩ ?_)
 rintro k45 _ w46 ⟨env1, i5, atA, atsA, uA, vA, nsA, bsA, GLA, rfl, hk47, hX48, hlek45, hki5, hokA, hgsA, hblA, hw49, hw50, hw51, hw52, hw53, hw54, ha55, ha56, ha57, ha58, ha59, ha60, ha61, ha62, ha63, ha64, ha65, ha66, hlo67, hlo68⟩
 have hglA := hgsA.len
 rw [List.length_map, List.length_take] at hglA
 refine zE (zE (zF ?_))
 refine qD rfl (zB (v := (.int .i64 (i5 : Int))) rfl) (qD rfl (zB (v := u) rfl) (qD rfl (zP eX (v := u) rfl hu) (qD rfl (yQ rfl rfl) (qe (zA ?_)))))
 refine yF (p := ((i5 : Int) : Int) < (fs.length : Int)) rfl rfl (fun h69 => ?_) (fun h69 => ?_)
 have hgd := hfa.ok i5 (by omega)
 have hgdl := hgd.2.1
 have hgdh := hgd.2.2
 have hrk := sE (fs := fs.getD i5 []) hokA hgd.1 (by omega) (by omega)
 refine wp_skip (zA (zE ?_))
 refine zX (zF (qD rfl (zB (v := atA) rfl) (qD rfl (zB (v := (.pointer (some ⟨b9, 0, none⟩))) rfl) (qD rfl (zB (v := u) rfl) (qD rfl (zB (v := (.int .i64 (i5 : Int))) rfl) (qD rfl (zL eX sz26 (v := u) rfl rfl hu (by omega) (by omega)) ?_))))))
 obtain ⟨u70, hr71, hl72⟩ := nm_form (hu.at (z := (i5 : Int)) (by omega) (by omega)) (j := i5) rfl
 have hm73 := hr71.max
 refine qD rfl (hl72 ag26 sz26 rfl (dN hX48.pins hlek45)) (qI rfl (zR (vs := [(.pointer (some ⟨b9, 0, none⟩)), (.agg [u70].toArray)]) Tryz.func44 nm44 rfl rfl rfl ?_))
 refine dO (jV hX48.pins ⟨hw54, hw50, hw51, ha63.symm, ha66.symm, ha60⟩ hokA.ar.ok (hr71.mono hlek45) ⟨hgd.1, hgdl⟩ (by first | omega | (simp; omega))) ?_
 rintro _ w77 ⟨u74, v75, G76, rfl, hbk78, hx79, hlu80, hlv81⟩
 refine ⟨_, rfl, ?_⟩
 have hin84 : ∀ i, inS b9 uA vA i → w.heap.size ≤ i ∨ noS i := gZ (yG hlo18) hlo67 hlo68
 have hX85 := hX48.trans hx79 hin84
 have hn86 := notS (u := uA) (v := vA) ha59 ha55 ha56
 have ho87 := hw49.extS hx79 hn86
 have ha88 : Apart atA.ownBlock u74.ownBlock := qL hlu80 hn86 (qS hw49)
 have ha89 : Apart atA.ownBlock v75.ownBlock := qL hlv81 hn86 (qS hw49)
 have hn90 := notS (u := uA) (v := vA) ha43 ha61.symm ha64.symm
 have ho91 := hw52.extS hx79 hn90
 have ha92 : Apart u31.ownBlock u74.ownBlock := qL hlu80 hn90 (qS hw52)
 have ha93 : Apart u31.ownBlock v75.ownBlock := qL hlv81 hn90 (qS hw52)
 have hn94 := notS (u := uA) (v := vA) ha17.symm ha62.symm ha65.symm
 have ho95 := hw53.extS hx79 (notSb hn94)
 have ha96 : Apart (some b1) u74.ownBlock := qL hlu80 hn94 (sB hw53)
 have ha97 : Apart (some b1) v75.ownBlock := qL hlv81 hn94 (sB hw53)
 have hb98 := hbk78.bx
 have ho99 := hbk78.ou
 have ho100 := hbk78.ov
 have ha101 := hbk78.abu
 have ha102 := hbk78.abv
 have ha103 := hbk78.auv
 have hlo104 := qW hlu80 hin84 hX48.size
 have hlo105 := qW hlv81 hin84 hX48.size
 refine qI rfl (yL (E := eInt) (e := 3) [(.int .i64 (rootM nsA bsA (fs.getD i5 [])))] [rootM nsA bsA (fs.getD i5 [])] eR sz3 zr3 (by exact xM (by rfl)) (yO (by rfl)) rfl rfl rfl rfl (by decide) hX85.pins (fun u106 w107 ho108 hp109 hl110 hk111 => ?_))
 have hX112 := hX85.step hp109 hl110
 have ho113 := ho87.below hl110
 have ho114 := ho91.below hl110
 have ho115 := ho99.below hl110
 have ho116 := ho100.below hl110
 have hb117 := ho95.below hl110
 have hb118 := hb98.below hl110
 have ho125 := ho108.weaken hX85.size
 refine qI rfl (zU (E := eInt) (v := atA) (u := u106) 8 eR ap3 (by decide) rfl rfl hX112.pins ho113 ho125.src (by first | omega | (rw [List.nil_append]; omega) | (rw [List.length_nil]; omega) | (rw [List.length_append]; omega) | (simp; done) | (simp; omega) | (simp only [List.length_append, List.length_cons, List.length_nil]; omega)) (by first | omega | (rw [List.nil_append]; omega) | (rw [List.length_nil]; omega) | (rw [List.length_append]; omega) | (simp; done) | (simp; omega) | (simp only [List.length_append, List.length_cons, List.length_nil]; omega)) (hX112.size) (fun u126 w127 ho128 hp129 hg130 hw131 => ?_))
 have hX132 := hX112.write hp129 hg130 ((yB ho113))
 have ho133 := ho114.keptA hg130 ha57.symm
 have ho134 := ho115.keptA hg130 ha88.symm
 have ho135 := ho116.keptA hg130 ha89.symm
 have hb137 := hb117.keptA hg130 ha58.symm
 have hb138 := hb118.keptA hg130 ha59.symm
 have ha139 : Apart u31.ownBlock u126.ownBlock := zH ha57.symm hw131 ho114.lt
 have ha140 : Apart u74.ownBlock u126.ownBlock := zH ha88.symm hw131 ho115.lt
 have ha141 : Apart v75.ownBlock u126.ownBlock := zH ha89.symm hw131 ho116.lt
 have ha143 : Apart (some b1) u126.ownBlock := zJ ha58.symm hw131 hb117.lt
 have ha144 : Apart (some b9) u126.ownBlock := zJ ha59.symm hw131 hb118.lt
 have hm145 := la1 atsA (rootM nsA bsA (fs.getD i5 []))
 refine qD rfl (zD (v := u126) rfl) (qe (yC (zA (zF ?_))))
 refine qD rfl (zB (v := (.int .i64 (i5 : Int))) rfl) (qD rfl (yH rfl rfl (by omega)) (qD rfl (zD (v := (.int .i64 ((i5 : Int) + 1))) rfl) (qe (yE (⟨_, ?_, _, rfl, _, i5 + 1, u126, atsA ++ ([rootM nsA bsA (fs.getD i5 [])]), u74, v75, (addM nsA bsA (fs.getD i5 [])).2.1, (addM nsA bsA (fs.getD i5 [])).2.2, G76, (zC (x := 8) (zC (x := 7) (zC (x := 6) (zC (x := 5) (zC (x := 4) (zC (x := 1) (zS (x := 0) rfl) rfl) rfl) rfl) rfl) rfl) rfl), rfl, hX132, (dM hlek45 hx79.le), (by omega), hrk.ok, (by rw [sL (by omega)]; exact (hgsA.px hrk.px hokA hrk.ok).snoc hrk.pl hrk.pd), (by have h8 := hrk.len; have h9 := hgd.2.2; omega), ho128, ho134, ho135, ho133, hb137, hb138, ha140.symm, ha141.symm, ha139.symm, ha143.symm, ha144.symm, ha103, ha92.symm, ha96.symm, ha101.symm, ha93.symm, ha97.symm, ha102.symm, hlo104, hlo105⟩)))))
 omega
 refine wp_exit (zZ (yJ (yI (zA (zE (zE (zF ?_)))))))
 refine qD rfl (zD (v := (.int .i64 0)) rfl) (qe (zA ?_))
 refine zX ?_
 have hi5n : i5 = fs.length := by omega
 have hgsF : GsOk (bkq nsA bsA) atsA (fs.map gOf) := by rw [hi5n, List.take_length] at hgsA; exact hgsA
 refine yM (fun (k : Nat) (en : Nat → Value) (W : World) => ∃ (env1 : Nat → Value) (j5 : Nat) (atB : Value) (atsB : List Int) (uB : Value) (vB : Value) (nsB : List Nd) (bsB : List Int) (GLB : Pin), en = (upd (upd (upd (upd (upd (upd env1 1 v) 4 (.pointer (some ⟨b1, 0, none⟩))) 5 (.pointer (some ⟨b9, 0, none⟩))) 6 atA) 7 atB) 9 (.int .i64 (j5 : Int))) ∧ k = gs.length - j5 ∧ Ext noS G w GLB W ∧ Pin.le GLA GLB ∧ (j5 ≤ gs.length) ∧ (PoolOk (bkq nsB bsB)) ∧ (GsOk (bkq nsB bsB) atsB ((gs.take j5).map gOf)) ∧ (nsB.length ≤ 100000 + 1000 * j5) ∧ (GsOk (bkq nsB bsB) atsA (fs.map gOf)) ∧ (Own eInt 3 GLB W w.heap.size atB (atsB)) ∧ (Own eNode 46 GLB W 0 uB (nsB)) ∧ (Own eInt 3 GLB W 0 vB (bsB)) ∧ (Own eInt 3 GLB W w.heap.size atA (atsA)) ∧ (Bx GLB W b1 [(.slice none 0 0)]) ∧ (Bx GLB W b9 [uB, vB]) ∧ (Apart atB.ownBlock uB.ownBlock) ∧ (Apart atB.ownBlock vB.ownBlock) ∧ (Apart atB.ownBlock atA.ownBlock) ∧ (Apart atB.ownBlock (some b1)) ∧ (Apart atB.ownBlock (some b9)) ∧ (Apart uB.ownBlock vB.ownBlock) ∧ (Apart uB.ownBlock atA.ownBlock) ∧ (Apart uB.ownBlock (some b1)) ∧ (Apart uB.ownBlock (some b9)) ∧ (Apart vB.ownBlock atA.ownBlock) ∧ (Apart vB.ownBlock (some b1)) ∧ (Apart vB.ownBlock (some b9)) ∧ (Lo w noS uB.ownBlock) ∧ (Lo w noS vB.ownBlock)) _ ⟨_, 0, u31, [], uA, vA, nsA, bsA, GLA, (zC (x := 9) (zC (x := 7) (zC (x := 6) (zC (x := 5) (zC (x := 4) (zS (x := 1) rfl) rfl) rfl) rfl) rfl) rfl), rfl, hX48, Pin.le_refl _, Nat.zero_le _, hokA, GsOk.nil, (by omega), hgsF, hw52, hw50, hw51, hw49, hw53, hw54, ha61.symm, ha64.symm, ha57.symm, ha42, ha43, ha60, ha55.symm, ha62, ha63, ha56.symm, ha65, ha66, hlo67, hlo68⟩ ?_
 rintro k146 _ w147 ⟨env1, j5, atB, atsB, uB, vB, nsB, bsB, GLB, rfl, hk148, hX149, hlek146, hkj5, hokB, hgsB, hblB, hgsL, hw150, hw151, hw152, hw153, hw154, hw155, ha156, ha157, ha158, ha159, ha160, ha161, ha162, ha163, ha164, ha165, ha166, ha167, hlo168, hlo169⟩
 have hglB := hgsB.len
 rw [List.length_map, List.length_take] at hglB
 refine zE (zE (zF ?_))
 refine qD rfl (zB (v := (.int .i64 (j5 : Int))) rfl) (qD rfl (zB (v := v) rfl) (qD rfl (zP eX (v := v) rfl hv) (qD rfl (yQ rfl rfl) (qe (zA ?_)))))
 refine yF (p := ((j5 : Int) : Int) < (gs.length : Int)) rfl rfl (fun h170 => ?_) (fun h170 => ?_)
 have hgd := hga.ok j5 (by omega)
 have hgdl := hgd.2.1
 have hgdh := hgd.2.2
 have hrk := sE (fs := gs.getD j5 []) hokB hgd.1 (by omega) (by omega)
 refine wp_skip (zA (zE ?_))
 refine zX (zF (qD rfl (zB (v := atB) rfl) (qD rfl (zB (v := (.pointer (some ⟨b9, 0, none⟩))) rfl) (qD rfl (zB (v := v) rfl) (qD rfl (zB (v := (.int .i64 (j5 : Int))) rfl) (qD rfl (zL eX sz26 (v := v) rfl rfl hv (by omega) (by omega)) ?_))))))
 obtain ⟨u171, hr172, hl173⟩ := nm_form (hv.at (z := (j5 : Int)) (by omega) (by omega)) (j := j5) rfl
 have hm174 := hr172.max
 refine qD rfl (hl173 ag26 sz26 rfl (dN hX149.pins (dM hlek45 hlek146))) (qI rfl (zR (vs := [(.pointer (some ⟨b9, 0, none⟩)), (.agg [u171].toArray)]) Tryz.func44 nm44 rfl rfl rfl ?_))
 refine dO (jV hX149.pins ⟨hw155, hw151, hw152, ha164.symm, ha167.symm, ha161⟩ hokB.ar.ok (hr172.mono (dM hlek45 hlek146)) ⟨hgd.1, hgdl⟩ (by first | omega | (simp; omega))) ?_
 rintro _ w178 ⟨u175, v176, G177, rfl, hbk179, hx180, hlu181, hlv182⟩
 refine ⟨_, rfl, ?_⟩
 have hin185 : ∀ i, inS b9 uB vB i → w.heap.size ≤ i ∨ noS i := gZ (yG hlo18) hlo168 hlo169
 have hX186 := hX149.trans hx180 hin185
 have hn187 := notS (u := uB) (v := vB) ha160 ha156 ha157
 have ho188 := hw150.extS hx180 hn187
 have ha189 : Apart atB.ownBlock u175.ownBlock := qL hlu181 hn187 (qS hw150)
 have ha190 : Apart atB.ownBlock v176.ownBlock := qL hlv182 hn187 (qS hw150)
 have hn191 := notS (u := uB) (v := vB) ha59 ha162.symm ha165.symm
 have ho192 := hw153.extS hx180 hn191
 have ha193 : Apart atA.ownBlock u175.ownBlock := qL hlu181 hn191 (qS hw153)
 have ha194 : Apart atA.ownBlock v176.ownBlock := qL hlv182 hn191 (qS hw153)
 have hn195 := notS (u := uB) (v := vB) ha17.symm ha163.symm ha166.symm
 have ho196 := hw154.extS hx180 (notSb hn195)
 have ha197 : Apart (some b1) u175.ownBlock := qL hlu181 hn195 (sB hw154)
 have ha198 : Apart (some b1) v176.ownBlock := qL hlv182 hn195 (sB hw154)
 have hb199 := hbk179.bx
 have ho200 := hbk179.ou
 have ho201 := hbk179.ov
 have ha202 := hbk179.abu
 have ha203 := hbk179.abv
 have ha204 := hbk179.auv
 have hlo205 := qW hlu181 hin185 hX149.size
 have hlo206 := qW hlv182 hin185 hX149.size
 refine qI rfl (yL (E := eInt) (e := 3) [(.int .i64 (rootM nsB bsB (gs.getD j5 [])))] [rootM nsB bsB (gs.getD j5 [])] eR sz3 zr3 (by exact xM (by rfl)) (yO (by rfl)) rfl rfl rfl rfl (by decide) hX186.pins (fun u207 w208 ho209 hp210 hl211 hk212 => ?_))
 have hX213 := hX186.step hp210 hl211
 have ho214 := ho188.below hl211
 have ho215 := ho192.below hl211
 have ho216 := ho200.below hl211
 have ho217 := ho201.below hl211
 have hb218 := ho196.below hl211
 have hb219 := hb199.below hl211
 have ho226 := ho209.weaken hX186.size
 refine qI rfl (zU (E := eInt) (v := atB) (u := u207) 8 eR ap3 (by decide) rfl rfl hX213.pins ho214 ho226.src (by first | omega | (rw [List.nil_append]; omega) | (rw [List.length_nil]; omega) | (rw [List.length_append]; omega) | (simp; done) | (simp; omega) | (simp only [List.length_append, List.length_cons, List.length_nil]; omega)) (by first | omega | (rw [List.nil_append]; omega) | (rw [List.length_nil]; omega) | (rw [List.length_append]; omega) | (simp; done) | (simp; omega) | (simp only [List.length_append, List.length_cons, List.length_nil]; omega)) (hX213.size) (fun u227 w228 ho229 hp230 hg231 hw232 => ?_))
 have hX233 := hX213.write hp230 hg231 ((yB ho214))
 have ho234 := ho215.keptA hg231 ha158.symm
 have ho235 := ho216.keptA hg231 ha189.symm
 have ho236 := ho217.keptA hg231 ha190.symm
 have hb238 := hb218.keptA hg231 ha159.symm
 have hb239 := hb219.keptA hg231 ha160.symm
 have ha240 : Apart atA.ownBlock u227.ownBlock := zH ha158.symm hw232 ho215.lt
 have ha241 : Apart u175.ownBlock u227.ownBlock := zH ha189.symm hw232 ho216.lt
 have ha242 : Apart v176.ownBlock u227.ownBlock := zH ha190.symm hw232 ho217.lt
 have ha244 : Apart (some b1) u227.ownBlock := zJ ha159.symm hw232 hb218.lt
 have ha245 : Apart (some b9) u227.ownBlock := zJ ha160.symm hw232 hb219.lt
 have hm246 := la1 atsB (rootM nsB bsB (gs.getD j5 []))
 refine qD rfl (zD (v := u227) rfl) (qe (yC (zA (zF ?_))))
 refine qD rfl (zB (v := (.int .i64 (j5 : Int))) rfl) (qD rfl (yH rfl rfl (by omega)) (qD rfl (zD (v := (.int .i64 ((j5 : Int) + 1))) rfl) (qe (yE (⟨_, ?_, _, rfl, _, j5 + 1, u227, atsB ++ ([rootM nsB bsB (gs.getD j5 [])]), u175, v176, (addM nsB bsB (gs.getD j5 [])).2.1, (addM nsB bsB (gs.getD j5 [])).2.2, G177, (zC (x := 9) (zC (x := 7) (zC (x := 6) (zC (x := 5) (zC (x := 4) (zS (x := 1) rfl) rfl) rfl) rfl) rfl) rfl), rfl, hX233, (dM hlek146 hx180.le), (by omega), hrk.ok, (by rw [sL (by omega)]; exact (hgsB.px hrk.px hokB hrk.ok).snoc hrk.pl hrk.pd), (by have h8 := hrk.len; have h9 := hgd.2.2; omega), (hgsL.px hrk.px hokB hrk.ok), ho229, ho235, ho236, ho234, hb238, hb239, ha241.symm, ha242.symm, ha240.symm, ha244.symm, ha245.symm, ha204, ha193.symm, ha197.symm, ha202.symm, ha194.symm, ha198.symm, ha203.symm, hlo205, hlo206⟩)))))
 omega
 refine wp_exit (zZ (yJ (yI (zA (zE (zF ?_))))))
 have hj5n : j5 = gs.length := by omega
 have hgsR : GsOk (bkq nsB bsB) atsB (gs.map gOf) := by rw [hj5n, List.take_length] at hgsB; exact hgsB
 have hl1 := hgsL.len
 have hl2 := hgsR.len
 rw [List.length_map] at hl1 hl2
 have hpt := bk_put (xs := atsA) (ys := atsB) hokB (by omega) ⟨by omega, by omega⟩ hgsL.pl hgsR.pl
 have hpd := hpt.pd
 rw [hgsL.eq, hgsR.eq] at hpd
 refine qD rfl (zB (v := (.pointer (some ⟨b9, 0, none⟩))) rfl) (qD rfl (zB (v := (.pointer (some ⟨b9, 0, none⟩))) rfl) (qD rfl (zB (v := atA) rfl) (qD rfl (zB (v := atB) rfl) ?_)))
 obtain ⟨G247, hle250, hX249, hr248, hf251⟩ := hw153.sealed hX149
 have ho252 := hw150.moreO hle250 hf251 ha158
 have ho253 := hw151.moreO hle250 hf251 ha162
 have ho254 := hw152.moreO hle250 hf251 ha165
 have hb255 := hw154.moreO hf251 ha58.symm
 have hb256 := hw155.moreO hf251 ha59.symm
 obtain ⟨G257, hle260, hX259, hr258, hf261⟩ := ho252.sealed hX249
 have ho262 := ho253.moreO hle260 hf261 ha156.symm
 have ho263 := ho254.moreO hle260 hf261 ha157.symm
 have hb264 := hb255.moreO hf261 ha159.symm
 have hb265 := hb256.moreO hf261 ha160.symm
 refine qI rfl (zR (vs := [(.pointer (some ⟨b9, 0, none⟩)), atA, atB]) Tryz.func46 nm46 rfl rfl rfl ?_)
 refine dO (sQ hX259.pins ⟨hb265, ho262, ho263, ha164.symm, ha167.symm, ha161⟩ hokB.ar.ok (hr248.mono hle260) hr258 ⟨by omega, by omega⟩ (kZ hgsL.pl) (kZ hgsR.pl)) ?_
 rintro _ w269 ⟨u266, v267, G268, rfl, hbk270, hx271, hlu272, hlv273⟩
 refine ⟨_, rfl, ?_⟩
 have hin276 : ∀ i, inS b9 uB vB i → w.heap.size ≤ i ∨ noS i := gZ (yG hlo18) hlo168 hlo169
 have hX277 := hX259.trans hx271 hin276
 have hn278 := notS (u := uB) (v := vB) ha17.symm ha163.symm ha166.symm
 have ho279 := hb264.extS hx271 (notSb hn278)
 have hb282 := hbk270.bx
 have ho283 := hbk270.ou
 have ho284 := hbk270.ov
 have ha285 := hbk270.abu
 have ha286 := hbk270.abv
 have ha287 := hbk270.auv
 have hlo288 := qW hlu272 hin276 hX259.size
 have hlo289 := qW hlv273 hin276 hX259.size
 refine qI rfl (zR (vs := [(.pointer (some ⟨b9, 0, none⟩)), (.int .i64 (putK nsB bsB atsA atsB))]) Tryz.func45 nm45 rfl rfl rfl ?_)
 refine dO (eE hX277.pins ⟨hb282, ho283, ho284, ha285, ha286, ha287⟩ hpt.ok.ar.ok hpt.pl) ?_
 rintro _ w292 ⟨u290, G291, rfl, hr293, hx294, hfr295⟩
 refine ⟨_, rfl, ?_⟩
 have hlb296 : b1 < w269.heap.size := ho279.lt
 have hlb297 : b9 < w269.heap.size := hb282.lt
 have hX298 := hX277.tr hx294
 have hb301 := ho279.ext hx294
 refine q0 rfl rfl rfl (o_stp (cs' := [u290]) (us := [u290]) (v := (.agg [u290].toArray)) sz26 rfl rfl rfl (yO hr293.one) hX298.pins hb301 (dP rfl) rfl (fun w303 hb304 hp305 hg306 hz307 => ?_))
 have hX308 := hX298.write hp305 hg306 ((yG hlo8))
 have hgi312 : ∃ Gi, Own eNode 46 Gi w303 w269.heap.size u290 (formM (putN nsB bsB atsA atsB) (putB nsB bsB atsA atsB) (putK nsB bsB atsA atsB).toNat) ∧ Pin.le Gi G291 := let ⟨Gi, a, b⟩ := hfr295; ⟨Gi, a.keptA hg306 (fun k hk1 hk2 => by cases hk2; have := (a.lt _ hk1).1; omega), b⟩
 refine qe (zA ?_)
 refine wp_ret (zW (jI (cs := [u290]) rfl rfl rfl ag26 sz26 (fun j u hj => by rw [Nat.zero_add]; exact hb304.cell hj) ?_))
 have hfe : mkGm fs gs = _ := hpd.symm
 obtain ⟨Gi, hoi, hli⟩ := hgi312
 exact ⟨_, _, rfl, (by rw [hfe, ← nR hpt.ok hpt.pl]; exact hr293), hX308, (by rw [hfe, ← nR hpt.ok hpt.pl]; exact ⟨Gi, hoi.weaken hX277.size, hli⟩)⟩
end MK1
end Go.Proofs.YtdongckiecjbaaaGreatDoor
namespace Go.Proofs.YtdongckiecjbaaaGreatDoor
namespace DR1
open Go.RowKit Go.GL Go.Proofs
open B1
variable {G : Pin} {cv : Value} {code : List UInt8} {a : Int}
theorem nJ {w : World} {c : Nat} {s : Int} (hP : Pins G w) (hB : Bx G w c [cv, .int .i64 a, .int .u64 s]) (hc : RSl eByte G cv code) (ha : 0 ≤ a ∧ a + 1 ≤ 1000000) (_ : 0 ≤ s ∧ s < 18446744073709551616) :
  Calls Tryz.prog 43 [(.pointer (some ⟨c, 0, none⟩))].toArray w fun e w' => ∃ (z : Int) (a' s' : Int), e = .returned (.int .i64 z) ∧ (0 ≤ z ∧ z ≤ 255) ∧ Bx G w' c [cv, .int .i64 a', .int .u64 s'] ∧ (a ≤ a' ∧ a' ≤ a + 1) ∧ (0 ≤ s' ∧ s' < 18446744073709551616) ∧ Ext (inO (some c)) G w G w' := by
 refine yD (n := 62) Tryz.func43 Tryz.ntmps43 rfl rfl ?_
 have hX0 := exr (inO (some c)) hP
 have hm := hc.max
 refine zE (zF ?_)
 refine qD rfl (zD (v := (.int .i64 0)) rfl) (qe (zA (zE (zF ?_))))
 refine qD rfl (zD (v := (.int .i64 0)) rfl) (qe (zA (zE (zE ?_))))
 refine yZ (S := fun wz => BxR wz c [cv, (.int .i64 a), (.int .u64 s)]) (last := 10) (by kernel_rfl) rfl ?_
 have hl1 := bdr w
 have hp2 := hX0.pins.below hl1
 have hX3 := hX0.step hp2 hl1
 have hb4 := hB.below hl1
 refine dT (i := 0) rfl rfl (by kernel_rfl) (fun _ _ => zB (v := (.pointer (some ⟨c, 0, none⟩))) rfl) hb4.reads ?_
 refine dT (i := 1) rfl rfl (by kernel_rfl) (fun _ _ => xF rfl) hb4.reads ?_
 refine dT (i := 2) rfl rfl (by kernel_rfl) (fun _ _ => zN (k := 1) rfl dB rfl nz3 rfl) hb4.reads ?_
 refine dT (i := 3) rfl rfl (by kernel_rfl) (fun _ hS => zM (u := (.int .i64 a)) ag3 rfl (hS 1 _ rfl)) hb4.reads ?_
 refine dT (i := 4) rfl rfl (by kernel_rfl) (fun _ _ => zB (v := (.pointer (some ⟨c, 0, none⟩))) rfl) hb4.reads ?_
 refine dT (i := 5) rfl rfl (by kernel_rfl) (fun _ _ => xF rfl) hb4.reads ?_
 refine dT (i := 6) rfl rfl (by kernel_rfl) (fun _ _ => zN (k := 0) rfl dB rfl nz22 rfl) hb4.reads ?_
 refine dT (i := 7) rfl rfl (by kernel_rfl) (fun _ hS => zM (u := cv) ag22 rfl (hS 0 _ rfl)) hb4.reads ?_
 refine dT (i := 8) rfl rfl (by kernel_rfl) (fun _ _ => zP eY (v := cv) rfl hc) hb4.reads ?_
 refine dT (i := 9) rfl rfl (by kernel_rfl) (fun _ _ => yQ rfl rfl) hb4.reads ?_
 refine yP (by kernel_rfl) (zA (yF (p := (a : Int) < (code.length : Int)) rfl rfl (fun h5 => ?_) (fun h5 => ?_)))
 have h255 := (code.getD a.toNat 0).toNat_lt
 refine yZ (S := fun wz => BxR wz c [cv, (.int .i64 a), (.int .u64 s)] ∧ Pins G wz) (last := 12) (by kernel_rfl) rfl ?_
 have hl6 : Below w.drew.heap.size w.drew w.drew.drew := (Below.refl _ _).drew
 have hp7 := hX3.pins.below hl6
 have hX8 := hX3.step hp7 hl6
 have hb9 := hb4.below hl6
 refine dT (i := 0) rfl rfl (by kernel_rfl) (fun _ _ => zB (v := (.pointer (some ⟨c, 0, none⟩))) rfl) ⟨hb9.reads, hX8.pins⟩ ?_
 refine dT (i := 1) rfl rfl (by kernel_rfl) (fun _ _ => xF rfl) ⟨hb9.reads, hX8.pins⟩ ?_
 refine dT (i := 2) rfl rfl (by kernel_rfl) (fun _ _ => zN (k := 0) rfl dB rfl nz22 rfl) ⟨hb9.reads, hX8.pins⟩ ?_
 refine dT (i := 3) rfl rfl (by kernel_rfl) (fun _ hS => zM (u := cv) ag22 rfl (hS.1 0 _ rfl)) ⟨hb9.reads, hX8.pins⟩ ?_
 refine dT (i := 4) rfl rfl (by kernel_rfl) (fun _ _ => zB (v := (.pointer (some ⟨c, 0, none⟩))) rfl) ⟨hb9.reads, hX8.pins⟩ ?_
 refine dT (i := 5) rfl rfl (by kernel_rfl) (fun _ _ => xF rfl) ⟨hb9.reads, hX8.pins⟩ ?_
 refine dT (i := 6) rfl rfl (by kernel_rfl) (fun _ _ => zN (k := 1) rfl dB rfl nz3 rfl) ⟨hb9.reads, hX8.pins⟩ ?_
 refine dT (i := 7) rfl rfl (by kernel_rfl) (fun _ hS => zM (u := (.int .i64 a)) ag3 rfl (hS.1 1 _ rfl)) ⟨hb9.reads, hX8.pins⟩ ?_
 refine dT (i := 8) rfl rfl (by kernel_rfl) (fun _ _ => zL eY sz5 (v := cv) rfl rfl hc (by omega) (by omega)) ⟨hb9.reads, hX8.pins⟩ ?_
 refine dT (i := 9) rfl rfl (by kernel_rfl) (fun _ hS => fH (r := code.getD (a).toNat 0) rfl ag5 (z := a) rfl hc hS.2 (by omega) (by omega)) ⟨hb9.reads, hX8.pins⟩ ?_
 refine dT (i := 10) rfl rfl (by kernel_rfl) (fun _ _ => kB (j := ((code.getD (a).toNat 0).toNat : Int)) dK dH rfl (wrapI (by omega))) ⟨hb9.reads, hX8.pins⟩ ?_
 refine dT (i := 11) rfl rfl (by kernel_rfl) (fun _ _ => zD (v := (.int .i64 ((code.getD (a).toNat 0).toNat : Int))) rfl) ⟨hb9.reads, hX8.pins⟩ ?_
 refine yP (by kernel_rfl) (zA (zE (zF ?_)))
 refine qD rfl (zB (v := (.pointer (some ⟨c, 0, none⟩))) rfl) (qD rfl (xF rfl) (qD rfl (zN (k := 1) rfl dB rfl nz3 rfl) (qD rfl (zM (u := (.int .i64 a)) ag3 rfl (hb9.cell (o := 1) rfl)) (qD rfl (yH rfl rfl (by omega)) (qD rfl (xF rfl) (qD rfl (zN (k := 1) rfl dB rfl nz3 rfl) (q0 rfl rfl rfl (o_stp (cs' := [cv, (.int .i64 (a + 1)), (.int .u64 s)]) (us := [(.int .i64 (a + 1))]) (v := (.int .i64 (a + 1))) sz3 rfl rfl rfl (yO (by rfl)) hX8.pins hb9 (dP rfl) rfl (fun w10 hb11 hp12 hg13 hz14 => ?_)))))))))
 have hX15 := hX8.write hp12 hg13 (xH)
 refine qe (zA (zE (zF ?_)))
 refine qD rfl (zB (v := (.pointer (some ⟨c, 0, none⟩))) rfl) (qD rfl (zB (v := (.pointer (some ⟨c, 0, none⟩))) rfl) (qD rfl (xF rfl) (qD rfl (zN (k := 2) rfl dB rfl nz38 rfl) (qD rfl (zM (u := (.int .u64 s)) ag38 rfl (hb11.cell (o := 2) rfl)) (qD rfl (r_mulU rfl rfl) (qD rfl (zB (v := (.int .i64 ((code.getD (a).toNat 0).toNat : Int))) rfl) (qD rfl (kB (j := ((code.getD (a).toNat 0).toNat : Int)) dH dI rfl (tN (by omega))) (qD rfl (pD rfl rfl) (qD rfl (pD rfl rfl) (qD rfl (xF rfl) (qD rfl (zN (k := 2) rfl dB rfl nz38 rfl) (q0 rfl rfl rfl (o_stp (cs' := [cv, (.int .i64 (a + 1)), (.int .u64 (IntKind.u64.wrap ((IntKind.u64.wrap ((IntKind.u64.wrap (s * 6364136223846793005)) + ((code.getD (a).toNat 0).toNat : Int))) + 868868)))]) (us := [(.int .u64 (IntKind.u64.wrap ((IntKind.u64.wrap ((IntKind.u64.wrap (s * 6364136223846793005)) + ((code.getD (a).toNat 0).toNat : Int))) + 868868)))]) (v := (.int .u64 (IntKind.u64.wrap ((IntKind.u64.wrap ((IntKind.u64.wrap (s * 6364136223846793005)) + ((code.getD (a).toNat 0).toNat : Int))) + 868868)))) sz38 rfl rfl rfl (yO (by rfl)) hX15.pins hb11 (dP rfl) rfl (fun w16 hb17 hp18 hg19 hz20 => ?_))))))))))))))
 have hX21 := hX15.write hp18 hg19 (xH)
 refine qe (zA (zE (zE ?_)))
 refine yZ (S := fun wz => BxR wz c [cv, (.int .i64 (a + 1)), (.int .u64 (IntKind.u64.wrap ((IntKind.u64.wrap ((IntKind.u64.wrap (s * 6364136223846793005)) + ((code.getD (a).toNat 0).toNat : Int))) + 868868)))]) (last := 10) (by kernel_rfl) rfl ?_
 have hl22 := bdr w16
 have hp23 := hX21.pins.below hl22
 have hX24 := hX21.step hp23 hl22
 have hb25 := hb17.below hl22
 refine dT (i := 0) rfl rfl (by kernel_rfl) (fun _ _ => zB (v := (.pointer (some ⟨c, 0, none⟩))) rfl) hb25.reads ?_
 refine dT (i := 1) rfl rfl (by kernel_rfl) (fun _ _ => xF rfl) hb25.reads ?_
 refine dT (i := 2) rfl rfl (by kernel_rfl) (fun _ _ => zN (k := 1) rfl dB rfl nz3 rfl) hb25.reads ?_
 refine dT (i := 3) rfl rfl (by kernel_rfl) (fun _ hS => zM (u := (.int .i64 (a + 1))) ag3 rfl (hS 1 _ rfl)) hb25.reads ?_
 refine dT (i := 4) rfl rfl (by kernel_rfl) (fun _ _ => zB (v := (.pointer (some ⟨c, 0, none⟩))) rfl) hb25.reads ?_
 refine dT (i := 5) rfl rfl (by kernel_rfl) (fun _ _ => xF rfl) hb25.reads ?_
 refine dT (i := 6) rfl rfl (by kernel_rfl) (fun _ _ => zN (k := 0) rfl dB rfl nz22 rfl) hb25.reads ?_
 refine dT (i := 7) rfl rfl (by kernel_rfl) (fun _ hS => zM (u := cv) ag22 rfl (hS 0 _ rfl)) hb25.reads ?_
 refine dT (i := 8) rfl rfl (by kernel_rfl) (fun _ _ => zP eY (v := cv) rfl hc) hb25.reads ?_
 refine dT (i := 9) rfl rfl (by kernel_rfl) (fun _ _ => gB rfl rfl) hb25.reads ?_
 refine yP (by kernel_rfl) (zA (yF (p := (a + 1 : Int) ≤ (code.length : Int)) rfl rfl (fun h26 => ?_) (fun h26 => ?_)))
 refine zE (zF ?_)
 refine qD rfl (zB (v := (.int .i64 ((code.getD (a).toNat 0).toNat : Int))) rfl) (qD rfl (zD (v := (.int .i64 ((code.getD (a).toNat 0).toNat : Int))) rfl) (qe (zA ?_)))
 refine wp_ret (zW (zT (v := (.int .i64 ((code.getD (a).toNat 0).toNat : Int))) rfl rfl rfl ?_))
 have hwr := fV (((IntKind.u64.wrap ((IntKind.u64.wrap (s * 6364136223846793005)) + ((code.getD (a).toNat 0).toNat : Int))) + 868868))
 exact ⟨_, _, _, rfl, (by omega), hb25, (by omega), (by omega), hX24⟩
 refine wp_skip (zA (zE (zF ?_)))
 refine qD rfl (zB (v := (.pointer (some ⟨c, 0, none⟩))) rfl) (qD rfl (xF rfl) (qD rfl (zN (k := 2) rfl dB rfl nz38 rfl) (qD rfl (zM (u := (.int .u64 (IntKind.u64.wrap ((IntKind.u64.wrap ((IntKind.u64.wrap (s * 6364136223846793005)) + ((code.getD (a).toNat 0).toNat : Int))) + 868868)))) ag38 rfl (hb25.cell (o := 2) rfl)) (qD rfl (r_shrU rfl rfl (by omega)) (qD rfl (r_and rfl rfl) ?_)))))
 have hl827 := low8_lt (Int.fdiv (IntKind.u64.wrap ((IntKind.u64.wrap ((IntKind.u64.wrap (s * 6364136223846793005)) + ((code.getD (a).toNat 0).toNat : Int))) + 868868)) (2 ^ (min (40 : Int).toNat 64)))
 refine qD rfl (kB (j := andW .u64 (Int.fdiv (IntKind.u64.wrap ((IntKind.u64.wrap ((IntKind.u64.wrap (s * 6364136223846793005)) + ((code.getD (a).toNat 0).toNat : Int))) + 868868)) (2 ^ (min (40 : Int).toNat 64))) 255) dI dH rfl (wrapI (by omega))) (qD rfl (zD (v := (.int .i64 (andW .u64 (Int.fdiv (IntKind.u64.wrap ((IntKind.u64.wrap ((IntKind.u64.wrap (s * 6364136223846793005)) + ((code.getD (a).toNat 0).toNat : Int))) + 868868)) (2 ^ (min (40 : Int).toNat 64))) 255))) rfl) (qe (zA ?_)))
 refine wp_ret (zW (zT (v := (.int .i64 (andW .u64 (Int.fdiv (IntKind.u64.wrap ((IntKind.u64.wrap ((IntKind.u64.wrap (s * 6364136223846793005)) + ((code.getD (a).toNat 0).toNat : Int))) + 868868)) (2 ^ (min (40 : Int).toNat 64))) 255))) rfl rfl rfl ?_))
 have hwr := fV (((IntKind.u64.wrap ((IntKind.u64.wrap (s * 6364136223846793005)) + ((code.getD (a).toNat 0).toNat : Int))) + 868868))
 exact ⟨_, _, _, rfl, (by omega), hb25, (by omega), (by omega), hX24⟩
 refine wp_skip (zA (zE (zF ?_)))
 refine qD rfl (zB (v := (.pointer (some ⟨c, 0, none⟩))) rfl) (qD rfl (xF rfl) (qD rfl (zN (k := 1) rfl dB rfl nz3 rfl) (qD rfl (zM (u := (.int .i64 a)) ag3 rfl (hb4.cell (o := 1) rfl)) (qD rfl (yH rfl rfl (by omega)) (qD rfl (xF rfl) (qD rfl (zN (k := 1) rfl dB rfl nz3 rfl) (q0 rfl rfl rfl (o_stp (cs' := [cv, (.int .i64 (a + 1)), (.int .u64 s)]) (us := [(.int .i64 (a + 1))]) (v := (.int .i64 (a + 1))) sz3 rfl rfl rfl (yO (by rfl)) hX3.pins hb4 (dP rfl) rfl (fun w28 hb29 hp30 hg31 hz32 => ?_)))))))))
 have hX33 := hX3.write hp30 hg31 (xH)
 refine qe (zA (zE (zF ?_)))
 refine qD rfl (zB (v := (.pointer (some ⟨c, 0, none⟩))) rfl) (qD rfl (zB (v := (.pointer (some ⟨c, 0, none⟩))) rfl) (qD rfl (xF rfl) (qD rfl (zN (k := 2) rfl dB rfl nz38 rfl) (qD rfl (zM (u := (.int .u64 s)) ag38 rfl (hb29.cell (o := 2) rfl)) (qD rfl (r_mulU rfl rfl) (qD rfl (zB (v := (.int .i64 0)) rfl) (qD rfl (kB (j := 0) dH dI rfl (tN (by omega))) (qD rfl (pD rfl rfl) (qD rfl (pD rfl rfl) (qD rfl (xF rfl) (qD rfl (zN (k := 2) rfl dB rfl nz38 rfl) (q0 rfl rfl rfl (o_stp (cs' := [cv, (.int .i64 (a + 1)), (.int .u64 (IntKind.u64.wrap ((IntKind.u64.wrap ((IntKind.u64.wrap (s * 6364136223846793005)) + 0)) + 868868)))]) (us := [(.int .u64 (IntKind.u64.wrap ((IntKind.u64.wrap ((IntKind.u64.wrap (s * 6364136223846793005)) + 0)) + 868868)))]) (v := (.int .u64 (IntKind.u64.wrap ((IntKind.u64.wrap ((IntKind.u64.wrap (s * 6364136223846793005)) + 0)) + 868868)))) sz38 rfl rfl rfl (yO (by rfl)) hX33.pins hb29 (dP rfl) rfl (fun w34 hb35 hp36 hg37 hz38 => ?_))))))))))))))
 have hX39 := hX33.write hp36 hg37 (xH)
 refine qe (zA (zE (zE ?_)))
 refine yZ (S := fun wz => BxR wz c [cv, (.int .i64 (a + 1)), (.int .u64 (IntKind.u64.wrap ((IntKind.u64.wrap ((IntKind.u64.wrap (s * 6364136223846793005)) + 0)) + 868868)))]) (last := 10) (by kernel_rfl) rfl ?_
 have hl40 := bdr w34
 have hp41 := hX39.pins.below hl40
 have hX42 := hX39.step hp41 hl40
 have hb43 := hb35.below hl40
 refine dT (i := 0) rfl rfl (by kernel_rfl) (fun _ _ => zB (v := (.pointer (some ⟨c, 0, none⟩))) rfl) hb43.reads ?_
 refine dT (i := 1) rfl rfl (by kernel_rfl) (fun _ _ => xF rfl) hb43.reads ?_
 refine dT (i := 2) rfl rfl (by kernel_rfl) (fun _ _ => zN (k := 1) rfl dB rfl nz3 rfl) hb43.reads ?_
 refine dT (i := 3) rfl rfl (by kernel_rfl) (fun _ hS => zM (u := (.int .i64 (a + 1))) ag3 rfl (hS 1 _ rfl)) hb43.reads ?_
 refine dT (i := 4) rfl rfl (by kernel_rfl) (fun _ _ => zB (v := (.pointer (some ⟨c, 0, none⟩))) rfl) hb43.reads ?_
 refine dT (i := 5) rfl rfl (by kernel_rfl) (fun _ _ => xF rfl) hb43.reads ?_
 refine dT (i := 6) rfl rfl (by kernel_rfl) (fun _ _ => zN (k := 0) rfl dB rfl nz22 rfl) hb43.reads ?_
 refine dT (i := 7) rfl rfl (by kernel_rfl) (fun _ hS => zM (u := cv) ag22 rfl (hS 0 _ rfl)) hb43.reads ?_
 refine dT (i := 8) rfl rfl (by kernel_rfl) (fun _ _ => zP eY (v := cv) rfl hc) hb43.reads ?_
 refine dT (i := 9) rfl rfl (by kernel_rfl) (fun _ _ => gB rfl rfl) hb43.reads ?_
 refine yP (by kernel_rfl) (zA (yF (p := (a + 1 : Int) ≤ (code.length : Int)) rfl rfl (fun h44 => ?_) (fun h44 => ?_)))
 refine zE (zF ?_)
 refine qD rfl (zB (v := (.int .i64 0)) rfl) (qD rfl (zD (v := (.int .i64 0)) rfl) (qe (zA ?_)))
 refine wp_ret (zW (zT (v := (.int .i64 0)) rfl rfl rfl ?_))
 have hwr := fV (((IntKind.u64.wrap ((IntKind.u64.wrap (s * 6364136223846793005)) + 0)) + 868868))
 exact ⟨_, _, _, rfl, (by omega), hb43, (by omega), (by omega), hX42⟩
 refine wp_skip (zA (zE (zF ?_)))
 refine qD rfl (zB (v := (.pointer (some ⟨c, 0, none⟩))) rfl) (qD rfl (xF rfl) (qD rfl (zN (k := 2) rfl dB rfl nz38 rfl) (qD rfl (zM (u := (.int .u64 (IntKind.u64.wrap ((IntKind.u64.wrap ((IntKind.u64.wrap (s * 6364136223846793005)) + 0)) + 868868)))) ag38 rfl (hb43.cell (o := 2) rfl)) (qD rfl (r_shrU rfl rfl (by omega)) (qD rfl (r_and rfl rfl) ?_)))))
 have hl845 := low8_lt (Int.fdiv (IntKind.u64.wrap ((IntKind.u64.wrap ((IntKind.u64.wrap (s * 6364136223846793005)) + 0)) + 868868)) (2 ^ (min (40 : Int).toNat 64)))
 refine qD rfl (kB (j := andW .u64 (Int.fdiv (IntKind.u64.wrap ((IntKind.u64.wrap ((IntKind.u64.wrap (s * 6364136223846793005)) + 0)) + 868868)) (2 ^ (min (40 : Int).toNat 64))) 255) dI dH rfl (wrapI (by omega))) (qD rfl (zD (v := (.int .i64 (andW .u64 (Int.fdiv (IntKind.u64.wrap ((IntKind.u64.wrap ((IntKind.u64.wrap (s * 6364136223846793005)) + 0)) + 868868)) (2 ^ (min (40 : Int).toNat 64))) 255))) rfl) (qe (zA ?_)))
 refine wp_ret (zW (zT (v := (.int .i64 (andW .u64 (Int.fdiv (IntKind.u64.wrap ((IntKind.u64.wrap ((IntKind.u64.wrap (s * 6364136223846793005)) + 0)) + 868868)) (2 ^ (min (40 : Int).toNat 64))) 255))) rfl rfl rfl ?_))
 have hwr := fV (((IntKind.u64.wrap ((IntKind.u64.wrap (s * 6364136223846793005)) + 0)) + 868868))
 exact ⟨_, _, _, rfl, (by omega), hb43, (by omega), (by omega), hX42⟩
theorem jG {w : World} {c : Nat} {s : Int} {n : Int} (hP : Pins G w) (hB : Bx G w c [cv, .int .i64 a, .int .u64 s]) (hc : RSl eByte G cv code) (ha : 0 ≤ a ∧ a + 2 ≤ 1000000) (hs : 0 ≤ s ∧ s < 18446744073709551616) (hn : n ≤ 1000) :
  Calls Tryz.prog 23 [(.pointer (some ⟨c, 0, none⟩)), (.int .i64 n)].toArray w fun e w' => ∃ (z : Int) (a' s' : Int), e = .returned (.int .i64 z) ∧ (0 ≤ z ∧ (z < n ∨ z = 0)) ∧ Bx G w' c [cv, .int .i64 a', .int .u64 s'] ∧ (a ≤ a' ∧ a' ≤ a + 2) ∧ (0 ≤ s' ∧ s' < 18446744073709551616) ∧ Ext (inO (some c)) G w G w' := by
 refine yD (n := 20) Tryz.func23 Tryz.ntmps23 rfl rfl ?_
 have hX0 := exr (inO (some c)) hP
 have hm := hc.max
 refine zE (zF ?_)
 refine qD rfl (zD (v := (.int .i64 0)) rfl) (qe (zA (zE (zE (zF ?_)))))
 refine qD rfl (zB (v := (.int .i64 n)) rfl) (qD rfl (gB rfl rfl) (qe (zA ?_)))
 refine yF (p := (n : Int) ≤ 1) rfl rfl (fun h1 => ?_) (fun h1 => ?_)
 refine zE (zF ?_)
 refine qD rfl (zD (v := (.int .i64 0)) rfl) (qe (zA ?_))
 exact wp_ret (zW (zT (v := (.int .i64 0)) rfl rfl rfl (⟨_, _, _, rfl, (by omega), hB, (by omega), (by omega), hX0⟩)))
 refine wp_skip (zA (zE (zF ?_)))
 refine qD rfl (zB (v := (.pointer (some ⟨c, 0, none⟩))) rfl) (qI rfl (zR (vs := [(.pointer (some ⟨c, 0, none⟩))]) Tryz.func43 nm43 rfl rfl rfl ?_))
 refine dO (nJ hX0.pins hB hc (by omega) (by omega)) ?_
 rintro _ w6 ⟨z2, a4, s5, rfl, hz3, hb7, hda8, hds9, hx10⟩
 refine ⟨_, rfl, ?_⟩
 have hX11 := hX0.trans hx10 (fun i hi => xH i hi)
 refine qD rfl (zD (v := (.int .i64 z2)) rfl) (qe (zA (zE (zE (zF ?_)))))
 refine qD rfl (zB (v := (.int .i64 n)) rfl) (qD rfl (jC rfl rfl) (qe (zA ?_)))
 refine yF (p := (200 : Int) < n) rfl rfl (fun h12 => ?_) (fun h12 => ?_)
 refine zF (qD rfl (zB (v := (.int .i64 z2)) rfl) (qD rfl (jR rfl rfl (by omega)) (qD rfl (zB (v := (.pointer (some ⟨c, 0, none⟩))) rfl) (qI rfl (zR (vs := [(.pointer (some ⟨c, 0, none⟩))]) Tryz.func43 nm43 rfl rfl rfl ?_)))))
 refine dO (nJ hX11.pins hb7 hc (by omega) (by omega)) ?_
 rintro _ w17 ⟨z13, a15, s16, rfl, hz14, hb18, hda19, hds20, hx21⟩
 refine ⟨_, rfl, ?_⟩
 have hX22 := hX11.trans hx21 (fun i hi => xH i hi)
 refine qD rfl (yH rfl rfl (by omega)) (qD rfl (zD (v := (.int .i64 ((z2 * 256) + z13))) rfl) (qe (zA (zE (zF ?_)))))
 refine qD rfl (zB (v := (.int .i64 ((z2 * 256) + z13))) rfl) (qD rfl (zB (v := (.int .i64 n)) rfl) (qD rfl (r_rem rfl rfl (by omega) (by omega)) (qD rfl (zD (v := (.int .i64 (((z2 * 256) + z13) % n))) rfl) (qe (zA ?_)))))
 refine wp_ret (zW (zT (v := (.int .i64 (((z2 * 256) + z13) % n))) rfl rfl rfl ?_))
 have hr1 := Int.emod_nonneg (((z2 * 256) + z13)) (show n ≠ 0 by omega)
 have hr2 := Int.emod_lt_of_pos (((z2 * 256) + z13)) (show 0 < n by omega)
 exact ⟨_, _, _, rfl, (by omega), hb18, (by omega), (by omega), hX22⟩
 refine wp_skip (zA (zE (zF ?_)))
 refine qD rfl (zB (v := (.int .i64 z2)) rfl) (qD rfl (zB (v := (.int .i64 n)) rfl) (qD rfl (r_rem rfl rfl (by omega) (by omega)) (qD rfl (zD (v := (.int .i64 (z2 % n))) rfl) (qe (zA ?_)))))
 refine wp_ret (zW (zT (v := (.int .i64 (z2 % n))) rfl rfl rfl ?_))
 have hr1 := Int.emod_nonneg (z2) (show n ≠ 0 by omega)
 have hr2 := Int.emod_lt_of_pos (z2) (show 0 < n by omega)
 exact ⟨_, _, _, rfl, (by omega), hb7, (by omega), (by omega), hX11⟩
theorem sT {w : World} {c : Nat} {s : Int} {n : Int} (hP : Pins G w) (hB : Bx G w c [cv, .int .i64 a, .int .u64 s]) (hc : RSl eByte G cv code) (ha : 0 ≤ a ∧ a + 2 ≤ 1000000) (hs : 0 ≤ s ∧ s < 18446744073709551616) (hn : n ≤ 1000) :
  Calls Tryz.prog 11 [(.pointer (some ⟨c, 0, none⟩)), (.int .i64 n)].toArray w fun e w' => ∃ (z : Bool) (a' s' : Int), e = .returned (.bool z) ∧ Bx G w' c [cv, .int .i64 a', .int .u64 s'] ∧ (a ≤ a' ∧ a' ≤ a + 2) ∧ (0 ≤ s' ∧ s' < 18446744073709551616) ∧ Ext (inO (some c)) G w G w' := by
 refine yD (n := 9) Tryz.func11 Tryz.ntmps11 rfl rfl ?_
 have hX0 := exr (inO (some c)) hP
 have hm := hc.max
 refine zE (zF ?_)
 refine qD rfl (zD (v := (.bool false)) rfl) (qe (zA (zE (zF ?_))))
 refine qD rfl (zB (v := (.pointer (some ⟨c, 0, none⟩))) rfl) (qD rfl (zB (v := (.int .i64 n)) rfl) (qI rfl (zR (vs := [(.pointer (some ⟨c, 0, none⟩)), (.int .i64 n)]) Tryz.func23 nm23 rfl rfl rfl ?_)))
 refine dO (jG hX0.pins hB hc (by omega) (by omega) (n := n) (by omega)) ?_
 rintro _ w5 ⟨z1, a3, s4, rfl, hz2, hb6, hda7, hds8, hx9⟩
 refine ⟨_, rfl, ?_⟩
 have hX10 := hX0.trans hx9 (fun i hi => xH i hi)
 refine qD rfl (jN rfl rfl) (qD rfl (zD (v := (.bool (decide ((z1 : Int) = 0)))) rfl) (qe (zA ?_)))
 exact wp_ret (zW (zT (v := (.bool (decide ((z1 : Int) = 0)))) rfl rfl rfl (⟨_, _, _, rfl, hb6, (by omega), (by omega), hX10⟩)))
theorem mM {w : World} {c : Nat} {s : Int} {l : Value} {xs : List Int} (hP : Pins G w) (hB : Bx G w c [cv, .int .i64 a, .int .u64 s]) (hc : RSl eByte G cv code) (ha : 0 ≤ a ∧ a + 2 ≤ 1000000) (hs : 0 ≤ s ∧ s < 18446744073709551616) (hl : RSl eInt G l xs) (hx : 1 ≤ xs.length ∧ xs.length ≤ 1000) :
  Calls Tryz.prog 25 [(.pointer (some ⟨c, 0, none⟩)), l].toArray w fun e w' => ∃ (z : Int) (a' s' : Int), e = .returned (.int .i64 z) ∧ z ∈ xs ∧ Bx G w' c [cv, .int .i64 a', .int .u64 s'] ∧ (a ≤ a' ∧ a' ≤ a + 2) ∧ (0 ≤ s' ∧ s' < 18446744073709551616) ∧ Ext (inO (some c)) G w G w' := by
 refine yD (n := 12) Tryz.func25 Tryz.ntmps25 rfl rfl ?_
 have hX0 := exr (inO (some c)) hP
 have hm := hc.max
 have hml := hl.max
 refine zE (zF ?_)
 refine qD rfl (zD (v := (.int .i64 0)) rfl) (qe (zA (zE (zF ?_))))
 refine qD rfl (zB (v := l) rfl) (qD rfl (zB (v := (.pointer (some ⟨c, 0, none⟩))) rfl) (qD rfl (zB (v := l) rfl) (qD rfl (zP eR (v := l) rfl hl) (qI rfl (zR (vs := [(.pointer (some ⟨c, 0, none⟩)), (.int .i64 (xs.length : Int))]) Tryz.func23 nm23 rfl rfl rfl ?_)))))
 refine dO (jG hX0.pins hB hc (by omega) (by omega) (n := (xs.length : Int)) (by omega)) ?_
 rintro _ w5 ⟨z1, a3, s4, rfl, hz2, hb6, hda7, hds8, hx9⟩
 refine ⟨_, rfl, ?_⟩
 have hX10 := hX0.trans hx9 (fun i hi => xH i hi)
 refine qD rfl (zL eR sz3 (v := l) rfl rfl hl (by omega) (by omega)) (qD rfl (zO (r := xs.getD (z1).toNat 0) rfl ag3 (z := z1) rfl hl hX10.pins (by omega) (by omega)) (qD rfl (zD (v := (.int .i64 (xs.getD (z1).toNat 0))) rfl) (qe (zA ?_))))
 exact wp_ret (zW (zT (v := (.int .i64 (xs.getD (z1).toNat 0))) rfl rfl rfl (⟨_, _, _, rfl, yX (by omega), hb6, (by omega), (by omega), hX10⟩)))
end DR1
end Go.Proofs.YtdongckiecjbaaaGreatDoor
namespace Go.Proofs.YtdongckiecjbaaaGreatDoor
namespace DR2
open Go.RowKit Go.GL Go.Proofs
open B1 C1 D1 E1 MK1 DR1
variable {G : Pin} {base : Nat} {vs : List Value} {cv l : Value} {code : List UInt8} {a m : Int}
theorem xS {w : World} {Q : List Nat} {us ws : List Value} {u v : Value} (hP : Pins G w) (hF : Fr 46 base G w Q vs) (hq : KQ Q) (hl : Q.length ≤ 60) (hb : base ≤ w.heap.size)
  (hu : RSl eVal G u us) (hv : RSl eVal G v ws) (hmu : ∀ x ∈ us, x ∈ vs) (hmv : ∀ x ∈ ws, x ∈ vs) (hlu : us.length ≤ 100) (hlv : ws.length ≤ 100) :
  Calls Tryz.prog 28 [u, v].toArray w fun e w' => ∃ (x : Value) (g : Nat) (G' : Pin), e = .returned (.agg [x].toArray) ∧ KQ (g :: Q) ∧ Fr 46 base G' w' (g :: Q) (x :: vs) ∧ Ext noS G w G' w' := by
 obtain ⟨gs, g1, g2, g3⟩ := (hF.mem hmu).games
 obtain ⟨hs, h1, h2, h3⟩ := (hF.mem hmv).games
 have ru := mV hu (by rw [List.length_map]; exact g1) g3
 have rv := mV hv (by rw [List.length_map]; exact h1) h3
 have wu := hq.allW (by omega) g2 (by omega)
 have wv := hq.allW (by omega) h2 (by omega)
 refine (l3Make_own hP ru rv wu wv).mono fun e w' ⟨x, G', e1, hr, hx, Gi, ho, hle⟩ => ?_
 have hk := hq.add (by omega) g2 h2 (by omega) (by omega)
 have hm := hk.is _ List.mem_cons_self
 exact ⟨x, _, G', e1, hk, (hF.ext hx).cons ⟨⟨Gi, ho.weaken hb, hle⟩, hr, hm.1.lo⟩, hx⟩
theorem pM {w : World} (hP : Pins G w) :
  Calls Tryz.prog 26 [].toArray w fun e w' => ∃ (u : Value) (vs : List Value) (Q : List Nat) (G' : Pin), e = .returned u ∧ Own eVal 26 G' w' w.heap.size u vs ∧ Fr 46 w.heap.size G' w' Q vs ∧ KQ Q ∧ vs.length = 9 ∧ Q.length = 9 ∧ Ext noS G w G' w' := by
 refine yD (n := 59) Tryz.func26 Tryz.ntmps26 rfl rfl ?_
 have hX0 := exr noS hP
 have hfr0 : Fr 46 w.heap.size G w [] [] := Fr.nil
 refine zE (zF ?_)
 refine qD rfl (zD (v := (.slice none 0 0)) rfl) (qe (zA (zE (zF ?_))))
 refine qI rfl (zR (vs := [(.slice none 0 0), (.slice none 0 0)]) Tryz.func28 nm28 rfl rfl rfl ?_)
 refine dO (xS hX0.pins hfr0 KQ.nil (by first | omega | (simp; done) | (simp; omega)) hX0.size (qR _ _) (qR _ _) (by simp) (by simp) (by first | omega | simp) (by first | omega | simp)) ?_
 rintro _ w4 ⟨x1, g2, G3, rfl, hkq5, hfr6, hx7⟩
 refine ⟨_, rfl, ?_⟩
 have hX8 := hX0.tr hx7
 have hone10 := hfr6.one List.mem_cons_self
 refine qI rfl (yN [(.slice none 0 0)] zr26 rfl hX8.pins (fun b11 w12 hk13 hb14 hp15 hl16 => ?_))
 have hX17 := hX8.step hp15 hl16
 have hfr18 := hfr6.below hl16
 have hlo19 : w.heap.size ≤ b11 := by have := hX8.size; omega
 refine q0 rfl rfl rfl (o_stp (cs' := [x1]) (us := [x1]) (v := (.agg [x1].toArray)) sz26 rfl rfl rfl (yO hone10) hX17.pins hb14 (dP rfl) rfl (fun w20 hb21 hp22 hg23 hz24 => ?_))
 have hX25 := hX17.write hp22 hg23 ((yG hlo19))
 have hfr26 := hfr18.kept hg23 (fun k hk o u => by cases hk; exact hb14.free o u)
 obtain ⟨G27, hle28, hX29, hbp30, hf31⟩ := hb21.shut hX25 hlo19
 have hfr32 := hfr26.le hle28
 refine qe (zA (zE (zF ?_)))
 refine qD rfl (yK (cs := [x1]) ag26 sz26 rfl (fun j u hj => hX29.pins _ _ _ (hbp30 _ _ (by simpa using hj)))) (qI rfl (xP (E := eVal) (e := 26) [x1] x1 eX sz26 zr26 ⟨rfl, hone10⟩ rfl (by decide) hX29.pins (fun u33 w34 ho35 hp36 hl37 hk38 => ?_)))
 have hX39 := hX29.step hp36 hl37
 have hfr40 := hfr32.below hl37
 have ho41 := ho35.weaken hX29.size
 obtain ⟨G42, hle45, hX44, hr43, hf46⟩ := ho41.sealed hX39
 have hfr47 := hfr40.le hle45
 refine qI rfl (zR (vs := [u33, (.slice none 0 0)]) Tryz.func28 nm28 rfl rfl rfl ?_)
 refine dO (xS hX44.pins hfr47 hkq5 (by first | omega | (simp; done) | (simp; omega)) hX44.size hr43 (qR _ _) (by simp) (by simp) (by first | omega | simp) (by first | omega | simp)) ?_
 rintro _ w51 ⟨x48, g49, G50, rfl, hkq52, hfr53, hx54⟩
 refine ⟨_, rfl, ?_⟩
 have hX55 := hX44.tr hx54
 have hone57 := hfr53.one List.mem_cons_self
 refine qI rfl (yN [(.slice none 0 0)] zr26 rfl hX55.pins (fun b58 w59 hk60 hb61 hp62 hl63 => ?_))
 have hX64 := hX55.step hp62 hl63
 have hfr65 := hfr53.below hl63
 have hlo66 : w.heap.size ≤ b58 := by have := hX55.size; omega
 refine q0 rfl rfl rfl (o_stp (cs' := [x48]) (us := [x48]) (v := (.agg [x48].toArray)) sz26 rfl rfl rfl (yO hone57) hX64.pins hb61 (dP rfl) rfl (fun w67 hb68 hp69 hg70 hz71 => ?_))
 have hX72 := hX64.write hp69 hg70 ((yG hlo66))
 have hfr73 := hfr65.kept hg70 (fun k hk o u => by cases hk; exact hb61.free o u)
 obtain ⟨G74, hle75, hX76, hbp77, hf78⟩ := hb68.shut hX72 hlo66
 have hfr79 := hfr73.le hle75
 refine qe (zA (zE (zF ?_)))
 refine qD rfl (yK (cs := [x1]) ag26 sz26 rfl (fun j u hj => (dN hX76.pins (dM (dM hle45 hx54.le) hle75)) _ _ _ (hbp30 _ _ (by simpa using hj)))) (qI rfl (xP (E := eVal) (e := 26) [x1] x1 eX sz26 zr26 ⟨rfl, hone10⟩ rfl (by decide) hX76.pins (fun u80 w81 ho82 hp83 hl84 hk85 => ?_)))
 have hX86 := hX76.step hp83 hl84
 have hfr87 := hfr79.below hl84
 have ho88 := ho82.weaken hX76.size
 obtain ⟨G89, hle92, hX91, hr90, hf93⟩ := ho88.sealed hX86
 have hfr94 := hfr87.le hle92
 refine qI rfl (zR (vs := [(.slice none 0 0), u80]) Tryz.func28 nm28 rfl rfl rfl ?_)
 refine dO (xS hX91.pins hfr94 hkq52 (by first | omega | (simp; done) | (simp; omega)) hX91.size (qR _ _) hr90 (by simp) (by simp) (by first | omega | simp) (by first | omega | simp)) ?_
 rintro _ w98 ⟨x95, g96, G97, rfl, hkq99, hfr100, hx101⟩
 refine ⟨_, rfl, ?_⟩
 have hX102 := hX91.tr hx101
 have hone104 := hfr100.one List.mem_cons_self
 refine qI rfl (yN [(.slice none 0 0)] zr26 rfl hX102.pins (fun b105 w106 hk107 hb108 hp109 hl110 => ?_))
 have hX111 := hX102.step hp109 hl110
 have hfr112 := hfr100.below hl110
 have hlo113 : w.heap.size ≤ b105 := by have := hX102.size; omega
 refine q0 rfl rfl rfl (o_stp (cs' := [x95]) (us := [x95]) (v := (.agg [x95].toArray)) sz26 rfl rfl rfl (yO hone104) hX111.pins hb108 (dP rfl) rfl (fun w114 hb115 hp116 hg117 hz118 => ?_))
 have hX119 := hX111.write hp116 hg117 ((yG hlo113))
 have hfr120 := hfr112.kept hg117 (fun k hk o u => by cases hk; exact hb108.free o u)
 obtain ⟨G121, hle122, hX123, hbp124, hf125⟩ := hb115.shut hX119 hlo113
 have hfr126 := hfr120.le hle122
 refine qe (zA (zE (zF ?_)))
 refine qD rfl (yK (cs := [x1]) ag26 sz26 rfl (fun j u hj => (dN hX123.pins (dM (dM (dM (dM (dM hle45 hx54.le) hle75) hle92) hx101.le) hle122)) _ _ _ (hbp30 _ _ (by simpa using hj)))) (qI rfl (xP (E := eVal) (e := 26) [x1] x1 eX sz26 zr26 ⟨rfl, hone10⟩ rfl (by decide) hX123.pins (fun u127 w128 ho129 hp130 hl131 hk132 => ?_)))
 have hX133 := hX123.step hp130 hl131
 have hfr134 := hfr126.below hl131
 have ho135 := ho129.weaken hX123.size
 refine qD rfl (yK (cs := [x1]) ag26 sz26 rfl (fun j u hj => (dN hX133.pins (dM (dM (dM (dM (dM hle45 hx54.le) hle75) hle92) hx101.le) hle122)) _ _ _ (hbp30 _ _ (by simpa using hj)))) (qI rfl (xP (E := eVal) (e := 26) [x1] x1 eX sz26 zr26 ⟨rfl, hone10⟩ rfl (by decide) hX133.pins (fun u136 w137 ho138 hp139 hl140 hk141 => ?_)))
 have hX142 := hX133.step hp139 hl140
 have ho143 := ho135.below hl140
 have hfr144 := hfr134.below hl140
 have ha145 : Apart u136.ownBlock u127.ownBlock := zI hk141 ho135.lt
 have ho146 := ho138.weaken hX133.size
 obtain ⟨G147, hle150, hX149, hr148, hf151⟩ := ho143.sealed hX142
 have ho152 := ho146.moreO hle150 hf151 ha145
 have hfr153 := hfr144.le hle150
 obtain ⟨G154, hle157, hX156, hr155, hf158⟩ := ho152.sealed hX149
 have hfr159 := hfr153.le hle157
 refine qI rfl (zR (vs := [u127, u136]) Tryz.func28 nm28 rfl rfl rfl ?_)
 refine dO (xS hX156.pins hfr159 hkq99 (by first | omega | (simp; done) | (simp; omega)) hX156.size (hr148.mono hle157) hr155 (by simp) (by simp) (by first | omega | simp) (by first | omega | simp)) ?_
 rintro _ w163 ⟨x160, g161, G162, rfl, hkq164, hfr165, hx166⟩
 refine ⟨_, rfl, ?_⟩
 have hX167 := hX156.tr hx166
 have hone169 := hfr165.one List.mem_cons_self
 refine qI rfl (yN [(.slice none 0 0)] zr26 rfl hX167.pins (fun b170 w171 hk172 hb173 hp174 hl175 => ?_))
 have hX176 := hX167.step hp174 hl175
 have hfr177 := hfr165.below hl175
 have hlo178 : w.heap.size ≤ b170 := by have := hX167.size; omega
 refine q0 rfl rfl rfl (o_stp (cs' := [x160]) (us := [x160]) (v := (.agg [x160].toArray)) sz26 rfl rfl rfl (yO hone169) hX176.pins hb173 (dP rfl) rfl (fun w179 hb180 hp181 hg182 hz183 => ?_))
 have hX184 := hX176.write hp181 hg182 ((yG hlo178))
 have hfr185 := hfr177.kept hg182 (fun k hk o u => by cases hk; exact hb173.free o u)
 obtain ⟨G186, hle187, hX188, hbp189, hf190⟩ := hb180.shut hX184 hlo178
 have hfr191 := hfr185.le hle187
 refine qe (zA (zE (zF ?_)))
 refine qD rfl (yK (cs := [x1]) ag26 sz26 rfl (fun j u hj => (dN hX188.pins (dM (dM (dM (dM (dM (dM (dM (dM (dM hle45 hx54.le) hle75) hle92) hx101.le) hle122) hle150) hle157) hx166.le) hle187)) _ _ _ (hbp30 _ _ (by simpa using hj)))) (qI rfl (xP (E := eVal) (e := 26) [x1] x1 eX sz26 zr26 ⟨rfl, hone10⟩ rfl (by decide) hX188.pins (fun u192 w193 ho194 hp195 hl196 hk197 => ?_)))
 have hX198 := hX188.step hp195 hl196
 have hfr199 := hfr191.below hl196
 have ho200 := ho194.weaken hX188.size
 refine qD rfl (yK (cs := [x160]) ag26 sz26 rfl (fun j u hj => hX198.pins _ _ _ (hbp189 _ _ (by simpa using hj)))) (qI rfl (xP (E := eVal) (e := 26) [x160] x160 eX sz26 zr26 ⟨rfl, hone169⟩ rfl (by decide) hX198.pins (fun u201 w202 ho203 hp204 hl205 hk206 => ?_)))
 have hX207 := hX198.step hp204 hl205
 have ho208 := ho200.below hl205
 have hfr209 := hfr199.below hl205
 have ha210 : Apart u201.ownBlock u192.ownBlock := zI hk206 ho200.lt
 have ho211 := ho203.weaken hX198.size
 obtain ⟨G212, hle215, hX214, hr213, hf216⟩ := ho208.sealed hX207
 have ho217 := ho211.moreO hle215 hf216 ha210
 have hfr218 := hfr209.le hle215
 obtain ⟨G219, hle222, hX221, hr220, hf223⟩ := ho217.sealed hX214
 have hfr224 := hfr218.le hle222
 refine qI rfl (zR (vs := [u192, u201]) Tryz.func28 nm28 rfl rfl rfl ?_)
 refine dO (xS hX221.pins hfr224 hkq164 (by first | omega | (simp; done) | (simp; omega)) hX221.size (hr213.mono hle222) hr220 (by simp) (by simp) (by first | omega | simp) (by first | omega | simp)) ?_
 rintro _ w228 ⟨x225, g226, G227, rfl, hkq229, hfr230, hx231⟩
 refine ⟨_, rfl, ?_⟩
 have hX232 := hX221.tr hx231
 have hone234 := hfr230.one List.mem_cons_self
 refine qI rfl (yN [(.slice none 0 0)] zr26 rfl hX232.pins (fun b235 w236 hk237 hb238 hp239 hl240 => ?_))
 have hX241 := hX232.step hp239 hl240
 have hfr242 := hfr230.below hl240
 have hlo243 : w.heap.size ≤ b235 := by have := hX232.size; omega
 refine q0 rfl rfl rfl (o_stp (cs' := [x225]) (us := [x225]) (v := (.agg [x225].toArray)) sz26 rfl rfl rfl (yO hone234) hX241.pins hb238 (dP rfl) rfl (fun w244 hb245 hp246 hg247 hz248 => ?_))
 have hX249 := hX241.write hp246 hg247 ((yG hlo243))
 have hfr250 := hfr242.kept hg247 (fun k hk o u => by cases hk; exact hb238.free o u)
 obtain ⟨G251, hle252, hX253, hbp254, hf255⟩ := hb245.shut hX249 hlo243
 have hfr256 := hfr250.le hle252
 refine qe (zA (zE (zF ?_)))
 refine qD rfl (yK (cs := [x1]) ag26 sz26 rfl (fun j u hj => (dN hX253.pins (dM (dM (dM (dM (dM (dM (dM (dM (dM (dM (dM (dM (dM hle45 hx54.le) hle75) hle92) hx101.le) hle122) hle150) hle157) hx166.le) hle187) hle215) hle222) hx231.le) hle252)) _ _ _ (hbp30 _ _ (by simpa using hj)))) (qI rfl (xP (E := eVal) (e := 26) [x1] x1 eX sz26 zr26 ⟨rfl, hone10⟩ rfl (by decide) hX253.pins (fun u257 w258 ho259 hp260 hl261 hk262 => ?_)))
 have hX263 := hX253.step hp260 hl261
 have hfr264 := hfr256.below hl261
 have ho265 := ho259.weaken hX253.size
 refine qD rfl (yK (cs := [x48]) ag26 sz26 rfl (fun j u hj => (dN hX263.pins (dM (dM (dM (dM (dM (dM (dM (dM (dM (dM hle92 hx101.le) hle122) hle150) hle157) hx166.le) hle187) hle215) hle222) hx231.le) hle252)) _ _ _ (hbp77 _ _ (by simpa using hj)))) (qI rfl (xP (E := eVal) (e := 26) [x48] x48 eX sz26 zr26 ⟨rfl, hone57⟩ rfl (by decide) hX263.pins (fun u266 w267 ho268 hp269 hl270 hk271 => ?_)))
 have hX272 := hX263.step hp269 hl270
 have ho273 := ho265.below hl270
 have hfr274 := hfr264.below hl270
 have ha275 : Apart u266.ownBlock u257.ownBlock := zI hk271 ho265.lt
 have ho276 := ho268.weaken hX263.size
 obtain ⟨G277, hle280, hX279, hr278, hf281⟩ := ho273.sealed hX272
 have ho282 := ho276.moreO hle280 hf281 ha275
 have hfr283 := hfr274.le hle280
 obtain ⟨G284, hle287, hX286, hr285, hf288⟩ := ho282.sealed hX279
 have hfr289 := hfr283.le hle287
 refine qI rfl (zR (vs := [u257, u266]) Tryz.func28 nm28 rfl rfl rfl ?_)
 refine dO (xS hX286.pins hfr289 hkq229 (by first | omega | (simp; done) | (simp; omega)) hX286.size (hr278.mono hle287) hr285 (by simp) (by simp) (by first | omega | simp) (by first | omega | simp)) ?_
 rintro _ w293 ⟨x290, g291, G292, rfl, hkq294, hfr295, hx296⟩
 refine ⟨_, rfl, ?_⟩
 have hX297 := hX286.tr hx296
 have hone299 := hfr295.one List.mem_cons_self
 refine qI rfl (yN [(.slice none 0 0)] zr26 rfl hX297.pins (fun b300 w301 hk302 hb303 hp304 hl305 => ?_))
 have hX306 := hX297.step hp304 hl305
 have hfr307 := hfr295.below hl305
 have hlo308 : w.heap.size ≤ b300 := by have := hX297.size; omega
 refine q0 rfl rfl rfl (o_stp (cs' := [x290]) (us := [x290]) (v := (.agg [x290].toArray)) sz26 rfl rfl rfl (yO hone299) hX306.pins hb303 (dP rfl) rfl (fun w309 hb310 hp311 hg312 hz313 => ?_))
 have hX314 := hX306.write hp311 hg312 ((yG hlo308))
 have hfr315 := hfr307.kept hg312 (fun k hk o u => by cases hk; exact hb303.free o u)
 obtain ⟨G316, hle317, hX318, hbp319, hf320⟩ := hb310.shut hX314 hlo308
 have hfr321 := hfr315.le hle317
 refine qe (zA (zE (zF ?_)))
 refine qD rfl (yK (cs := [x48]) ag26 sz26 rfl (fun j u hj => (dN hX318.pins (dM (dM (dM (dM (dM (dM (dM (dM (dM (dM (dM (dM (dM (dM hle92 hx101.le) hle122) hle150) hle157) hx166.le) hle187) hle215) hle222) hx231.le) hle252) hle280) hle287) hx296.le) hle317)) _ _ _ (hbp77 _ _ (by simpa using hj)))) (qI rfl (xP (E := eVal) (e := 26) [x48] x48 eX sz26 zr26 ⟨rfl, hone57⟩ rfl (by decide) hX318.pins (fun u322 w323 ho324 hp325 hl326 hk327 => ?_)))
 have hX328 := hX318.step hp325 hl326
 have hfr329 := hfr321.below hl326
 have ho330 := ho324.weaken hX318.size
 refine qD rfl (yK (cs := [x95]) ag26 sz26 rfl (fun j u hj => (dN hX328.pins (dM (dM (dM (dM (dM (dM (dM (dM (dM (dM (dM hle150 hle157) hx166.le) hle187) hle215) hle222) hx231.le) hle252) hle280) hle287) hx296.le) hle317)) _ _ _ (hbp124 _ _ (by simpa using hj)))) (qI rfl (xP (E := eVal) (e := 26) [x95] x95 eX sz26 zr26 ⟨rfl, hone104⟩ rfl (by decide) hX328.pins (fun u331 w332 ho333 hp334 hl335 hk336 => ?_)))
 have hX337 := hX328.step hp334 hl335
 have ho338 := ho330.below hl335
 have hfr339 := hfr329.below hl335
 have ha340 : Apart u331.ownBlock u322.ownBlock := zI hk336 ho330.lt
 have ho341 := ho333.weaken hX328.size
 obtain ⟨G342, hle345, hX344, hr343, hf346⟩ := ho338.sealed hX337
 have ho347 := ho341.moreO hle345 hf346 ha340
 have hfr348 := hfr339.le hle345
 obtain ⟨G349, hle352, hX351, hr350, hf353⟩ := ho347.sealed hX344
 have hfr354 := hfr348.le hle352
 refine qI rfl (zR (vs := [u322, u331]) Tryz.func28 nm28 rfl rfl rfl ?_)
 refine dO (xS hX351.pins hfr354 hkq294 (by first | omega | (simp; done) | (simp; omega)) hX351.size (hr343.mono hle352) hr350 (by simp) (by simp) (by first | omega | simp) (by first | omega | simp)) ?_
 rintro _ w358 ⟨x355, g356, G357, rfl, hkq359, hfr360, hx361⟩
 refine ⟨_, rfl, ?_⟩
 have hX362 := hX351.tr hx361
 have hone364 := hfr360.one List.mem_cons_self
 refine qI rfl (yN [(.slice none 0 0)] zr26 rfl hX362.pins (fun b365 w366 hk367 hb368 hp369 hl370 => ?_))
 have hX371 := hX362.step hp369 hl370
 have hfr372 := hfr360.below hl370
 have hlo373 : w.heap.size ≤ b365 := by have := hX362.size; omega
 refine q0 rfl rfl rfl (o_stp (cs' := [x355]) (us := [x355]) (v := (.agg [x355].toArray)) sz26 rfl rfl rfl (yO hone364) hX371.pins hb368 (dP rfl) rfl (fun w374 hb375 hp376 hg377 hz378 => ?_))
 have hX379 := hX371.write hp376 hg377 ((yG hlo373))
 have hfr380 := hfr372.kept hg377 (fun k hk o u => by cases hk; exact hb368.free o u)
 obtain ⟨G381, hle382, hX383, hbp384, hf385⟩ := hb375.shut hX379 hlo373
 have hfr386 := hfr380.le hle382
 refine qe (zA (zE (zF ?_)))
 refine qD rfl (yK (cs := [x1]) ag26 sz26 rfl (fun j u hj => (dN hX383.pins (dM (dM (dM (dM (dM (dM (dM (dM (dM (dM (dM (dM (dM (dM (dM (dM (dM (dM (dM (dM (dM hle45 hx54.le) hle75) hle92) hx101.le) hle122) hle150) hle157) hx166.le) hle187) hle215) hle222) hx231.le) hle252) hle280) hle287) hx296.le) hle317) hle345) hle352) hx361.le) hle382)) _ _ _ (hbp30 _ _ (by simpa using hj)))) (qD rfl (yK (cs := [x160]) ag26 sz26 rfl (fun j u hj => (dN hX383.pins (dM (dM (dM (dM (dM (dM (dM (dM (dM (dM (dM hle215 hle222) hx231.le) hle252) hle280) hle287) hx296.le) hle317) hle345) hle352) hx361.le) hle382)) _ _ _ (hbp189 _ _ (by simpa using hj)))) (qI rfl (rT (E := eVal) (e := 26) [x1, x160] [x1, x160] eX sz26 zr26 (by exact reps2 (⟨rfl, hone10⟩) (⟨rfl, hone169⟩)) (xO hone10 hone169) rfl rfl rfl rfl (by decide) hX383.pins (fun u387 w388 ho389 hp390 hl391 hk392 => ?_))))
 have hX393 := hX383.step hp390 hl391
 have hfr394 := hfr386.below hl391
 have ho395 := ho389.weaken hX383.size
 refine qD rfl (yK (cs := [x1]) ag26 sz26 rfl (fun j u hj => (dN hX393.pins (dM (dM (dM (dM (dM (dM (dM (dM (dM (dM (dM (dM (dM (dM (dM (dM (dM (dM (dM (dM (dM hle45 hx54.le) hle75) hle92) hx101.le) hle122) hle150) hle157) hx166.le) hle187) hle215) hle222) hx231.le) hle252) hle280) hle287) hx296.le) hle317) hle345) hle352) hx361.le) hle382)) _ _ _ (hbp30 _ _ (by simpa using hj)))) (qD rfl (yK (cs := [x160]) ag26 sz26 rfl (fun j u hj => (dN hX393.pins (dM (dM (dM (dM (dM (dM (dM (dM (dM (dM (dM hle215 hle222) hx231.le) hle252) hle280) hle287) hx296.le) hle317) hle345) hle352) hx361.le) hle382)) _ _ _ (hbp189 _ _ (by simpa using hj)))) (qI rfl (rT (E := eVal) (e := 26) [x1, x160] [x1, x160] eX sz26 zr26 (by exact reps2 (⟨rfl, hone10⟩) (⟨rfl, hone169⟩)) (xO hone10 hone169) rfl rfl rfl rfl (by decide) hX393.pins (fun u396 w397 ho398 hp399 hl400 hk401 => ?_))))
 have hX402 := hX393.step hp399 hl400
 have ho403 := ho395.below hl400
 have hfr404 := hfr394.below hl400
 have ha405 : Apart u396.ownBlock u387.ownBlock := zI hk401 ho395.lt
 have ho406 := ho398.weaken hX393.size
 obtain ⟨G407, hle410, hX409, hr408, hf411⟩ := ho403.sealed hX402
 have ho412 := ho406.moreO hle410 hf411 ha405
 have hfr413 := hfr404.le hle410
 obtain ⟨G414, hle417, hX416, hr415, hf418⟩ := ho412.sealed hX409
 have hfr419 := hfr413.le hle417
 refine qI rfl (zR (vs := [u387, u396]) Tryz.func28 nm28 rfl rfl rfl ?_)
 refine dO (xS hX416.pins hfr419 hkq359 (by first | omega | (simp; done) | (simp; omega)) hX416.size (hr408.mono hle417) hr415 (by simp) (by simp) (by first | omega | simp) (by first | omega | simp)) ?_
 rintro _ w423 ⟨x420, g421, G422, rfl, hkq424, hfr425, hx426⟩
 refine ⟨_, rfl, ?_⟩
 have hX427 := hX416.tr hx426
 have hone429 := hfr425.one List.mem_cons_self
 refine qI rfl (yN [(.slice none 0 0)] zr26 rfl hX427.pins (fun b430 w431 hk432 hb433 hp434 hl435 => ?_))
 have hX436 := hX427.step hp434 hl435
 have hfr437 := hfr425.below hl435
 have hlo438 : w.heap.size ≤ b430 := by have := hX427.size; omega
 refine q0 rfl rfl rfl (o_stp (cs' := [x420]) (us := [x420]) (v := (.agg [x420].toArray)) sz26 rfl rfl rfl (yO hone429) hX436.pins hb433 (dP rfl) rfl (fun w439 hb440 hp441 hg442 hz443 => ?_))
 have hX444 := hX436.write hp441 hg442 ((yG hlo438))
 have hfr445 := hfr437.kept hg442 (fun k hk o u => by cases hk; exact hb433.free o u)
 obtain ⟨G446, hle447, hX448, hbp449, hf450⟩ := hb440.shut hX444 hlo438
 have hfr451 := hfr445.le hle447
 refine qe (zA (zE (zF ?_)))
 refine qD rfl (yK (cs := [x160]) ag26 sz26 rfl (fun j u hj => (dN hX448.pins (dM (dM (dM (dM (dM (dM (dM (dM (dM (dM (dM (dM (dM (dM (dM hle215 hle222) hx231.le) hle252) hle280) hle287) hx296.le) hle317) hle345) hle352) hx361.le) hle382) hle410) hle417) hx426.le) hle447)) _ _ _ (hbp189 _ _ (by simpa using hj)))) (qI rfl (xP (E := eVal) (e := 26) [x160] x160 eX sz26 zr26 ⟨rfl, hone169⟩ rfl (by decide) hX448.pins (fun u452 w453 ho454 hp455 hl456 hk457 => ?_)))
 have hX458 := hX448.step hp455 hl456
 have hfr459 := hfr451.below hl456
 have ho460 := ho454.weaken hX448.size
 refine qD rfl (yK (cs := [x1]) ag26 sz26 rfl (fun j u hj => (dN hX458.pins (dM (dM (dM (dM (dM (dM (dM (dM (dM (dM (dM (dM (dM (dM (dM (dM (dM (dM (dM (dM (dM (dM (dM (dM (dM hle45 hx54.le) hle75) hle92) hx101.le) hle122) hle150) hle157) hx166.le) hle187) hle215) hle222) hx231.le) hle252) hle280) hle287) hx296.le) hle317) hle345) hle352) hx361.le) hle382) hle410) hle417) hx426.le) hle447)) _ _ _ (hbp30 _ _ (by simpa using hj)))) (qI rfl (xP (E := eVal) (e := 26) [x1] x1 eX sz26 zr26 ⟨rfl, hone10⟩ rfl (by decide) hX458.pins (fun u461 w462 ho463 hp464 hl465 hk466 => ?_)))
 have hX467 := hX458.step hp464 hl465
 have ho468 := ho460.below hl465
 have hfr469 := hfr459.below hl465
 have ha470 : Apart u461.ownBlock u452.ownBlock := zI hk466 ho460.lt
 have ho471 := ho463.weaken hX458.size
 obtain ⟨G472, hle475, hX474, hr473, hf476⟩ := ho468.sealed hX467
 have ho477 := ho471.moreO hle475 hf476 ha470
 have hfr478 := hfr469.le hle475
 obtain ⟨G479, hle482, hX481, hr480, hf483⟩ := ho477.sealed hX474
 have hfr484 := hfr478.le hle482
 refine qI rfl (zR (vs := [u452, u461]) Tryz.func28 nm28 rfl rfl rfl ?_)
 refine dO (xS hX481.pins hfr484 hkq424 (by first | omega | (simp; done) | (simp; omega)) hX481.size (hr473.mono hle482) hr480 (by simp) (by simp) (by first | omega | simp) (by first | omega | simp)) ?_
 rintro _ w488 ⟨x485, g486, G487, rfl, hkq489, hfr490, hx491⟩
 refine ⟨_, rfl, ?_⟩
 have hX492 := hX481.tr hx491
 have hone494 := hfr490.one List.mem_cons_self
 refine qI rfl (yN [(.slice none 0 0)] zr26 rfl hX492.pins (fun b495 w496 hk497 hb498 hp499 hl500 => ?_))
 have hX501 := hX492.step hp499 hl500
 have hfr502 := hfr490.below hl500
 have hlo503 : w.heap.size ≤ b495 := by have := hX492.size; omega
 refine q0 rfl rfl rfl (o_stp (cs' := [x485]) (us := [x485]) (v := (.agg [x485].toArray)) sz26 rfl rfl rfl (yO hone494) hX501.pins hb498 (dP rfl) rfl (fun w504 hb505 hp506 hg507 hz508 => ?_))
 have hX509 := hX501.write hp506 hg507 ((yG hlo503))
 have hfr510 := hfr502.kept hg507 (fun k hk o u => by cases hk; exact hb498.free o u)
 obtain ⟨G511, hle512, hX513, hbp514, hf515⟩ := hb505.shut hX509 hlo503
 have hfr516 := hfr510.le hle512
 refine qe (zA (zE (zF ?_)))
 refine qD rfl (yK (cs := [x1]) ag26 sz26 rfl (fun j u hj => (dN hX513.pins (dM (dM (dM (dM (dM (dM (dM (dM (dM (dM (dM (dM (dM (dM (dM (dM (dM (dM (dM (dM (dM (dM (dM (dM (dM (dM (dM (dM (dM hle45 hx54.le) hle75) hle92) hx101.le) hle122) hle150) hle157) hx166.le) hle187) hle215) hle222) hx231.le) hle252) hle280) hle287) hx296.le) hle317) hle345) hle352) hx361.le) hle382) hle410) hle417) hx426.le) hle447) hle475) hle482) hx491.le) hle512)) _ _ _ (hbp30 _ _ (by simpa using hj)))) (qD rfl (yK (cs := [x48]) ag26 sz26 rfl (fun j u hj => (dN hX513.pins (dM (dM (dM (dM (dM (dM (dM (dM (dM (dM (dM (dM (dM (dM (dM (dM (dM (dM (dM (dM (dM (dM (dM (dM (dM (dM hle92 hx101.le) hle122) hle150) hle157) hx166.le) hle187) hle215) hle222) hx231.le) hle252) hle280) hle287) hx296.le) hle317) hle345) hle352) hx361.le) hle382) hle410) hle417) hx426.le) hle447) hle475) hle482) hx491.le) hle512)) _ _ _ (hbp77 _ _ (by simpa using hj)))) (qD rfl (yK (cs := [x95]) ag26 sz26 rfl (fun j u hj => (dN hX513.pins (dM (dM (dM (dM (dM (dM (dM (dM (dM (dM (dM (dM (dM (dM (dM (dM (dM (dM (dM (dM (dM (dM (dM hle150 hle157) hx166.le) hle187) hle215) hle222) hx231.le) hle252) hle280) hle287) hx296.le) hle317) hle345) hle352) hx361.le) hle382) hle410) hle417) hx426.le) hle447) hle475) hle482) hx491.le) hle512)) _ _ _ (hbp124 _ _ (by simpa using hj)))) (qD rfl (yK (cs := [x160]) ag26 sz26 rfl (fun j u hj => (dN hX513.pins (dM (dM (dM (dM (dM (dM (dM (dM (dM (dM (dM (dM (dM (dM (dM (dM (dM (dM (dM hle215 hle222) hx231.le) hle252) hle280) hle287) hx296.le) hle317) hle345) hle352) hx361.le) hle382) hle410) hle417) hx426.le) hle447) hle475) hle482) hx491.le) hle512)) _ _ _ (hbp189 _ _ (by simpa using hj)))) (qD rfl (yK (cs := [x225]) ag26 sz26 rfl (fun j u hj => (dN hX513.pins (dM (dM (dM (dM (dM (dM (dM (dM (dM (dM (dM (dM (dM (dM (dM hle280 hle287) hx296.le) hle317) hle345) hle352) hx361.le) hle382) hle410) hle417) hx426.le) hle447) hle475) hle482) hx491.le) hle512)) _ _ _ (hbp254 _ _ (by simpa using hj)))) (qD rfl (yK (cs := [x290]) ag26 sz26 rfl (fun j u hj => (dN hX513.pins (dM (dM (dM (dM (dM (dM (dM (dM (dM (dM (dM hle345 hle352) hx361.le) hle382) hle410) hle417) hx426.le) hle447) hle475) hle482) hx491.le) hle512)) _ _ _ (hbp319 _ _ (by simpa using hj)))) (qD rfl (yK (cs := [x355]) ag26 sz26 rfl (fun j u hj => (dN hX513.pins (dM (dM (dM (dM (dM (dM (dM hle410 hle417) hx426.le) hle447) hle475) hle482) hx491.le) hle512)) _ _ _ (hbp384 _ _ (by simpa using hj)))) (qD rfl (yK (cs := [x420]) ag26 sz26 rfl (fun j u hj => (dN hX513.pins (dM (dM (dM hle475 hle482) hx491.le) hle512)) _ _ _ (hbp449 _ _ (by simpa using hj)))) (qD rfl (yK (cs := [x485]) ag26 sz26 rfl (fun j u hj => hX513.pins _ _ _ (hbp514 _ _ (by simpa using hj)))) ?_))))))))
 refine qI rfl (rT (E := eVal) (e := 26) [x1, x48, x95, x160, x225, x290, x355, x420, x485] [x1, x48, x95, x160, x225, x290, x355, x420, x485] eX sz26 zr26 (fZ (⟨rfl, hone10⟩) (fZ (⟨rfl, hone57⟩) (fZ (⟨rfl, hone104⟩) (fZ (⟨rfl, hone169⟩) (fZ (⟨rfl, hone234⟩) (fZ (⟨rfl, hone299⟩) (fZ (⟨rfl, hone364⟩) (fZ (⟨rfl, hone429⟩) (fZ (⟨rfl, hone494⟩) repsN))))))))) (gC hone10 (gC hone57 (gC hone104 (gC hone169 (gC hone234 (gC hone299 (gC hone364 (gC hone429 (gC hone494 onesN))))))))) rfl rfl rfl rfl (by decide) hX513.pins (fun u517 w518 ho519 hp520 hl521 hk522 => ?_))
 have hX523 := hX513.step hp520 hl521
 have hfr524 := hfr516.below hl521
 have ho525 := ho519.weaken hX513.size
 refine qD rfl (zD (v := u517) rfl) (qe (zA ?_))
 exact wp_ret (zW (zT (v := u517) rfl rfl rfl (⟨_, _, _, _, rfl, ho525, hfr524.mem (by simp), hkq489, rfl, rfl, hX523⟩)))
theorem some_spec {w : World} {c : Nat} {s : Int} (hP : Pins G w) (hB : Bx G w c [cv, .int .i64 a, .int .u64 s]) (hc : RSl eByte G cv code) (ha : 0 ≤ a ∧ a + 6 ≤ 1000000) (hs : 0 ≤ s ∧ s < 18446744073709551616) (hl : RSl eVal G l vs) (hn : 1 ≤ vs.length ∧ vs.length ≤ 1000) (hm2 : 0 ≤ m ∧ m ≤ 2) :
  Calls Tryz.prog 27 [(.pointer (some ⟨c, 0, none⟩)), l, (.int .i64 m)].toArray w fun e w' => ∃ (u : Value) (ys : List Value) (a' s' : Int) (G' : Pin), e = .returned u ∧ Own eVal 26 G' w' w.heap.size u ys ∧ (∀ y ∈ ys, y ∈ vs) ∧ ys.length ≤ 2 ∧ Bx G' w' c [cv, .int .i64 a', .int .u64 s'] ∧ (a ≤ a' ∧ a' ≤ a + 6) ∧ (0 ≤ s' ∧ s' < 18446744073709551616) ∧ Ext (inO (some c)) G w G' w' := by
 refine yD (n := 31) Tryz.func27 Tryz.ntmps27 rfl rfl ?_
 have hX0 := exr (inO (some c)) hP
 have hm := hc.max
 refine zE (zF ?_)
 refine qD rfl (zD (v := (.slice none 0 0)) rfl) (qe (zA (zE (zF ?_))))
 refine qI rfl (yR (E := eVal) (e := 26) eX sz26 hX0.pins (fun u1 w2 ho3 hp4 hl5 hk6 => ?_))
 have hX7 := hX0.step hp4 hl5
 have hb8 := hB.below hl5
 have ha9 : Apart u1.ownBlock (some c) := zK hk6 hB.lt
 have ho10 := ho3.weaken hX0.size
 refine qD rfl (zD (v := u1) rfl) (qe (zA (zE (zF ?_))))
 refine qD rfl (zB (v := (.pointer (some ⟨c, 0, none⟩))) rfl) (qD rfl (zB (v := (.int .i64 m)) rfl) (qD rfl (yH rfl rfl (by omega)) (qI rfl (zR (vs := [(.pointer (some ⟨c, 0, none⟩)), (.int .i64 (m + 1))]) Tryz.func23 nm23 rfl rfl rfl ?_))))
 refine dO (jG hX7.pins hb8 hc (by omega) (by omega) (n := (m + 1)) (by omega)) ?_
 rintro _ w15 ⟨z11, a13, s14, rfl, hz12, hb16, hda17, hds18, hx19⟩
 refine ⟨_, rfl, ?_⟩
 have hX20 := hX7.trans hx19 (fun i hi => xH i hi)
 have ho21 := ho10.extS hx19 (notO ha9)
 refine qD rfl (zD (v := (.int .i64 z11)) rfl) (qe (zA (zE (zE (zF ?_)))))
 refine qD rfl (zD (v := (.int .i64 0)) rfl) (qe (zA ?_))
 refine zX (yM (fun (k : Nat) (en : Nat → Value) (W : World) => ∃ (env1 : Nat → Value) (i : Nat) (ov : Value) (ys : List Value) (a1 : Int) (s1 : Int) (GL : Pin), en = (upd (upd (upd (upd (upd (upd env1 0 (.pointer (some ⟨c, 0, none⟩))) 1 l) 6 (.slice none 0 0)) 7 ov) 8 (.int .i64 z11)) 9 (.int .i64 (i : Int))) ∧ k = (z11).toNat - i ∧ Ext (inO (some c)) G w GL W ∧ Pin.le G GL ∧ (i : Int) ≤ z11 ∧ (∀ y ∈ ys, y ∈ vs) ∧ (ys.length = i) ∧ (a ≤ a1 ∧ a1 ≤ a + 2 + 2 * (i : Int)) ∧ (0 ≤ s1 ∧ s1 < 18446744073709551616) ∧ (Own eVal 26 GL W w.heap.size ov (ys)) ∧ (Bx GL W c [cv, (.int .i64 a1), (.int .u64 s1)]) ∧ (Apart ov.ownBlock (some c))) _ ⟨_, 0, u1, [], a13, s14, G, (zC (x := 9) (zC (x := 8) (zC (x := 7) (zC (x := 6) (zC (x := 1) (zS (x := 0) rfl) rfl) rfl) rfl) rfl) rfl), rfl, hX20, Pin.le_refl _, (by omega), (fun y hy => (List.not_mem_nil hy).elim), rfl, (by omega), (by omega), ho21, hb16, ha9⟩ ?_)
 rintro k22 _ w23 ⟨env1, i, ov, ys, a1, s1, GL, rfl, hk24, hX25, hlek22, hi, hys, hyl, hda, hds, hw26, hw27, ha28⟩
 refine zE (zE (zF ?_))
 refine qD rfl (zB (v := (.int .i64 (i : Int))) rfl) (qD rfl (zB (v := (.int .i64 z11)) rfl) (qD rfl (yQ rfl rfl) (qe (zA ?_))))
 refine yF (p := ((i : Int) : Int) < z11) rfl rfl (fun h29 => ?_) (fun h29 => ?_)
 refine wp_skip (zA (zE ?_))
 refine zX (zF (qD rfl (zB (v := ov) rfl) (qD rfl (zB (v := l) rfl) (qD rfl (zB (v := (.pointer (some ⟨c, 0, none⟩))) rfl) (qD rfl (zB (v := l) rfl) (qD rfl (zP eX (v := l) rfl hl) (qI rfl (zR (vs := [(.pointer (some ⟨c, 0, none⟩)), (.int .i64 (vs.length : Int))]) Tryz.func23 nm23 rfl rfl rfl ?_))))))))
 refine dO (jG hX25.pins hw27 (hc.mono hlek22) (by omega) (by omega) (n := (vs.length : Int)) (by omega)) ?_
 rintro _ w34 ⟨z30, a32, s33, rfl, hz31, hb35, hda36, hds37, hx38⟩
 refine ⟨_, rfl, ?_⟩
 have hX39 := hX25.trans hx38 (fun i hi => xH i hi)
 have ho40 := hw26.extS hx38 (notO ha28)
 refine qD rfl (zL eX sz26 (v := l) rfl rfl hl (by omega) (by omega)) ?_
 obtain ⟨cs41, hrep42, hagg43, hcell44⟩ := fI (j := (z30).toNat) default (hl.at (z := z30) (by omega) (by omega)) rfl
 obtain ⟨rfl, hone45⟩ := hrep42
 refine qD rfl (hagg43 ag26 sz26 rfl (dN hX39.pins hlek22)) (qI rfl (xP (E := eVal) (e := 26) [(vs.getD (z30).toNat default)] (vs.getD (z30).toNat default) eX sz26 zr26 ⟨rfl, hone45⟩ rfl (by decide) hX39.pins (fun u46 w47 ho48 hp49 hl50 hk51 => ?_)))
 have hX52 := hX39.step hp49 hl50
 have ho53 := ho40.below hl50
 have hb54 := hb35.below hl50
 have ho57 := ho48.weaken hX39.size
 refine qI rfl (zU (E := eVal) (v := ov) (u := u46) 24 eX ap26 (by decide) rfl rfl hX52.pins ho53 ho57.src (by first | omega | (rw [List.nil_append]; omega) | (rw [List.length_nil]; omega) | (rw [List.length_append]; omega) | (simp; done) | (simp; omega) | (simp only [List.length_append, List.length_cons, List.length_nil]; omega)) (by first | omega | (rw [List.nil_append]; omega) | (rw [List.length_nil]; omega) | (rw [List.length_append]; omega) | (simp; done) | (simp; omega) | (simp only [List.length_append, List.length_cons, List.length_nil]; omega)) (hX52.size) (fun u58 w59 ho60 hp61 hg62 hw63 => ?_))
 have hX64 := hX52.write hp61 hg62 ((yB ho53))
 have hb66 := hb54.keptA hg62 ha28.symm
 have ha68 : Apart (some c) u58.ownBlock := zJ ha28.symm hw63 hb54.lt
 have hm69 := la1 ys (vs.getD (z30).toNat default)
 refine qD rfl (zD (v := u58) rfl) (qe (yC (zA (zF ?_))))
 refine qD rfl (zB (v := (.int .i64 (i : Int))) rfl) (qD rfl (yH rfl rfl (by omega)) (qD rfl (zD (v := (.int .i64 ((i : Int) + 1))) rfl) (qe (yE (⟨_, ?_, _, rfl, _, i + 1, u58, ys ++ ([(vs.getD (z30).toNat default)]), a32, s33, GL, (zC (x := 9) (zC (x := 8) (zC (x := 7) (zC (x := 6) (zC (x := 1) (zS (x := 0) rfl) rfl) rfl) rfl) rfl) rfl), rfl, hX64, hlek22, (by omega), (fun y hy => (List.mem_append.1 hy).elim (hys y) (fun h => by rw [List.mem_singleton.1 h]; exact yX (by omega))), (by simp; omega), (by omega), (by omega), ho60, hb66, ha68.symm⟩)))))
 omega
 refine wp_exit (zZ (yJ (yI (zA (zE (zF ?_))))))
 refine qD rfl (zB (v := ov) rfl) (qD rfl (zD (v := ov) rfl) (qe (zA ?_)))
 exact wp_ret (zW (zT (v := ov) rfl rfl rfl (⟨_, _, _, _, _, rfl, hw26, hys, (by omega), hw27, (by omega), (by omega), hX25⟩)))
theorem rL {w : World} {c : Nat} {s : Int} {e : Nat} (hP : Pins G w) (hB : Bx G w c [cv, .int .i64 a, .int .u64 s]) (hc : RSl eByte G cv code) (ha : 0 ≤ a ∧ a + 6 ≤ 1000000) (hs : 0 ≤ s ∧ s < 18446744073709551616) (hl : Own eVal e G w base l vs) (hap : Apart (some c) l.ownBlock) (hn : 1 ≤ vs.length ∧ vs.length ≤ 1000) (hm2 : 0 ≤ m ∧ m ≤ 2) :
  Calls Tryz.prog 27 [(.pointer (some ⟨c, 0, none⟩)), l, (.int .i64 m)].toArray w fun e w' => ∃ (u : Value) (ys : List Value) (a' s' : Int), e = .returned u ∧ Own eVal 26 G w' w.heap.size u ys ∧ (∀ y ∈ ys, y ∈ vs) ∧ ys.length ≤ 2 ∧ Bx G w' c [cv, .int .i64 a', .int .u64 s'] ∧ (a ≤ a' ∧ a' ≤ a + 6) ∧ (0 ≤ s' ∧ s' < 18446744073709551616) ∧ Ext (inO (some c)) G w G w' := by
 have hb2 : Bx (Gadd G w l) w c [cv, .int .i64 a, .int .u64 s] := ⟨hB.heap, fun o u hu => hu.elim (hB.free o u) (fun h => hap c rfl h.1)⟩
 refine (some_spec (Gadd.pins hP l) hb2 (hc.mono (Gadd.le _ _ _)) ha hs hl.read hn hm2).mono fun e w' ⟨u, ys, a', s', G', e1, ho, hm, hy, hb, h1, h2, hx⟩ => ?_
 have hle : Pin.le G G' := dM (Gadd.le _ _ _) hx.le
 exact ⟨u, ys, a', s', e1, ownV_anti ho hle, hm, hy, hb.anti hle, h1, h2, ext_back (Gadd.le _ _ _) hx⟩
theorem mJ {w : World} {c : Nat} {s : Int} {n : Int} (hP : Pins G w) (hB : Bx G w c [cv, .int .i64 a, .int .u64 s]) (hc : RSl eByte G cv code) (ha : 0 ≤ a ∧ a + (12 * n + 4) ≤ 1000000) (hs : 0 ≤ s ∧ s < 18446744073709551616) (hn : 0 ≤ n ∧ n ≤ 6) :
  Calls Tryz.prog 13 [(.pointer (some ⟨c, 0, none⟩)), (.int .i64 n)].toArray w fun e w' => ∃ (u : Value) (g : Nat) (a' s' : Int) (G' : Pin), e = .returned (.agg [u].toArray) ∧ Own eNode 46 G' w' w.heap.size u (formG g) ∧ IsForm g (formG g) ∧ ((formG g).length : Int) ≤ 9 + n ∧ Bx G' w' c [cv, .int .i64 a', .int .u64 s'] ∧ (a ≤ a' ∧ a' ≤ a + (12 * n + 4)) ∧ (0 ≤ s' ∧ s' < 18446744073709551616) ∧ Ext (inO (some c)) G w G' w' := by
 refine yD (n := 40) Tryz.func13 Tryz.ntmps13 rfl rfl ?_
 have hX0 := exr (inO (some c)) hP
 have hm := hc.max
 refine zE (zF ?_)
 refine qI rfl (yN [(.slice none 0 0)] zr26 rfl hX0.pins (fun b1 w2 hk3 hb4 hp5 hl6 => ?_))
 have hX7 := hX0.step hp5 hl6
 have hb8 := hB.below hl6
 have ha9 : Apart (some b1) (some c) := zK (congrArg some hk3) hB.lt
 have hlo10 : w.heap.size ≤ b1 := by have := hX0.size; omega
 refine qe (zA (zE (zF ?_)))
 refine qI rfl (zR (vs := []) Tryz.func26 nm26 rfl rfl rfl ?_)
 refine dO (pM hX7.pins) ?_
 rintro _ w15 ⟨u11, vs12, Q13, G14, rfl, ho16, hfr17, hkq18, hvl19, hql20, hx21⟩
 refine ⟨_, rfl, ?_⟩
 have hX22 := hX7.tr hx21
 have hb23 := hb8.ext hx21
 have hb24 := hb4.ext hx21
 have ha25 : Apart u11.ownBlock (some c) := yA ho16.lt hb8.lt
 have ha26 : Apart u11.ownBlock (some b1) := yA ho16.lt hb4.lt
 have ho27 := ho16.weaken hX7.size
 have hfr28 := hfr17.wide hX7.size
 refine qD rfl (zD (v := u11) rfl) (qe (zA (zE (zE (zF ?_)))))
 refine qD rfl (zD (v := (.int .i64 0)) rfl) (qe (zA ?_))
 refine zX (yM (fun (k : Nat) (en : Nat → Value) (W : World) => ∃ (env1 : Nat → Value) (i : Nat) (lv : Value) (ls : List Value) (Q : List Nat) (a1 : Int) (s1 : Int) (GL : Pin), en = (upd (upd (upd (upd (upd env1 0 (.pointer (some ⟨c, 0, none⟩))) 1 (.int .i64 n)) 4 (.pointer (some ⟨b1, 0, none⟩))) 5 lv) 6 (.int .i64 (i : Int))) ∧ k = n.toNat - i ∧ Ext (inO (some c)) G w GL W ∧ Pin.le G14 GL ∧ (i : Int) ≤ n ∧ (Fr 46 w.heap.size GL W Q ls) ∧ (KQ Q) ∧ (ls.length = 9 + i) ∧ (Q.length = 9 + i) ∧ (a ≤ a1 ∧ a1 ≤ a + 12 * (i : Int)) ∧ (0 ≤ s1 ∧ s1 < 18446744073709551616) ∧ (Own eVal 26 GL W w.heap.size lv (ls)) ∧ (Bx GL W c [cv, (.int .i64 a1), (.int .u64 s1)]) ∧ (Bx GL W b1 [(.slice none 0 0)]) ∧ (Apart lv.ownBlock (some c)) ∧ (Apart lv.ownBlock (some b1))) _ ⟨_, 0, u11, vs12, Q13, a, s, G14, (zC (x := 6) (zC (x := 5) (zC (x := 4) (zC (x := 1) (zS (x := 0) rfl) rfl) rfl) rfl) rfl), rfl, hX22, Pin.le_refl _, (by omega), hfr28, hkq18, (by omega), (by omega), (by omega), (by omega), ho27, hb23, hb24, ha25, ha26⟩ ?_)
 rintro k29 _ w30 ⟨env1, i, lv, ls, Q, a1, s1, GL, rfl, hk31, hX32, hlek29, hi, hfl, hkl, hll, hQl, hda, hds, hw33, hw34, hw35, ha36, ha37⟩
 refine zE (zE (zF ?_))
 refine qD rfl (zB (v := (.int .i64 (i : Int))) rfl) (qD rfl (zB (v := (.int .i64 n)) rfl) (qD rfl (yQ rfl rfl) (qe (zA ?_))))
 refine yF (p := ((i : Int) : Int) < n) rfl rfl (fun h38 => ?_) (fun h38 => ?_)
 refine wp_skip (zA (zE ?_))
 refine zX (zE (zF ?_))
 refine qD rfl (zB (v := (.pointer (some ⟨c, 0, none⟩))) rfl) (qD rfl (zB (v := lv) rfl) (qI rfl (zR (vs := [(.pointer (some ⟨c, 0, none⟩)), lv, (.int .i64 2)]) Tryz.func27 nm27 rfl rfl rfl ?_)))
 refine dO (rL hX32.pins hw34 (hc.mono (dM hx21.le hlek29)) (by omega) (by omega) hw33 ha36.symm (by omega) (by omega)) ?_
 rintro _ w43 ⟨u39, ys40, a41, s42, rfl, ho44, hmy45, hyl46, hb47, hda48, hds49, hx50⟩
 refine ⟨_, rfl, ?_⟩
 have hX51 := hX32.trans hx50 (fun i hi => xH i hi)
 have ho52 := hw33.extS hx50 (notO ha36)
 have hb53 := hw35.extS hx50 (jD ha9)
 have hfr54 := hfl.turned hx50 (fun k hk o u => by cases hk; exact hw34.free o u)
 have ha55 : Apart u39.ownBlock lv.ownBlock := zY ho44.lt hw33.lt
 have ha56 : Apart u39.ownBlock (some c) := yA ho44.lt hw34.lt
 have ha57 : Apart u39.ownBlock (some b1) := yA ho44.lt hw35.lt
 have ho58 := ho44.weaken hX32.size
 refine qD rfl (zD (v := u39) rfl) (qe (zA (zF ?_)))
 refine qD rfl (zB (v := lv) rfl) (qD rfl (zB (v := u39) rfl) (qD rfl (zB (v := (.pointer (some ⟨c, 0, none⟩))) rfl) (qD rfl (zB (v := lv) rfl) (qI rfl (zR (vs := [(.pointer (some ⟨c, 0, none⟩)), lv, (.int .i64 2)]) Tryz.func27 nm27 rfl rfl rfl ?_)))))
 refine dO (rL hX51.pins hb47 (hc.mono (dM hx21.le hlek29)) (by omega) (by omega) ho52 ha36.symm (by omega) (by omega)) ?_
 rintro _ w63 ⟨u59, ys60, a61, s62, rfl, ho64, hmy65, hyl66, hb67, hda68, hds69, hx70⟩
 refine ⟨_, rfl, ?_⟩
 have hX71 := hX51.trans hx70 (fun i hi => xH i hi)
 have ho72 := ho52.extS hx70 (notO ha36)
 have ho73 := ho58.extS hx70 (notO ha56)
 have hb74 := hb53.extS hx70 (jD ha9)
 have hfr75 := hfr54.turned hx70 (fun k hk o u => by cases hk; exact hb47.free o u)
 have ha76 : Apart u59.ownBlock lv.ownBlock := zY ho64.lt ho52.lt
 have ha77 : Apart u59.ownBlock u39.ownBlock := zY ho64.lt ho58.lt
 have ha78 : Apart u59.ownBlock (some c) := yA ho64.lt hb47.lt
 have ha79 : Apart u59.ownBlock (some b1) := yA ho64.lt hb53.lt
 have ho80 := ho64.weaken hX51.size
 obtain ⟨G81, hle84, hX83, hr82, hf85⟩ := ho73.sealed hX71
 have ho86 := ho72.moreO hle84 hf85 ha55.symm
 have ho87 := ho80.moreO hle84 hf85 ha77
 have hb88 := hb67.moreO hf85 ha56.symm
 have hb89 := hb74.moreO hf85 ha57.symm
 have hfr90 := hfr75.le hle84
 obtain ⟨G91, hle94, hX93, hr92, hf95⟩ := ho87.sealed hX83
 have ho96 := ho86.moreO hle94 hf95 ha76.symm
 have hb97 := hb88.moreO hf95 ha78.symm
 have hb98 := hb89.moreO hf95 ha79.symm
 have hfr99 := hfr90.le hle94
 refine qI rfl (zR (vs := [u39, u59]) Tryz.func28 nm28 rfl rfl rfl ?_)
 refine dO (xS hX93.pins hfr99 hkl (by first | omega | (simp; done) | (simp; omega)) hX93.size (hr82.mono hle94) hr92 hmy45 hmy65 (by first | omega | simp) (by first | omega | simp)) ?_
 rintro _ w103 ⟨x100, g101, G102, rfl, hkq104, hfr105, hx106⟩
 refine ⟨_, rfl, ?_⟩
 have hX107 := hX93.tr hx106
 have ho108 := ho96.ext hx106
 have hb109 := hb97.ext hx106
 have hb110 := hb98.ext hx106
 have hone112 := hfr105.one List.mem_cons_self
 refine qI rfl (xP (E := eVal) (e := 26) [x100] x100 eX sz26 zr26 ⟨rfl, hone112⟩ rfl (by decide) hX107.pins (fun u113 w114 ho115 hp116 hl117 hk118 => ?_))
 have hX119 := hX107.step hp116 hl117
 have ho120 := ho108.below hl117
 have hb121 := hb109.below hl117
 have hb122 := hb110.below hl117
 have hfr123 := hfr105.below hl117
 have ho127 := ho115.weaken hX107.size
 refine qI rfl (zU (E := eVal) (v := lv) (u := u113) 24 eX ap26 (by decide) rfl rfl hX119.pins ho120 ho127.src (by first | omega | (rw [List.nil_append]; omega) | (rw [List.length_nil]; omega) | (rw [List.length_append]; omega) | (simp; done) | (simp; omega) | (simp only [List.length_append, List.length_cons, List.length_nil]; omega)) (by first | omega | (rw [List.nil_append]; omega) | (rw [List.length_nil]; omega) | (rw [List.length_append]; omega) | (simp; done) | (simp; omega) | (simp only [List.length_append, List.length_cons, List.length_nil]; omega)) (hX119.size) (fun u128 w129 ho130 hp131 hg132 hw133 => ?_))
 have hX134 := hX119.write hp131 hg132 ((yB ho120))
 have hb136 := hb121.keptA hg132 ha36.symm
 have hb137 := hb122.keptA hg132 ha37.symm
 have hfr138 := hfr123.kept hg132 ho120.free
 have ha140 : Apart (some c) u128.ownBlock := zJ ha36.symm hw133 hb121.lt
 have ha141 : Apart (some b1) u128.ownBlock := zJ ha37.symm hw133 hb122.lt
 have hm142 := la1 ls x100
 refine qD rfl (zD (v := u128) rfl) (qe (yC (zA (zF ?_))))
 refine qD rfl (zB (v := (.int .i64 (i : Int))) rfl) (qD rfl (yH rfl rfl (by omega)) (qD rfl (zD (v := (.int .i64 ((i : Int) + 1))) rfl) (qe (yE (⟨_, ?_, _, rfl, _, i + 1, u128, ls ++ ([x100]), (g101 :: Q), a61, s62, G102, (zC (x := 6) (zC (x := 5) (zC (x := 4) (zC (x := 1) (zS (x := 0) rfl) rfl) rfl) rfl) rfl), rfl, hX134, (dM (dM (dM hlek29 hle84) hle94) hx106.le), (by omega), (hfr138.mem snoc_mem), hkq104, (by simp; omega), (by simp; omega), (by omega), (by omega), ho130, hb136, hb137, ha140.symm, ha141.symm⟩)))))
 omega
 refine wp_exit (zZ (yJ (yI (zA (zE (zE (zF ?_)))))))
 refine qD rfl (zB (v := (.pointer (some ⟨c, 0, none⟩))) rfl) (qI rfl (zR (vs := [(.pointer (some ⟨c, 0, none⟩)), (.int .i64 3)]) Tryz.func11 nm11 rfl rfl rfl ?_))
 refine dO (sT hX32.pins hw34 (hc.mono (dM hx21.le hlek29)) (by omega) (by omega) (n := 3) (by omega)) ?_
 rintro _ w146 ⟨z143, a144, s145, rfl, hb147, hda148, hds149, hx150⟩
 refine ⟨_, rfl, ?_⟩
 have hX151 := hX32.trans hx150 (fun i hi => xH i hi)
 have ho152 := hw33.extS hx150 (notO ha36)
 have hb153 := hw35.extS hx150 (jD ha9)
 have hfr154 := hfl.turned hx150 (fun k hk o u => by cases hk; exact hw34.free o u)
 refine qe (zA ?_)
 refine c_if rfl rfl (fun h155 => ?_) (fun h155 => ?_)
 refine zE (zF ?_)
 refine qD rfl (zB (v := lv) rfl) (qD rfl (zB (v := (.pointer (some ⟨c, 0, none⟩))) rfl) (qD rfl (zB (v := lv) rfl) (qD rfl (zP eX (v := lv) rfl ho152.read) (qI rfl (zR (vs := [(.pointer (some ⟨c, 0, none⟩)), (.int .i64 (ls.length : Int))]) Tryz.func23 nm23 rfl rfl rfl ?_)))))
 refine dO (jG hX151.pins hb147 (hc.mono (dM hx21.le hlek29)) (by omega) (by omega) (n := (ls.length : Int)) (by omega)) ?_
 rintro _ w160 ⟨z156, a158, s159, rfl, hz157, hb161, hda162, hds163, hx164⟩
 refine ⟨_, rfl, ?_⟩
 have hX165 := hX151.trans hx164 (fun i hi => xH i hi)
 have ho166 := ho152.extS hx164 (notO ha36)
 have hb167 := hb153.extS hx164 (jD ha9)
 have hfr168 := hfr154.turned hx164 (fun k hk o u => by cases hk; exact hb147.free o u)
 refine qD rfl (zL eX sz26 (v := lv) rfl rfl ho166.read (by omega) (by omega)) ?_
 obtain ⟨cs169, hrep170, hagg171, hcell172⟩ := fI (j := (z156).toNat) default (ho166.at (z := z156) (by omega) (by omega)) rfl
 obtain ⟨rfl, hone173⟩ := hrep170
 refine qD rfl (hagg171 ag26 sz26 rfl (Gadd.pins hX165.pins lv)) (q0 rfl rfl rfl (o_stp (cs' := [(ls.getD (z156).toNat default)]) (us := [(ls.getD (z156).toNat default)]) (v := (.agg [(ls.getD (z156).toNat default)].toArray)) sz26 rfl rfl rfl (yO hone173) hX165.pins hb167 (dP rfl) rfl (fun w174 hb175 hp176 hg177 hz178 => ?_)))
 have hX179 := hX165.write hp176 hg177 ((yG hlo10))
 have hb181 := hb161.keptA hg177 ha9.symm
 have hfr182 := hfr168.kept hg177 (fun k hk o u => by cases hk; exact hb167.free o u)
 refine qe (zA ?_)
 refine wp_ret (zW (jI (cs := [(ls.getD (z156).toNat default)]) rfl rfl rfl ag26 sz26 (fun j u hj => by rw [Nat.zero_add]; exact hb175.cell hj) ?_))
 obtain ⟨g, hgq, htk⟩ := hfr182 (ls.getD (z156).toNat default) (yX (by omega))
 obtain ⟨G2, ho2, hx2, hle2⟩ := htk.give hP hX179
 have hw := hkl.w (by omega) hgq
 exact ⟨_, g, _, _, G2, rfl, ho2, hkl.is g hgq, (by omega), hb181.anti hle2, (by omega), (by omega), hx2⟩
 refine wp_skip (zA (zE (zF ?_)))
 refine qD rfl (zB (v := lv) rfl) (qD rfl (zB (v := lv) rfl) (qD rfl (zP eX (v := lv) rfl ho152.read) (qD rfl (qM rfl rfl (by omega)) (qD rfl (zL eX sz26 (v := lv) rfl rfl ho152.read (by omega) (by omega)) ?_))))
 obtain ⟨cs183, hrep184, hagg185, hcell186⟩ := fI (j := ((ls.length : Int) - 1).toNat) default (ho152.at (z := ((ls.length : Int) - 1)) (by omega) (by omega)) rfl
 obtain ⟨rfl, hone187⟩ := hrep184
 refine qD rfl (hagg185 ag26 sz26 rfl (Gadd.pins hX151.pins lv)) (q0 rfl rfl rfl (o_stp (cs' := [(ls.getD ((ls.length : Int) - 1).toNat default)]) (us := [(ls.getD ((ls.length : Int) - 1).toNat default)]) (v := (.agg [(ls.getD ((ls.length : Int) - 1).toNat default)].toArray)) sz26 rfl rfl rfl (yO hone187) hX151.pins hb153 (dP rfl) rfl (fun w188 hb189 hp190 hg191 hz192 => ?_)))
 have hX193 := hX151.write hp190 hg191 ((yG hlo10))
 have hb195 := hb147.keptA hg191 ha9.symm
 have hfr196 := hfr154.kept hg191 (fun k hk o u => by cases hk; exact hb153.free o u)
 refine qe (zA ?_)
 refine wp_ret (zW (jI (cs := [(ls.getD ((ls.length : Int) - 1).toNat default)]) rfl rfl rfl ag26 sz26 (fun j u hj => by rw [Nat.zero_add]; exact hb189.cell hj) ?_))
 obtain ⟨g, hgq, htk⟩ := hfr196 (ls.getD ((ls.length : Int) - 1).toNat default) (yX (by omega))
 obtain ⟨G2, ho2, hx2, hle2⟩ := htk.give hP hX193
 have hw := hkl.w (by omega) hgq
 exact ⟨_, g, _, _, G2, rfl, ho2, hkl.is g hgq, (by omega), hb195.anti hle2, (by omega), (by omega), hx2⟩
end DR2
end Go.Proofs.YtdongckiecjbaaaGreatDoor
namespace Go.Proofs.YtdongckiecjbaaaGreatDoor
namespace DV1
open Go.RowKit Go.GL Go.Proofs
open B1 C1 D1 E1 MK1 DR1 DR2
theorem pl46 : (Tryz.prog.underlying 46).bind (placesD Tryz.prog) = some [(0, 1), (1, 1)] := by kernel_rfl
variable {G : Pin}
theorem rY {w : World} {v : Value} {xs : List Int} (hP : Pins G w) (hv : RSl eInt G v xs) (hs : xs.length ≤ 1048576) :
  Calls Tryz.prog 24 [v].toArray w fun e w' => ∃ (u : Value) (G' : Pin), e = .returned u ∧ Own eInt 3 G' w' w.heap.size u xs ∧ Ext noS G w G' w' := by
 refine yD (n := 6) Tryz.func24 Tryz.ntmps24 rfl rfl ?_
 have hX0 := exr noS hP
 refine zE (zF ?_)
 refine qD rfl (zD (v := (.slice none 0 0)) rfl) (qe (zA (zE (zF ?_))))
 refine qI rfl (yR (E := eInt) (e := 3) eR sz3 hX0.pins (fun u1 w2 ho3 hp4 hl5 hk6 => ?_))
 have hX7 := hX0.step hp4 hl5
 have ho8 := ho3.weaken hX0.size
 refine qD rfl (zB (v := v) rfl) (qI rfl (zU (E := eInt) (v := u1) (u := v) 8 eR ap3 (by decide) rfl rfl hX7.pins ho8 ((hv.mono (Pin.le_refl _)).src hX7.pins (by decide)) (by first | omega | (rw [List.nil_append]; omega) | (rw [List.length_nil]; omega) | (rw [List.length_append]; omega) | (simp; done) | (simp; omega) | (simp only [List.length_cons, List.length_nil]; omega) | (simp only [List.length_append, List.length_cons, List.length_nil]; omega)) (by first | omega | (rw [List.nil_append]; omega) | (rw [List.length_nil]; omega) | (rw [List.length_append]; omega) | (simp; done) | (simp; omega) | (simp only [List.length_cons, List.length_nil]; omega) | (simp only [List.length_append, List.length_cons, List.length_nil]; omega)) (hX7.size) (fun u9 w10 ho11 hp12 hg13 hw14 => ?_)))
 have hX15 := hX7.write hp12 hg13 ((yB ho8))
 have hm16 := la2 ([]) xs
 refine qD rfl (zD (v := u9) rfl) (qe (zA ?_))
 exact wp_ret (zW (zT (v := u9) rfl rfl rfl (⟨_, _, rfl, (by simpa using ho11), hX15⟩)))
theorem sI {w : World} {c : Nat} {cv : Value} {code : List UInt8} {a s : Int} {n : Int} (hP : Pins G w) (hB : Bx G w c [cv, .int .i64 a, .int .u64 s]) (hc : RSl eByte G cv code) (ha : 0 ≤ a ∧ a + (12 * n + 10) ≤ 1000000) (hs : 0 ≤ s ∧ s < 18446744073709551616) (hn : 0 ≤ n ∧ n ≤ 6) :
  Calls Tryz.prog 12 [(.pointer (some ⟨c, 0, none⟩)), (.int .i64 n)].toArray w fun e w' => ∃ (u : Value) (ns : List Nd) (a' s' : Int) (G' : Pin), e = .returned (.agg [u].toArray) ∧ RSl eNode G' u ns ∧ Bx G' w' c [cv, .int .i64 a', .int .u64 s'] ∧ (a ≤ a' ∧ a' ≤ a + (12 * n + 10)) ∧ (0 ≤ s' ∧ s' < 18446744073709551616) ∧ Ext (inO (some c)) G w G' w' := by
 refine yD (n := 77) Tryz.func12 Tryz.ntmps12 rfl rfl ?_
 have hX0 := exr (inO (some c)) hP
 have hm := hc.max
 refine zE (zF ?_)
 refine qI rfl (yN [(.slice none 0 0)] zr26 rfl hX0.pins (fun b1 w2 hk3 hb4 hp5 hl6 => ?_))
 have hX7 := hX0.step hp5 hl6
 have hb8 := hB.below hl6
 have ha9 : Apart (some b1) (some c) := zK (congrArg some hk3) hB.lt
 have hlo10 : w.heap.size ≤ b1 := by have := hX0.size; omega
 refine qe (zA (zE (zF ?_)))
 refine qD rfl (zB (v := (.pointer (some ⟨c, 0, none⟩))) rfl) (qD rfl (zB (v := (.int .i64 n)) rfl) (qI rfl (zR (vs := [(.pointer (some ⟨c, 0, none⟩)), (.int .i64 n)]) Tryz.func13 nm13 rfl rfl rfl ?_)))
 refine dO (mJ (n := n) hX7.pins hb8 hc (by omega) (by omega) (by omega)) ?_
 rintro _ w16 ⟨u11, g12, a13, s14, G15, rfl, ho17, hif18, hfl19, hb20, hda21, hds22, hx23⟩
 refine ⟨_, rfl, ?_⟩
 have hX24 := hX7.trans hx23 (fun i hi => xH i hi)
 have hb25 := hb4.extS hx23 (jD ha9)
 have ha26 : Apart u11.ownBlock (some c) := yA ho17.lt hb8.lt
 have ha27 : Apart u11.ownBlock (some b1) := yA ho17.lt hb4.lt
 have ho28 := ho17.weaken hX7.size
 have hfo29 := hif18.1.lo
 refine qI rfl (yN [(.slice none 0 0)] zr26 rfl hX24.pins (fun b30 w31 hk32 hb33 hp34 hl35 => ?_))
 have hX36 := hX24.step hp34 hl35
 have ho37 := ho28.below hl35
 have hb38 := hb20.below hl35
 have hb39 := hb25.below hl35
 have ha40 : Apart (some b30) u11.ownBlock := zI (congrArg some hk32) ho28.lt
 have ha41 : Apart (some b30) (some c) := zK (congrArg some hk32) hb20.lt
 have ha42 : Apart (some b30) (some b1) := zK (congrArg some hk32) hb25.lt
 have hlo43 : w.heap.size ≤ b30 := by have := hX24.size; omega
 refine q0 rfl rfl rfl (o_stp (cs' := [u11]) (us := [u11]) (v := (.agg [u11].toArray)) sz26 rfl rfl rfl (yO ho37.one) hX36.pins hb33 (dP rfl) rfl (fun w44 hb45 hp46 hg47 hz48 => ?_))
 have hX49 := hX36.write hp46 hg47 ((yG hlo43))
 have ho50 := ho37.keptA hg47 ha40.symm
 have hb51 := hb38.keptA hg47 ha41.symm
 have hb52 := hb39.keptA hg47 ha42.symm
 refine qe (zA (zE (zF ?_)))
 refine qD rfl (zB (v := (.pointer (some ⟨c, 0, none⟩))) rfl) (qD rfl (zN (k := 0) rfl eU rfl nz24 rfl) (qD rfl (zM (u := u11) ag24 rfl (hb45.cell (o := 0) rfl)) (qD rfl (zP eS (v := u11) rfl ho50.read) (qI rfl (zR (vs := [(.pointer (some ⟨c, 0, none⟩)), (.int .i64 ((formG g12).length : Int))]) Tryz.func23 nm23 rfl rfl rfl ?_)))))
 refine dO (jG hX49.pins hb51 (hc.mono hx23.le) (by omega) (by omega) (n := ((formG g12).length : Int)) (by omega)) ?_
 rintro _ w57 ⟨z53, a55, s56, rfl, hz54, hb58, hda59, hds60, hx61⟩
 refine ⟨_, rfl, ?_⟩
 have hX62 := hX49.trans hx61 (fun i hi => xH i hi)
 have ho63 := ho50.extS hx61 (notO ha26)
 have hb64 := hb52.extS hx61 (jD ha9)
 have hb65 := hb45.extS hx61 (jD ha41)
 refine qD rfl (zD (v := (.int .i64 z53)) rfl) (qe (zA (zE (zE (zF ?_)))))
 refine qD rfl (zB (v := (.pointer (some ⟨c, 0, none⟩))) rfl) (qI rfl (zR (vs := [(.pointer (some ⟨c, 0, none⟩)), (.int .i64 24)]) Tryz.func23 nm23 rfl rfl rfl ?_))
 refine dO (jG hX62.pins hb58 (hc.mono hx23.le) (by omega) (by omega) (n := 24) (by omega)) ?_
 rintro _ w70 ⟨z66, a68, s69, rfl, hz67, hb71, hda72, hds73, hx74⟩
 refine ⟨_, rfl, ?_⟩
 have hX75 := hX62.trans hx74 (fun i hi => xH i hi)
 have ho76 := ho63.extS hx74 (notO ha26)
 have hb77 := hb64.extS hx74 (jD ha9)
 have hb78 := hb65.extS hx74 (jD ha41)
 refine qe (zA ?_)
 refine zX (zE (zF ?_))
 refine qD rfl (jN rfl rfl) (qD rfl (zD (v := (.bool (decide ((z66 : Int) = 0)))) rfl) (qe (zA ?_)))
 refine yF (p := (z66 : Int) = 0) rfl rfl (fun h79 => ?_) (fun h79 => ?_)
 have hlk := (nL hif18 (by omega)).lens (z53).toNat (by omega)
 have hq80 := Gadd.pins hX75.pins u11
 have hr81 := ho76.read
 refine yZ (S := fun wz => BxR wz b30 [u11] ∧ Pins (Gadd G15 w70 u11) wz) (last := 18) (by kernel_rfl) rfl ?_
 have hl82 := bdr w70
 have hp83 := hX75.pins.below hl82
 have hX84 := hX75.step hp83 hl82
 have ho85 := ho76.below hl82
 have hb86 := hb71.below hl82
 have hb87 := hb77.below hl82
 have hb88 := hb78.below hl82
 have hq89 := hq80.below hl82
 refine dT (i := 0) rfl rfl (by kernel_rfl) (fun _ _ => zN (k := 0) rfl eU rfl nz24 rfl) ⟨hb88.reads, hq89⟩ ?_
 refine dT (i := 1) rfl rfl (by kernel_rfl) (fun _ hS => zM (u := u11) ag24 rfl (hS.1 0 _ rfl)) ⟨hb88.reads, hq89⟩ ?_
 refine dT (i := 2) rfl rfl (by kernel_rfl) (fun _ _ => zB (v := (.int .i64 z53)) rfl) ⟨hb88.reads, hq89⟩ ?_
 refine dT (i := 3) rfl rfl (by kernel_rfl) (fun _ _ => zN (k := 0) rfl eU rfl nz24 rfl) ⟨hb88.reads, hq89⟩ ?_
 refine dT (i := 4) rfl rfl (by kernel_rfl) (fun _ hS => zM (u := u11) ag24 rfl (hS.1 0 _ rfl)) ⟨hb88.reads, hq89⟩ ?_
 refine dT (i := 5) rfl rfl (by kernel_rfl) (fun _ _ => zB (v := (.int .i64 z53)) rfl) ⟨hb88.reads, hq89⟩ ?_
 refine dT (i := 6) rfl rfl (by kernel_rfl) (fun _ _ => zL eS sz46 (v := u11) rfl rfl hr81 (by omega) (by omega)) ⟨hb88.reads, hq89⟩ ?_
 refine dT (i := 7) rfl rfl (by kernel_rfl) (fun _ _ => xG (off := 0) eV rfl rfl nz44 (z := z53) (k := 0) rfl hr81 (by omega) (by omega)) ⟨hb88.reads, hq89⟩ ?_
 obtain ⟨u90, hr91, hl92⟩ := kK (ho76.at (z := z53) (by omega) (by omega)) (j := (z53).toNat) rfl
 have hm93 := hr91.max
 refine dT (i := 8) rfl rfl (by kernel_rfl) (fun _ hS => hl92 ag44 rfl hS.2) ⟨hb88.reads, hq89⟩ ?_
 refine dT (i := 10) rfl rfl (by kernel_rfl) (fun _ _ => zB (v := (.pointer (some ⟨c, 0, none⟩))) rfl) ⟨hb88.reads, hq89⟩ ?_
 refine dT (i := 11) rfl rfl (by kernel_rfl) (fun _ _ => zB (v := (.int .i64 z53)) rfl) ⟨hb88.reads, hq89⟩ ?_
 refine qO (i := 9) (j := 12) (by kernel_rfl) ?_ ?_
 refine (zV (i := 9) rfl rfl rfl (zG rfl _) (zR (vs := [u90]) Tryz.func24 nm24 rfl rfl rfl ?_))
 refine dO (rY hX84.pins hr91 (by omega)) ?_
 rintro _ w96 ⟨u94, G95, rfl, ho97, hx98⟩
 refine ⟨_, rfl, ?_⟩
 have hX99 := hX84.tr hx98
 have ho100 := ho85.ext hx98
 have hb101 := hb86.ext hx98
 have hb102 := hb87.ext hx98
 have hb103 := hb88.ext hx98
 have ha104 : Apart u94.ownBlock u11.ownBlock := zY ho97.lt ho85.lt
 have ha105 : Apart u94.ownBlock (some c) := yA ho97.lt hb86.lt
 have ha106 : Apart u94.ownBlock (some b1) := yA ho97.lt hb87.lt
 have ha107 : Apart u94.ownBlock (some b30) := yA ho97.lt hb88.lt
 have ho108 := ho97.weaken hX84.size
 have hq109 := hq89.below hx98.below
 refine ⟨fun _ => ⟨hb103.reads, hq109⟩, ?_⟩
 refine zQ (i := 12) (by kernel_rfl) (zV (i := 12) rfl rfl rfl (zG rfl _) (yL (E := eInt) (e := 3) [(.int .i64 0), (.int .i64 z53), (.int .i64 (-1)), (.int .i64 1)] [0, z53, (-1), 1] eR sz3 zr3 (by exact reps4 (by rfl) (by rfl) (by rfl) (by rfl)) (ones4 (by rfl) (by rfl) (by rfl) (by rfl)) rfl rfl rfl rfl (by decide) hX99.pins (fun u110 w111 ho112 hp113 hl114 hk115 => ?_)))
 have hX116 := hX99.step hp113 hl114
 have ho117 := ho100.below hl114
 have ho118 := ho108.below hl114
 have hb119 := hb101.below hl114
 have hb120 := hb102.below hl114
 have hb121 := hb103.below hl114
 have ha122 : Apart u110.ownBlock u11.ownBlock := zI hk115 ho100.lt
 have ha123 : Apart u110.ownBlock u94.ownBlock := zI hk115 ho108.lt
 have ha124 : Apart u110.ownBlock (some c) := zK hk115 hb101.lt
 have ha125 : Apart u110.ownBlock (some b1) := zK hk115 hb102.lt
 have ha126 : Apart u110.ownBlock (some b30) := zK hk115 hb103.lt
 have ho127 := ho112.weaken hX99.size
 have hq128 := hq109.below hl114
 refine ⟨fun _ => ⟨hb121.reads, hq128⟩, ?_⟩
 obtain ⟨G129, hle132, hX131, hr130, hf133⟩ := ho127.sealed hX116
 have ho134 := ho117.moreO hle132 hf133 ha122.symm
 have ho135 := ho118.moreO hle132 hf133 ha123.symm
 have hb136 := hb119.moreO hf133 ha124.symm
 have hb137 := hb120.moreO hf133 ha125.symm
 have hb138 := hb121.moreO hf133 ha126.symm
 refine zQ (i := 13) (by kernel_rfl) (zV (i := 13) rfl rfl rfl (zG rfl _) (zR (vs := [(.pointer (some ⟨c, 0, none⟩)), u110]) Tryz.func25 nm25 rfl rfl rfl ?_))
 refine dO (mM hX131.pins hb136 (hc.mono (dM (dM hx23.le hx98.le) hle132)) (by omega) (by omega) hr130 (by simp)) ?_
 rintro _ w143 ⟨z139, a141, s142, rfl, hz140, hb144, hda145, hds146, hx147⟩
 refine ⟨_, rfl, ?_⟩
 have hX148 := hX131.trans hx147 (fun i hi => xH i hi)
 have ho149 := ho134.extS hx147 (notO ha26)
 have ho150 := ho135.extS hx147 (notO ha105)
 have hb151 := hb137.extS hx147 (jD ha9)
 have hb152 := hb138.extS hx147 (jD ha41)
 have hq153 := Gadd.turn hq128 (dN hX148.pins (dM hx98.le hle132)) hx147 (notO ha26)
 refine ⟨fun _ => ⟨hb152.reads, hq153⟩, ?_⟩
 refine zQ (i := 14) (by kernel_rfl) (zV (i := 14) rfl rfl rfl (zG rfl _) (yL (E := eInt) (e := 3) [(.int .i64 z139)] [z139] eR sz3 zr3 (by exact xM (by rfl)) (yO (by rfl)) rfl rfl rfl rfl (by decide) hX148.pins (fun u154 w155 ho156 hp157 hl158 hk159 => ?_)))
 have hX160 := hX148.step hp157 hl158
 have ho161 := ho149.below hl158
 have ho162 := ho150.below hl158
 have hb163 := hb144.below hl158
 have hb164 := hb151.below hl158
 have hb165 := hb152.below hl158
 have ho171 := ho156.weaken hX148.size
 have hq172 := hq153.below hl158
 refine ⟨fun _ => ⟨hb165.reads, hq172⟩, ?_⟩
 refine zQ (i := 15) (by kernel_rfl) (zV (i := 15) rfl rfl rfl (zG rfl _) (zU (E := eInt) (v := u94) (u := u154) 8 eR ap3 (by decide) rfl rfl hX160.pins ho162 ho171.src (by first | omega | (rw [List.nil_append]; omega) | (rw [List.length_nil]; omega) | (rw [List.length_append]; omega) | (simp; done) | (simp; omega) | (simp only [List.length_cons, List.length_nil]; omega) | (simp only [List.length_append, List.length_cons, List.length_nil]; omega)) (by first | omega | (rw [List.nil_append]; omega) | (rw [List.length_nil]; omega) | (rw [List.length_append]; omega) | (simp; done) | (simp; omega) | (simp only [List.length_cons, List.length_nil]; omega) | (simp only [List.length_append, List.length_cons, List.length_nil]; omega)) (hX160.size) (fun u173 w174 ho175 hp176 hg177 hw178 => ?_)))
 have hX179 := hX160.write hp176 hg177 ((yB ho162))
 have ho180 := ho161.keptA hg177 ha104.symm
 have hb182 := hb163.keptA hg177 ha105.symm
 have hb183 := hb164.keptA hg177 ha106.symm
 have hb184 := hb165.keptA hg177 ha107.symm
 have ha185 : Apart u11.ownBlock u173.ownBlock := zH ha104.symm hw178 ho161.lt
 have ha187 : Apart (some c) u173.ownBlock := zJ ha105.symm hw178 hb163.lt
 have ha188 : Apart (some b1) u173.ownBlock := zJ ha106.symm hw178 hb164.lt
 have ha189 : Apart (some b30) u173.ownBlock := zJ ha107.symm hw178 hb165.lt
 have hm190 := la1 (((formG g12).getD (z53).toNat default).l) z139
 have hq191 := Gadd.turn hq172 (dN hX179.pins (dM hx98.le hle132)) (Ext.one hp176 hg177) (notO ha104.symm)
 refine ⟨fun _ => ⟨hb184.reads, hq191⟩, ?_⟩
 refine zQ (i := 16) (by kernel_rfl) (zV (i := 16) rfl rfl rfl (zG rfl _) (EO.run (zL eS sz46 (v := u11) rfl rfl hr81 (by omega) (by omega)) ⟨fun _ => ⟨hb184.reads, hq191⟩, ?_⟩))
 refine dT (i := 17) rfl rfl (by kernel_rfl) (fun _ _ => xG (off := 0) eV rfl rfl nz44 (z := z53) (k := 0) rfl hr81 (by omega) (by omega)) ⟨hb184.reads, hq191⟩ ?_
 obtain ⟨G192, hle195, hX194, hr193, hf196⟩ := ho175.sealed hX179
 have ho197 := ho180.moreO hle195 hf196 ha185
 have hb198 := hb182.moreO hf196 ha187
 have hb199 := hb183.moreO hf196 ha188
 have hb200 := hb184.moreO hf196 ha189
 refine zQ (i := 18) (by kernel_rfl) (xX (i := 18) rfl rfl rfl (zG rfl _) (o_setNL (v := u11) (z := z53) (u := u173) sz44 rfl rfl hr193 hX194.pins ho197 (by omega) (by omega) (fun w201 ho202 hp203 hg204 hz205 => ?_)))
 have hX206 := hX194.write hp203 hg204 ((yB ho197))
 have hb207 := hb198.keptA hg204 ha26.symm
 have hb208 := hb199.keptA hg204 ha27.symm
 have hb209 := hb200.keptA hg204 ha40
 refine ⟨fun h => absurd rfl h, ?_⟩
 refine yP (by kernel_rfl) (yC (zA (zE (zF ?_))))
 refine qD rfl (yK (cs := [u11]) ag26 sz26 rfl (fun j u hj => hb209.cell (by simpa using hj))) (q0 rfl rfl rfl (o_stp (cs' := [u11]) (us := [u11]) (v := (.agg [u11].toArray)) sz26 rfl rfl rfl (yO ho202.one) hX206.pins hb208 (dP rfl) rfl (fun w210 hb211 hp212 hg213 hz214 => ?_)))
 have hX215 := hX206.write hp212 hg213 ((yG hlo10))
 have ho216 := ho202.keptA hg213 ha27
 have hb217 := hb207.keptA hg213 ha9.symm
 refine qe (zA ?_)
 refine wp_ret (zW (jI (cs := [u11]) rfl rfl rfl ag26 sz26 (fun j u hj => by rw [Nat.zero_add]; exact hb211.cell hj) ?_))
 obtain ⟨G219, hle222, hX221, hr220, hf223⟩ := ho216.sealed hX215
 have hb224 := hb217.moreO hf223 ha26.symm
 exact ⟨_, _, _, _, _, rfl, hr220, hb224, (by omega), (by omega), hX221⟩
 refine (zV (i := 12) rfl rfl rfl (zG rfl _) (yL (E := eInt) (e := 3) [(.int .i64 0), (.int .i64 z53), (.int .i64 (-1)), (.int .i64 1)] [0, z53, (-1), 1] eR sz3 zr3 (by exact reps4 (by rfl) (by rfl) (by rfl) (by rfl)) (ones4 (by rfl) (by rfl) (by rfl) (by rfl)) rfl rfl rfl rfl (by decide) hX84.pins (fun u227 w228 ho229 hp230 hl231 hk232 => ?_)))
 have hX233 := hX84.step hp230 hl231
 have ho234 := ho85.below hl231
 have hb235 := hb86.below hl231
 have hb236 := hb87.below hl231
 have hb237 := hb88.below hl231
 have ha238 : Apart u227.ownBlock u11.ownBlock := zI hk232 ho85.lt
 have ha239 : Apart u227.ownBlock (some c) := zK hk232 hb86.lt
 have ha240 : Apart u227.ownBlock (some b1) := zK hk232 hb87.lt
 have ha241 : Apart u227.ownBlock (some b30) := zK hk232 hb88.lt
 have ho242 := ho229.weaken hX84.size
 have hq243 := hq89.below hl231
 refine ⟨fun _ => ⟨hb237.reads, hq243⟩, ?_⟩
 refine zQ (i := 9) (by kernel_rfl) (zV (i := 9) rfl rfl rfl (zG rfl _) (zR (vs := [u90]) Tryz.func24 nm24 rfl rfl rfl ?_))
 refine dO (rY hX233.pins hr91 (by omega)) ?_
 rintro _ w246 ⟨u244, G245, rfl, ho247, hx248⟩
 refine ⟨_, rfl, ?_⟩
 have hX249 := hX233.tr hx248
 have ho250 := ho234.ext hx248
 have ho251 := ho242.ext hx248
 have hb252 := hb235.ext hx248
 have hb253 := hb236.ext hx248
 have hb254 := hb237.ext hx248
 have ha255 : Apart u244.ownBlock u11.ownBlock := zY ho247.lt ho234.lt
 have ha256 : Apart u244.ownBlock u227.ownBlock := zY ho247.lt ho242.lt
 have ha257 : Apart u244.ownBlock (some c) := yA ho247.lt hb235.lt
 have ha258 : Apart u244.ownBlock (some b1) := yA ho247.lt hb236.lt
 have ha259 : Apart u244.ownBlock (some b30) := yA ho247.lt hb237.lt
 have ho260 := ho247.weaken hX233.size
 have hq261 := hq243.below hx248.below
 refine ⟨fun _ => ⟨hb254.reads, hq261⟩, ?_⟩
 obtain ⟨G262, hle265, hX264, hr263, hf266⟩ := ho251.sealed hX249
 have ho267 := ho250.moreO hle265 hf266 ha238.symm
 have ho268 := ho260.moreO hle265 hf266 ha256
 have hb269 := hb252.moreO hf266 ha239.symm
 have hb270 := hb253.moreO hf266 ha240.symm
 have hb271 := hb254.moreO hf266 ha241.symm
 refine zQ (i := 13) (by kernel_rfl) (zV (i := 13) rfl rfl rfl (zG rfl _) (zR (vs := [(.pointer (some ⟨c, 0, none⟩)), u227]) Tryz.func25 nm25 rfl rfl rfl ?_))
 refine dO (mM hX264.pins hb269 (hc.mono (dM (dM hx23.le hx248.le) hle265)) (by omega) (by omega) hr263 (by simp)) ?_
 rintro _ w276 ⟨z272, a274, s275, rfl, hz273, hb277, hda278, hds279, hx280⟩
 refine ⟨_, rfl, ?_⟩
 have hX281 := hX264.trans hx280 (fun i hi => xH i hi)
 have ho282 := ho267.extS hx280 (notO ha26)
 have ho283 := ho268.extS hx280 (notO ha257)
 have hb284 := hb270.extS hx280 (jD ha9)
 have hb285 := hb271.extS hx280 (jD ha41)
 have hq286 := Gadd.turn hq261 (dN hX281.pins (dM hx248.le hle265)) hx280 (notO ha26)
 refine ⟨fun _ => ⟨hb285.reads, hq286⟩, ?_⟩
 refine zQ (i := 14) (by kernel_rfl) (zV (i := 14) rfl rfl rfl (zG rfl _) (yL (E := eInt) (e := 3) [(.int .i64 z272)] [z272] eR sz3 zr3 (by exact xM (by rfl)) (yO (by rfl)) rfl rfl rfl rfl (by decide) hX281.pins (fun u287 w288 ho289 hp290 hl291 hk292 => ?_)))
 have hX293 := hX281.step hp290 hl291
 have ho294 := ho282.below hl291
 have ho295 := ho283.below hl291
 have hb296 := hb277.below hl291
 have hb297 := hb284.below hl291
 have hb298 := hb285.below hl291
 have ho304 := ho289.weaken hX281.size
 have hq305 := hq286.below hl291
 refine ⟨fun _ => ⟨hb298.reads, hq305⟩, ?_⟩
 refine zQ (i := 15) (by kernel_rfl) (zV (i := 15) rfl rfl rfl (zG rfl _) (zU (E := eInt) (v := u244) (u := u287) 8 eR ap3 (by decide) rfl rfl hX293.pins ho295 ho304.src (by first | omega | (rw [List.nil_append]; omega) | (rw [List.length_nil]; omega) | (rw [List.length_append]; omega) | (simp; done) | (simp; omega) | (simp only [List.length_cons, List.length_nil]; omega) | (simp only [List.length_append, List.length_cons, List.length_nil]; omega)) (by first | omega | (rw [List.nil_append]; omega) | (rw [List.length_nil]; omega) | (rw [List.length_append]; omega) | (simp; done) | (simp; omega) | (simp only [List.length_cons, List.length_nil]; omega) | (simp only [List.length_append, List.length_cons, List.length_nil]; omega)) (hX293.size) (fun u306 w307 ho308 hp309 hg310 hw311 => ?_)))
 have hX312 := hX293.write hp309 hg310 ((yB ho295))
 have ho313 := ho294.keptA hg310 ha255.symm
 have hb315 := hb296.keptA hg310 ha257.symm
 have hb316 := hb297.keptA hg310 ha258.symm
 have hb317 := hb298.keptA hg310 ha259.symm
 have ha318 : Apart u11.ownBlock u306.ownBlock := zH ha255.symm hw311 ho294.lt
 have ha320 : Apart (some c) u306.ownBlock := zJ ha257.symm hw311 hb296.lt
 have ha321 : Apart (some b1) u306.ownBlock := zJ ha258.symm hw311 hb297.lt
 have ha322 : Apart (some b30) u306.ownBlock := zJ ha259.symm hw311 hb298.lt
 have hm323 := la1 (((formG g12).getD (z53).toNat default).l) z272
 have hq324 := Gadd.turn hq305 (dN hX312.pins (dM hx248.le hle265)) (Ext.one hp309 hg310) (notO ha255.symm)
 refine ⟨fun _ => ⟨hb317.reads, hq324⟩, ?_⟩
 refine zQ (i := 16) (by kernel_rfl) (zV (i := 16) rfl rfl rfl (zG rfl _) (EO.run (zL eS sz46 (v := u11) rfl rfl hr81 (by omega) (by omega)) ⟨fun _ => ⟨hb317.reads, hq324⟩, ?_⟩))
 refine dT (i := 17) rfl rfl (by kernel_rfl) (fun _ _ => xG (off := 0) eV rfl rfl nz44 (z := z53) (k := 0) rfl hr81 (by omega) (by omega)) ⟨hb317.reads, hq324⟩ ?_
 obtain ⟨G325, hle328, hX327, hr326, hf329⟩ := ho308.sealed hX312
 have ho330 := ho313.moreO hle328 hf329 ha318
 have hb331 := hb315.moreO hf329 ha320
 have hb332 := hb316.moreO hf329 ha321
 have hb333 := hb317.moreO hf329 ha322
 refine zQ (i := 18) (by kernel_rfl) (xX (i := 18) rfl rfl rfl (zG rfl _) (o_setNL (v := u11) (z := z53) (u := u306) sz44 rfl rfl hr326 hX327.pins ho330 (by omega) (by omega) (fun w334 ho335 hp336 hg337 hz338 => ?_)))
 have hX339 := hX327.write hp336 hg337 ((yB ho330))
 have hb340 := hb331.keptA hg337 ha26.symm
 have hb341 := hb332.keptA hg337 ha27.symm
 have hb342 := hb333.keptA hg337 ha40
 refine ⟨fun h => absurd rfl h, ?_⟩
 refine yP (by kernel_rfl) (yC (zA (zE (zF ?_))))
 refine qD rfl (yK (cs := [u11]) ag26 sz26 rfl (fun j u hj => hb342.cell (by simpa using hj))) (q0 rfl rfl rfl (o_stp (cs' := [u11]) (us := [u11]) (v := (.agg [u11].toArray)) sz26 rfl rfl rfl (yO ho335.one) hX339.pins hb341 (dP rfl) rfl (fun w343 hb344 hp345 hg346 hz347 => ?_)))
 have hX348 := hX339.write hp345 hg346 ((yG hlo10))
 have ho349 := ho335.keptA hg346 ha27
 have hb350 := hb340.keptA hg346 ha9.symm
 refine qe (zA ?_)
 refine wp_ret (zW (jI (cs := [u11]) rfl rfl rfl ag26 sz26 (fun j u hj => by rw [Nat.zero_add]; exact hb344.cell hj) ?_))
 obtain ⟨G352, hle355, hX354, hr353, hf356⟩ := ho349.sealed hX348
 have hb357 := hb350.moreO hf356 ha26.symm
 exact ⟨_, _, _, _, _, rfl, hr353, hb357, (by omega), (by omega), hX354⟩
 refine zE (zF ?_)
 refine qD rfl (jN rfl rfl) (qD rfl (zD (v := (.bool (decide ((z66 : Int) = 1)))) rfl) (qe (zA ?_)))
 refine yF (p := (z66 : Int) = 1) rfl rfl (fun h360 => ?_) (fun h360 => ?_)
 refine zF (qD rfl (zN (k := 0) rfl eU rfl nz24 rfl) (qD rfl (zM (u := u11) ag24 rfl (hb78.cell (o := 0) rfl)) (qI rfl (yL (E := eInt) (e := 3) [(.int .i64 0)] [0] eR sz3 zr3 (by exact xM (by rfl)) (yO (by rfl)) rfl rfl rfl rfl (by decide) hX75.pins (fun u361 w362 ho363 hp364 hl365 hk366 => ?_)))))
 have hX367 := hX75.step hp364 hl365
 have ho368 := ho76.below hl365
 have hb369 := hb71.below hl365
 have hb370 := hb77.below hl365
 have hb371 := hb78.below hl365
 have ha372 : Apart u361.ownBlock u11.ownBlock := zI hk366 ho76.lt
 have ha373 : Apart u361.ownBlock (some c) := zK hk366 hb71.lt
 have ha374 : Apart u361.ownBlock (some b1) := zK hk366 hb77.lt
 have ha375 : Apart u361.ownBlock (some b30) := zK hk366 hb78.lt
 have ho376 := ho363.weaken hX75.size
 refine qD rfl (xR [(.slice none 0 0), (.slice none 0 0)] [(.slice none 0 0), u361] [(1, u361, [u361])] eV zr46 rfl pl46 rfl (List.forall_mem_cons.2 ⟨(xN ho376.one), (fun _ h => by cases h)⟩) rfl) ?_
 obtain ⟨G377, hle380, hX379, hr378, hf381⟩ := ho376.sealed hX367
 have ho382 := ho368.moreO hle380 hf381 ha372.symm
 have hb383 := hb369.moreO hf381 ha373.symm
 have hb384 := hb370.moreO hf381 ha374.symm
 have hb385 := hb371.moreO hf381 ha375.symm
 refine qI rfl (xP (E := eNode) (e := 46) [(.slice none 0 0), u361] (⟨[], [0]⟩ : Nd) eS sz46 zr46 ⟨_, _, rfl, (qR _ _), hr378⟩ rfl (by decide) hX379.pins (fun u386 w387 ho388 hp389 hl390 hk391 => ?_))
 have hX392 := hX379.step hp389 hl390
 have ho393 := ho382.below hl390
 have hb394 := hb383.below hl390
 have hb395 := hb384.below hl390
 have hb396 := hb385.below hl390
 have ho401 := ho388.weaken hX379.size
 refine qI rfl (zU (E := eNode) (v := u11) (u := u386) 48 eS ap46 (by decide) rfl rfl hX392.pins ho393 ho401.src (by first | omega | (rw [List.nil_append]; omega) | (rw [List.length_nil]; omega) | (rw [List.length_append]; omega) | (simp; done) | (simp; omega) | (simp only [List.length_cons, List.length_nil]; omega) | (simp only [List.length_append, List.length_cons, List.length_nil]; omega)) (by first | omega | (rw [List.nil_append]; omega) | (rw [List.length_nil]; omega) | (rw [List.length_append]; omega) | (simp; done) | (simp; omega) | (simp only [List.length_cons, List.length_nil]; omega) | (simp only [List.length_append, List.length_cons, List.length_nil]; omega)) (hX392.size) (fun u402 w403 ho404 hp405 hg406 hw407 => ?_))
 have hX408 := hX392.write hp405 hg406 ((yB ho393))
 have hb410 := hb394.keptA hg406 ha26.symm
 have hb411 := hb395.keptA hg406 ha27.symm
 have hb412 := hb396.keptA hg406 ha40
 have ha414 : Apart (some c) u402.ownBlock := zJ ha26.symm hw407 hb394.lt
 have ha415 : Apart (some b1) u402.ownBlock := zJ ha27.symm hw407 hb395.lt
 have ha416 : Apart (some b30) u402.ownBlock := zJ ha40 hw407 hb396.lt
 have hm417 := la1 (formG g12) (⟨[], [0]⟩ : Nd)
 refine qD rfl (zN (k := 0) rfl eU rfl nz24 rfl) (q0 rfl rfl rfl (o_stp (cs' := [u402]) (us := [u402]) (v := u402) sz24 rfl rfl (qP ho404.one) (yO ho404.one) hX408.pins hb412 (dP rfl) rfl (fun w418 hb419 hp420 hg421 hz422 => ?_)))
 have hX423 := hX408.write hp420 hg421 ((yG hlo43))
 have ho424 := ho404.keptA hg421 ha416.symm
 have hb425 := hb410.keptA hg421 ha41.symm
 have hb426 := hb411.keptA hg421 ha42.symm
 refine qe (yC (zA (zE (zF ?_))))
 refine qD rfl (yK (cs := [u402]) ag26 sz26 rfl (fun j u hj => hb419.cell (by simpa using hj))) (q0 rfl rfl rfl (o_stp (cs' := [u402]) (us := [u402]) (v := (.agg [u402].toArray)) sz26 rfl rfl rfl (yO ho424.one) hX423.pins hb426 (dP rfl) rfl (fun w427 hb428 hp429 hg430 hz431 => ?_)))
 have hX432 := hX423.write hp429 hg430 ((yG hlo10))
 have ho433 := ho424.keptA hg430 ha415.symm
 have hb434 := hb425.keptA hg430 ha9.symm
 refine qe (zA ?_)
 refine wp_ret (zW (jI (cs := [u402]) rfl rfl rfl ag26 sz26 (fun j u hj => by rw [Nat.zero_add]; exact hb428.cell hj) ?_))
 obtain ⟨G436, hle439, hX438, hr437, hf440⟩ := ho433.sealed hX432
 have hb441 := hb434.moreO hf440 ha414
 exact ⟨_, _, _, _, _, rfl, hr437, hb441, (by omega), (by omega), hX438⟩
 refine zE (zF ?_)
 refine qD rfl (jN rfl rfl) (qD rfl (zD (v := (.bool (decide ((z66 : Int) = 2)))) rfl) (qe (zA ?_)))
 refine yF (p := (z66 : Int) = 2) rfl rfl (fun h444 => ?_) (fun h444 => ?_)
 refine zF (qD rfl (zN (k := 0) rfl eU rfl nz24 rfl) (qD rfl (zM (u := u11) ag24 rfl (hb78.cell (o := 0) rfl)) (qD rfl (zN (k := 0) rfl eU rfl nz24 rfl) (qD rfl (zM (u := u11) ag24 rfl (hb78.cell (o := 0) rfl)) (qD rfl (zP eS (v := u11) rfl ho76.read) (qD rfl (qM rfl rfl (by omega)) ?_))))))
 obtain ⟨u445, ho446, hb447, hl448⟩ := own_cut ho76 ((((formG g12).length : Int) - 1).toNat) (((formG g12).length : Int) - 1) (by omega) rfl (by omega) (by omega)
 have ha449 : Apart u445.ownBlock (some c) := by rw [hb447]; exact ha26
 have ha450 : Apart u445.ownBlock (some b1) := by rw [hb447]; exact ha27
 have ha451 : Apart (some b30) u445.ownBlock := by rw [hb447]; exact ha40
 refine qD rfl (hl448 eS sz46 rfl rfl rfl) (qD rfl (zN (k := 0) rfl eU rfl nz24 rfl) (q0 rfl rfl rfl (o_stp (cs' := [u445]) (us := [u445]) (v := u445) sz24 rfl rfl (qP ho446.one) (yO ho446.one) hX75.pins hb78 (dP rfl) rfl (fun w452 hb453 hp454 hg455 hz456 => ?_))))
 have hX457 := hX75.write hp454 hg455 ((yG hlo43))
 have ho458 := ho446.keptA hg455 ha451.symm
 have hb459 := hb71.keptA hg455 ha41.symm
 have hb460 := hb77.keptA hg455 ha42.symm
 refine qe (yC (zA (zE (zF ?_))))
 refine qD rfl (yK (cs := [u445]) ag26 sz26 rfl (fun j u hj => hb453.cell (by simpa using hj))) (q0 rfl rfl rfl (o_stp (cs' := [u445]) (us := [u445]) (v := (.agg [u445].toArray)) sz26 rfl rfl rfl (yO ho458.one) hX457.pins hb460 (dP rfl) rfl (fun w461 hb462 hp463 hg464 hz465 => ?_)))
 have hX466 := hX457.write hp463 hg464 ((yG hlo10))
 have ho467 := ho458.keptA hg464 ha450
 have hb468 := hb459.keptA hg464 ha9.symm
 refine qe (zA ?_)
 refine wp_ret (zW (jI (cs := [u445]) rfl rfl rfl ag26 sz26 (fun j u hj => by rw [Nat.zero_add]; exact hb462.cell hj) ?_))
 obtain ⟨G470, hle473, hX472, hr471, hf474⟩ := ho467.sealed hX466
 have hb475 := hb468.moreO hf474 ha449.symm
 exact ⟨_, _, _, _, _, rfl, hr471, hb475, (by omega), (by omega), hX472⟩
 refine zE (zF ?_)
 refine qD rfl (jN rfl rfl) (qD rfl (zD (v := (.bool (decide ((z66 : Int) = 3)))) rfl) (qe (zA ?_)))
 refine yF (p := (z66 : Int) = 3) rfl rfl (fun h478 => ?_) (fun h478 => ?_)
 refine zE (zF ?_)
 refine qD rfl (zN (k := 0) rfl eU rfl nz24 rfl) (qD rfl (zM (u := u11) ag24 rfl (hb78.cell (o := 0) rfl)) (qD rfl (zL eS sz46 (v := u11) rfl rfl ho76.read (by omega) (by omega)) ?_))
 obtain ⟨u479, u480, hr481, hr482, hl483⟩ := jL (ho76.at (z := 0) (by omega) (by omega)) (j := 0) rfl
 have hm484 := hr481.max
 have hm485 := hr482.max
 refine qD rfl (hl483 ag46 sz46 rfl (Gadd.pins hX75.pins u11)) (qI rfl (yN [(.slice none 0 0), (.slice none 0 0)] zr46 rfl hX75.pins (fun b486 w487 hk488 hb489 hp490 hl491 => ?_)))
 have hX492 := hX75.step hp490 hl491
 have ho493 := ho76.below hl491
 have hb494 := hb71.below hl491
 have hb495 := hb77.below hl491
 have hb496 := hb78.below hl491
 have ha497 : Apart (some b486) u11.ownBlock := zI (congrArg some hk488) ho76.lt
 have ha498 : Apart (some b486) (some c) := zK (congrArg some hk488) hb71.lt
 have ha499 : Apart (some b486) (some b1) := zK (congrArg some hk488) hb77.lt
 have ha500 : Apart (some b486) (some b30) := zK (congrArg some hk488) hb78.lt
 have hlo501 : w.heap.size ≤ b486 := by have := hX75.size; omega
 refine q0 rfl rfl rfl (o_stp (cs' := [u479, u480]) (us := [u479, u480]) (v := (.agg [u479, u480].toArray)) sz46 rfl rfl rfl (xO hr481.one hr482.one) hX492.pins hb489 (dP rfl) rfl (fun w502 hb503 hp504 hg505 hz506 => ?_))
 have hX507 := hX492.write hp504 hg505 ((yG hlo501))
 have ho508 := ho493.keptA hg505 ha497.symm
 have hb509 := hb494.keptA hg505 ha498.symm
 have hb510 := hb495.keptA hg505 ha499.symm
 have hb511 := hb496.keptA hg505 ha500.symm
 obtain ⟨G512, hle513, hX514, hbp515, hf516⟩ := hb503.shut hX507 hlo501
 have ho517 := ho508.moreA hle513 hf516 ha497.symm
 have hb518 := hb509.moreA hf516 ha498.symm
 have hb519 := hb510.moreA hf516 ha499.symm
 have hb520 := hb511.moreA hf516 ha500.symm
 refine qe (zA (zE ?_))
 have hq521 := Gadd.pins hX514.pins u11
 have hr522 := ho517.read
 refine yZ (S := fun wz => BxR wz b30 [u11] ∧ Pins (Gadd G512 w502 u11) wz) (last := 8) (by kernel_rfl) rfl ?_
 have hl523 := bdr w502
 have hp524 := hX514.pins.below hl523
 have hX525 := hX514.step hp524 hl523
 have ho526 := ho517.below hl523
 have hb527 := hb518.below hl523
 have hb528 := hb519.below hl523
 have hb529 := hb520.below hl523
 have hq530 := hq521.below hl523
 refine dT (i := 0) rfl rfl (by kernel_rfl) (fun _ _ => zN (k := 0) rfl eU rfl nz24 rfl) ⟨hb529.reads, hq530⟩ ?_
 refine dT (i := 1) rfl rfl (by kernel_rfl) (fun _ hS => zM (u := u11) ag24 rfl (hS.1 0 _ rfl)) ⟨hb529.reads, hq530⟩ ?_
 refine dT (i := 2) rfl rfl (by kernel_rfl) (fun _ _ => zN (k := 0) rfl eU rfl nz24 rfl) ⟨hb529.reads, hq530⟩ ?_
 refine dT (i := 3) rfl rfl (by kernel_rfl) (fun _ hS => zM (u := u11) ag24 rfl (hS.1 0 _ rfl)) ⟨hb529.reads, hq530⟩ ?_
 refine dT (i := 4) rfl rfl (by kernel_rfl) (fun _ _ => zB (v := (.int .i64 z53)) rfl) ⟨hb529.reads, hq530⟩ ?_
 refine dT (i := 5) rfl rfl (by kernel_rfl) (fun _ _ => zL eS sz46 (v := u11) rfl rfl hr522 (by omega) (by omega)) ⟨hb529.reads, hq530⟩ ?_
 obtain ⟨u531, u532, hr533, hr534, hl535⟩ := jL (ho517.at (z := z53) (by omega) (by omega)) (j := (z53).toNat) rfl
 have hm536 := hr533.max
 have hm537 := hr534.max
 refine dT (i := 6) rfl rfl (by kernel_rfl) (fun _ hS => hl535 ag46 sz46 rfl hS.2) ⟨hb529.reads, hq530⟩ ?_
 refine dT (i := 7) rfl rfl (by kernel_rfl) (fun _ _ => zL eS sz46 (v := u11) rfl rfl hr522 (by omega) (by omega)) ⟨hb529.reads, hq530⟩ ?_
 refine zQ (i := 8) (by kernel_rfl) (xX (i := 8) rfl rfl rfl (zG rfl _) (jP (E := eNode) (v := u11) (u := (.agg [u531, u532].toArray)) (z := 0) ((⟨((formG g12).getD (z53).toNat default).l, ((formG g12).getD (z53).toNat default).r⟩ : Nd)) sz46 rfl rfl rfl ⟨_, _, rfl, hr533, hr534⟩ hX525.pins ho526 (by omega) (by omega) (fun w538 ho539 hp540 hg541 hz542 => ?_)))
 have hX543 := hX525.write hp540 hg541 ((yB ho526))
 have hb544 := hb527.keptA hg541 ha26.symm
 have hb545 := hb528.keptA hg541 ha27.symm
 have hb546 := hb529.keptA hg541 ha40
 have ho547 : Own eNode 46 G512 w538 w.heap.size u11 ((formG g12).set 0 (⟨((formG g12).getD (z53).toNat default).l, ((formG g12).getD (z53).toNat default).r⟩ : Nd)) := ho539
 have hm548 : ((formG g12).set 0 (⟨((formG g12).getD (z53).toNat default).l, ((formG g12).getD (z53).toNat default).r⟩ : Nd)).length = (formG g12).length := List.length_set ..
 refine ⟨fun h => absurd rfl h, ?_⟩
 refine yP (by kernel_rfl) (zA (zF ?_))
 refine qD rfl (zN (k := 0) rfl eU rfl nz24 rfl) (qD rfl (zM (u := u11) ag24 rfl (hb546.cell (o := 0) rfl)) (qD rfl (zB (v := (.int .i64 z53)) rfl) (qD rfl (yK (cs := [u479, u480]) ag46 sz46 rfl (fun j u hj => hX543.pins _ _ _ (hbp515 _ _ (by simpa using hj)))) (qD rfl (zL eS sz46 (v := u11) rfl rfl ho547.read (by omega) (by omega)) (q0 rfl rfl rfl (jP (E := eNode) (v := u11) (u := (.agg [u479, u480].toArray)) (z := z53) ((⟨((formG g12).getD 0 default).l, ((formG g12).getD 0 default).r⟩ : Nd)) sz46 rfl rfl rfl ⟨_, _, rfl, (hr481.mono hle513), (hr482.mono hle513)⟩ hX543.pins ho547 (by omega) (by omega) (fun w549 ho550 hp551 hg552 hz553 => ?_)))))))
 have hX554 := hX543.write hp551 hg552 ((yB ho547))
 have hb555 := hb544.keptA hg552 ha26.symm
 have hb556 := hb545.keptA hg552 ha27.symm
 have hb557 := hb546.keptA hg552 ha40
 have ho558 : Own eNode 46 G512 w549 w.heap.size u11 (((formG g12).set 0 (⟨((formG g12).getD (z53).toNat default).l, ((formG g12).getD (z53).toNat default).r⟩ : Nd)).set (z53).toNat (⟨((formG g12).getD 0 default).l, ((formG g12).getD 0 default).r⟩ : Nd)) := ho550
 have hm559 : (((formG g12).set 0 (⟨((formG g12).getD (z53).toNat default).l, ((formG g12).getD (z53).toNat default).r⟩ : Nd)).set (z53).toNat (⟨((formG g12).getD 0 default).l, ((formG g12).getD 0 default).r⟩ : Nd)).length = ((formG g12).set 0 (⟨((formG g12).getD (z53).toNat default).l, ((formG g12).getD (z53).toNat default).r⟩ : Nd)).length := List.length_set ..
 refine qe (yC (zA (zE (zF ?_))))
 refine qD rfl (yK (cs := [u11]) ag26 sz26 rfl (fun j u hj => hb557.cell (by simpa using hj))) (q0 rfl rfl rfl (o_stp (cs' := [u11]) (us := [u11]) (v := (.agg [u11].toArray)) sz26 rfl rfl rfl (yO ho558.one) hX554.pins hb556 (dP rfl) rfl (fun w560 hb561 hp562 hg563 hz564 => ?_)))
 have hX565 := hX554.write hp562 hg563 ((yG hlo10))
 have ho566 := ho558.keptA hg563 ha27
 have hb567 := hb555.keptA hg563 ha9.symm
 refine qe (zA ?_)
 refine wp_ret (zW (jI (cs := [u11]) rfl rfl rfl ag26 sz26 (fun j u hj => by rw [Nat.zero_add]; exact hb561.cell hj) ?_))
 obtain ⟨G569, hle572, hX571, hr570, hf573⟩ := ho566.sealed hX565
 have hb574 := hb567.moreO hf573 ha26.symm
 exact ⟨_, _, _, _, _, rfl, hr570, hb574, (by omega), (by omega), hX571⟩
 refine wp_skip (yC (zA (zE (zF ?_))))
 refine qD rfl (yK (cs := [u11]) ag26 sz26 rfl (fun j u hj => hb78.cell (by simpa using hj))) (q0 rfl rfl rfl (o_stp (cs' := [u11]) (us := [u11]) (v := (.agg [u11].toArray)) sz26 rfl rfl rfl (yO ho76.one) hX75.pins hb77 (dP rfl) rfl (fun w577 hb578 hp579 hg580 hz581 => ?_)))
 have hX582 := hX75.write hp579 hg580 ((yG hlo10))
 have ho583 := ho76.keptA hg580 ha27
 have hb584 := hb71.keptA hg580 ha9.symm
 refine qe (zA ?_)
 refine wp_ret (zW (jI (cs := [u11]) rfl rfl rfl ag26 sz26 (fun j u hj => by rw [Nat.zero_add]; exact hb578.cell hj) ?_))
 obtain ⟨G586, hle589, hX588, hr587, hf590⟩ := ho583.sealed hX582
 have hb591 := hb584.moreO hf590 ha26.symm
 exact ⟨_, _, _, _, _, rfl, hr587, hb591, (by omega), (by omega), hX588⟩
end DV1
end Go.Proofs.YtdongckiecjbaaaGreatDoor
namespace Go.Proofs.YtdongckiecjbaaaGreatDoor
namespace AR1
open Go.RowKit Go.GL Go.Proofs
open B1
theorem pl78 : (Tryz.prog.underlying 78).bind (placesD Tryz.prog) = some [(0, 1), (1, 1)] := by kernel_rfl
theorem pY {w : World} {G : Pin} {u v : Value} {N : List (List Int)} {rs : List (Int × Int)} {s : Nat} {t : Int} (hP : Pins G w) (hu : RSl (eSl eInt) G u N) (hv : RSl eP2 G v rs) (hok : ArOk N) (hl : rs.length = N.length) (hs : s < N.length) :
  Calls Tryz.prog 68 [(.agg [u, v].toArray), (.int .i64 (s : Int)), (.int .i64 t)].toArray w fun e w' => ∃ G', e = .returned (.tuple #[.agg #[.int .i64 (decW N rs t s), .int .i64 t], .bool (decB N rs t s)]) ∧ Ext noS G w G' w' := by
 refine yD (n := 64) Tryz.func68 Tryz.ntmps68 rfl rfl ?_
 have hX0 := exr noS hP
 have hmu := hu.max
 have hmv := hv.max
 have hmd : mvA s = 1 + (s : Int) % 2 := by unfold mvA; omega
 refine zE (zF ?_)
 refine qI rfl (xY [u, v] (v := (.agg [u, v].toArray)) rfl rfl hX0.pins (fun b1 w2 hk3 hb4 hp5 hl6 => ?_))
 have hX7 := hX0.step hp5 hl6
 have hlo8 : w.heap.size ≤ b1 := by have := hX0.size; omega
 obtain ⟨G9, hle10, hX11, hbp12, hf13⟩ := hb4.shut hX7 hlo8
 refine qI rfl (yN [(.int .i64 0), (.int .i64 0)] zr78 rfl hX11.pins (fun b14 w15 hk16 hb17 hp18 hl19 => ?_))
 have hX20 := hX11.step hp18 hl19
 have hlo21 : w.heap.size ≤ b14 := by have := hX11.size; omega
 refine qD rfl (zD (v := (.bool false)) rfl) (qe (zA (zE (zF ?_))))
 refine qD rfl (zB (v := (.int .i64 (s : Int))) rfl) (qD rfl (r_rem rfl rfl (by omega) (by omega)) (qD rfl (yH rfl rfl (by omega)) (qD rfl (zD (v := (.int .i64 (1 + ((s : Int) % 2)))) rfl) (qe (zA (zE (zF ?_)))))))
 refine qD rfl (zD (v := (.bool true)) rfl) (qe (zA (zE (zE (zF ?_)))))
 refine qD rfl (zN (k := 0) rfl dG rfl nz29 rfl) (qD rfl (zM (u := u) ag29 rfl (hX20.pins _ _ _ (hbp12 0 _ rfl))) (qD rfl (zB (v := (.int .i64 (s : Int))) rfl) (qD rfl (zL eT sz44 (v := u) rfl rfl hu (by omega) (by omega)) ?_)))
 obtain ⟨u22, hr23, hl24⟩ := vR (hu.at (z := (s : Int)) (by omega) (by omega)) (j := s) rfl
 have hm25 := hr23.max
 refine qD rfl (hl24 ag44 rfl (dN hX20.pins hle10)) (qD rfl (zP eR (v := u22) rfl hr23) (qD rfl (zB (v := (.int .i64 0)) rfl) (qe (zA ?_))))
 refine zX (yM (fun (k : Nat) (en : Nat → Value) (W : World) => ∃ (env1 : Nat → Value) (j : Nat) (ls : Bool) (GL1 : Pin), en = (upd (upd (upd (upd (upd (upd (upd (upd env1 2 (.int .i64 t)) 3 (.pointer (some ⟨b1, 0, none⟩))) 6 (.pointer (some ⟨b14, 0, none⟩))) 8 (.int .i64 (1 + ((s : Int) % 2)))) 9 (.bool ls)) 20 u22) 21 (.int .i64 ((N.getD s []).length : Int))) 22 (.int .i64 (j : Int))) ∧ k = (N.getD s []).length - j ∧ Ext noS G w GL1 W ∧ Pin.le G9 GL1 ∧ (j ≤ (N.getD s []).length) ∧ ((N.getD s []).take j).any (fun k => decide (hitP rs t (mvA s) k)) = false ∧ (ls = ((N.getD s []).take j).all (fun k => decide (hitP rs t (3 - mvA s) k))) ∧ (Bx GL1 W b14 [(.int .i64 0), (.int .i64 0)])) _ ⟨_, 0, true, G9, (zC (x := 22) (zC (x := 21) (zC (x := 20) (zC (x := 9) (zC (x := 8) (zC (x := 6) (zC (x := 3) (zS (x := 2) rfl) rfl) rfl) rfl) rfl) rfl) rfl) rfl), rfl, hX20, Pin.le_refl _, Nat.zero_le _, rfl, rfl, hb17⟩ ?_)
 rintro k26 _ w27 ⟨env1, j, ls, GL1, rfl, hk28, hX29, hlek26, hj, hno, hls, hw30⟩
 refine zE (zF ?_)
 refine qD rfl (yQ rfl rfl) (qe (zA (zE ?_)))
 refine yF (p := ((j : Int) : Int) < ((N.getD s []).length : Int)) rfl rfl (fun h31 => ?_) (fun h31 => ?_)
 have hki := hok s hs _ (yX (d := (0 : Int)) (show j < (N.getD s []).length by omega))
 refine wp_skip (zA (zE ?_))
 refine zX (zE (zF ?_))
 refine qD rfl (zL eR sz3 (v := u22) rfl rfl hr23 (by omega) (by omega)) (qD rfl (zO (r := (N.getD s []).getD j 0) rfl ag3 (z := (j : Int)) rfl hr23 (dN hX29.pins (dM hle10 hlek26)) (by omega) (by omega)) (qD rfl (zD (v := (.int .i64 ((N.getD s []).getD j 0))) rfl) (qe (zA (zE (zF ?_))))))
 refine qD rfl (zN (k := 1) rfl dG rfl nz72 rfl) (qD rfl (zM (u := v) ag72 rfl ((dN hX29.pins hlek26) _ _ _ (hbp12 1 _ rfl))) (qD rfl (zB (v := (.int .i64 ((N.getD s []).getD j 0))) rfl) (qD rfl (zL dD sz78 (v := v) rfl rfl hv (by omega) (by omega)) ?_)))
 obtain ⟨cs32, hrep33, hagg34, hcell35⟩ := fI (j := ((N.getD s []).getD j 0).toNat) default (hv.at (z := ((N.getD s []).getD j 0)) (by omega) (by omega)) rfl
 obtain rfl := hrep33
 refine qD rfl (hagg34 ag78 sz78 rfl (dN hX29.pins (dM hle10 hlek26))) (qI rfl (yN [(.int .i64 0), (.int .i64 0)] zr78 rfl hX29.pins (fun b36 w37 hk38 hb39 hp40 hl41 => ?_)))
 have hX42 := hX29.step hp40 hl41
 have hb43 := hw30.below hl41
 have ha44 : Apart (some b36) (some b14) := zK (congrArg some hk38) hw30.lt
 have hlo45 : w.heap.size ≤ b36 := by have := hX29.size; omega
 refine q0 rfl rfl rfl (o_stp (cs' := [(.int .i64 ((rs.getD ((N.getD s []).getD j 0).toNat default).1)), (.int .i64 ((rs.getD ((N.getD s []).getD j 0).toNat default).2))]) (us := [(.int .i64 ((rs.getD ((N.getD s []).getD j 0).toNat default).1)), (.int .i64 ((rs.getD ((N.getD s []).getD j 0).toNat default).2))]) (v := (.agg [(.int .i64 ((rs.getD ((N.getD s []).getD j 0).toNat default).1)), (.int .i64 ((rs.getD ((N.getD s []).getD j 0).toNat default).2))].toArray)) sz78 rfl rfl rfl (xO (by rfl) (by rfl)) hX42.pins hb39 (dP rfl) rfl (fun w46 hb47 hp48 hg49 hz50 => ?_))
 have hX51 := hX42.write hp48 hg49 ((yG hlo45))
 have hb52 := hb43.keptA hg49 ha44.symm
 obtain ⟨G53, hle54, hX55, hbp56, hf57⟩ := hb47.shut hX51 hlo45
 have hb58 := hb52.moreA hf57 ha44.symm
 refine qe (zA (zE (zE (zF ?_))))
 refine qD rfl (zN (k := 0) rfl dE rfl nz3 rfl) (qD rfl (zM (u := (.int .i64 ((rs.getD ((N.getD s []).getD j 0).toNat default).1))) ag3 rfl (hX55.pins _ _ _ (hbp56 0 _ rfl))) (qD rfl (zB (v := (.int .i64 (1 + ((s : Int) % 2)))) rfl) (qD rfl (jN rfl rfl) (qD rfl (zB (v := (.bool (decide (((rs.getD ((N.getD s []).getD j 0).toNat default).1 : Int) = (1 + ((s : Int) % 2)))))) rfl) (qbd (p := ((rs.getD ((N.getD s []).getD j 0).toNat default).1 : Int) = (1 + ((s : Int) % 2))) (t := 35) rfl (fun h59 => ?_) (fun h59 => ?_))))))
 refine qdg rfl rfl rfl rfl rfl rfl (zN (k := 1) rfl dE rfl nz3 rfl) (qdg rfl rfl rfl rfl rfl rfl (zM (u := (.int .i64 ((rs.getD ((N.getD s []).getD j 0).toNat default).2))) ag3 rfl (hX55.pins _ _ _ (hbp56 1 _ rfl))) (qdg rfl rfl rfl rfl rfl rfl (zB (v := (.int .i64 t)) rfl) (qdg rfl rfl rfl rfl rfl rfl (yQ rfl rfl) (qD rfl (yW (v := (.bool (decide (((rs.getD ((N.getD s []).getD j 0).toNat default).2 : Int) < t)))) rfl rfl) (qe (zA ?_))))))
 refine yF (p := ((rs.getD ((N.getD s []).getD j 0).toNat default).2 : Int) < t) rfl rfl (fun h60 => ?_) (fun h60 => ?_)
 refine zE (zF ?_)
 refine qD rfl (zB (v := (.int .i64 (1 + ((s : Int) % 2)))) rfl) (qD rfl (zB (v := (.int .i64 t)) rfl) (qD rfl (xR [(.int .i64 0), (.int .i64 0)] [(.int .i64 (1 + ((s : Int) % 2))), (.int .i64 t)] [(0, (.int .i64 (1 + ((s : Int) % 2))), [(.int .i64 (1 + ((s : Int) % 2)))]), (1, (.int .i64 t), [(.int .i64 t)])] dE zr78 rfl pl78 rfl (List.forall_mem_cons.2 ⟨rfl, (List.forall_mem_cons.2 ⟨rfl, (fun _ h => by cases h)⟩)⟩) rfl) (q0 rfl rfl rfl (o_stp (cs' := [(.int .i64 (1 + ((s : Int) % 2))), (.int .i64 t)]) (us := [(.int .i64 (1 + ((s : Int) % 2))), (.int .i64 t)]) (v := (.agg [(.int .i64 (1 + ((s : Int) % 2))), (.int .i64 t)].toArray)) sz78 rfl rfl rfl (xO (by rfl) (by rfl)) hX55.pins hb58 (dP rfl) rfl (fun w61 hb62 hp63 hg64 hz65 => ?_)))))
 have hX66 := hX55.write hp63 hg64 ((yG hlo21))
 refine qD rfl (zD (v := (.bool true)) rfl) (qe (zA ?_))
 refine wp_ret (zW (vL (cs := [(.int .i64 (1 + ((s : Int) % 2))), (.int .i64 t)]) (v := (.bool true)) rfl rfl rfl rfl rfl ag78 sz78 (fun j u hj => by rw [Nat.zero_add]; exact hb62.cell hj) ?_))
 obtain ⟨e1, e2⟩ := dec_hit (N := N) (rs := rs) (t := t) (s := s) (j := j) (by omega) ⟨by omega, by omega⟩
 rw [e1, e2, hmd]
 exact ⟨_, rfl, hX66⟩
 refine wp_skip (zA (zF ?_))
 refine qD rfl (zB (v := (.bool ls)) rfl) (qD rfl (zB (v := (.bool ls)) rfl) (qb (t := 45) rfl (fun h67 => ?_) (fun h67 => ?_)))
 refine qdg rfl rfl rfl rfl rfl rfl (zN (k := 0) rfl dE rfl nz3 rfl) (qdg rfl rfl rfl rfl rfl rfl (zM (u := (.int .i64 ((rs.getD ((N.getD s []).getD j 0).toNat default).1))) ag3 rfl (hX55.pins _ _ _ (hbp56 0 _ rfl))) (qdg rfl rfl rfl rfl rfl rfl (zB (v := (.int .i64 (1 + ((s : Int) % 2)))) rfl) (qdg rfl rfl rfl rfl rfl rfl (qM rfl rfl (by omega)) (qdg rfl rfl rfl rfl rfl rfl (jN rfl rfl) (qD rfl (yW (v := (.bool (decide (((rs.getD ((N.getD s []).getD j 0).toNat default).1 : Int) = (3 - (1 + ((s : Int) % 2))))))) rfl rfl) (qD rfl (zB (v := (.bool (decide (((rs.getD ((N.getD s []).getD j 0).toNat default).1 : Int) = (3 - (1 + ((s : Int) % 2))))))) rfl) (qbd (p := ((rs.getD ((N.getD s []).getD j 0).toNat default).1 : Int) = (3 - (1 + ((s : Int) % 2)))) (t := 52) rfl (fun h68 => ?_) (fun h68 => ?_))))))))
 refine qdg rfl rfl rfl rfl rfl rfl (zN (k := 1) rfl dE rfl nz3 rfl) (qdg rfl rfl rfl rfl rfl rfl (zM (u := (.int .i64 ((rs.getD ((N.getD s []).getD j 0).toNat default).2))) ag3 rfl (hX55.pins _ _ _ (hbp56 1 _ rfl))) (qdg rfl rfl rfl rfl rfl rfl (zB (v := (.int .i64 t)) rfl) (qdg rfl rfl rfl rfl rfl rfl (yQ rfl rfl) (qD rfl (yW (v := (.bool (decide (((rs.getD ((N.getD s []).getD j 0).toNat default).2 : Int) < t)))) rfl rfl) (qD rfl (zD (v := (.bool (decide (((rs.getD ((N.getD s []).getD j 0).toNat default).2 : Int) < t)))) rfl) (qe (yC (zA (zF ?_)))))))))
 refine qD rfl (yH rfl rfl (by omega)) (qD rfl (zB (v := (.int .i64 ((j : Int) + 1))) rfl) (qe (yE (⟨_, ?_, _, rfl, _, j + 1, decide (((rs.getD ((N.getD s []).getD j 0).toNat default).2 : Int) < t), G53, (zC (x := 22) (zC (x := 21) (zC (x := 20) (zC (x := 9) (zC (x := 8) (zC (x := 6) (zC (x := 3) (zS (x := 2) rfl) rfl) rfl) rfl) rfl) rfl) rfl) rfl), rfl, hX55, (dM hlek26 hle54), (by omega), (tJ (by omega) hno (fun h => by have h1 := h.1; have h2 := h.2; omega)), (all_d (by omega) hls h67 ⟨fun h => ⟨by omega, h⟩, fun h => h.2⟩), hb58⟩))))
 omega
 refine qs rfl rfl rfl rfl rfl rfl (qs rfl rfl rfl rfl rfl rfl (qs rfl rfl rfl rfl rfl rfl (qs rfl rfl rfl rfl rfl rfl (qD rfl (yS (v := (.bool false)) rfl rfl) (qD rfl (zD (v := (.bool false)) rfl) (qe (yC (zA (zF ?_)))))))))
 refine qD rfl (yH rfl rfl (by omega)) (qD rfl (zB (v := (.int .i64 ((j : Int) + 1))) rfl) (qe (yE (⟨_, ?_, _, rfl, _, j + 1, false, G53, (zC (x := 22) (zC (x := 21) (zC (x := 20) (zC (x := 9) (zC (x := 8) (zC (x := 6) (zC (x := 3) (zS (x := 2) rfl) rfl) rfl) rfl) rfl) rfl) rfl) rfl), rfl, hX55, (dM hlek26 hle54), (by omega), (tJ (by omega) hno (fun h => by have h1 := h.1; have h2 := h.2; omega)), (all_n (by omega) (fun h => by have h1 := h.1; have h2 := h.2; omega)), hb58⟩))))
 omega
 refine qs rfl rfl rfl rfl rfl rfl (qs rfl rfl rfl rfl rfl rfl (qs rfl rfl rfl rfl rfl rfl (qs rfl rfl rfl rfl rfl rfl (qs rfl rfl rfl rfl rfl rfl (qD rfl (yS (v := (.bool false)) rfl rfl) (qD rfl (zB (v := (.bool false)) rfl) (qs rfl rfl rfl rfl rfl rfl (qs rfl rfl rfl rfl rfl rfl (qs rfl rfl rfl rfl rfl rfl (qs rfl rfl rfl rfl rfl rfl (qD rfl (yS (v := (.bool false)) rfl rfl) (qD rfl (zD (v := (.bool false)) rfl) (qe (yC (zA (zF ?_))))))))))))))))
 refine qD rfl (yH rfl rfl (by omega)) (qD rfl (zB (v := (.int .i64 ((j : Int) + 1))) rfl) (qe (yE (⟨_, ?_, _, rfl, _, j + 1, false, G53, (zC (x := 22) (zC (x := 21) (zC (x := 20) (zC (x := 9) (zC (x := 8) (zC (x := 6) (zC (x := 3) (zS (x := 2) rfl) rfl) rfl) rfl) rfl) rfl) rfl) rfl), rfl, hX55, (dM hlek26 hle54), (by omega), (tJ (by omega) hno (fun h => by have h1 := h.1; have h2 := h.2; omega)), (all_f (by omega) hls h67), hb58⟩))))
 omega
 refine qs rfl rfl rfl rfl rfl rfl (qs rfl rfl rfl rfl rfl rfl (qs rfl rfl rfl rfl rfl rfl (qs rfl rfl rfl rfl rfl rfl (qD rfl (yS (v := (.bool false)) rfl rfl) (qe (zA ?_))))))
 refine qQ rfl rfl (wp_skip (zA (zF ?_)))
 refine qD rfl (zB (v := (.bool ls)) rfl) (qD rfl (zB (v := (.bool ls)) rfl) (qb (t := 45) rfl (fun h69 => ?_) (fun h69 => ?_)))
 refine qdg rfl rfl rfl rfl rfl rfl (zN (k := 0) rfl dE rfl nz3 rfl) (qdg rfl rfl rfl rfl rfl rfl (zM (u := (.int .i64 ((rs.getD ((N.getD s []).getD j 0).toNat default).1))) ag3 rfl (hX55.pins _ _ _ (hbp56 0 _ rfl))) (qdg rfl rfl rfl rfl rfl rfl (zB (v := (.int .i64 (1 + ((s : Int) % 2)))) rfl) (qdg rfl rfl rfl rfl rfl rfl (qM rfl rfl (by omega)) (qdg rfl rfl rfl rfl rfl rfl (jN rfl rfl) (qD rfl (yW (v := (.bool (decide (((rs.getD ((N.getD s []).getD j 0).toNat default).1 : Int) = (3 - (1 + ((s : Int) % 2))))))) rfl rfl) (qD rfl (zB (v := (.bool (decide (((rs.getD ((N.getD s []).getD j 0).toNat default).1 : Int) = (3 - (1 + ((s : Int) % 2))))))) rfl) (qbd (p := ((rs.getD ((N.getD s []).getD j 0).toNat default).1 : Int) = (3 - (1 + ((s : Int) % 2)))) (t := 52) rfl (fun h70 => ?_) (fun h70 => ?_))))))))
 refine qdg rfl rfl rfl rfl rfl rfl (zN (k := 1) rfl dE rfl nz3 rfl) (qdg rfl rfl rfl rfl rfl rfl (zM (u := (.int .i64 ((rs.getD ((N.getD s []).getD j 0).toNat default).2))) ag3 rfl (hX55.pins _ _ _ (hbp56 1 _ rfl))) (qdg rfl rfl rfl rfl rfl rfl (zB (v := (.int .i64 t)) rfl) (qdg rfl rfl rfl rfl rfl rfl (yQ rfl rfl) (qD rfl (yW (v := (.bool (decide (((rs.getD ((N.getD s []).getD j 0).toNat default).2 : Int) < t)))) rfl rfl) (qD rfl (zD (v := (.bool (decide (((rs.getD ((N.getD s []).getD j 0).toNat default).2 : Int) < t)))) rfl) (qe (yC (zA (zF ?_)))))))))
 refine qD rfl (yH rfl rfl (by omega)) (qD rfl (zB (v := (.int .i64 ((j : Int) + 1))) rfl) (qe (yE (⟨_, ?_, _, rfl, _, j + 1, decide (((rs.getD ((N.getD s []).getD j 0).toNat default).2 : Int) < t), G53, (zC (x := 22) (zC (x := 21) (zC (x := 20) (zC (x := 9) (zC (x := 8) (zC (x := 6) (zC (x := 3) (zS (x := 2) rfl) rfl) rfl) rfl) rfl) rfl) rfl) rfl), rfl, hX55, (dM hlek26 hle54), (by omega), (tJ (by omega) hno (fun h => by have h1 := h.1; have h2 := h.2; omega)), (all_d (by omega) hls h69 ⟨fun h => ⟨by omega, h⟩, fun h => h.2⟩), hb58⟩))))
 omega
 refine qs rfl rfl rfl rfl rfl rfl (qs rfl rfl rfl rfl rfl rfl (qs rfl rfl rfl rfl rfl rfl (qs rfl rfl rfl rfl rfl rfl (qD rfl (yS (v := (.bool false)) rfl rfl) (qD rfl (zD (v := (.bool false)) rfl) (qe (yC (zA (zF ?_)))))))))
 refine qD rfl (yH rfl rfl (by omega)) (qD rfl (zB (v := (.int .i64 ((j : Int) + 1))) rfl) (qe (yE (⟨_, ?_, _, rfl, _, j + 1, false, G53, (zC (x := 22) (zC (x := 21) (zC (x := 20) (zC (x := 9) (zC (x := 8) (zC (x := 6) (zC (x := 3) (zS (x := 2) rfl) rfl) rfl) rfl) rfl) rfl) rfl) rfl), rfl, hX55, (dM hlek26 hle54), (by omega), (tJ (by omega) hno (fun h => by have h1 := h.1; have h2 := h.2; omega)), (all_n (by omega) (fun h => by have h1 := h.1; have h2 := h.2; omega)), hb58⟩))))
 omega
 refine qs rfl rfl rfl rfl rfl rfl (qs rfl rfl rfl rfl rfl rfl (qs rfl rfl rfl rfl rfl rfl (qs rfl rfl rfl rfl rfl rfl (qs rfl rfl rfl rfl rfl rfl (qD rfl (yS (v := (.bool false)) rfl rfl) (qD rfl (zB (v := (.bool false)) rfl) (qs rfl rfl rfl rfl rfl rfl (qs rfl rfl rfl rfl rfl rfl (qs rfl rfl rfl rfl rfl rfl (qs rfl rfl rfl rfl rfl rfl (qD rfl (yS (v := (.bool false)) rfl rfl) (qD rfl (zD (v := (.bool false)) rfl) (qe (yC (zA (zF ?_))))))))))))))))
 refine qD rfl (yH rfl rfl (by omega)) (qD rfl (zB (v := (.int .i64 ((j : Int) + 1))) rfl) (qe (yE (⟨_, ?_, _, rfl, _, j + 1, false, G53, (zC (x := 22) (zC (x := 21) (zC (x := 20) (zC (x := 9) (zC (x := 8) (zC (x := 6) (zC (x := 3) (zS (x := 2) rfl) rfl) rfl) rfl) rfl) rfl) rfl) rfl), rfl, hX55, (dM hlek26 hle54), (by omega), (tJ (by omega) hno (fun h => by have h1 := h.1; have h2 := h.2; omega)), (all_f (by omega) hls h69), hb58⟩))))
 omega
 refine wp_exit (zZ (yJ (yI (zA (zE (zF ?_))))))
 refine qD rfl (zB (v := (.int .i64 (1 + ((s : Int) % 2)))) rfl) (qD rfl (qM rfl rfl (by omega)) (qD rfl (zB (v := (.int .i64 t)) rfl) (qD rfl (xR [(.int .i64 0), (.int .i64 0)] [(.int .i64 (3 - (1 + ((s : Int) % 2)))), (.int .i64 t)] [(0, (.int .i64 (3 - (1 + ((s : Int) % 2)))), [(.int .i64 (3 - (1 + ((s : Int) % 2))))]), (1, (.int .i64 t), [(.int .i64 t)])] dE zr78 rfl pl78 rfl (List.forall_mem_cons.2 ⟨rfl, (List.forall_mem_cons.2 ⟨rfl, (fun _ h => by cases h)⟩)⟩) rfl) (qD rfl (zB (v := (.bool ls)) rfl) (q0 rfl rfl rfl (o_stp (cs' := [(.int .i64 (3 - (1 + ((s : Int) % 2)))), (.int .i64 t)]) (us := [(.int .i64 (3 - (1 + ((s : Int) % 2)))), (.int .i64 t)]) (v := (.agg [(.int .i64 (3 - (1 + ((s : Int) % 2)))), (.int .i64 t)].toArray)) sz78 rfl rfl rfl (xO (by rfl) (by rfl)) hX29.pins hw30 (dP rfl) rfl (fun w71 hb72 hp73 hg74 hz75 => ?_)))))))
 have hX76 := hX29.write hp73 hg74 ((yG hlo21))
 refine qD rfl (zD (v := (.bool ls)) rfl) (qe (zA ?_))
 refine wp_ret (zW (vL (cs := [(.int .i64 (3 - (1 + ((s : Int) % 2)))), (.int .i64 t)]) (v := (.bool ls)) rfl rfl rfl rfl rfl ag78 sz78 (fun j u hj => by rw [Nat.zero_add]; exact hb72.cell hj) ?_))
 obtain ⟨e1, e2⟩ := dec_miss (by omega) hno hls
 rw [e1, e2, hmd]
 exact ⟨_, rfl, hX76⟩
end AR1
end Go.Proofs.YtdongckiecjbaaaGreatDoor
namespace Go.Proofs.YtdongckiecjbaaaGreatDoor
namespace AR2
open Go.RowKit Go.GL Go.Proofs
open B1 AR1
theorem round_spec {w : World} {G : Pin} {u v : Value} {N : List (List Int)} {rs : List (Int × Int)} {t : Int} (hP : Pins G w) (hu : RSl (eSl eInt) G u N) (ho : Own eP2 78 G w 0 v rs) (hok : ArOk N) (hi : ArI N t rs) (hl : rs.length = N.length) (hsz : rs.length ≤ 1048576) :
  Calls Tryz.prog 54 [(.agg [u, v].toArray), (.int .i64 t)].toArray w fun e w' => ∃ (rs2 : List (Int × Int)) (b : Bool) (G' : Pin), e = .returned (.bool b) ∧ Own eP2 78 G' w' 0 v rs2 ∧ (b = false → ∀ s, s < N.length → (rs2.getD s default).1 = wnA N s) ∧ (b = true → ArI N (t + 1) rs2 ∧ zc rs2 < zc rs) ∧ rs2.length = rs.length ∧ Ext (inO v.ownBlock) G w G' w' := by
 refine yD (n := 63) Tryz.func54 Tryz.ntmps54 rfl rfl ?_
 have hX0 := exr (inO v.ownBlock) hP
 have hmu := hu.max
 have hmo := ho.max
 have hlo0 : Lo w (inO v.ownBlock) v.ownBlock := fun k hk => Or.inr hk
 refine zE (zF ?_)
 refine qI rfl (xY [u, v] (v := (.agg [u, v].toArray)) rfl rfl hX0.pins (fun b1 w2 hk3 hb4 hp5 hl6 => ?_))
 have hX7 := hX0.step hp5 hl6
 have ho8 := ho.below hl6
 have ha9 : Apart (some b1) v.ownBlock := zI (congrArg some hk3) ho.lt
 have hlo10 : w.heap.size ≤ b1 := by have := hX0.size; omega
 obtain ⟨G11, hle12, hX13, hbp14, hf15⟩ := hb4.shut hX7 hlo10
 have ho16 := ho8.moreA hle12 hf15 ha9.symm
 refine qD rfl (zD (v := (.bool false)) rfl) (qe (zA (zE (zF ?_))))
 refine qI rfl (yR (E := eInt) (e := 3) eR sz3 hX13.pins (fun u17 w18 ho19 hp20 hl21 hk22 => ?_))
 have hX23 := hX13.step hp20 hl21
 have ho24 := ho16.below hl21
 have ha25 : Apart u17.ownBlock v.ownBlock := zI hk22 ho16.lt
 have ho26 := ho19.weaken hX13.size
 refine qD rfl (zD (v := u17) rfl) (qe (zA (zE (zF ?_))))
 refine qI rfl (yR (E := eP2) (e := 78) dD sz78 hX23.pins (fun u27 w28 ho29 hp30 hl31 hk32 => ?_))
 have hX33 := hX23.step hp30 hl31
 have ho34 := ho24.below hl31
 have ho35 := ho26.below hl31
 have ha36 : Apart u27.ownBlock v.ownBlock := zI hk32 ho24.lt
 have ha37 : Apart u27.ownBlock u17.ownBlock := zI hk32 ho26.lt
 have ho38 := ho29.weaken hX23.size
 refine qD rfl (zD (v := u27) rfl) (qe (zA (zE (zE (zF ?_)))))
 refine qD rfl (zN (k := 1) rfl dG rfl nz72 rfl) (qD rfl (zM (u := v) ag72 rfl (hX33.pins _ _ _ (hbp14 1 _ rfl))) (qD rfl (zP dD (v := v) rfl ho34.read) (qD rfl (zB (v := (.int .i64 0)) rfl) (qe (zA ?_)))))
 refine zX (yM (fun (k : Nat) (en : Nat → Value) (W : World) => ∃ (env1 : Nat → Value) (j : Nat) (fv : Value) (fs : List Int) (tv : Value) (ts : List (Int × Int)) (GL1 : Pin), en = (upd (upd (upd (upd (upd (upd (upd env1 1 (.int .i64 t)) 2 (.pointer (some ⟨b1, 0, none⟩))) 4 (.bool false)) 5 fv) 6 tv) 16 (.int .i64 (rs.length : Int))) 17 (.int .i64 (j : Int))) ∧ k = rs.length - j ∧ Ext (inO v.ownBlock) G w GL1 W ∧ Pin.le G11 GL1 ∧ (j ≤ rs.length) ∧ (FdI N rs t j fs ts) ∧ (Own eInt 3 GL1 W w.heap.size fv (fs)) ∧ (Own eP2 78 GL1 W w.heap.size tv (ts)) ∧ (Own eP2 78 GL1 W 0 v (rs)) ∧ (Apart fv.ownBlock tv.ownBlock) ∧ (Apart fv.ownBlock v.ownBlock) ∧ (Apart tv.ownBlock v.ownBlock)) _ ⟨_, 0, u17, [], u27, [], G11, (zC (x := 17) (zC (x := 16) (zC (x := 6) (zC (x := 5) (zC (x := 4) (zC (x := 2) (zS (x := 1) rfl) rfl) rfl) rfl) rfl) rfl) rfl), rfl, hX33, Pin.le_refl _, Nat.zero_le _, FdI.start, ho35, ho38, ho34, ha37.symm, ha25, ha36⟩ ?_)
 rintro k39 _ w40 ⟨env1, j, fv, fs, tv, ts, GL1, rfl, hk41, hX42, hlek39, hj, hF, hw43, hw44, hw45, ha46, ha47, ha48⟩
 have hfl := hF.le
 have htl := hF.len
 refine zE (zF ?_)
 refine qD rfl (yQ rfl rfl) (qe (zA (zE ?_)))
 refine yF (p := ((j : Int) : Int) < (rs.length : Int)) rfl rfl (fun h49 => ?_) (fun h49 => ?_)
 refine wp_skip (zA (zE ?_))
 refine zX (zE (zF ?_))
 refine qD rfl (zB (v := (.int .i64 (j : Int))) rfl) (qD rfl (zD (v := (.int .i64 (j : Int))) rfl) (qe (zA (zE (zE (zF ?_))))))
 refine qD rfl (zN (k := 1) rfl dG rfl nz72 rfl) (qD rfl (zM (u := v) ag72 rfl ((dN hX42.pins hlek39) _ _ _ (hbp14 1 _ rfl))) (qD rfl (zB (v := (.int .i64 (j : Int))) rfl) (qD rfl (zL dD sz78 (v := v) rfl rfl hw45.read (by omega) (by omega)) (qD rfl (xG (off := 0) dE rfl rfl nz3 (z := (j : Int)) (k := 0) rfl hw45.read (by omega) (by omega)) ?_))))
 obtain ⟨cs50, hrep51, hagg52, hcell53⟩ := fI (j := j) default (hw45.at (z := (j : Int)) (by omega) (by omega)) rfl
 obtain rfl := hrep51
 refine qD rfl (hcell53 0 _ rfl ag3 rfl (Gadd.pins hX42.pins v)) (qD rfl (jY rfl rfl) (qe (zA ?_)))
 refine yF (p := ((rs.getD j default).1 : Int) ≠ 0) rfl rfl (fun h54 => ?_) (fun h54 => ?_)
 refine wp_exit (zZ (yI (zA (zF ?_))))
 refine qD rfl (yH rfl rfl (by omega)) (qD rfl (zB (v := (.int .i64 ((j : Int) + 1))) rfl) (qe (yE (⟨_, ?_, _, rfl, _, j + 1, fv, fs, tv, ts, GL1, (zC (x := 17) (zC (x := 16) (zC (x := 6) (zC (x := 5) (zC (x := 4) (zC (x := 2) (zS (x := 1) rfl) rfl) rfl) rfl) rfl) rfl) rfl), rfl, hX42, hlek39, (by omega), (hF.no (Or.inl h54)), hw43, hw44, hw45, ha46, ha47, ha48⟩))))
 omega
 refine wp_skip (zA (zE (zF ?_)))
 refine qD rfl (yK (cs := [u, v]) ag74 sz74 rfl (fun j u hj => (dN hX42.pins hlek39) _ _ _ (hbp14 _ _ (by simpa using hj)))) (qD rfl (zB (v := (.int .i64 (j : Int))) rfl) (qD rfl (zB (v := (.int .i64 t)) rfl) (qI rfl (zR (vs := [(.agg [u, v].toArray), (.int .i64 (j : Int)), (.int .i64 t)]) Tryz.func68 nm68 rfl rfl rfl ?_))))
 refine dO (pY (Gadd.pins hX42.pins v) ((hu.mono (dM hle12 hlek39)).mono (Gadd.le _ _ _)) hw45.read hok (by omega) (by omega)) ?_
 rintro _ w56 ⟨G55, rfl, hx57⟩
 refine ⟨_, rfl, ?_⟩
 have hx58 := tC hX42.pins hx57
 have hX59 := hX42.step hx58.pins hx58.below
 have ho60 := hw43.below hx58.below
 have ho61 := hw44.below hx58.below
 have ho62 := hw45.below hx58.below
 refine qD rfl (zB (v := (.tuple #[(.agg [(.int .i64 (decW N rs t j)), (.int .i64 t)].toArray), (.bool (decB N rs t j))])) rfl) (qD rfl (xA (v := (.agg [(.int .i64 (decW N rs t j)), (.int .i64 t)].toArray)) rfl rfl) (qD rfl (xA (v := (.bool (decB N rs t j))) rfl rfl) (qI rfl (yN [(.int .i64 0), (.int .i64 0)] zr78 rfl hX59.pins (fun b63 w64 hk65 hb66 hp67 hl68 => ?_)))))
 have hX69 := hX59.step hp67 hl68
 have ho70 := ho60.below hl68
 have ho71 := ho61.below hl68
 have ho72 := ho62.below hl68
 have ha73 : Apart (some b63) fv.ownBlock := zI (congrArg some hk65) ho60.lt
 have ha74 : Apart (some b63) tv.ownBlock := zI (congrArg some hk65) ho61.lt
 have ha75 : Apart (some b63) v.ownBlock := zI (congrArg some hk65) ho62.lt
 have hlo76 : w.heap.size ≤ b63 := by have := hX59.size; omega
 refine q0 rfl rfl rfl (o_stp (cs' := [(.int .i64 (decW N rs t j)), (.int .i64 t)]) (us := [(.int .i64 (decW N rs t j)), (.int .i64 t)]) (v := (.agg [(.int .i64 (decW N rs t j)), (.int .i64 t)].toArray)) sz78 rfl rfl rfl (xO (by rfl) (by rfl)) hX69.pins hb66 (dP rfl) rfl (fun w77 hb78 hp79 hg80 hz81 => ?_))
 have hX82 := hX69.write hp79 hg80 ((yG hlo76))
 have ho83 := ho70.keptA hg80 ha73.symm
 have ho84 := ho71.keptA hg80 ha74.symm
 have ho85 := ho72.keptA hg80 ha75.symm
 obtain ⟨G86, hle87, hX88, hbp89, hf90⟩ := hb78.shut hX82 hlo76
 have ho91 := ho83.moreA hle87 hf90 ha73.symm
 have ho92 := ho84.moreA hle87 hf90 ha74.symm
 have ho93 := ho85.moreA hle87 hf90 ha75.symm
 refine qD rfl (zD (v := (.bool (decB N rs t j))) rfl) (qe (zA (zE (zF ?_))))
 refine qD rfl (zB (v := (.bool (decB N rs t j))) rfl) (qe (zA ?_))
 refine c_if rfl rfl (fun h94 => ?_) (fun h94 => ?_)
 refine zE (zF ?_)
 refine qD rfl (zB (v := fv) rfl) (qD rfl (zB (v := (.int .i64 (j : Int))) rfl) (qI rfl (yL (E := eInt) (e := 3) [(.int .i64 (j : Int))] [(j : Int)] eR sz3 zr3 (by exact xM (by rfl)) (yO (by rfl)) rfl rfl rfl rfl (by decide) hX88.pins (fun u95 w96 ho97 hp98 hl99 hk100 => ?_))))
 have hX101 := hX88.step hp98 hl99
 have ho102 := ho91.below hl99
 have ho103 := ho92.below hl99
 have ho104 := ho93.below hl99
 have ho108 := ho97.weaken hX88.size
 refine qI rfl (zU (E := eInt) (v := fv) (u := u95) 8 eR ap3 (by decide) rfl rfl hX101.pins ho102 ho108.src (by first | omega | (rw [List.nil_append]; omega) | (rw [List.length_nil]; omega) | (rw [List.length_append]; omega) | (simp; done) | (simp; omega) | (simp only [List.length_cons, List.length_nil]; omega) | (simp only [List.length_append, List.length_cons, List.length_nil]; omega)) (by first | omega | (rw [List.nil_append]; omega) | (rw [List.length_nil]; omega) | (rw [List.length_append]; omega) | (simp; done) | (simp; omega) | (simp only [List.length_cons, List.length_nil]; omega) | (simp only [List.length_append, List.length_cons, List.length_nil]; omega)) (hX101.size) (fun u109 w110 ho111 hp112 hg113 hw114 => ?_))
 have hX115 := hX101.write hp112 hg113 ((yB ho102))
 have ho116 := ho103.keptA hg113 ha46.symm
 have ho117 := ho104.keptA hg113 ha47.symm
 have ha119 : Apart tv.ownBlock u109.ownBlock := zH ha46.symm hw114 ho103.lt
 have ha120 : Apart v.ownBlock u109.ownBlock := zH ha47.symm hw114 ho104.lt
 have hm122 := la1 fs (j : Int)
 refine qD rfl (zD (v := u109) rfl) (qe (zA (zF ?_)))
 refine qD rfl (zB (v := tv) rfl) (qD rfl (yK (cs := [(.int .i64 (decW N rs t j)), (.int .i64 t)]) ag78 sz78 rfl (fun j u hj => hX115.pins _ _ _ (hbp89 _ _ (by simpa using hj)))) (qI rfl (xP (E := eP2) (e := 78) [(.int .i64 (decW N rs t j)), (.int .i64 t)] (decW N rs t j, t) dD sz78 zr78 rfl rfl (by decide) hX115.pins (fun u123 w124 ho125 hp126 hl127 hk128 => ?_))))
 have hX129 := hX115.step hp126 hl127
 have ho130 := ho116.below hl127
 have ho131 := ho117.below hl127
 have ho132 := ho111.below hl127
 have ho136 := ho125.weaken hX115.size
 refine qI rfl (zU (E := eP2) (v := tv) (u := u123) 16 dD ap78 (by decide) rfl rfl hX129.pins ho130 ho136.src (by first | omega | (rw [List.nil_append]; omega) | (rw [List.length_nil]; omega) | (rw [List.length_append]; omega) | (simp; done) | (simp; omega) | (simp only [List.length_cons, List.length_nil]; omega) | (simp only [List.length_append, List.length_cons, List.length_nil]; omega)) (by first | omega | (rw [List.nil_append]; omega) | (rw [List.length_nil]; omega) | (rw [List.length_append]; omega) | (simp; done) | (simp; omega) | (simp only [List.length_cons, List.length_nil]; omega) | (simp only [List.length_append, List.length_cons, List.length_nil]; omega)) (hX129.size) (fun u137 w138 ho139 hp140 hg141 hw142 => ?_))
 have hX143 := hX129.write hp140 hg141 ((yB ho130))
 have ho144 := ho131.keptA hg141 ha48.symm
 have ho145 := ho132.keptA hg141 ha119.symm
 have ha147 : Apart v.ownBlock u137.ownBlock := zH ha48.symm hw142 ho131.lt
 have ha148 : Apart u109.ownBlock u137.ownBlock := zH ha119.symm hw142 ho132.lt
 have hm150 := la1 ts (decW N rs t j, t)
 refine qD rfl (zD (v := u137) rfl) (qe (yC (zA (zF ?_))))
 refine qD rfl (yH rfl rfl (by omega)) (qD rfl (zB (v := (.int .i64 ((j : Int) + 1))) rfl) (qe (yE (⟨_, ?_, _, rfl, _, j + 1, u109, fs ++ ([(j : Int)]), u137, ts ++ ([(decW N rs t j, t)]), G86, (zC (x := 17) (zC (x := 16) (zC (x := 6) (zC (x := 5) (zC (x := 4) (zC (x := 2) (zS (x := 1) rfl) rfl) rfl) rfl) rfl) rfl) rfl), rfl, hX143, (dM hlek39 hle87), (by omega), (hF.yes (by omega) h94), ho145, ho139, ho144, ha148, ha120.symm, ha147.symm⟩))))
 omega
 refine wp_skip (yC (zA (zF ?_)))
 refine qD rfl (yH rfl rfl (by omega)) (qD rfl (zB (v := (.int .i64 ((j : Int) + 1))) rfl) (qe (yE (⟨_, ?_, _, rfl, _, j + 1, fv, fs, tv, ts, G86, (zC (x := 17) (zC (x := 16) (zC (x := 6) (zC (x := 5) (zC (x := 4) (zC (x := 2) (zS (x := 1) rfl) rfl) rfl) rfl) rfl) rfl) rfl), rfl, hX88, (dM hlek39 hle87), (by omega), (hF.no (Or.inr h94)), ho91, ho92, ho93, ha46, ha47, ha48⟩))))
 omega
 refine wp_exit (zZ (yJ (yI (zA (zE (zE (zF ?_)))))))
 refine qD rfl (zB (v := fv) rfl) (qD rfl (zP eR (v := fv) rfl hw43.read) (qD rfl (zB (v := (.int .i64 0)) rfl) (qe (zA ?_))))
 refine zX (yM (fun (k : Nat) (en : Nat → Value) (W : World) => ∃ (env1 : Nat → Value) (q : Nat) (rs2 : List (Int × Int)) (GL2 : Pin), en = (upd (upd (upd (upd (upd (upd (upd env1 2 (.pointer (some ⟨b1, 0, none⟩))) 4 (.bool false)) 5 fv) 6 tv) 44 fv) 45 (.int .i64 (fs.length : Int))) 46 (.int .i64 (q : Int))) ∧ k = fs.length - q ∧ Ext (inO v.ownBlock) G w GL2 W ∧ Pin.le GL1 GL2 ∧ (q ≤ fs.length) ∧ (TdI N rs t q rs2) ∧ (Own eP2 78 GL2 W 0 v (rs2)) ∧ (Own eInt 3 GL2 W w.heap.size fv (fs)) ∧ (Own eP2 78 GL2 W w.heap.size tv (ts))) _ ⟨_, 0, rs, GL1, (zC (x := 46) (zC (x := 45) (zC (x := 44) (zC (x := 6) (zC (x := 5) (zC (x := 4) (zS (x := 2) rfl) rfl) rfl) rfl) rfl) rfl) rfl), rfl, hX42, Pin.le_refl _, Nat.zero_le _, TdI.start, hw45, hw43, hw44⟩ ?_)
 rintro k151 _ w152 ⟨env1, q, rs2, GL2, rfl, hk153, hX154, hlek151, hq, hT, hw155, hw156, hw157⟩
 have hr2 := hT.len
 refine zE (zF ?_)
 refine qD rfl (yQ rfl rfl) (qe (zA (zE ?_)))
 refine yF (p := ((q : Int) : Int) < (fs.length : Int)) rfl rfl (fun h158 => ?_) (fun h158 => ?_)
 have hfo := hF.ok q (by omega)
 refine wp_skip (zA (zE ?_))
 refine zX (zE (zF ?_))
 refine qD rfl (zB (v := (.int .i64 (q : Int))) rfl) (qD rfl (zL eR sz3 (v := fv) rfl rfl hw156.read (by omega) (by omega)) (qD rfl (zO (r := fs.getD q 0) rfl ag3 (z := (q : Int)) rfl hw156.read (Gadd.pins hX154.pins fv) (by omega) (by omega)) (qD rfl (zD (v := (.int .i64 (q : Int))) rfl) (qD rfl (zD (v := (.int .i64 (fs.getD q 0))) rfl) (qe (zA ?_))))))
 have hq159 := Gadd.pins hX154.pins tv
 have hq160 := Gadd.pins hX154.pins v
 have hr161 := hw157.read
 have hr162 := hw155.read
 refine yZ (S := fun wz => Pins GL2 wz ∧ Pins (Gadd GL2 w152 tv) wz ∧ Pins (Gadd GL2 w152 v) wz) (last := 8) (by kernel_rfl) rfl ?_
 have hl163 := bdr w152
 have hp164 := hX154.pins.below hl163
 have hX165 := hX154.step hp164 hl163
 have ho166 := hw155.below hl163
 have ho167 := hw156.below hl163
 have ho168 := hw157.below hl163
 have hq169 := hq159.below hl163
 have hq170 := hq160.below hl163
 refine dT (i := 0) rfl rfl (by kernel_rfl) (fun _ _ => zN (k := 1) rfl dG rfl nz72 rfl) ⟨hX165.pins, hq169, hq170⟩ ?_
 refine dT (i := 1) rfl rfl (by kernel_rfl) (fun _ hS => zM (u := v) ag72 rfl ((dN hS.1 (dM hlek39 hlek151)) _ _ _ (hbp14 1 _ rfl))) ⟨hX165.pins, hq169, hq170⟩ ?_
 refine dT (i := 2) rfl rfl (by kernel_rfl) (fun _ _ => zB (v := (.int .i64 (fs.getD q 0))) rfl) ⟨hX165.pins, hq169, hq170⟩ ?_
 refine dT (i := 3) rfl rfl (by kernel_rfl) (fun _ _ => zB (v := tv) rfl) ⟨hX165.pins, hq169, hq170⟩ ?_
 refine dT (i := 4) rfl rfl (by kernel_rfl) (fun _ _ => zB (v := (.int .i64 (q : Int))) rfl) ⟨hX165.pins, hq169, hq170⟩ ?_
 refine dT (i := 5) rfl rfl (by kernel_rfl) (fun _ _ => zL dD sz78 (v := tv) rfl rfl hr161 (by omega) (by omega)) ⟨hX165.pins, hq169, hq170⟩ ?_
 obtain ⟨cs171, hrep172, hagg173, hcell174⟩ := fI (j := q) default (hw157.at (z := (q : Int)) (by omega) (by omega)) rfl
 obtain rfl := hrep172
 refine dT (i := 6) rfl rfl (by kernel_rfl) (fun _ hS => hagg173 ag78 sz78 rfl hS.2.1) ⟨hX165.pins, hq169, hq170⟩ ?_
 refine dT (i := 7) rfl rfl (by kernel_rfl) (fun _ _ => zL dD sz78 (v := v) rfl rfl hr162 (by omega) (by omega)) ⟨hX165.pins, hq169, hq170⟩ ?_
 refine zQ (i := 8) (by kernel_rfl) (xX (i := 8) rfl rfl rfl (zG rfl _) (jP (E := eP2) (v := v) (u := (.agg [(.int .i64 ((ts.getD q default).1)), (.int .i64 ((ts.getD q default).2))].toArray)) (cs := [(.int .i64 ((ts.getD q default).1)), (.int .i64 ((ts.getD q default).2))]) (z := (fs.getD q 0)) (((ts.getD q default).1, (ts.getD q default).2)) sz78 rfl rfl rfl rfl hX165.pins ho166 (by omega) (by omega) (fun w175 ho176 hp177 hg178 hz179 => ?_)))
 have hX180 := hX165.write hp177 hg178 (hlo0)
 have ho181 := ho167.keptA hg178 ha47
 have ho182 := ho168.keptA hg178 ha48
 have ho183 : Own eP2 78 GL2 w175 0 v ((rs2).set (fs.getD q 0).toNat ((ts.getD q default).1, (ts.getD q default).2)) := ho176
 have hm184 : ((rs2).set (fs.getD q 0).toNat ((ts.getD q default).1, (ts.getD q default).2)).length = rs2.length := List.length_set ..
 refine ⟨fun h => absurd rfl h, ?_⟩
 refine yP (by kernel_rfl) (yC (zA (zF ?_)))
 refine qD rfl (yH rfl rfl (by omega)) (qD rfl (zB (v := (.int .i64 ((q : Int) + 1))) rfl) (qe (yE (⟨_, ?_, _, rfl, _, q + 1, (rs2).set (fs.getD q 0).toNat ((ts.getD q default).1, (ts.getD q default).2), GL2, (zC (x := 46) (zC (x := 45) (zC (x := 44) (zC (x := 6) (zC (x := 5) (zC (x := 4) (zS (x := 2) rfl) rfl) rfl) rfl) rfl) rfl) rfl), rfl, hX180, hlek151, (by omega), (hT.next hF (by omega) (by omega)), ho183, ho181, ho182⟩))))
 omega
 refine wp_exit (zZ (yJ (yI (zA (zE (zF ?_))))))
 refine qD rfl (zB (v := fv) rfl) (qD rfl (zP eR (v := fv) rfl hw156.read) (qD rfl (jC rfl rfl) (qD rfl (zD (v := (.bool (decide ((0 : Int) < (fs.length : Int))))) rfl) (qe (zA ?_)))))
 refine wp_ret (zW (zT (v := (.bool (decide ((0 : Int) < (fs.length : Int))))) rfl rfl rfl ?_))
 have hjn : j = N.length := by omega
 rw [hjn] at hF
 have hqn : q = fs.length := by omega
 exact ⟨rs2, _, _, rfl, hw155, (fun hb => by
  have hf0 : fs = [] := List.eq_nil_of_length_eq_zero (by have := of_decide_eq_false hb; omega)
  have hr0 := hT.z0 (by rw [hqn, hf0]; rfl)
  rw [hr0]; exact hF.done hok hi hf0), (fun hb => ⟨hT.done hok hi, hT.zlt (by have := of_decide_eq_true hb; omega)⟩), hT.len, hX154⟩
end AR2
end Go.Proofs.YtdongckiecjbaaaGreatDoor
namespace Go.Proofs.YtdongckiecjbaaaGreatDoor
namespace AR3
open Go.RowKit Go.GL Go.Proofs
open B1 AR1 AR2
theorem mk78 : (Tryz.prog.info? 78).map (fun i => (i.size, i.bytes, i.zero)) = some (2, 16, some (.agg #[(.int .i64 0), (.int .i64 0)])) := by kernel_rfl
theorem pl74 : (Tryz.prog.underlying 74).bind (placesD Tryz.prog) = some [(0, 1), (1, 1)] := by kernel_rfl
theorem jM {w : World} {G : Pin} {u v : Value} {L R : List (List Int)} (hP : Pins G w) (hu : RSl (eSl eInt) G u L) (hv : RSl (eSl eInt) G v R) (hlr : L.length = R.length) (hL : AcL L) (hR : AcL R) (hsz : L.length ≤ 500000) (hln : ∀ i, i < L.length → (L.getD i []).length ≤ 500000 ∧ (R.getD i []).length ≤ 500000) :
  Calls Tryz.prog 39 [u, v].toArray w fun e w' => ∃ (x y : Value) (rs : List (Int × Int)) (G' : Pin), e = .returned (.agg [x, y].toArray) ∧ RSl (eSl eInt) G' x (arN L R) ∧ RSl eP2 G' y rs ∧ rs.length = 2 * L.length ∧ (∀ s, s < (arN L R).length → (rs.getD s default).1 = wnA (arN L R) s) ∧ Ext noS G w G' w' := by
 refine yD (n := 71) Tryz.func39 Tryz.ntmps39 rfl rfl ?_
 have hX0 := exr noS hP
 have hmu := hu.max
 have hmv := hv.max
 have hbL := fun (i : Nat) (hi : i < L.length) (k : Int) (hk : k ∈ L.getD i []) => (show 0 ≤ k ∧ k < 500000 by have := hL i hi k hk; omega)
 have hbR := fun (i : Nat) (hi : i < L.length) (k : Int) (hk : k ∈ R.getD i []) => (show 0 ≤ k ∧ k < 500000 by have := hR i (by omega) k hk; omega)
 refine zE (zF ?_)
 refine qI rfl (yN [(.slice none 0 0), (.slice none 0 0)] zr74 rfl hX0.pins (fun b1 w2 hk3 hb4 hp5 hl6 => ?_))
 have hX7 := hX0.step hp5 hl6
 have hlo8 : w.heap.size ≤ b1 := by have := hX0.size; omega
 refine qe (zA (zE (zF ?_)))
 refine qD rfl (zB (v := u) rfl) (qD rfl (zP eT (v := u) rfl hu) (qD rfl (jR rfl rfl (by omega)) (qI rfl (kQ (E := eP2) ((0, 0) : Int × Int) 16 (.agg #[(.int .i64 0), (.int .i64 0)]) dD mk78 (fun _ => rfl) rfl rfl hX7.pins (by omega) (by omega) (by omega) (fun u9 w10 ho11 hp12 hl13 hk14 => ?_)))))
 have hX15 := hX7.step hp12 hl13
 have hb16 := hb4.below hl13
 have ha17 : Apart u9.ownBlock (some b1) := zK hk14 hb4.lt
 have ho18 : Own eP2 78 G w10 w.heap.size u9 (List.replicate (2 * (L.length : Int)).toNat ((0, 0) : Int × Int)) := ho11.weaken hX7.size
 have hm19 : (List.replicate (2 * (L.length : Int)).toNat ((0, 0) : Int × Int)).length = (2 * (L.length : Int)).toNat := List.length_replicate ..
 refine qD rfl (xR [(.slice none 0 0), (.slice none 0 0)] [(.slice none 0 0), u9] [(1, u9, [u9])] dG zr74 rfl pl74 rfl (List.forall_mem_cons.2 ⟨(xN ho18.one), (fun _ h => by cases h)⟩) rfl) (qI rfl (yN [(.slice none 0 0), (.slice none 0 0)] zr74 rfl hX15.pins (fun b20 w21 hk22 hb23 hp24 hl25 => ?_)))
 have hX26 := hX15.step hp24 hl25
 have ho27 := ho18.below hl25
 have hb28 := hb16.below hl25
 have ha29 : Apart (some b20) u9.ownBlock := zI (congrArg some hk22) ho18.lt
 have ha30 : Apart (some b20) (some b1) := zK (congrArg some hk22) hb16.lt
 have hlo31 : w.heap.size ≤ b20 := by have := hX15.size; omega
 refine q0 rfl rfl rfl (o_stp (cs' := [(.slice none 0 0), u9]) (us := [(.slice none 0 0), u9]) (v := (.agg [(.slice none 0 0), u9].toArray)) sz74 rfl rfl rfl (xO (by rfl) ho27.one) hX26.pins hb23 (dP rfl) rfl (fun w32 hb33 hp34 hg35 hz36 => ?_))
 have hX37 := hX26.write hp34 hg35 ((yG hlo31))
 have ho38 := ho27.keptA hg35 ha29.symm
 have hb39 := hb28.keptA hg35 ha30.symm
 refine qe (zA (zE (zE (zF ?_))))
 refine qD rfl (zB (v := u) rfl) (qD rfl (zP eT (v := u) rfl hu) (qD rfl (zB (v := (.int .i64 0)) rfl) (qe (zA ?_))))
 refine zX (yM (fun (k : Nat) (en : Nat → Value) (W : World) => ∃ (env1 : Nat → Value) (j : Nat) (nv : Value) (N2 : List (List Int)) (GL1 : Pin), en = (upd (upd (upd (upd (upd (upd env1 0 u) 1 v) 4 (.pointer (some ⟨b1, 0, none⟩))) 5 (.pointer (some ⟨b20, 0, none⟩))) 20 (.int .i64 (L.length : Int))) 21 (.int .i64 (j : Int))) ∧ k = L.length - j ∧ Ext noS G w GL1 W ∧ Pin.le G GL1 ∧ (j ≤ L.length) ∧ (N2 = arN (L.take j) (R.take j)) ∧ (N2.length = 2 * j) ∧ (Own (eSl eInt) 44 GL1 W w.heap.size nv (N2)) ∧ (Own eP2 78 GL1 W w.heap.size u9 (List.replicate (2 * (L.length : Int)).toNat ((0, 0) : Int × Int))) ∧ (Bx GL1 W b1 [(.slice none 0 0), (.slice none 0 0)]) ∧ (Bx GL1 W b20 [nv, u9]) ∧ (Apart nv.ownBlock u9.ownBlock) ∧ (Apart nv.ownBlock (some b1)) ∧ (Apart nv.ownBlock (some b20))) _ ⟨_, 0, (.slice none 0 0), [], G, (zC (x := 21) (zC (x := 20) (zC (x := 5) (zC (x := 4) (zC (x := 1) (zS (x := 0) rfl) rfl) rfl) rfl) rfl) rfl), rfl, hX37, Pin.le_refl _, Nat.zero_le _, rfl, rfl, (Own.nil _ _ _ _ _), ho38, hb39, hb33, apart_none, apart_none, apart_none⟩ ?_)
 rintro k40 _ w41 ⟨env1, j, nv, N2, GL1, rfl, hk42, hX43, hlek40, hj, hN2, hNl, hw44, hw45, hw46, hw47, ha48, ha49, ha50⟩
 refine zE (zF ?_)
 refine qD rfl (yQ rfl rfl) (qe (zA (zE ?_)))
 refine yF (p := ((j : Int) : Int) < (L.length : Int)) rfl rfl (fun h51 => ?_) (fun h51 => ?_)
 have hlj := hln j (by omega)
 refine wp_skip (zA (zE ?_))
 refine zX (zE (zF ?_))
 refine qD rfl (zB (v := (.int .i64 (j : Int))) rfl) (qD rfl (zD (v := (.int .i64 (j : Int))) rfl) (qe (zA (zE (zF ?_)))))
 refine qI rfl (yR (E := eInt) (e := 3) eR sz3 hX43.pins (fun u52 w53 ho54 hp55 hl56 hk57 => ?_))
 have hX58 := hX43.step hp55 hl56
 have ho59 := hw44.below hl56
 have ho60 := hw45.below hl56
 have hb61 := hw46.below hl56
 have hb62 := hw47.below hl56
 have ha63 : Apart u52.ownBlock nv.ownBlock := zI hk57 hw44.lt
 have ha64 : Apart u52.ownBlock u9.ownBlock := zI hk57 hw45.lt
 have ha65 : Apart u52.ownBlock (some b1) := zK hk57 hw46.lt
 have ha66 : Apart u52.ownBlock (some b20) := zK hk57 hw47.lt
 have ho67 := ho54.weaken hX43.size
 refine qI rfl (yR (E := eInt) (e := 3) eR sz3 hX58.pins (fun u68 w69 ho70 hp71 hl72 hk73 => ?_))
 have hX74 := hX58.step hp71 hl72
 have ho75 := ho59.below hl72
 have ho76 := ho60.below hl72
 have ho77 := ho67.below hl72
 have hb78 := hb61.below hl72
 have hb79 := hb62.below hl72
 have ha80 : Apart u68.ownBlock nv.ownBlock := zI hk73 ho59.lt
 have ha81 : Apart u68.ownBlock u9.ownBlock := zI hk73 ho60.lt
 have ha82 : Apart u68.ownBlock u52.ownBlock := zI hk73 ho67.lt
 have ha83 : Apart u68.ownBlock (some b1) := zK hk73 hb61.lt
 have ha84 : Apart u68.ownBlock (some b20) := zK hk73 hb62.lt
 have ho85 := ho70.weaken hX58.size
 refine qD rfl (zD (v := u52) rfl) (qD rfl (zD (v := u68) rfl) (qe (zA (zE (zE (zF ?_))))))
 refine qD rfl (zB (v := u) rfl) (qD rfl (zB (v := (.int .i64 (j : Int))) rfl) (qD rfl (zL eT sz44 (v := u) rfl rfl hu (by omega) (by omega)) ?_))
 obtain ⟨u86, hr87, hl88⟩ := vR (hu.at (z := (j : Int)) (by omega) (by omega)) (j := j) rfl
 have hm89 := hr87.max
 refine qD rfl (hl88 ag44 rfl (dN hX74.pins hlek40)) (qD rfl (zP eR (v := u86) rfl hr87) (qD rfl (zB (v := (.int .i64 0)) rfl) (qe (zA ?_))))
 refine zX (yM (fun (k : Nat) (en : Nat → Value) (W : World) => ∃ (env1 : Nat → Value) (qa : Nat) (ov1 : Value) (os1 : List Int) (Gqa : Pin), en = (upd (upd (upd (upd (upd (upd (upd (upd (upd (upd (upd (upd env1 0 u) 1 v) 4 (.pointer (some ⟨b1, 0, none⟩))) 5 (.pointer (some ⟨b20, 0, none⟩))) 6 (.int .i64 (j : Int))) 7 ov1) 8 u68) 20 (.int .i64 (L.length : Int))) 21 (.int .i64 (j : Int))) 29 u86) 30 (.int .i64 ((L.getD j []).length : Int))) 31 (.int .i64 (qa : Int))) ∧ k = (L.getD j []).length - qa ∧ Ext noS G w Gqa W ∧ Pin.le GL1 Gqa ∧ (qa ≤ (L.getD j []).length) ∧ (os1 = arS 1 ((L.getD j []).take qa)) ∧ (Own eInt 3 Gqa W w.heap.size ov1 (os1)) ∧ (Own (eSl eInt) 44 Gqa W w.heap.size nv (N2)) ∧ (Own eP2 78 Gqa W w.heap.size u9 (List.replicate (2 * (L.length : Int)).toNat ((0, 0) : Int × Int))) ∧ (Own eInt 3 Gqa W w.heap.size u68 ([])) ∧ (Bx Gqa W b1 [(.slice none 0 0), (.slice none 0 0)]) ∧ (Bx Gqa W b20 [nv, u9]) ∧ (Apart ov1.ownBlock nv.ownBlock) ∧ (Apart ov1.ownBlock u9.ownBlock) ∧ (Apart ov1.ownBlock u68.ownBlock) ∧ (Apart ov1.ownBlock (some b1)) ∧ (Apart ov1.ownBlock (some b20))) _ ⟨_, 0, u52, [], GL1, (zC (x := 31) (zC (x := 30) (zC (x := 29) (zC (x := 21) (zC (x := 20) (zC (x := 8) (zC (x := 7) (zC (x := 6) (zC (x := 5) (zC (x := 4) (zC (x := 1) (zS (x := 0) rfl) rfl) rfl) rfl) rfl) rfl) rfl) rfl) rfl) rfl) rfl) rfl), rfl, hX74, Pin.le_refl _, Nat.zero_le _, rfl, ho77, ho75, ho76, ho85, hb78, hb79, ha63, ha64, ha82.symm, ha65, ha66⟩ ?_)
 rintro k90 _ w91 ⟨env1, qa, ov1, os1, Gqa, rfl, hk92, hX93, hlek90, hqa, hos1, hw94, hw95, hw96, hw97, hw98, hw99, ha100, ha101, ha102, ha103, ha104⟩
 have hos1l : os1.length ≤ (L.getD j []).length := by rw [hos1]; unfold arS; rw [List.length_map, List.length_take]; omega
 refine zE (zF ?_)
 refine qD rfl (yQ rfl rfl) (qe (zA (zE ?_)))
 refine yF (p := ((qa : Int) : Int) < ((L.getD j []).length : Int)) rfl rfl (fun h105 => ?_) (fun h105 => ?_)
 have hkqa := hbL j (by omega) _ (yX (d := (0 : Int)) (show qa < (L.getD j []).length by omega))
 refine wp_skip (zA (zE ?_))
 refine zX (zE (zF ?_))
 refine qD rfl (zL eR sz3 (v := u86) rfl rfl hr87 (by omega) (by omega)) (qD rfl (zO (r := (L.getD j []).getD qa 0) rfl ag3 (z := (qa : Int)) rfl hr87 (dN hX93.pins (dM hlek40 hlek90)) (by omega) (by omega)) (qD rfl (zD (v := (.int .i64 ((L.getD j []).getD qa 0))) rfl) (qe (zA (zF ?_)))))
 refine qD rfl (zB (v := ov1) rfl) (qD rfl (zB (v := (.int .i64 ((L.getD j []).getD qa 0))) rfl) (qD rfl (jR rfl rfl (by omega)) (qD rfl (yH rfl rfl (by omega)) (qI rfl (yL (E := eInt) (e := 3) [(.int .i64 ((2 * ((L.getD j []).getD qa 0)) + 1))] [(2 * ((L.getD j []).getD qa 0)) + 1] eR sz3 zr3 (by exact xM (by rfl)) (yO (by rfl)) rfl rfl rfl rfl (by decide) hX93.pins (fun u106 w107 ho108 hp109 hl110 hk111 => ?_))))))
 have hX112 := hX93.step hp109 hl110
 have ho113 := hw94.below hl110
 have ho114 := hw95.below hl110
 have ho115 := hw96.below hl110
 have ho116 := hw97.below hl110
 have hb117 := hw98.below hl110
 have hb118 := hw99.below hl110
 have ho125 := ho108.weaken hX93.size
 refine qI rfl (zU (E := eInt) (v := ov1) (u := u106) 8 eR ap3 (by decide) rfl rfl hX112.pins ho113 ho125.src (by first | omega | (rw [List.nil_append]; omega) | (rw [List.length_nil]; omega) | (rw [List.length_append]; omega) | (simp; done) | (simp; omega) | (simp only [List.length_cons, List.length_nil]; omega) | (simp only [List.length_append, List.length_cons, List.length_nil]; omega)) (by first | omega | (rw [List.nil_append]; omega) | (rw [List.length_nil]; omega) | (rw [List.length_append]; omega) | (simp; done) | (simp; omega) | (simp only [List.length_cons, List.length_nil]; omega) | (simp only [List.length_append, List.length_cons, List.length_nil]; omega)) (hX112.size) (fun u126 w127 ho128 hp129 hg130 hw131 => ?_))
 have hX132 := hX112.write hp129 hg130 ((yB ho113))
 have ho133 := ho114.keptA hg130 ha100.symm
 have ho134 := ho115.keptA hg130 ha101.symm
 have ho135 := ho116.keptA hg130 ha102.symm
 have hb137 := hb117.keptA hg130 ha103.symm
 have hb138 := hb118.keptA hg130 ha104.symm
 have ha139 : Apart nv.ownBlock u126.ownBlock := zH ha100.symm hw131 ho114.lt
 have ha140 : Apart u9.ownBlock u126.ownBlock := zH ha101.symm hw131 ho115.lt
 have ha141 : Apart u68.ownBlock u126.ownBlock := zH ha102.symm hw131 ho116.lt
 have ha143 : Apart (some b1) u126.ownBlock := zJ ha103.symm hw131 hb117.lt
 have ha144 : Apart (some b20) u126.ownBlock := zJ ha104.symm hw131 hb118.lt
 have hm145 := la1 os1 ((2 * ((L.getD j []).getD qa 0)) + 1)
 refine qD rfl (zD (v := u126) rfl) (qe (yC (zA (zF ?_))))
 refine qD rfl (yH rfl rfl (by omega)) (qD rfl (zB (v := (.int .i64 ((qa : Int) + 1))) rfl) (qe (yE (⟨_, ?_, _, rfl, _, qa + 1, u126, os1 ++ ([(2 * ((L.getD j []).getD qa 0)) + 1]), Gqa, (zC (x := 31) (zC (x := 30) (zC (x := 29) (zC (x := 21) (zC (x := 20) (zC (x := 8) (zC (x := 7) (zC (x := 6) (zC (x := 5) (zC (x := 4) (zC (x := 1) (zS (x := 0) rfl) rfl) rfl) rfl) rfl) rfl) rfl) rfl) rfl) rfl) rfl) rfl), rfl, hX132, hlek90, (by omega), (by rw [hos1]; exact arS_next (by omega)), ho128, ho133, ho134, ho135, hb137, hb138, ha139.symm, ha140.symm, ha141.symm, ha143.symm, ha144.symm⟩))))
 omega
 refine wp_exit (zZ (yJ (yI (zA (zE (zE (zF ?_)))))))
 refine qD rfl (zB (v := v) rfl) (qD rfl (zB (v := (.int .i64 (j : Int))) rfl) (qD rfl (zL eT sz44 (v := v) rfl rfl hv (by omega) (by omega)) ?_))
 obtain ⟨u146, hr147, hl148⟩ := vR (hv.at (z := (j : Int)) (by omega) (by omega)) (j := j) rfl
 have hm149 := hr147.max
 refine qD rfl (hl148 ag44 rfl (dN hX93.pins (dM hlek40 hlek90))) (qD rfl (zP eR (v := u146) rfl hr147) (qD rfl (zB (v := (.int .i64 0)) rfl) (qe (zA ?_))))
 refine zX (yM (fun (k : Nat) (en : Nat → Value) (W : World) => ∃ (env1 : Nat → Value) (qb : Nat) (ov2 : Value) (os2 : List Int) (Gqb : Pin), en = (upd (upd (upd (upd (upd (upd (upd (upd (upd (upd (upd env1 0 u) 1 v) 4 (.pointer (some ⟨b1, 0, none⟩))) 5 (.pointer (some ⟨b20, 0, none⟩))) 7 ov1) 8 ov2) 20 (.int .i64 (L.length : Int))) 21 (.int .i64 (j : Int))) 45 u146) 46 (.int .i64 ((R.getD j []).length : Int))) 47 (.int .i64 (qb : Int))) ∧ k = (R.getD j []).length - qb ∧ Ext noS G w Gqb W ∧ Pin.le Gqa Gqb ∧ (qb ≤ (R.getD j []).length) ∧ (os2 = arS 0 ((R.getD j []).take qb)) ∧ (Own eInt 3 Gqb W w.heap.size ov2 (os2)) ∧ (Own eInt 3 Gqb W w.heap.size ov1 (os1)) ∧ (Own (eSl eInt) 44 Gqb W w.heap.size nv (N2)) ∧ (Own eP2 78 Gqb W w.heap.size u9 (List.replicate (2 * (L.length : Int)).toNat ((0, 0) : Int × Int))) ∧ (Bx Gqb W b1 [(.slice none 0 0), (.slice none 0 0)]) ∧ (Bx Gqb W b20 [nv, u9]) ∧ (Apart ov2.ownBlock ov1.ownBlock) ∧ (Apart ov2.ownBlock nv.ownBlock) ∧ (Apart ov2.ownBlock u9.ownBlock) ∧ (Apart ov2.ownBlock (some b1)) ∧ (Apart ov2.ownBlock (some b20))) _ ⟨_, 0, u68, [], Gqa, (zC (x := 47) (zC (x := 46) (zC (x := 45) (zC (x := 21) (zC (x := 20) (zC (x := 8) (zC (x := 7) (zC (x := 5) (zC (x := 4) (zC (x := 1) (zS (x := 0) rfl) rfl) rfl) rfl) rfl) rfl) rfl) rfl) rfl) rfl) rfl), rfl, hX93, Pin.le_refl _, Nat.zero_le _, rfl, hw97, hw94, hw95, hw96, hw98, hw99, ha102.symm, ha80, ha81, ha83, ha84⟩ ?_)
 rintro k150 _ w151 ⟨env1, qb, ov2, os2, Gqb, rfl, hk152, hX153, hlek150, hqb, hos2, hw154, hw155, hw156, hw157, hw158, hw159, ha160, ha161, ha162, ha163, ha164⟩
 have hos2l : os2.length ≤ (R.getD j []).length := by rw [hos2]; unfold arS; rw [List.length_map, List.length_take]; omega
 refine zE (zF ?_)
 refine qD rfl (yQ rfl rfl) (qe (zA (zE ?_)))
 refine yF (p := ((qb : Int) : Int) < ((R.getD j []).length : Int)) rfl rfl (fun h165 => ?_) (fun h165 => ?_)
 have hkqb := hbR j (by omega) _ (yX (d := (0 : Int)) (show qb < (R.getD j []).length by omega))
 refine wp_skip (zA (zE ?_))
 refine zX (zE (zF ?_))
 refine qD rfl (zL eR sz3 (v := u146) rfl rfl hr147 (by omega) (by omega)) (qD rfl (zO (r := (R.getD j []).getD qb 0) rfl ag3 (z := (qb : Int)) rfl hr147 (dN hX153.pins (dM (dM hlek40 hlek90) hlek150)) (by omega) (by omega)) (qD rfl (zD (v := (.int .i64 ((R.getD j []).getD qb 0))) rfl) (qe (zA (zF ?_)))))
 refine qD rfl (zB (v := ov2) rfl) (qD rfl (zB (v := (.int .i64 ((R.getD j []).getD qb 0))) rfl) (qD rfl (jR rfl rfl (by omega)) (qI rfl (yL (E := eInt) (e := 3) [(.int .i64 (2 * ((R.getD j []).getD qb 0)))] [2 * ((R.getD j []).getD qb 0)] eR sz3 zr3 (by exact xM (by rfl)) (yO (by rfl)) rfl rfl rfl rfl (by decide) hX153.pins (fun u166 w167 ho168 hp169 hl170 hk171 => ?_)))))
 have hX172 := hX153.step hp169 hl170
 have ho173 := hw154.below hl170
 have ho174 := hw155.below hl170
 have ho175 := hw156.below hl170
 have ho176 := hw157.below hl170
 have hb177 := hw158.below hl170
 have hb178 := hw159.below hl170
 have ho185 := ho168.weaken hX153.size
 refine qI rfl (zU (E := eInt) (v := ov2) (u := u166) 8 eR ap3 (by decide) rfl rfl hX172.pins ho173 ho185.src (by first | omega | (rw [List.nil_append]; omega) | (rw [List.length_nil]; omega) | (rw [List.length_append]; omega) | (simp; done) | (simp; omega) | (simp only [List.length_cons, List.length_nil]; omega) | (simp only [List.length_append, List.length_cons, List.length_nil]; omega)) (by first | omega | (rw [List.nil_append]; omega) | (rw [List.length_nil]; omega) | (rw [List.length_append]; omega) | (simp; done) | (simp; omega) | (simp only [List.length_cons, List.length_nil]; omega) | (simp only [List.length_append, List.length_cons, List.length_nil]; omega)) (hX172.size) (fun u186 w187 ho188 hp189 hg190 hw191 => ?_))
 have hX192 := hX172.write hp189 hg190 ((yB ho173))
 have ho193 := ho174.keptA hg190 ha160.symm
 have ho194 := ho175.keptA hg190 ha161.symm
 have ho195 := ho176.keptA hg190 ha162.symm
 have hb197 := hb177.keptA hg190 ha163.symm
 have hb198 := hb178.keptA hg190 ha164.symm
 have ha199 : Apart ov1.ownBlock u186.ownBlock := zH ha160.symm hw191 ho174.lt
 have ha200 : Apart nv.ownBlock u186.ownBlock := zH ha161.symm hw191 ho175.lt
 have ha201 : Apart u9.ownBlock u186.ownBlock := zH ha162.symm hw191 ho176.lt
 have ha203 : Apart (some b1) u186.ownBlock := zJ ha163.symm hw191 hb177.lt
 have ha204 : Apart (some b20) u186.ownBlock := zJ ha164.symm hw191 hb178.lt
 have hm205 := la1 os2 (2 * ((R.getD j []).getD qb 0))
 refine qD rfl (zD (v := u186) rfl) (qe (yC (zA (zF ?_))))
 refine qD rfl (yH rfl rfl (by omega)) (qD rfl (zB (v := (.int .i64 ((qb : Int) + 1))) rfl) (qe (yE (⟨_, ?_, _, rfl, _, qb + 1, u186, os2 ++ ([2 * ((R.getD j []).getD qb 0)]), Gqb, (zC (x := 47) (zC (x := 46) (zC (x := 45) (zC (x := 21) (zC (x := 20) (zC (x := 8) (zC (x := 7) (zC (x := 5) (zC (x := 4) (zC (x := 1) (zS (x := 0) rfl) rfl) rfl) rfl) rfl) rfl) rfl) rfl) rfl) rfl) rfl), rfl, hX192, hlek150, (by omega), (by rw [hos2]; exact nT (by omega)), ho188, ho193, ho194, ho195, hb197, hb198, ha199.symm, ha200.symm, ha201.symm, ha203.symm, ha204.symm⟩))))
 omega
 refine wp_exit (zZ (yJ (yI (zA (zF ?_)))))
 refine qD rfl (zN (k := 0) rfl dG rfl nz29 rfl) (qD rfl (zM (u := nv) ag29 rfl (hw159.cell (o := 0) rfl)) (qD rfl (zB (v := ov1) rfl) (qD rfl (zB (v := ov2) rfl) ?_)))
 obtain ⟨G206, hle209, hX208, hr207, hf210⟩ := hw155.sealed hX153
 have ho211 := hw154.moreO hle209 hf210 ha160
 have ho212 := hw156.moreO hle209 hf210 ha100.symm
 have ho213 := hw157.moreO hle209 hf210 ha101.symm
 have hb214 := hw158.moreO hf210 ha103.symm
 have hb215 := hw159.moreO hf210 ha104.symm
 obtain ⟨G216, hle219, hX218, hr217, hf220⟩ := ho211.sealed hX208
 have ho221 := ho212.moreO hle219 hf220 ha161.symm
 have ho222 := ho213.moreO hle219 hf220 ha162.symm
 have hb223 := hb214.moreO hf220 ha163.symm
 have hb224 := hb215.moreO hf220 ha164.symm
 refine qI rfl (yL (E := (eSl eInt)) (e := 44) [ov1, ov2] [os1, os2] eT sz44 zr44 (by exact reps2 (⟨_, rfl, (hr207.mono hle219)⟩) (⟨_, rfl, hr217⟩)) (xO hr207.one hr217.one) rfl rfl rfl rfl (by decide) hX218.pins (fun u225 w226 ho227 hp228 hl229 hk230 => ?_))
 have hX231 := hX218.step hp228 hl229
 have ho232 := ho221.below hl229
 have ho233 := ho222.below hl229
 have hb234 := hb223.below hl229
 have hb235 := hb224.below hl229
 have ho240 := ho227.weaken hX218.size
 refine qI rfl (zU (E := (eSl eInt)) (v := nv) (u := u225) 24 eT ap44 (by decide) rfl rfl hX231.pins ho232 ho240.src (by first | omega | (rw [List.nil_append]; omega) | (rw [List.length_nil]; omega) | (rw [List.length_append]; omega) | (simp; done) | (simp; omega) | (simp only [List.length_cons, List.length_nil]; omega) | (simp only [List.length_append, List.length_cons, List.length_nil]; omega)) (by first | omega | (rw [List.nil_append]; omega) | (rw [List.length_nil]; omega) | (rw [List.length_append]; omega) | (simp; done) | (simp; omega) | (simp only [List.length_cons, List.length_nil]; omega) | (simp only [List.length_append, List.length_cons, List.length_nil]; omega)) (hX231.size) (fun u241 w242 ho243 hp244 hg245 hw246 => ?_))
 have hX247 := hX231.write hp244 hg245 ((yB ho232))
 have ho248 := ho233.keptA hg245 ha48.symm
 have hb250 := hb234.keptA hg245 ha49.symm
 have hb251 := hb235.keptA hg245 ha50.symm
 have ha252 : Apart u9.ownBlock u241.ownBlock := zH ha48.symm hw246 ho233.lt
 have ha254 : Apart (some b1) u241.ownBlock := zJ ha49.symm hw246 hb234.lt
 have ha255 : Apart (some b20) u241.ownBlock := zJ ha50.symm hw246 hb235.lt
 have hm256 : (N2 ++ ([os1, os2])).length = N2.length + 2 := List.length_append
 refine qD rfl (zN (k := 0) rfl dG rfl nz29 rfl) (q0 rfl rfl rfl (o_stp (cs' := [u241, u9]) (us := [u241]) (v := u241) sz29 rfl rfl (qP ho243.one) (yO ho243.one) hX247.pins hb251 (dP rfl) rfl (fun w257 hb258 hp259 hg260 hz261 => ?_)))
 have hX262 := hX247.write hp259 hg260 ((yG hlo31))
 have ho263 := ho248.keptA hg260 ha29.symm
 have ho264 := ho243.keptA hg260 ha255.symm
 have hb265 := hb250.keptA hg260 ha30.symm
 refine qe (yC (zA (zF ?_)))
 refine qD rfl (yH rfl rfl (by omega)) (qD rfl (zB (v := (.int .i64 ((j : Int) + 1))) rfl) (qe (yE (⟨_, ?_, _, rfl, _, j + 1, u241, N2 ++ ([os1, os2]), G216, (zC (x := 21) (zC (x := 20) (zC (x := 5) (zC (x := 4) (zC (x := 1) (zS (x := 0) rfl) rfl) rfl) rfl) rfl) rfl), rfl, hX262, (dM (dM (dM (dM hlek40 hlek90) hlek150) hle209) hle219), (by omega), (by rw [hos1, hos2, qA (by omega), qA (by omega), hN2]; exact arN_next hlr (by omega)), (by simp only [List.length_append, List.length_cons, List.length_nil]; omega), ho264, ho263, hb265, hb258, ha252.symm, ha254.symm, ha255.symm⟩))))
 omega
 refine wp_exit (zZ (yJ (yI (zA (zE (zE (zF ?_)))))))
 have htn : (2 * (L.length : Int)).toNat = 2 * L.length := by omega
 have hjn : j = L.length := by omega
 rw [hjn, List.take_length, hlr, List.take_length] at hN2
 obtain ⟨G266, hle269, hX268, hr267, hf270⟩ := hw44.sealed hX43
 have ho271 := hw45.moreO hle269 hf270 ha48.symm
 have hb272 := hw46.moreO hf270 ha49.symm
 have hb273 := hw47.moreO hf270 ha50.symm
 have hok := arN_ok hlr hL hR
 have hal := jJ hlr
 have hr274 : RSl (eSl eInt) G266 nv (arN L R) := by rw [← hN2]; exact hr267
 refine qD rfl (zD (v := (.int .i64 0)) rfl) (qe (zA ?_))
 refine zX (yM (fun (k : Nat) (en : Nat → Value) (W : World) => ∃ (env1 : Nat → Value) (tn : Nat) (rs : List (Int × Int)) (GL4 : Pin), en = (upd (upd (upd env1 4 (.pointer (some ⟨b1, 0, none⟩))) 5 (.pointer (some ⟨b20, 0, none⟩))) 13 (.int .i64 (tn : Int))) ∧ k = zc rs ∧ Ext noS G w GL4 W ∧ Pin.le G266 GL4 ∧ (ArI (arN L R) (tn : Int) rs) ∧ (rs.length = (arN L R).length) ∧ (zc rs + tn ≤ 2 * L.length) ∧ (Own eP2 78 GL4 W w.heap.size u9 (rs)) ∧ (Bx GL4 W b1 [(.slice none 0 0), (.slice none 0 0)]) ∧ (Bx GL4 W b20 [nv, u9])) _ ⟨_, 0, List.replicate (2 * (L.length : Int)).toNat ((0, 0) : Int × Int), G266, (zC (x := 13) (zC (x := 5) (zS (x := 4) rfl) rfl) rfl), rfl, hX268, Pin.le_refl _, (by have h := ArI.start (arN L R); rw [hal] at h; rw [htn]; exact h), (by rw [hal, htn]; simp), (by rw [htn]; exact zc_start _), ho271, hb272, hb273⟩ ?_)
 rintro k275 _ w276 ⟨env1, tn, rs, GL4, rfl, hk277, hX278, hlek275, hi, hrl, hz, hw279, hw280, hw281⟩
 refine zE (zE (zF ?_))
 refine qD rfl (yK (cs := [nv, u9]) ag74 sz74 rfl (fun j u hj => hw281.cell (by simpa using hj))) (qD rfl (zB (v := (.int .i64 (tn : Int))) rfl) (qI rfl (zR (vs := [(.agg [nv, u9].toArray), (.int .i64 (tn : Int))]) Tryz.func54 nm54 rfl rfl rfl ?_)))
 refine dO (round_spec hX278.pins (hr274.mono hlek275) (hw279.weaken (Nat.zero_le _)) hok hi hrl (by omega)) ?_
 rintro _ w285 ⟨rsn282, bv283, G284, rfl, ho286, hz287, hz288, hrn289, hx290⟩
 refine ⟨_, rfl, ?_⟩
 have hX292 := hX278.trans hx290 (fun i hi => (yB hw279) i hi)
 have hb293 := hw280.extS hx290 (jD ha17.symm)
 have hb294 := hw281.extS hx290 (jD ha29)
 have ho291 := ho286.up (lo := w.heap.size) (fun k hk => (hw279.lt k hk).1)
 refine qe (zA ?_)
 refine c_if rfl rfl (fun h295 => ?_) (fun h295 => ?_)
 refine wp_skip (zA (zE ?_))
 refine zX (wp_skip (yC (zA (zF ?_))))
 refine qD rfl (zB (v := (.int .i64 (tn : Int))) rfl) (qD rfl (yH rfl rfl (by omega)) (qD rfl (zD (v := (.int .i64 ((tn : Int) + 1))) rfl) (qe (yE (⟨_, ?_, _, rfl, _, tn + 1, rsn282, G284, (zC (x := 13) (zC (x := 5) (zS (x := 4) rfl) rfl) rfl), rfl, hX292, (dM hlek275 hx290.le), (hz288 h295).1, (hz288 h295).1.len, (by have h := (hz288 h295).2; omega), ho291, hb293, hb294⟩)))))
 have h := (hz288 h295).2; omega
 refine wp_exit (zZ (yJ (yI (zA (zE (zF ?_))))))
 refine qD rfl (yK (cs := [nv, u9]) ag74 sz74 rfl (fun j u hj => hb294.cell (by simpa using hj))) (q0 rfl rfl rfl (o_stp (cs' := [nv, u9]) (us := [nv, u9]) (v := (.agg [nv, u9].toArray)) sz74 rfl rfl rfl (xO hr274.one ho291.one) hX292.pins hb293 (dP rfl) rfl (fun w296 hb297 hp298 hg299 hz300 => ?_)))
 have hX301 := hX292.write hp298 hg299 ((yG hlo8))
 have ho302 := ho291.keptA hg299 ha17
 refine qe (zA ?_)
 refine wp_ret (zW (jI (cs := [nv, u9]) rfl rfl rfl ag74 sz74 (fun j u hj => by rw [Nat.zero_add]; exact hb297.cell hj) ?_))
 obtain ⟨G304, hle307, hX306, hr305, hf308⟩ := ho302.sealed hX301
 exact ⟨_, _, rsn282, _, rfl, (hr274.mono (dM (dM hlek275 hx290.le) hle307)), hr305, (by omega), hz287 h295, hX306⟩
end AR3
end Go.Proofs.YtdongckiecjbaaaGreatDoor
namespace Go.Proofs.YtdongckiecjbaaaGreatDoor
namespace AR4
open Go.RowKit Go.GL Go.Proofs
open B1 AR3
variable {G : Pin} {v : Value}
theorem vU {w : World} {xs : List Int} {b : Int} (hP : Pins G w) (hv : RSl eInt G v xs) :
  Calls Tryz.prog 52 [v, (.int .i64 b)].toArray w fun e w' => e = .returned (.bool (goodOpts xs b)) ∧ w' = w := by
 refine yD (n := 27) Tryz.func52 Tryz.ntmps52 rfl rfl ?_
 have hX0 := exr noS hP
 have hm := hv.max
 refine zE (zF ?_)
 refine qD rfl (zD (v := (.bool false)) rfl) (qe (zA (zE (zE (zF ?_)))))
 refine qD rfl (zB (v := v) rfl) (qD rfl (zP eR (v := v) rfl hv) (qD rfl (jC rfl rfl) (qe (zA ?_))))
 refine yF (p := (24 : Int) < (xs.length : Int)) rfl rfl (fun h1 => ?_) (fun h1 => ?_)
 refine zE (zF ?_)
 refine qD rfl (zD (v := (.bool false)) rfl) (qe (zA ?_))
 exact wp_ret (zW (zT (v := (.bool false)) rfl rfl rfl (⟨congrArg (fun z => Ending.returned (Value.bool z)) (by unfold goodOpts; rw [if_pos h1]), rfl⟩)))
 refine wp_skip (zA (zE (zF ?_)))
 refine qD rfl (zD (v := (.int .i64 (-1))) rfl) (qe (zA (zE (zE (zF ?_)))))
 refine qD rfl (zB (v := v) rfl) (qD rfl (zP eR (v := v) rfl hv) (qD rfl (zB (v := (.int .i64 0)) rfl) (qe (zA ?_))))
 refine zX (yM (fun (k : Nat) (en : Nat → Value) (W : World) => ∃ (env1 : Nat → Value) (j : Nat) (last : Int), en = (upd (upd (upd (upd (upd env1 1 (.int .i64 b)) 5 (.int .i64 last)) 11 v) 12 (.int .i64 (xs.length : Int))) 13 (.int .i64 (j : Int))) ∧ k = xs.length - j ∧ Ext noS G w G W ∧ (j ≤ xs.length) ∧ (W = w) ∧ (goodOpts xs b = goodFrom last b (xs.drop j))) _ ⟨_, 0, (-1), (zC (x := 13) (zC (x := 12) (zC (x := 11) (zC (x := 5) (zS (x := 1) rfl) rfl) rfl) rfl) rfl), rfl, hX0, Nat.zero_le _, rfl, (by unfold goodOpts; rw [if_neg h1]; rfl)⟩ ?_)
 rintro k2 _ w3 ⟨env1, j, last, rfl, hk4, hX5, hj, hw, hr⟩
 subst hw
 refine zE (zF ?_)
 refine qD rfl (yQ rfl rfl) (qe (zA (zE ?_)))
 refine yF (p := ((j : Int) : Int) < (xs.length : Int)) rfl rfl (fun h6 => ?_) (fun h6 => ?_)
 refine wp_skip (zA (zE ?_))
 refine zX (zE (zF ?_))
 refine qD rfl (zL eR sz3 (v := v) rfl rfl hv (by omega) (by omega)) (qD rfl (zO (r := xs.getD j 0) rfl ag3 (z := (j : Int)) rfl hv hX5.pins (by omega) (by omega)) (qD rfl (zD (v := (.int .i64 (xs.getD j 0))) rfl) (qe (zA (zE (zE (zF ?_)))))))
 refine qD rfl (zB (v := (.int .i64 (xs.getD j 0))) rfl) (qD rfl (zB (v := (.int .i64 last)) rfl) (qD rfl (gB rfl rfl) (qD rfl (zB (v := (.bool (decide ((xs.getD j 0 : Int) ≤ last)))) rfl) (qbd (p := (xs.getD j 0 : Int) ≤ last) (t := 20) rfl (fun h7 => ?_) (fun h7 => ?_)))))
 refine qs rfl rfl rfl rfl rfl rfl (qs rfl rfl rfl rfl rfl rfl (qs rfl rfl rfl rfl rfl rfl (qD rfl (yW (v := (.bool true)) rfl rfl) (qe (zA ?_)))))
 refine qZ rfl rfl (zE (zF ?_))
 refine qD rfl (zD (v := (.bool false)) rfl) (qe (zA ?_))
 exact wp_ret (zW (zT (v := (.bool false)) rfl rfl rfl (⟨congrArg (fun z => Ending.returned (Value.bool z)) ((hr.trans (jU (by omega) (Or.inl h7))).symm), rfl⟩)))
 refine qdg rfl rfl rfl rfl rfl rfl (zB (v := (.int .i64 (xs.getD j 0))) rfl) (qdg rfl rfl rfl rfl rfl rfl (zB (v := (.int .i64 b)) rfl) (qdg rfl rfl rfl rfl rfl rfl (kP rfl rfl) (qD rfl (yS (v := (.bool (decide ((b : Int) ≤ (xs.getD j 0))))) rfl rfl) (qe (zA ?_)))))
 refine yF (p := (b : Int) ≤ (xs.getD j 0)) rfl rfl (fun h8 => ?_) (fun h8 => ?_)
 refine zE (zF ?_)
 refine qD rfl (zD (v := (.bool false)) rfl) (qe (zA ?_))
 exact wp_ret (zW (zT (v := (.bool false)) rfl rfl rfl (⟨congrArg (fun z => Ending.returned (Value.bool z)) ((hr.trans (jU (by omega) (Or.inr h8))).symm), rfl⟩)))
 refine wp_skip (zA (zF ?_))
 refine qD rfl (zB (v := (.int .i64 (xs.getD j 0))) rfl) (qD rfl (zD (v := (.int .i64 (xs.getD j 0))) rfl) (qe (yC (zA (zF ?_)))))
 refine qD rfl (yH rfl rfl (by omega)) (qD rfl (zB (v := (.int .i64 ((j : Int) + 1))) rfl) (qe (yE (⟨_, ?_, _, rfl, _, j + 1, xs.getD j 0, (zC (x := 13) (zC (x := 12) (zC (x := 11) (zC (x := 5) (zS (x := 1) rfl) rfl) rfl) rfl) rfl), rfl, hX5, (by omega), rfl, (hr.trans (fL (by omega) h7 h8))⟩))))
 omega
 refine wp_exit (zZ (yJ (yI (zA (zE (zF ?_))))))
 refine qD rfl (zD (v := (.bool true)) rfl) (qe (zA ?_))
 exact wp_ret (zW (zT (v := (.bool true)) rfl rfl rfl (⟨congrArg (fun z => Ending.returned (Value.bool z)) ((hr.trans (gK (by omega))).symm), rfl⟩)))
theorem mT {w : World} {u : Value} {L R : List (List Int)} (hP : Pins G w) (hu : RSl (eSl eInt) G u L) (hv : RSl (eSl eInt) G v R) (hg : LgP L R) :
  Calls Tryz.prog 37 [(.agg [u, v].toArray)].toArray w fun e w' => ∃ G', e = .returned (.bool true) ∧ Ext noS G w G' w' := by
 refine yD (n := 44) Tryz.func37 Tryz.ntmps37 rfl rfl ?_
 have hX0 := exr noS hP
 have hmu := hu.max
 have hmv := hv.max
 have hglo := hg.lo
 have hghi := hg.hi
 have hgle := hg.len
 refine zE (zF ?_)
 refine qI rfl (xY [u, v] (v := (.agg [u, v].toArray)) rfl rfl hX0.pins (fun b1 w2 hk3 hb4 hp5 hl6 => ?_))
 have hX7 := hX0.step hp5 hl6
 have hlo8 : w.heap.size ≤ b1 := by have := hX0.size; omega
 obtain ⟨G9, hle10, hX11, hbp12, hf13⟩ := hb4.shut hX7 hlo8
 refine qD rfl (zD (v := (.bool false)) rfl) (qe (zA (zE (zF ?_))))
 refine qD rfl (zN (k := 0) rfl eW rfl nz29 rfl) (qD rfl (zM (u := u) ag29 rfl (hX11.pins _ _ _ (hbp12 0 _ rfl))) (qD rfl (zP eT (v := u) rfl hu) (qD rfl (zD (v := (.int .i64 (L.length : Int))) rfl) (qe (zA (zE (zE (zF ?_))))))))
 refine qD rfl (zB (v := (.int .i64 (L.length : Int))) rfl) (qD rfl (yQ rfl rfl) (qD rfl (zB (v := (.bool (decide (((L.length : Int) : Int) < 1)))) rfl) (qbd (p := ((L.length : Int) : Int) < 1) (t := 10) rfl (fun h14 => ?_) (fun h14 => ?_))))
 refine qs rfl rfl rfl rfl rfl rfl (qs rfl rfl rfl rfl rfl rfl (qD rfl (yW (v := (.bool true)) rfl rfl) (qD rfl (zB (v := (.bool true)) rfl) (qs rfl rfl rfl rfl rfl rfl (qs rfl rfl rfl rfl rfl rfl (qs rfl rfl rfl rfl rfl rfl (qs rfl rfl rfl rfl rfl rfl (qs rfl rfl rfl rfl rfl rfl (qD rfl (yW (v := (.bool true)) rfl rfl) (qe (zA ?_)))))))))))
 refine qZ rfl rfl (zE (zF ?_))
 refine qD rfl (zD (v := (.bool false)) rfl) (qe (zA ?_))
 refine wp_ret (zW (zT (v := (.bool false)) rfl rfl rfl ?_))
 exfalso; omega
 refine qdg rfl rfl rfl rfl rfl rfl (zB (v := (.int .i64 (L.length : Int))) rfl) (qdg rfl rfl rfl rfl rfl rfl (jC rfl rfl) (qD rfl (yS (v := (.bool (decide ((36 : Int) < (L.length : Int))))) rfl rfl) (qD rfl (zB (v := (.bool (decide ((36 : Int) < (L.length : Int))))) rfl) (qbd (p := (36 : Int) < (L.length : Int)) (t := 14) rfl (fun h15 => ?_) (fun h15 => ?_)))))
 refine qs rfl rfl rfl rfl rfl rfl (qs rfl rfl rfl rfl rfl rfl (qs rfl rfl rfl rfl rfl rfl (qs rfl rfl rfl rfl rfl rfl (qs rfl rfl rfl rfl rfl rfl (qD rfl (yW (v := (.bool true)) rfl rfl) (qe (zA ?_)))))))
 refine qZ rfl rfl (zE (zF ?_))
 refine qD rfl (zD (v := (.bool false)) rfl) (qe (zA ?_))
 refine wp_ret (zW (zT (v := (.bool false)) rfl rfl rfl ?_))
 exfalso; omega
 refine qdg rfl rfl rfl rfl rfl rfl (zN (k := 1) rfl eW rfl nz29 rfl) (qdg rfl rfl rfl rfl rfl rfl (zM (u := v) ag29 rfl (hX11.pins _ _ _ (hbp12 1 _ rfl))) (qdg rfl rfl rfl rfl rfl rfl (zP eT (v := v) rfl hv) (qdg rfl rfl rfl rfl rfl rfl (zB (v := (.int .i64 (L.length : Int))) rfl) (qdg rfl rfl rfl rfl rfl rfl (jY rfl rfl) (qD rfl (yS (v := (.bool (decide (((R.length : Int) : Int) ≠ (L.length : Int))))) rfl rfl) (qe (zA ?_)))))))
 refine yF (p := ((R.length : Int) : Int) ≠ (L.length : Int)) rfl rfl (fun h16 => ?_) (fun h16 => ?_)
 refine zE (zF ?_)
 refine qD rfl (zD (v := (.bool false)) rfl) (qe (zA ?_))
 refine wp_ret (zW (zT (v := (.bool false)) rfl rfl rfl ?_))
 exfalso; omega
 refine wp_skip (zA (zE (zE (zF ?_))))
 refine qD rfl (zB (v := (.int .i64 (L.length : Int))) rfl) (qD rfl (zB (v := (.int .i64 0)) rfl) (qe (zA ?_)))
 refine zX (yM (fun (k : Nat) (en : Nat → Value) (W : World) => ∃ (env1 : Nat → Value) (j : Nat) (GL1 : Pin), en = (upd (upd (upd (upd env1 1 (.pointer (some ⟨b1, 0, none⟩))) 3 (.int .i64 (L.length : Int))) 21 (.int .i64 (L.length : Int))) 22 (.int .i64 (j : Int))) ∧ k = L.length - j ∧ Ext noS G w GL1 W ∧ Pin.le G9 GL1 ∧ (j ≤ L.length)) _ ⟨_, 0, G9, (zC (x := 22) (zC (x := 21) (zC (x := 3) (zS (x := 1) rfl) rfl) rfl) rfl), rfl, hX11, Pin.le_refl _, Nat.zero_le _⟩ ?_)
 rintro k17 _ w18 ⟨env1, j, GL1, rfl, hk19, hX20, hlek17, hj⟩
 refine zE (zF ?_)
 refine qD rfl (yQ rfl rfl) (qe (zA (zE ?_)))
 refine yF (p := ((j : Int) : Int) < (L.length : Int)) rfl rfl (fun h21 => ?_) (fun h21 => ?_)
 refine wp_skip (zA (zE ?_))
 refine zX (zE (zF ?_))
 refine qD rfl (zB (v := (.int .i64 (j : Int))) rfl) (qD rfl (zD (v := (.int .i64 (j : Int))) rfl) (qe (zA (zE (zF ?_)))))
 refine qD rfl (zN (k := 0) rfl eW rfl nz29 rfl) (qD rfl (zM (u := u) ag29 rfl ((dN hX20.pins hlek17) _ _ _ (hbp12 0 _ rfl))) (qD rfl (zB (v := (.int .i64 (j : Int))) rfl) (qD rfl (zL eT sz44 (v := u) rfl rfl hu (by omega) (by omega)) ?_)))
 obtain ⟨u22, hr23, hl24⟩ := vR (hu.at (z := (j : Int)) (by omega) (by omega)) (j := j) rfl
 have hm25 := hr23.max
 refine qD rfl (hl24 ag44 rfl (dN hX20.pins (dM hle10 hlek17))) (qD rfl (zB (v := (.int .i64 (L.length : Int))) rfl) (qI rfl (zR (vs := [u22, (.int .i64 (L.length : Int))]) Tryz.func52 nm52 rfl rfl rfl ?_)))
 refine dO (vU hX20.pins (hr23.mono (dM hle10 hlek17))) ?_
 rintro _ _ ⟨rfl, rfl⟩
 refine ⟨_, rfl, ?_⟩
 refine qD rfl (qE rfl) (qD rfl (zB (v := (.bool (!(goodOpts (L.getD j []) (L.length : Int))))) rfl) (qbn (t := 33) rfl (fun h26 => ?_) (fun h26 => ?_)))
 refine qdg rfl rfl rfl rfl rfl rfl (zN (k := 1) rfl eW rfl nz29 rfl) (qdg rfl rfl rfl rfl rfl rfl (zM (u := v) ag29 rfl ((dN hX20.pins hlek17) _ _ _ (hbp12 1 _ rfl))) (qdg rfl rfl rfl rfl rfl rfl (zB (v := (.int .i64 (j : Int))) rfl) (qdg rfl rfl rfl rfl rfl rfl (zL eT sz44 (v := v) rfl rfl hv (by omega) (by omega)) ?_)))
 obtain ⟨u27, hr28, hl29⟩ := vR (hv.at (z := (j : Int)) (by omega) (by omega)) (j := j) rfl
 have hm30 := hr28.max
 refine qdg rfl rfl rfl rfl rfl rfl (hl29 ag44 rfl (dN hX20.pins (dM hle10 hlek17))) (qdg rfl rfl rfl rfl rfl rfl (zB (v := (.int .i64 (L.length : Int))) rfl) (q1g rfl rfl rfl rfl rfl rfl (zR (vs := [u27, (.int .i64 (L.length : Int))]) Tryz.func52 nm52 rfl rfl rfl ?_)))
 refine dO (vU hX20.pins (hr28.mono (dM hle10 hlek17))) ?_
 rintro _ _ ⟨rfl, rfl⟩
 refine ⟨_, rfl, ?_⟩
 refine qdg rfl rfl rfl rfl rfl rfl (qE rfl) (qD rfl (yS (v := (.bool (!(goodOpts (R.getD j []) (L.length : Int))))) rfl rfl) (qe (zA ?_)))
 refine gO rfl rfl (fun h31 => ?_) (fun h31 => ?_)
 refine wp_skip (yC (zA (zF ?_)))
 refine qD rfl (yH rfl rfl (by omega)) (qD rfl (zB (v := (.int .i64 ((j : Int) + 1))) rfl) (qe (yE (⟨_, ?_, _, rfl, _, j + 1, GL1, (zC (x := 22) (zC (x := 21) (zC (x := 3) (zS (x := 1) rfl) rfl) rfl) rfl), rfl, hX20, hlek17, (by omega)⟩))))
 omega
 refine zE (zF ?_)
 refine qD rfl (zD (v := (.bool false)) rfl) (qe (zA ?_))
 refine wp_ret (zW (zT (v := (.bool false)) rfl rfl rfl ?_))
 have hgk := hg.ok j (by omega)
 first | (rw [hgk.1] at h31; cases h31) | (rw [hgk.2] at h31; cases h31)
 refine qs rfl rfl rfl rfl rfl rfl (qs rfl rfl rfl rfl rfl rfl (qs rfl rfl rfl rfl rfl rfl (qs rfl rfl rfl rfl rfl rfl (qs rfl rfl rfl rfl rfl rfl (qs rfl rfl rfl rfl rfl rfl (qs rfl rfl rfl rfl rfl rfl (qs rfl rfl rfl rfl rfl rfl (qD rfl (yW (v := (.bool true)) rfl rfl) (qe (zA ?_))))))))))
 refine qZ rfl rfl (zE (zF ?_))
 refine qD rfl (zD (v := (.bool false)) rfl) (qe (zA ?_))
 refine wp_ret (zW (zT (v := (.bool false)) rfl rfl rfl ?_))
 have hgk := hg.ok j (by omega)
 first | (rw [hgk.1] at h26; cases h26) | (rw [hgk.2] at h26; cases h26)
 refine wp_exit (zZ (yJ (yI (zA (zE (zF ?_))))))
 refine qD rfl (zD (v := (.bool true)) rfl) (qe (zA ?_))
 exact wp_ret (zW (zT (v := (.bool true)) rfl rfl rfl (⟨_, rfl, hX20⟩)))
theorem jS {w : World} {z : Int} {lf : Bool} (hP : Pins G w) (hz : 0 ≤ z ∧ z ≤ 1048576) :
  Calls Tryz.prog 41 [(.int .i64 z), (.bool lf)].toArray w fun e w' => e = .returned (.int .i64 (stZ z lf)) ∧ w' = w := by
 refine yD (n := 11) Tryz.func41 Tryz.ntmps41 rfl rfl ?_
 have hX0 := exr noS hP
 refine zE (zF ?_)
 refine qD rfl (zD (v := (.int .i64 0)) rfl) (qe (zA (zE (zE (zF ?_)))))
 refine qD rfl (zB (v := (.bool lf)) rfl) (qe (zA ?_))
 refine c_if rfl rfl (fun h1 => ?_) (fun h1 => ?_)
 refine zE (zF ?_)
 refine qD rfl (zB (v := (.int .i64 z)) rfl) (qD rfl (jR rfl rfl (by omega)) (qD rfl (zD (v := (.int .i64 (2 * z))) rfl) (qe (zA ?_))))
 refine wp_ret (zW (zT (v := (.int .i64 (2 * z))) rfl rfl rfl ?_))
 unfold stZ
 rw [h1]
 exact ⟨rfl, rfl⟩
 refine wp_skip (zA (zE (zF ?_)))
 refine qD rfl (zB (v := (.int .i64 z)) rfl) (qD rfl (jR rfl rfl (by omega)) (qD rfl (yH rfl rfl (by omega)) (qD rfl (zD (v := (.int .i64 ((2 * z) + 1))) rfl) (qe (zA ?_)))))
 refine wp_ret (zW (zT (v := (.int .i64 ((2 * z) + 1))) rfl rfl rfl ?_))
 unfold stZ
 rw [h1]
 exact ⟨rfl, rfl⟩
end AR4
end Go.Proofs.YtdongckiecjbaaaGreatDoor
namespace Go.Proofs.YtdongckiecjbaaaGreatDoor
namespace AR5
open Go.RowKit Go.GL Go.Proofs
open B1
def VisC (m : Nat) (N : List (List Int)) (bp bn bv bt : Nat) (pv nv tv : Value) : Prop := ∀ {w : World} {G : Pin} {s : Nat} {z : Int} {ps ts : List Int}, z = (s : Int) → Pins G w → RSl (eSl eInt) G nv N → PinB G bp [pv] → PinB G bn [nv] → PinB G bv [(.func (.func 53) #[] #[.pointer (some ⟨bp, 0, none⟩), .pointer (some ⟨bn, 0, none⟩), .pointer (some ⟨bv, 0, none⟩), .pointer (some ⟨bt, 0, none⟩)])] → PinB G bt [tv] → Own eInt 3 G w 0 pv ps → Own eInt 3 G w 0 tv ts → Apart pv.ownBlock tv.ownBlock → ArOk N → ps.length = N.length → ts.length = N.length → N.length ≤ 1048576 → s < N.length → PhV ps → TuV ts → PhB ps (s / 2) → s / 2 < m → Calls Tryz.prog 53 [(.int .i64 z), (.pointer (some ⟨bp, 0, none⟩)), (.pointer (some ⟨bn, 0, none⟩)), (.pointer (some ⟨bv, 0, none⟩)), (.pointer (some ⟨bt, 0, none⟩))].toArray w fun e w' => ∃ (ps' ts' : List Int) (G' : Pin), e = .returned (.bool true) ∧ Own eInt 3 G' w' 0 pv ps' ∧ Own eInt 3 G' w' 0 tv ts' ∧ PhV ps' ∧ TuV ts' ∧ PhLe ps ps' ∧ ts'.length = ts.length ∧ Ext (inV [pv, tv]) G w G' w'
theorem visit_step {w : World} {G : Pin} {m s : Nat} {bp bn bv bt : Nat} {pv nv tv : Value} {ps ts : List Int} {N : List (List Int)} (hP : Pins G w) (hu : RSl (eSl eInt) G nv N) (hbp : PinB G bp [pv]) (hbn : PinB G bn [nv]) (hbv : PinB G bv [(.func (.func 53) #[] #[.pointer (some ⟨bp, 0, none⟩), .pointer (some ⟨bn, 0, none⟩), .pointer (some ⟨bv, 0, none⟩), .pointer (some ⟨bt, 0, none⟩)])]) (hbt : PinB G bt [tv]) (hp : Own eInt 3 G w 0 pv ps) (ht : Own eInt 3 G w 0 tv ts) (hap : Apart pv.ownBlock tv.ownBlock) (hok : ArOk N) (hpl : ps.length = N.length) (htl : ts.length = N.length) (hNl : N.length ≤ 1048576) (hs : s < N.length) (hpv : PhV ps) (htv : TuV ts) (hpb : PhB ps (s / 2)) (ih : VisC m N bp bn bv bt pv nv tv) (hm : s / 2 < m + 1) :
  Calls Tryz.prog 53 [(.int .i64 (s : Int)), (.pointer (some ⟨bp, 0, none⟩)), (.pointer (some ⟨bn, 0, none⟩)), (.pointer (some ⟨bv, 0, none⟩)), (.pointer (some ⟨bt, 0, none⟩))].toArray w fun e w' => ∃ (ps' ts' : List Int) (G' : Pin), e = .returned (.bool true) ∧ Own eInt 3 G' w' 0 pv ps' ∧ Own eInt 3 G' w' 0 tv ts' ∧ PhV ps' ∧ TuV ts' ∧ PhLe ps ps' ∧ ts'.length = ts.length ∧ Ext (inV [pv, tv]) G w G' w' := by
 refine yD (n := 56) Tryz.func53 Tryz.ntmps53 rfl rfl ?_
 have hX0 := exr (inV [pv, tv]) hP
 have hlopv : Lo w (inV [pv, tv]) pv.ownBlock := fun k hk => Or.inr ⟨pv, by simp, hk⟩
 have hlotv : Lo w (inV [pv, tv]) tv.ownBlock := fun k hk => Or.inr ⟨tv, by simp, hk⟩
 have hmu := hu.max
 refine zE (zF ?_)
 refine qD rfl (zD (v := (.bool false)) rfl) (qe (zA (zE (zF ?_))))
 refine qD rfl (zM (u := pv) ag44 rfl (hX0.pins _ _ _ (hbp 0 _ rfl))) (qD rfl (zB (v := (.int .i64 (s : Int))) rfl) (qD rfl (zL eR sz3 (v := pv) rfl rfl hp.read (by omega) (by omega)) (q0 rfl rfl rfl (jP (E := eInt) (v := pv) (u := (.int .i64 1)) (z := (s : Int)) (1) sz3 rfl rfl rfl rfl hX0.pins hp (by omega) (by omega) (fun w1 ho2 hp3 hg4 hz5 => ?_)))))
 have hX6 := hX0.write hp3 hg4 (hlopv)
 have ho7 := ht.keptA hg4 hap.symm
 have ho8 : Own eInt 3 G w1 0 pv ((ps).set s 1) := ho2
 have hm9 : ((ps).set s 1).length = ps.length := List.length_set ..
 refine qe (zA (zE (zE (zF ?_))))
 refine qD rfl (zM (u := nv) ag29 rfl (hX6.pins _ _ _ (hbn 0 _ rfl))) (qD rfl (zB (v := (.int .i64 (s : Int))) rfl) (qD rfl (zL eT sz44 (v := nv) rfl rfl hu (by omega) (by omega)) ?_))
 obtain ⟨u10, hr11, hl12⟩ := vR (hu.at (z := (s : Int)) (by omega) (by omega)) (j := s) rfl
 have hm13 := hr11.max
 refine qD rfl (hl12 ag44 rfl hX6.pins) (qD rfl (zP eR (v := u10) rfl hr11) (qD rfl (zB (v := (.int .i64 0)) rfl) (qe (zA ?_))))
 refine zX (yM (fun (k : Nat) (en : Nat → Value) (W : World) => ∃ (env1 : Nat → Value) (j : Nat) (ps2 : List Int) (ts2 : List Int) (GL1 : Pin), en = (upd (upd (upd (upd (upd (upd (upd env1 0 (.int .i64 (s : Int))) 1 (.pointer (some ⟨bp, 0, none⟩))) 3 (.pointer (some ⟨bv, 0, none⟩))) 4 (.pointer (some ⟨bt, 0, none⟩))) 15 u10) 16 (.int .i64 ((N.getD s []).length : Int))) 17 (.int .i64 (j : Int))) ∧ k = (N.getD s []).length - j ∧ Ext (inV [pv, tv]) G w GL1 W ∧ Pin.le G GL1 ∧ (j ≤ (N.getD s []).length) ∧ (PhV ps2) ∧ (PhX ps2 s) ∧ (PhLe (ps.set s 1) ps2) ∧ (TuV ts2) ∧ (ps2.length = N.length) ∧ (ts2.length = N.length) ∧ (Own eInt 3 GL1 W 0 pv (ps2)) ∧ (Own eInt 3 GL1 W 0 tv (ts2))) _ ⟨_, 0, (ps).set s 1, ts, G, (zC (x := 17) (zC (x := 16) (zC (x := 15) (zC (x := 4) (zC (x := 3) (zC (x := 1) (zS (x := 0) rfl) rfl) rfl) rfl) rfl) rfl) rfl), rfl, hX6, Pin.le_refl _, Nat.zero_le _, (hpv.set (Or.inl rfl) (by omega)), (hpb.mark (by omega)), (PhLe.refl _), htv, (by rw [List.length_set]; exact hpl), htl, ho8, ho7⟩ ?_)
 rintro k14 _ w15 ⟨env1, j, ps2, ts2, GL1, rfl, hk16, hX17, hlek14, hj, hV, hX, hL, hT, hp2, ht2, hw18, hw19⟩
 refine zE (zF ?_)
 refine qD rfl (yQ rfl rfl) (qe (zA (zE ?_)))
 refine yF (p := ((j : Int) : Int) < ((N.getD s []).length : Int)) rfl rfl (fun h20 => ?_) (fun h20 => ?_)
 have hki := hok s hs _ (yX (d := (0 : Int)) (show j < (N.getD s []).length by omega))
 have hvk := hV ((N.getD s []).getD j 0).toNat (by omega)
 refine wp_skip (zA (zE ?_))
 refine zX (zE (zF ?_))
 refine qD rfl (zL eR sz3 (v := u10) rfl rfl hr11 (by omega) (by omega)) (qD rfl (zO (r := (N.getD s []).getD j 0) rfl ag3 (z := (j : Int)) rfl hr11 (dN hX17.pins hlek14) (by omega) (by omega)) (qD rfl (zD (v := (.int .i64 ((N.getD s []).getD j 0))) rfl) (qe (zA (zE (zE (zF ?_)))))))
 refine qD rfl (zM (u := pv) ag44 rfl ((dN hX17.pins hlek14) _ _ _ (hbp 0 _ rfl))) (qD rfl (zB (v := (.int .i64 ((N.getD s []).getD j 0))) rfl) (qD rfl (zL eR sz3 (v := pv) rfl rfl hw18.read (by omega) (by omega)) (qD rfl (zO (r := ps2.getD ((N.getD s []).getD j 0).toNat 0) rfl ag3 (z := ((N.getD s []).getD j 0)) rfl hw18.read (Gadd.pins hX17.pins pv) (by omega) (by omega)) (qD rfl (jN rfl rfl) (qD rfl (zB (v := (.bool (decide ((ps2.getD ((N.getD s []).getD j 0).toNat 0 : Int) = 1)))) rfl) (qbd (p := (ps2.getD ((N.getD s []).getD j 0).toNat 0 : Int) = 1) (t := 26) rfl (fun h21 => ?_) (fun h21 => ?_)))))))
 refine qs rfl rfl rfl rfl rfl rfl (qs rfl rfl rfl rfl rfl rfl (qs rfl rfl rfl rfl rfl rfl (qs rfl rfl rfl rfl rfl rfl (qs rfl rfl rfl rfl rfl rfl (qs rfl rfl rfl rfl rfl rfl (qsu rfl rfl rfl rfl rfl (qsu rfl rfl rfl rfl rfl (qsu rfl rfl rfl rfl rfl (qsu rfl rfl rfl rfl rfl (qs rfl rfl rfl rfl rfl rfl (qD rfl (yW (v := (.bool true)) rfl rfl) (qe (zA ?_)))))))))))))
 refine qZ rfl rfl (zE (zF ?_))
 refine qD rfl (zD (v := (.bool false)) rfl) (qe (zA ?_))
 refine wp_ret (zW (zT (v := (.bool false)) rfl rfl rfl ?_))
 exfalso
 have hx9 := hX _ (by omega) h21
 omega
 refine qdg rfl rfl rfl rfl rfl rfl (zM (u := pv) ag44 rfl ((dN hX17.pins hlek14) _ _ _ (hbp 0 _ rfl))) (qdg rfl rfl rfl rfl rfl rfl (zB (v := (.int .i64 ((N.getD s []).getD j 0))) rfl) (qdg rfl rfl rfl rfl rfl rfl (zL eR sz3 (v := pv) rfl rfl hw18.read (by omega) (by omega)) (qdg rfl rfl rfl rfl rfl rfl (zO (r := ps2.getD ((N.getD s []).getD j 0).toNat 0) rfl ag3 (z := ((N.getD s []).getD j 0)) rfl hw18.read (Gadd.pins hX17.pins pv) (by omega) (by omega)) (qdg rfl rfl rfl rfl rfl rfl (jN rfl rfl) (qdg rfl rfl rfl rfl rfl rfl (zB (v := (.bool (decide ((ps2.getD ((N.getD s []).getD j 0).toNat 0 : Int) = 0)))) rfl) (qbd (p := (ps2.getD ((N.getD s []).getD j 0).toNat 0 : Int) = 0) (t := 32) rfl (fun h22 => ?_) (fun h22 => ?_)))))))
 refine qdg rfl rfl rfl rfl rfl rfl (zM (u := (.func (.func 53) #[] #[(.pointer (some ⟨bp, 0, none⟩)), (.pointer (some ⟨bn, 0, none⟩)), (.pointer (some ⟨bv, 0, none⟩)), (.pointer (some ⟨bt, 0, none⟩))])) ag41 rfl ((dN hX17.pins hlek14) _ _ _ (hbv 0 _ rfl))) (qdg rfl rfl rfl rfl rfl rfl (zB (v := (.int .i64 ((N.getD s []).getD j 0))) rfl) (q1g rfl rfl rfl rfl rfl rfl (o_callc (cs := [(.pointer (some ⟨bp, 0, none⟩)), (.pointer (some ⟨bn, 0, none⟩)), (.pointer (some ⟨bv, 0, none⟩)), (.pointer (some ⟨bt, 0, none⟩))]) (vs := [(.int .i64 ((N.getD s []).getD j 0))]) Tryz.func53 nm53 rfl rfl rfl ?_)))
 refine dO (ih (s := ((N.getD s []).getD j 0).toNat) (z := ((N.getD s []).getD j 0)) (by omega) hX17.pins (hu.mono hlek14) (PinB.mono hbp hlek14) (PinB.mono hbn hlek14) (PinB.mono hbv hlek14) (PinB.mono hbt hlek14) hw18 hw19 hap hok (by omega) (by omega) hNl (by omega) hV hT (hX.next (by omega)) (by omega)) ?_
 rintro _ w26 ⟨psn23, tsn24, G25, rfl, ho27, ho28, hv29, hv30, hv31, hv32, hx33⟩
 refine ⟨_, rfl, ?_⟩
 have hX34 := hX17.trans hx33 (fun k hk => Or.inr hk)
 refine qdg rfl rfl rfl rfl rfl rfl (qE rfl) (qdg rfl rfl rfl rfl rfl rfl (yW (v := (.bool false)) rfl rfl) (qD rfl (yS (v := (.bool false)) rfl rfl) (qe (zA ?_))))
 refine qQ rfl rfl (wp_skip (zA ?_))
 have htk := hv30 ((N.getD s []).getD j 0).toNat (by omega)
 have hq35 := Gadd.pins hX34.pins tv
 have hr36 := ho28.read
 refine yZ (S := fun wz => Pins G25 wz ∧ Pins (Gadd G25 w26 tv) wz) (last := 13) (by kernel_rfl) rfl ?_
 have hl37 := bdr w26
 have hp38 := hX34.pins.below hl37
 have hX39 := hX34.step hp38 hl37
 have ho40 := ho27.below hl37
 have ho41 := ho28.below hl37
 have hq42 := hq35.below hl37
 refine dT (i := 0) rfl rfl (by kernel_rfl) (fun _ hS => zM (u := tv) ag44 rfl ((dN hS.1 (dM hlek14 hx33.le)) _ _ _ (hbt 0 _ rfl))) ⟨hX39.pins, hq42⟩ ?_
 refine dT (i := 1) rfl rfl (by kernel_rfl) (fun _ _ => zB (v := (.int .i64 (s : Int))) rfl) ⟨hX39.pins, hq42⟩ ?_
 refine dT (i := 2) rfl rfl (by kernel_rfl) (fun _ hS => zM (u := tv) ag44 rfl ((dN hS.1 (dM hlek14 hx33.le)) _ _ _ (hbt 0 _ rfl))) ⟨hX39.pins, hq42⟩ ?_
 refine dT (i := 3) rfl rfl (by kernel_rfl) (fun _ _ => zB (v := (.int .i64 (s : Int))) rfl) ⟨hX39.pins, hq42⟩ ?_
 refine dT (i := 4) rfl rfl (by kernel_rfl) (fun _ _ => zL eR sz3 (v := tv) rfl rfl hr36 (by omega) (by omega)) ⟨hX39.pins, hq42⟩ ?_
 refine dT (i := 5) rfl rfl (by kernel_rfl) (fun _ hS => zO (r := tsn24.getD s 0) rfl ag3 (z := (s : Int)) rfl hr36 hS.2 (by omega) (by omega)) ⟨hX39.pins, hq42⟩ ?_
 refine dT (i := 6) rfl rfl (by kernel_rfl) (fun _ hS => zM (u := tv) ag44 rfl ((dN hS.1 (dM hlek14 hx33.le)) _ _ _ (hbt 0 _ rfl))) ⟨hX39.pins, hq42⟩ ?_
 refine dT (i := 7) rfl rfl (by kernel_rfl) (fun _ _ => zB (v := (.int .i64 ((N.getD s []).getD j 0))) rfl) ⟨hX39.pins, hq42⟩ ?_
 refine dT (i := 8) rfl rfl (by kernel_rfl) (fun _ _ => zL eR sz3 (v := tv) rfl rfl hr36 (by omega) (by omega)) ⟨hX39.pins, hq42⟩ ?_
 refine dT (i := 9) rfl rfl (by kernel_rfl) (fun _ hS => zO (r := tsn24.getD ((N.getD s []).getD j 0).toNat 0) rfl ag3 (z := ((N.getD s []).getD j 0)) rfl hr36 hS.2 (by omega) (by omega)) ⟨hX39.pins, hq42⟩ ?_
 refine dT (i := 10) rfl rfl (by kernel_rfl) (fun _ _ => yH rfl rfl (by omega)) ⟨hX39.pins, hq42⟩ ?_
 refine dT (i := 11) rfl rfl (by kernel_rfl) (fun _ _ => nC rfl rfl) ⟨hX39.pins, hq42⟩ ?_
 refine dT (i := 12) rfl rfl (by kernel_rfl) (fun _ _ => zL eR sz3 (v := tv) rfl rfl hr36 (by omega) (by omega)) ⟨hX39.pins, hq42⟩ ?_
 refine zQ (i := 13) (by kernel_rfl) (xX (i := 13) rfl rfl rfl (zG rfl _) (jP (E := eInt) (v := tv) (u := (.int .i64 (max (tsn24.getD s 0) ((tsn24.getD ((N.getD s []).getD j 0).toNat 0) + 1)))) (z := (s : Int)) (max (tsn24.getD s 0) ((tsn24.getD ((N.getD s []).getD j 0).toNat 0) + 1)) sz3 rfl rfl rfl rfl hX39.pins ho41 (by omega) (by omega) (fun w43 ho44 hp45 hg46 hz47 => ?_)))
 have hX48 := hX39.write hp45 hg46 (hlotv)
 have ho49 := ho40.keptA hg46 hap
 have ho50 : Own eInt 3 G25 w43 0 tv ((tsn24).set s (max (tsn24.getD s 0) ((tsn24.getD ((N.getD s []).getD j 0).toNat 0) + 1))) := ho44
 have hm51 : ((tsn24).set s (max (tsn24.getD s 0) ((tsn24.getD ((N.getD s []).getD j 0).toNat 0) + 1))).length = tsn24.length := List.length_set ..
 refine ⟨fun h => absurd rfl h, ?_⟩
 refine yP (by kernel_rfl) (yC (zA (zF ?_)))
 refine qD rfl (yH rfl rfl (by omega)) (qD rfl (zB (v := (.int .i64 ((j : Int) + 1))) rfl) (qe (yE (⟨_, ?_, _, rfl, _, j + 1, psn23, (tsn24).set s (max (tsn24.getD s 0) ((tsn24.getD ((N.getD s []).getD j 0).toNat 0) + 1)), G25, (zC (x := 17) (zC (x := 16) (zC (x := 15) (zC (x := 4) (zC (x := 3) (zC (x := 1) (zS (x := 0) rfl) rfl) rfl) rfl) rfl) rfl) rfl), rfl, hX48, (dM hlek14 hx33.le), (by omega), hv29, (hX.le hv31), (hL.trans hv31), (TuV.set hv30 (by omega) (by omega) (by omega)), (hv31.1.trans hp2), (by rw [List.length_set]; omega), ho49, ho50⟩))))
 omega
 refine qs rfl rfl rfl rfl rfl rfl (qs rfl rfl rfl rfl rfl rfl (qs rfl rfl rfl rfl rfl rfl (qs rfl rfl rfl rfl rfl rfl (qdg rfl rfl rfl rfl rfl rfl (yS (v := (.bool false)) rfl rfl) (qD rfl (yS (v := (.bool false)) rfl rfl) (qe (zA ?_)))))))
 refine qQ rfl rfl (wp_skip (zA ?_))
 have htk := hT ((N.getD s []).getD j 0).toNat (by omega)
 have hq52 := Gadd.pins hX17.pins tv
 have hr53 := hw19.read
 refine yZ (S := fun wz => Pins GL1 wz ∧ Pins (Gadd GL1 w15 tv) wz) (last := 13) (by kernel_rfl) rfl ?_
 have hl54 := bdr w15
 have hp55 := hX17.pins.below hl54
 have hX56 := hX17.step hp55 hl54
 have ho57 := hw18.below hl54
 have ho58 := hw19.below hl54
 have hq59 := hq52.below hl54
 refine dT (i := 0) rfl rfl (by kernel_rfl) (fun _ hS => zM (u := tv) ag44 rfl ((dN hS.1 hlek14) _ _ _ (hbt 0 _ rfl))) ⟨hX56.pins, hq59⟩ ?_
 refine dT (i := 1) rfl rfl (by kernel_rfl) (fun _ _ => zB (v := (.int .i64 (s : Int))) rfl) ⟨hX56.pins, hq59⟩ ?_
 refine dT (i := 2) rfl rfl (by kernel_rfl) (fun _ hS => zM (u := tv) ag44 rfl ((dN hS.1 hlek14) _ _ _ (hbt 0 _ rfl))) ⟨hX56.pins, hq59⟩ ?_
 refine dT (i := 3) rfl rfl (by kernel_rfl) (fun _ _ => zB (v := (.int .i64 (s : Int))) rfl) ⟨hX56.pins, hq59⟩ ?_
 refine dT (i := 4) rfl rfl (by kernel_rfl) (fun _ _ => zL eR sz3 (v := tv) rfl rfl hr53 (by omega) (by omega)) ⟨hX56.pins, hq59⟩ ?_
 refine dT (i := 5) rfl rfl (by kernel_rfl) (fun _ hS => zO (r := ts2.getD s 0) rfl ag3 (z := (s : Int)) rfl hr53 hS.2 (by omega) (by omega)) ⟨hX56.pins, hq59⟩ ?_
 refine dT (i := 6) rfl rfl (by kernel_rfl) (fun _ hS => zM (u := tv) ag44 rfl ((dN hS.1 hlek14) _ _ _ (hbt 0 _ rfl))) ⟨hX56.pins, hq59⟩ ?_
 refine dT (i := 7) rfl rfl (by kernel_rfl) (fun _ _ => zB (v := (.int .i64 ((N.getD s []).getD j 0))) rfl) ⟨hX56.pins, hq59⟩ ?_
 refine dT (i := 8) rfl rfl (by kernel_rfl) (fun _ _ => zL eR sz3 (v := tv) rfl rfl hr53 (by omega) (by omega)) ⟨hX56.pins, hq59⟩ ?_
 refine dT (i := 9) rfl rfl (by kernel_rfl) (fun _ hS => zO (r := ts2.getD ((N.getD s []).getD j 0).toNat 0) rfl ag3 (z := ((N.getD s []).getD j 0)) rfl hr53 hS.2 (by omega) (by omega)) ⟨hX56.pins, hq59⟩ ?_
 refine dT (i := 10) rfl rfl (by kernel_rfl) (fun _ _ => yH rfl rfl (by omega)) ⟨hX56.pins, hq59⟩ ?_
 refine dT (i := 11) rfl rfl (by kernel_rfl) (fun _ _ => nC rfl rfl) ⟨hX56.pins, hq59⟩ ?_
 refine dT (i := 12) rfl rfl (by kernel_rfl) (fun _ _ => zL eR sz3 (v := tv) rfl rfl hr53 (by omega) (by omega)) ⟨hX56.pins, hq59⟩ ?_
 refine zQ (i := 13) (by kernel_rfl) (xX (i := 13) rfl rfl rfl (zG rfl _) (jP (E := eInt) (v := tv) (u := (.int .i64 (max (ts2.getD s 0) ((ts2.getD ((N.getD s []).getD j 0).toNat 0) + 1)))) (z := (s : Int)) (max (ts2.getD s 0) ((ts2.getD ((N.getD s []).getD j 0).toNat 0) + 1)) sz3 rfl rfl rfl rfl hX56.pins ho58 (by omega) (by omega) (fun w60 ho61 hp62 hg63 hz64 => ?_)))
 have hX65 := hX56.write hp62 hg63 (hlotv)
 have ho66 := ho57.keptA hg63 hap
 have ho67 : Own eInt 3 GL1 w60 0 tv ((ts2).set s (max (ts2.getD s 0) ((ts2.getD ((N.getD s []).getD j 0).toNat 0) + 1))) := ho61
 have hm68 : ((ts2).set s (max (ts2.getD s 0) ((ts2.getD ((N.getD s []).getD j 0).toNat 0) + 1))).length = ts2.length := List.length_set ..
 refine ⟨fun h => absurd rfl h, ?_⟩
 refine yP (by kernel_rfl) (yC (zA (zF ?_)))
 refine qD rfl (yH rfl rfl (by omega)) (qD rfl (zB (v := (.int .i64 ((j : Int) + 1))) rfl) (qe (yE (⟨_, ?_, _, rfl, _, j + 1, ps2, (ts2).set s (max (ts2.getD s 0) ((ts2.getD ((N.getD s []).getD j 0).toNat 0) + 1)), GL1, (zC (x := 17) (zC (x := 16) (zC (x := 15) (zC (x := 4) (zC (x := 3) (zC (x := 1) (zS (x := 0) rfl) rfl) rfl) rfl) rfl) rfl) rfl), rfl, hX65, hlek14, (by omega), hV, hX, hL, (hT.set (by omega) (by omega) (by omega)), hp2, (by rw [List.length_set]; exact ht2), ho66, ho67⟩))))
 omega
 refine wp_exit (zZ (yJ (yI (zA (zE (zF ?_))))))
 refine qD rfl (zM (u := pv) ag44 rfl ((dN hX17.pins hlek14) _ _ _ (hbp 0 _ rfl))) (qD rfl (zB (v := (.int .i64 (s : Int))) rfl) (qD rfl (zL eR sz3 (v := pv) rfl rfl hw18.read (by omega) (by omega)) (q0 rfl rfl rfl (jP (E := eInt) (v := pv) (u := (.int .i64 2)) (z := (s : Int)) (2) sz3 rfl rfl rfl rfl hX17.pins hw18 (by omega) (by omega) (fun w69 ho70 hp71 hg72 hz73 => ?_)))))
 have hX74 := hX17.write hp71 hg72 (hlopv)
 have ho75 := hw19.keptA hg72 hap.symm
 have ho76 : Own eInt 3 GL1 w69 0 pv ((ps2).set s 2) := ho70
 have hm77 : ((ps2).set s 2).length = ps2.length := List.length_set ..
 refine qe (zA (zE (zF ?_)))
 refine qD rfl (zD (v := (.bool true)) rfl) (qe (zA ?_))
 exact wp_ret (zW (zT (v := (.bool true)) rfl rfl rfl (⟨_, _, _, rfl, ho76, ho75, hV.set (Or.inr rfl) (by omega), hT, PhLe.done (by omega) hL, (by omega), hX74⟩)))
theorem mU {N : List (List Int)} {bp bn bv bt : Nat} {pv nv tv : Value} : ∀ m, VisC m N bp bn bv bt pv nv tv
 | 0 => fun _ _ _ _ _ _ _ _ _ _ _ _ _ _ _ _ _ _ h => absurd h (Nat.not_lt_zero _)
 | m + 1 => fun e a1 a2 a3 a4 a5 a6 a7 a8 a9 a10 a11 a12 a13 a14 a15 a16 a17 h => by
  subst e
  exact visit_step a1 a2 a3 a4 a5 a6 a7 a8 a9 a10 a11 a12 a13 a14 a15 a16 a17 (mU m) h
end AR5
end Go.Proofs.YtdongckiecjbaaaGreatDoor
