/- Walks, printed by a program (walkgen.py) from the spec specs_dl. -/
import Derived.Test.YtndhhpaldhlghaaDoorChecked
import Derived.Test.YtndhhpaldhlghaaDoorRow
import Derived.Test.YtndhhpaldhlghaaDoorDom
import Derived.Test.YtndhhpaldhlghaaDoorShelf
import Derived.Test.YtndhhpaldhlghaaDoorB1
import Derived.Test.YtndhhpaldhlghaaDoorK1
import Derived.Test.YtndhhpaldhlghaaDoorPO1
import Derived.Test.YtndhhpaldhlghaaDoorPL1
import Derived.Test.YtndhhpaldhlghaaDoorDI1
set_option maxRecDepth 20000
set_option maxHeartbeats 2000000
namespace Go.Proofs.YtndhhpaldhlghaaDoor
namespace DL1
open Go.RowKit Go.GL Go.Proofs
open Go.Proofs.YtndhhpaldhlghaaDoor.B1
open Go.Proofs.YtndhhpaldhlghaaDoor.K1
open Go.Proofs.YtndhhpaldhlghaaDoor.PO1
open Go.Proofs.YtndhhpaldhlghaaDoor.PL1
open Go.Proofs.YtndhhpaldhlghaaDoor.DI1
theorem ag28 : (Tryd.prog.underlying 28).map aggD = some false := by kernel_rfl
theorem ag3 : (Tryd.prog.underlying 3).map aggD = some false := by kernel_rfl
theorem ag30 : (Tryd.prog.underlying 30).map aggD = some true := by kernel_rfl
theorem ag38 : (Tryd.prog.underlying 38).map aggD = some false := by kernel_rfl
theorem ag69 : (Tryd.prog.underlying 69).map aggD = some true := by kernel_rfl
theorem nm36 : (Tryd.f36.name == "runtime.NumGoroutine") = false := by kernel_rfl
theorem nm37 : (Tryd.f37.name == "runtime.NumGoroutine") = false := by kernel_rfl
theorem nm49 : (Tryd.f49.name == "runtime.NumGoroutine") = false := by kernel_rfl
theorem nm50 : (Tryd.f50.name == "runtime.NumGoroutine") = false := by kernel_rfl
theorem nm69 : (Tryd.f69.name == "runtime.NumGoroutine") = false := by kernel_rfl
theorem nm72 : (Tryd.f72.name == "runtime.NumGoroutine") = false := by kernel_rfl
theorem nm73 : (Tryd.f73.name == "runtime.NumGoroutine") = false := by kernel_rfl
theorem nz28 : (Tryd.prog.info? 28).map (·.size == 0) = some false := by kernel_rfl
theorem nz38 : (Tryd.prog.info? 38).map (·.size == 0) = some false := by kernel_rfl
theorem sz3 : (Tryd.prog.info? 3).map (·.size) = some 1 := by kernel_rfl
theorem sz30 : (Tryd.prog.info? 30).map (·.size) = some 1 := by kernel_rfl
theorem sz69 : (Tryd.prog.info? 69).map (·.size) = some 2 := by kernel_rfl
theorem zr69 : (Tryd.prog.info? 69).bind (·.zero) = some (.agg #[(.slice none 0 0), (.slice none 0 0)]) := by kernel_rfl

theorem top_spec {w : World} {G : Pin} {v : Value} {ns : List Nd} (hP : Pins G w) (hv : RSl eNode G v ns) (hn : 1 ≤ ns.length) :
    Calls Tryd.prog 72 [(.agg [v].toArray)].toArray w fun e w' => ∃ (u v : Value) (G' : Pin), e = .returned (.agg [u, v].toArray) ∧ RSl eInt G' u (lastN ns).l ∧ RSl eInt G' v (lastN ns).r ∧ Ext noS G w G' w' := by
  refine s_enter (n := 11) Tryd.func72 Tryd.ntmps72 rfl rfl ?_
  have hX0 : Ext noS G w G w := Ext.refl hP
  have hm := hv.max
  have hlast : ((ns.length : Int) - 1).toNat = ns.length - 1 := by omega
  refine s_seq ?_
  refine c_reg ?_
  refine q1 rfl rfl rfl (o_box [v] (v := (.agg [v].toArray)) rfl rfl hX0.pins (fun b1 w2 hk3 hb4 hp5 hl6 => ?_))
  have hX7 := hX0.step hp5 hl6
  have hlo8 : w.heap.size ≤ b1 := by have := hX0.size; omega
  obtain ⟨G9, hle10, hX11, hbp12, hf13⟩ := hb4.shut hX7 hlo8
  refine q1 rfl rfl rfl (o_alloc [(.slice none 0 0), (.slice none 0 0)] zr69 rfl hX11.pins (fun b14 w15 hk16 hb17 hp18 hl19 => ?_))
  have hX20 := hX11.step hp18 hl19
  have hlo21 : w.heap.size ≤ b14 := by have := hX11.size; omega
  refine qe ?_
  refine s_then ?_
  refine s_seq ?_
  refine c_reg ?_
  refine qd rfl rfl rfl (r_fldp (k := 0) rfl Tryd.underlying30 rfl nz28 rfl) ?_
  refine qd rfl rfl rfl (r_ldp1 (u := v) ag28 rfl (hX20.pins _ _ _ (hbp12 0 _ rfl))) ?_
  refine qd rfl rfl rfl (r_fldp (k := 0) rfl Tryd.underlying30 rfl nz28 rfl) ?_
  refine qd rfl rfl rfl (r_ldp1 (u := v) ag28 rfl (hX20.pins _ _ _ (hbp12 0 _ rfl))) ?_
  refine qd rfl rfl rfl (run_len Tryd.underlying28 (v := v) rfl hv) ?_
  refine qd rfl rfl rfl (r_sub rfl rfl (by omega)) ?_
  refine qd rfl rfl rfl (run_idx Tryd.underlying28 sz69 (v := v) rfl rfl hv (by omega) (by omega)) ?_
  obtain ⟨u22, u23, hr24, hr25, hl26⟩ := nm_node (hv.at (z := ((ns.length : Int) - 1)) (by omega) (by omega)) (j := ((ns.length : Int) - 1).toNat) rfl
  have hm27 := hr24.max
  have hm28 := hr25.max
  refine qd rfl rfl rfl (hl26 ag69 sz69 rfl (Pins.of_le hX20.pins hle10)) ?_
  refine q0 rfl rfl rfl (o_stp (cs' := [u22, u23]) (us := [u22, u23]) (v := (.agg [u22, u23].toArray)) sz69 rfl rfl rfl (ones2 hr24.one hr25.one) hX20.pins hb17 (Nat.le_of_ble_eq_true rfl) rfl (fun w29 hb30 hp31 hg32 hz33 => ?_))
  have hX34 := hX20.write hp31 hg32 ((lo_box hlo21))
  refine qe ?_
  refine s_then ?_
  refine wp_ret ?_
  refine s_ret ?_
  refine c_retc (cs := [u22, u23]) rfl rfl rfl ag69 sz69 (fun j u hj => by rw [Nat.zero_add]; exact hb30.cell hj) ?_
  unfold lastN
  rw [← hlast]
  exact ⟨_, _, _, rfl, (hr24.mono hle10), (hr25.mono hle10), hX34⟩

theorem loaded_spec {w : World} {G : Pin} {p : Nat} {L R B : Value} {mm : PM} {q : PSt} (hP : Pins G w) (hpk : Pk 38 3 G w p L R B mm q) (hok : PoolOk q) {x : Value} {fs : List Nd} (hx : RSl eNode G x fs) (hf : FormOk fs) (hf1 : 1 ≤ fs.length) (hl : q.ns.length + fs.length ≤ 1048576) :
    Calls Tryd.prog 49 [(.pointer (some ⟨p, 0, none⟩)), (.agg [x].toArray)].toArray w fun e w' => ∃ (z : Int) (u v : Value) (xs ys : List Int) (L' R' B' : Value) (q' : PSt) (G' : Pin), e = .returned (.tuple #[.int .i64 z, u, v]) ∧ Pk 38 3 G' w' p L' R' B' mm q' ∧ PoolOk q' ∧ PX q q' ∧ PLo w p L R B mm L' R' B' ∧ Ext (inP p L R B mm) G w G' w' ∧ RSl eInt G' u xs ∧ RSl eInt G' v ys ∧ LoadedOk fs q' z xs ys ∧ q'.ns.length ≤ q.ns.length + fs.length := by
  refine s_enter (n := 28) Tryd.func49 Tryd.ntmps49 rfl rfl ?_
  have hX0 : Ext (inP p L R B mm) G w G w := Ext.refl hP
  have hpin : PIn w (inP p L R B mm) p L R B mm := PIn.self
  have hml1 : (q.ns.map Nd.l).length = q.ns.length ∧ (q.ns.map Nd.r).length = q.ns.length := ⟨List.length_map .., List.length_map ..⟩
  have hml2 : q.bs.length = q.ns.length ∧ q.ns.length ≤ 1048576 := ⟨hok.ar.ok.len, hok.ar.ok.lim⟩
  have hfl := hf.len
  have hlast : (lastN fs).l.length ≤ 1048576 ∧ (lastN fs).r.length ≤ 1048576 := hf.lens (fs.length - 1) (by omega)
  have oo : (∀ o ∈ (lastN fs).l, 0 ≤ o ∧ o < ((fs.length - 1 : Nat) : Int)) ∧ (∀ o ∈ (lastN fs).r, 0 ≤ o ∧ o < ((fs.length - 1 : Nat) : Int)) := optsAt hf.opts (show fs.length - 1 < fs.length by omega)
  refine s_seq ?_
  refine c_reg ?_
  refine q1 rfl rfl rfl (o_box [x] (v := (.agg [x].toArray)) rfl rfl hX0.pins (fun b3 w4 hk5 hb6 hp7 hl8 => ?_))
  have hX9 := hX0.step hp7 hl8
  have hpk10 := hpk.below hl8 hp7
  have ha15 := hpk.new (x := (some b3)) (fun k hk => by rw [(congrArg some hk5)] at hk; cases hk; exact Nat.le_refl _)
  have hlo16 : w.heap.size ≤ b3 := by have := hX0.size; omega
  obtain ⟨G17, hle18, hX19, hbp20, hf21⟩ := hb6.shut hX9 hlo16
  have hpk22 := hpk10.more hle18 hf21 ha15
  refine qd rfl rfl rfl (r_assign (v := (.int .i64 0)) rfl) ?_
  refine qd rfl rfl rfl (r_assign (v := (.slice none 0 0)) rfl) ?_
  refine qd rfl rfl rfl (r_assign (v := (.slice none 0 0)) rfl) ?_
  refine qe ?_
  refine s_then ?_
  refine s_seq ?_
  refine c_reg ?_
  refine qd rfl rfl rfl (r_move (v := (.pointer (some ⟨p, 0, none⟩))) rfl) ?_
  refine qd rfl rfl rfl (r_ldpA (cs := [x]) ag30 sz30 rfl (fun j u hj => hX19.pins _ _ _ (hbp20 _ _ (by simpa using hj)))) ?_
  refine q1 rfl rfl rfl (o_call (vs := [(.pointer (some ⟨p, 0, none⟩)), (.agg [x].toArray)]) Tryd.func69 nm69 rfl rfl rfl ?_)
  refine Calls.mono (load_spec hX19.pins hpk22 hok (hx.mono hle18) hf hl) ?_
  rintro _ w29 ⟨u23, ats, L24, R25, B26, q27, G28, rfl, hpk31, hok32, hpx33, hlo34, hx35, ho30, hnp37, hld36⟩
  refine ⟨_, rfl, ?_⟩
  have hX38 := hX19.trans hx35 hpin
  have hpin39 := PIn.call hpin hlo34 hX19.size
  have hql40 := hpx33.len
  have hml41 : (q27.ns.map Nd.l).length = q27.ns.length ∧ (q27.ns.map Nd.r).length = q27.ns.length := ⟨List.length_map .., List.length_map ..⟩
  have hml42 : q27.bs.length = q27.ns.length ∧ q27.ns.length ≤ 1048576 := ⟨hok32.ar.ok.len, hok32.ar.ok.lim⟩
  have ho43 := ho30.weaken hX19.size
  have hll44 := hld36.len
  refine qd rfl rfl rfl (r_assign (v := u23) rfl) ?_
  refine qe ?_
  refine s_then ?_
  refine s_seq ?_
  refine c_reg ?_
  refine qd rfl rfl rfl (r_ldpA (cs := [x]) ag30 sz30 rfl (fun j u hj => (Pins.of_le hX38.pins hx35.le) _ _ _ (hbp20 _ _ (by simpa using hj)))) ?_
  refine q1 rfl rfl rfl (o_call (vs := [(.agg [x].toArray)]) Tryd.func72 nm72 rfl rfl rfl ?_)
  refine Calls.mono (top_spec hX38.pins (hx.mono (Pin.le_trans hle18 hx35.le)) (by omega)) ?_
  rintro _ w48 ⟨u45, v46, G47, rfl, hr49, hr50, hx51⟩
  refine ⟨_, rfl, ?_⟩
  have hX52 := hX38.tr hx51
  have ho53 := ho43.ext hx51
  have hpk54 := hpk31.ext hx51
  refine q1 rfl rfl rfl (o_alloc [(.slice none 0 0), (.slice none 0 0)] zr69 rfl hX52.pins (fun b55 w56 hk57 hb58 hp59 hl60 => ?_))
  have hX61 := hX52.step hp59 hl60
  have ho62 := ho53.below hl60
  have hpk63 := hpk54.below hl60 hp59
  have ha64 : Apart (some b55) u23.ownBlock := new_ne_own (congrArg some hk57) ho53.lt
  have ha69 := hpk54.new (x := (some b55)) (fun k hk => by rw [(congrArg some hk57)] at hk; cases hk; exact Nat.le_refl _)
  have hlo70 : w.heap.size ≤ b55 := by have := hX52.size; omega
  refine q0 rfl rfl rfl (o_stp (cs' := [u45, v46]) (us := [u45, v46]) (v := (.agg [u45, v46].toArray)) sz69 rfl rfl rfl (ones2 hr49.one hr50.one) hX61.pins hb58 (Nat.le_of_ble_eq_true rfl) rfl (fun w71 hb72 hp73 hg74 hz75 => ?_))
  have hX76 := hX61.write hp73 hg74 ((lo_box hlo70))
  have ho77 := ho62.keptA hg74 ha64.symm
  have hpk78 := hpk63.kept hg74 hp73 ha69
  obtain ⟨G79, hle80, hX81, hbp82, hf83⟩ := hb72.shut hX76 hlo70
  have ho84 := ho77.moreA hle80 hf83 ha64.symm
  have hpk85 := hpk78.more hle80 hf83 ha69
  refine qe ?_
  refine s_then ?_
  refine s_seq ?_
  have hq86 := Gadd.pins hX81.pins u23
  have hr87 := ho84.read
  refine c_draw (S := fun wz => Pins (Gadd G79 w71 u23) wz ∧ Pins G79 wz) (last := 17) (by kernel_rfl) rfl ?_
  have hl88 : Below w71.heap.size w71 w71.drew := (Below.refl _ _).drew
  have hp89 := hX81.pins.below hl88
  have hX90 := hX81.step hp89 hl88
  have ho91 := ho84.below hl88
  have hpk92 := hpk85.below hl88 hp89
  have hq93 := hq86.below hl88
  refine dr_take (i := 0) rfl rfl rfl (want_none rfl _) (by kernel_rfl) (fun _ _ => r_move (v := u23) rfl) ⟨hq93, hX90.pins⟩ ?_
  refine dr_take (i := 1) rfl rfl rfl (want_none rfl _) (by kernel_rfl) (fun _ _ => r_move (v := u23) rfl) ⟨hq93, hX90.pins⟩ ?_
  refine dr_take (i := 2) rfl rfl rfl (want_none rfl _) (by kernel_rfl) (fun _ _ => run_len Tryd.underlying38 (v := u23) rfl hr87) ⟨hq93, hX90.pins⟩ ?_
  refine dr_take (i := 3) rfl rfl rfl (want_none rfl _) (by kernel_rfl) (fun _ _ => r_sub rfl rfl (by omega)) ⟨hq93, hX90.pins⟩ ?_
  refine dr_take (i := 4) rfl rfl rfl (want_none rfl _) (by kernel_rfl) (fun _ _ => run_idx Tryd.underlying38 sz3 (v := u23) rfl rfl hr87 (by omega) (by omega)) ⟨hq93, hX90.pins⟩ ?_
  refine dr_take (i := 5) rfl rfl rfl (want_none rfl _) (by kernel_rfl) (fun _ hS => run_load_int (r := ats.getD ((ats.length : Int) - 1).toNat 0) rfl ag3 (z := ((ats.length : Int) - 1)) rfl hr87 hS.1 (by omega) (by omega)) ⟨hq93, hX90.pins⟩ ?_
  refine dr_take (i := 6) rfl rfl rfl (want_none rfl _) (by kernel_rfl) (fun _ _ => r_fldp (k := 0) rfl Tryd.underlying69 rfl nz38 rfl) ⟨hq93, hX90.pins⟩ ?_
  refine dr_take (i := 7) rfl rfl rfl (want_none rfl _) (by kernel_rfl) (fun _ hS => r_ldp1 (u := u45) ag38 rfl (hS.2 _ _ _ (hbp82 0 _ rfl))) ⟨hq93, hX90.pins⟩ ?_
  refine dr_take (i := 8) rfl rfl rfl (want_none rfl _) (by kernel_rfl) (fun _ _ => r_move (v := u23) rfl) ⟨hq93, hX90.pins⟩ ?_
  refine dr_take (i := 10) rfl rfl rfl (want_none rfl _) (by kernel_rfl) (fun _ _ => r_fldp (k := 1) rfl Tryd.underlying69 rfl nz38 rfl) ⟨hq93, hX90.pins⟩ ?_
  refine dr_take (i := 11) rfl rfl rfl (want_none rfl _) (by kernel_rfl) (fun _ hS => r_ldp1 (u := v46) ag38 rfl (hS.2 _ _ _ (hbp82 1 _ rfl))) ⟨hq93, hX90.pins⟩ ?_
  refine dr_take (i := 12) rfl rfl rfl (want_none rfl _) (by kernel_rfl) (fun _ _ => r_move (v := u23) rfl) ⟨hq93, hX90.pins⟩ ?_
  refine dr_one (i := 9) (by kernel_rfl) (drOp1 (i := 9) rfl rfl rfl (want_none rfl _) (o_call (vs := [u45, u23]) Tryd.func73 nm73 rfl rfl rfl ?_))
  refine Calls.mono (renamed_spec (Gadd.pins hX90.pins u23) ((hr49.mono hle80).mono (Gadd.le _ _ _)) ho91.read (by omega) (fun i hi => by have h7 := oo.1 _ (getD_mem (d := (0 : Int)) hi); omega)) ?_
  rintro _ w96 ⟨u94, G95, rfl, ho97, hx98⟩
  refine ⟨_, rfl, ?_⟩
  have hx99 := deep_back hX90.pins hx98
  have ho100 := ho97.anti flat_int (Pin.le_trans (Gadd.le G79 w71.drew u23) hx98.le)
  have hX101 := hX90.step hx99.pins hx99.below
  have ho102 := ho91.below hx99.below
  have hpk103 := hpk92.below hx99.below hx99.pins
  have ha105 := hpk92.new (x := u94.ownBlock) (fun k hk => (ho100.lt k hk).1)
  have ho106 : Own eInt 3 G79 w96 w.heap.size u94 (atL ats ((lastN fs).l)) := ho100.weaken hX90.size
  have hm107 : (atL ats ((lastN fs).l)).length = ((lastN fs).l).length := at_length
  have hq108 := hq93.below hx99.below
  refine ⟨fun _ => ⟨hq108, hX101.pins⟩, ?_⟩
  refine dr_one (i := 13) (by kernel_rfl) (drOp1 (i := 13) rfl rfl rfl (want_none rfl _) (o_call (vs := [v46, u23]) Tryd.func73 nm73 rfl rfl rfl ?_))
  refine Calls.mono (renamed_spec (Gadd.pins hX101.pins u23) ((hr50.mono hle80).mono (Gadd.le _ _ _)) ho102.read (by omega) (fun i hi => by have h7 := oo.2 _ (getD_mem (d := (0 : Int)) hi); omega)) ?_
  rintro _ w111 ⟨u109, G110, rfl, ho112, hx113⟩
  refine ⟨_, rfl, ?_⟩
  have hx114 := deep_back hX101.pins hx113
  have ho115 := ho112.anti flat_int (Pin.le_trans (Gadd.le G79 w96 u23) hx113.le)
  have hX116 := hX101.step hx114.pins hx114.below
  have ho118 := ho106.below hx114.below
  have hpk119 := hpk103.below hx114.below hx114.pins
  have ha121 : Apart u109.ownBlock u94.ownBlock := made_ne_own ho115.lt ho106.lt
  have ha122 := hpk103.new (x := u109.ownBlock) (fun k hk => (ho115.lt k hk).1)
  have ho123 : Own eInt 3 G79 w111 w.heap.size u109 (atL ats ((lastN fs).r)) := ho115.weaken hX101.size
  have hm124 : (atL ats ((lastN fs).r)).length = ((lastN fs).r).length := at_length
  have hq125 := hq108.below hx114.below
  refine ⟨fun _ => ⟨hq125, hX116.pins⟩, ?_⟩
  refine dr_take (i := 14) rfl rfl rfl (want_none rfl _) (by kernel_rfl) (fun _ _ => r_assign (v := (.int .i64 (ats.getD ((ats.length : Int) - 1).toNat 0))) rfl) ⟨hq125, hX116.pins⟩ ?_
  refine dr_take (i := 15) rfl rfl rfl (want_none rfl _) (by kernel_rfl) (fun _ _ => r_assign (v := u94) rfl) ⟨hq125, hX116.pins⟩ ?_
  refine dr_take (i := 16) rfl rfl rfl (want_none rfl _) (by kernel_rfl) (fun _ _ => r_assign (v := u109) rfl) ⟨hq125, hX116.pins⟩ ?_
  refine dr_end (by kernel_rfl) ?_
  refine s_then ?_
  refine wp_ret ?_
  refine s_ret ?_
  refine c_ret3 (v := (.int .i64 (ats.getD ((ats.length : Int) - 1).toNat 0))) (u := u94) (x := u109) rfl rfl rfl rfl rfl rfl rfl ?_
  obtain ⟨G126, hle129, hX128, hr127, hf130⟩ := ho118.sealed hX116
  have ho132 := ho123.moreO hle129 hf130 ha121
  have hpk133 := hpk119.moreO hle129 hf130 ha105
  obtain ⟨G134, hle137, hX136, hr135, hf138⟩ := ho132.sealed hX128
  have hpk140 := hpk133.moreO hle137 hf138 ha122
  have hlo := hld36.loaded hf hf1
  rw [show fs.length - 1 = ((ats.length : Int) - 1).toNat by omega] at hlo
  exact ⟨_, u94, u109, _, _, L24, R25, B26, q27, G134, rfl, hpk140, hok32, hpx33, PIn.lo hpin39 rfl, hX136, (hr127.mono hle137), hr135, hlo, hld36.hi⟩

theorem iDominatedIn_spec {w : World} {G : Pin} {v : Value} {fs : List Nd} (hP : Pins G w) (hv : RSl eNode G v fs) :
    Calls Tryd.prog 28 [(.agg [v].toArray)].toArray w fun e w' => ∃ (u1 u2 : Value) (G' : Pin), e = .returned (.tuple #[u1, u2, .bool (goodB fs)]) ∧ Own eInt 3 G' w' w.heap.size u1 (doL fs) ∧ Own eInt 3 G' w' w.heap.size u2 (doR fs) ∧ Apart u1.ownBlock u2.ownBlock ∧ Ext noS G w G' w' := by
  refine s_enter (n := 28) Tryd.func28 Tryd.ntmps28 rfl rfl ?_
  have hX0 : Ext noS G w G w := Ext.refl hP
  refine s_seq ?_
  refine c_reg ?_
  refine q1 rfl rfl rfl (o_box [v] (v := (.agg [v].toArray)) rfl rfl hX0.pins (fun b1 w2 hk3 hb4 hp5 hl6 => ?_))
  have hX7 := hX0.step hp5 hl6
  have hlo8 : w.heap.size ≤ b1 := by have := hX0.size; omega
  obtain ⟨G9, hle10, hX11, hbp12, hf13⟩ := hb4.shut hX7 hlo8
  refine qd rfl rfl rfl (r_assign (v := (.slice none 0 0)) rfl) ?_
  refine qd rfl rfl rfl (r_assign (v := (.slice none 0 0)) rfl) ?_
  refine qd rfl rfl rfl (r_assign (v := (.bool false)) rfl) ?_
  refine qe ?_
  refine s_then ?_
  refine s_seq ?_
  refine s_seq ?_
  refine c_reg ?_
  refine qd rfl rfl rfl (r_ldpA (cs := [v]) ag30 sz30 rfl (fun j u hj => hX11.pins _ _ _ (hbp12 _ _ (by simpa using hj)))) ?_
  refine q1 rfl rfl rfl (o_call (vs := [(.agg [v].toArray)]) Tryd.func36 nm36 rfl rfl rfl ?_)
  refine Calls.mono (goodForm_spec hX11.pins (hv.mono hle10)) ?_
  rintro _ w15 ⟨G14, rfl, hx16⟩
  refine ⟨_, rfl, ?_⟩
  have hX17 := hX11.tr hx16
  refine qd rfl rfl rfl (r_not rfl) ?_
  refine qe ?_
  refine s_then ?_
  refine c_ifn rfl rfl (fun h18 => ?_) (fun h18 => ?_)
  · skip
    refine wp_skip ?_
    refine s_then ?_
    refine s_seq ?_
    refine c_reg ?_
    have hgb : goodB fs = true := h18
    have hga : GoodP fs := goodB_true.1 hgb
    have hla := hga.lo
    have hha := hga.hi
    have hlb := last_bounds hga
    refine q1 rfl rfl rfl (o_call (vs := []) Tryd.func37 nm37 rfl rfl rfl ?_)
    refine Calls.mono (newPool_spec hX17.pins) ?_
    rintro _ w22 ⟨p19, mm20, G21, rfl, hpk23, hfr24, hx25⟩
    refine ⟨_, rfl, ?_⟩
    have hX29 := hX17.tr hx25
    have hpin30 : PIn w (noS) p19 (.slice none 0 0) (.slice none 0 0) (.slice none 0 0) mm20 := PIn.fresh hfr24 hX17.size
    obtain ⟨q26, hq27⟩ : ∃ q, q = (⟨[], [], [], [], [], [], []⟩ : PSt) := ⟨_, rfl⟩
    rw [← hq27] at hpk23
    have hok28 : PoolOk q26 := by rw [hq27]; exact PoolOk.empty
    have hq27l : q26.ns.length = 0 := by rw [hq27]; rfl
    obtain ⟨L31, R32, B33, eL31, eR32, eB33⟩ : ∃ (l r b : Value), l = .slice none 0 0 ∧ r = .slice none 0 0 ∧ b = .slice none 0 0 := ⟨_, _, _, rfl, rfl, rfl⟩
    have hpk232 : Pk 38 3 G21 w22 p19 L31 R32 B33 mm20 q26 := by rw [eL31, eR32, eB33]; exact hpk23
    have hpin302 : PIn w (noS) p19 L31 R32 B33 mm20 := by rw [eL31, eR32, eB33]; exact hpin30
    have hml34 : (q26.ns.map Nd.l).length = q26.ns.length ∧ (q26.ns.map Nd.r).length = q26.ns.length := ⟨List.length_map .., List.length_map ..⟩
    have hml35 : q26.bs.length = q26.ns.length ∧ q26.ns.length ≤ 1048576 := ⟨hok28.ar.ok.len, hok28.ar.ok.lim⟩
    refine qd rfl rfl rfl (r_assign (v := (.pointer (some ⟨p19, 0, none⟩))) rfl) ?_
    refine qe ?_
    refine s_then ?_
    refine s_seq ?_
    refine c_reg ?_
    refine qd rfl rfl rfl (r_move (v := (.pointer (some ⟨p19, 0, none⟩))) rfl) ?_
    refine qd rfl rfl rfl (r_ldpA (cs := [v]) ag30 sz30 rfl (fun j u hj => (Pins.of_le hX29.pins (Pin.le_trans hx16.le hx25.le)) _ _ _ (hbp12 _ _ (by simpa using hj)))) ?_
    refine q1 rfl rfl rfl (o_call (vs := [(.pointer (some ⟨p19, 0, none⟩)), (.agg [v].toArray)]) Tryd.func49 nm49 rfl rfl rfl ?_)
    refine Calls.mono (loaded_spec hX29.pins hpk232 hok28 (hv.mono (Pin.le_trans (Pin.le_trans hle10 hx16.le) hx25.le)) (good_form hga) hla (by omega)) ?_
    rintro _ w46 ⟨z36, u37, v38, xs39, ys40, L41, R42, B43, q44, G45, rfl, hpk47, hok48, hpx49, hlo50, hx51, hr52, hr53, hld54, hqn55⟩
    refine ⟨_, rfl, ?_⟩
    have hX56 := hX29.trans hx51 hpin302
    have hpin57 := PIn.call hpin302 hlo50 hX29.size
    have hql58 := hpx49.len
    have hml59 : (q44.ns.map Nd.l).length = q44.ns.length ∧ (q44.ns.map Nd.r).length = q44.ns.length := ⟨List.length_map .., List.length_map ..⟩
    have hml60 : q44.bs.length = q44.ns.length ∧ q44.ns.length ≤ 1048576 := ⟨hok48.ar.ok.len, hok48.ar.ok.lim⟩
    have hll61 := hld54.l.1
    have hll62 := hld54.r.1
    refine qd rfl rfl rfl (r_move (v := (.tuple #[(.int .i64 z36), u37, v38])) rfl) ?_
    refine qd rfl rfl rfl (r_extract (v := (.int .i64 z36)) rfl rfl) ?_
    refine qd rfl rfl rfl (r_extract (v := u37) rfl rfl) ?_
    refine qd rfl rfl rfl (r_extract (v := v38) rfl rfl) ?_
    refine qd rfl rfl rfl (r_assign (v := (.int .i64 z36)) rfl) ?_
    refine qd rfl rfl rfl (r_assign (v := u37) rfl) ?_
    refine qd rfl rfl rfl (r_assign (v := v38) rfl) ?_
    refine qe ?_
    refine s_then ?_
    refine s_seq ?_
    refine c_reg ?_
    refine qd rfl rfl rfl (r_move (v := (.pointer (some ⟨p19, 0, none⟩))) rfl) ?_
    refine qd rfl rfl rfl (r_move (v := u37) rfl) ?_
    refine q1 rfl rfl rfl (o_call (vs := [(.pointer (some ⟨p19, 0, none⟩)), u37, (.bool true)]) Tryd.func50 nm50 rfl rfl rfl ?_)
    refine Calls.mono (idominated_spec hX56.pins hpk47 hok48 (lf := true) hr52 (by omega) (fun i hi => ((hld54.same ⟨rfl, rfl⟩).l.2 i hi).1)) ?_
    rintro _ w66 ⟨u63, q64, G65, rfl, ho67, hpk68, hok69, hpx70, hqn71, hx72⟩
    refine ⟨_, rfl, ?_⟩
    have hnp73 := hpk47.new (x := u63.ownBlock) (fun k hk => (ho67.lt k hk).1)
    have hX74 := hX56.trans hx72 (fun i hi => (PIn.o hpin57) i hi)
    have hql75 := hpx70.len
    have hml76 : (q64.ns.map Nd.l).length = q64.ns.length ∧ (q64.ns.map Nd.r).length = q64.ns.length := ⟨List.length_map .., List.length_map ..⟩
    have hml77 : q64.bs.length = q64.ns.length ∧ q64.ns.length ≤ 1048576 := ⟨hok69.ar.ok.len, hok69.ar.ok.lim⟩
    have hql78 := congrArg List.length hqn71.1
    have ho79 := ho67.weaken hX56.size
    refine qd rfl rfl rfl (r_move (v := (.pointer (some ⟨p19, 0, none⟩))) rfl) ?_
    refine qd rfl rfl rfl (r_move (v := v38) rfl) ?_
    refine q1 rfl rfl rfl (o_call (vs := [(.pointer (some ⟨p19, 0, none⟩)), v38, (.bool false)]) Tryd.func50 nm50 rfl rfl rfl ?_)
    refine Calls.mono (idominated_spec hX74.pins hpk68 hok69 (lf := false) (hr53.mono hx72.le) (by omega) (fun i hi => ((hld54.same hqn71).r.2 i hi).1)) ?_
    rintro _ w83 ⟨u80, q81, G82, rfl, ho84, hpk85, hok86, hpx87, hqn88, hx89⟩
    refine ⟨_, rfl, ?_⟩
    have hX91 := hX74.trans hx89 (fun i hi => (PIn.o hpin57) i hi)
    have ho92 := ho79.extS hx89 (notO (NP.ho hnp73))
    have hql93 := hpx87.len
    have hml94 : (q81.ns.map Nd.l).length = q81.ns.length ∧ (q81.ns.map Nd.r).length = q81.ns.length := ⟨List.length_map .., List.length_map ..⟩
    have hml95 : q81.bs.length = q81.ns.length ∧ q81.ns.length ≤ 1048576 := ⟨hok86.ar.ok.len, hok86.ar.ok.lim⟩
    have hql96 := congrArg List.length hqn88.1
    have ha97 : Apart u80.ownBlock u63.ownBlock := made_ne_own ho84.lt ho79.lt
    have ho98 := ho84.weaken hX74.size
    refine qd rfl rfl rfl (r_assign (v := u63) rfl) ?_
    refine qd rfl rfl rfl (r_assign (v := u80) rfl) ?_
    refine qd rfl rfl rfl (r_assign (v := (.bool true)) rfl) ?_
    refine qe ?_
    refine s_then ?_
    refine wp_ret ?_
    refine s_ret ?_
    refine c_ret3 (v := u63) (u := u80) (x := (.bool true)) rfl rfl rfl rfl rfl rfl rfl ?_
    rw [hgb]
    exact ⟨_, _, _, rfl, (by rw [← hld54.doL hgb]; exact ho92), (by rw [← (hld54.same hqn71).doR hgb]; exact ho98), ha97.symm, hX91⟩
  refine s_seq ?_
  refine c_reg ?_
  refine q1 rfl rfl rfl (o_build0 (E := eInt) (e := 3) Tryd.underlying38 sz3 hX17.pins (fun u99 w100 ho101 hp102 hl103 hk104 => ?_))
  have hX105 := hX17.step hp102 hl103
  have ho106 : Own eInt 3 G14 w100 w.heap.size u99 ([]) := ho101.weaken hX17.size
  refine q1 rfl rfl rfl (o_build0 (E := eInt) (e := 3) Tryd.underlying38 sz3 hX105.pins (fun u107 w108 ho109 hp110 hl111 hk112 => ?_))
  have hX113 := hX105.step hp110 hl111
  have ho114 := ho106.below hl111
  have ha115 : Apart u107.ownBlock u99.ownBlock := new_ne_own hk112 ho106.lt
  have ho116 : Own eInt 3 G14 w108 w.heap.size u107 ([]) := ho109.weaken hX105.size
  refine qd rfl rfl rfl (r_assign (v := u99) rfl) ?_
  refine qd rfl rfl rfl (r_assign (v := u107) rfl) ?_
  refine qd rfl rfl rfl (r_assign (v := (.bool false)) rfl) ?_
  refine qe ?_
  refine s_then ?_
  refine wp_ret ?_
  refine s_ret ?_
  refine c_ret3 (v := u99) (u := u107) (x := (.bool false)) rfl rfl rfl rfl rfl rfl rfl ?_
  have hgb : goodB fs = false := h18
  rw [hgb, (do_bad hgb).1, (do_bad hgb).2]
  exact ⟨_, _, _, rfl, ho114, ho116, ha115.symm, hX113⟩

end DL1
end Go.Proofs.YtndhhpaldhlghaaDoor
