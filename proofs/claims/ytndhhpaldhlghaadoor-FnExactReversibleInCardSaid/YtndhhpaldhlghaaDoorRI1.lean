/- Walks, printed by a program (walkgen.py) from the spec specs_rv. -/
import Derived.Test.YtndhhpaldhlghaaDoorChecked
import Derived.Test.YtndhhpaldhlghaaDoorRow
import Derived.Test.YtndhhpaldhlghaaDoorRev
import Derived.Test.YtndhhpaldhlghaaDoorShelf
import Derived.Test.YtndhhpaldhlghaaDoorB1
import Derived.Test.YtndhhpaldhlghaaDoorK1
import Derived.Test.YtndhhpaldhlghaaDoorPO1
import Derived.Test.YtndhhpaldhlghaaDoorPL1
set_option maxRecDepth 20000
set_option maxHeartbeats 2000000
namespace Go.Proofs.YtndhhpaldhlghaaDoor
namespace RI1
open Go.RowKit Go.GL Go.Proofs
open Go.Proofs.YtndhhpaldhlghaaDoor.B1
open Go.Proofs.YtndhhpaldhlghaaDoor.K1
open Go.Proofs.YtndhhpaldhlghaaDoor.PO1
open Go.Proofs.YtndhhpaldhlghaaDoor.PL1
theorem ag28 : (Tryd.prog.underlying 28).map aggD = some false := by kernel_rfl
theorem ag3 : (Tryd.prog.underlying 3).map aggD = some false := by kernel_rfl
theorem ag30 : (Tryd.prog.underlying 30).map aggD = some true := by kernel_rfl
theorem ag38 : (Tryd.prog.underlying 38).map aggD = some false := by kernel_rfl
theorem ag69 : (Tryd.prog.underlying 69).map aggD = some true := by kernel_rfl
theorem ag97 : (Tryd.prog.underlying 97).map aggD = some false := by kernel_rfl
theorem ap3 : (Tryd.prog.info? 3).map (fun i => (i.size, i.bytes, (i.zero.map (·.cells.size)))) = some (1, 8, some 1) := by kernel_rfl
theorem nm36 : (Tryd.f36.name == "runtime.NumGoroutine") = false := by kernel_rfl
theorem nm37 : (Tryd.f37.name == "runtime.NumGoroutine") = false := by kernel_rfl
theorem nm38 : (Tryd.f38.name == "runtime.NumGoroutine") = false := by kernel_rfl
theorem nm49 : (Tryd.f49.name == "runtime.NumGoroutine") = false := by kernel_rfl
theorem nm52 : (Tryd.f52.name == "runtime.NumGoroutine") = false := by kernel_rfl
theorem nm69 : (Tryd.f69.name == "runtime.NumGoroutine") = false := by kernel_rfl
theorem nm72 : (Tryd.f72.name == "runtime.NumGoroutine") = false := by kernel_rfl
theorem nm73 : (Tryd.f73.name == "runtime.NumGoroutine") = false := by kernel_rfl
theorem nm75 : (Tryd.f75.name == "runtime.NumGoroutine") = false := by kernel_rfl
theorem nz28 : (Tryd.prog.info? 28).map (·.size == 0) = some false := by kernel_rfl
theorem nz38 : (Tryd.prog.info? 38).map (·.size == 0) = some false := by kernel_rfl
theorem nz97 : (Tryd.prog.info? 97).map (·.size == 0) = some false := by kernel_rfl
theorem sz3 : (Tryd.prog.info? 3).map (·.size) = some 1 := by kernel_rfl
theorem sz30 : (Tryd.prog.info? 30).map (·.size) = some 1 := by kernel_rfl
theorem sz38 : (Tryd.prog.info? 38).map (·.size) = some 1 := by kernel_rfl
theorem sz69 : (Tryd.prog.info? 69).map (·.size) = some 2 := by kernel_rfl
theorem zr3 : (Tryd.prog.info? 3).bind (·.zero) = some (.int .i64 0) := by kernel_rfl
theorem zr69 : (Tryd.prog.info? 69).bind (·.zero) = some (.agg #[(.slice none 0 0), (.slice none 0 0)]) := by kernel_rfl

theorem top_spec {w : World} {G : Pin} {v : Value} {ns : List Nd} (hP : Pins G w) (hv : RSl eNode G v ns) (hn : 1 ≤ ns.length) :
    Calls Tryd.prog 72 [(.agg [v].toArray)].toArray w fun e w' => ∃ (u v : Value) (G' : Pin), e = .returned (.agg [u, v].toArray) ∧ RSl eInt G' u (lastN ns).l ∧ RSl eInt G' v (lastN ns).r ∧ Ext noS G w G' w' := by
  refine s_enter (n := 11) Tryd.func72 Tryd.ntmps72 rfl rfl ?_
  have hX0 : Ext noS G w G w := Ext.refl hP
  have hm := hv.max
  have hlast : ((ns.length : Int) - 1).toNat = ns.length - 1 := by omega
  refine s_seq ?_
  refine c_reg ?_
  refine q1 rfl rfl rfl (o_box [v] (v := (.agg [v].toArray)) rfl rfl hX0.pins (fun b1 w2 hk3 hb4 hp5 hl6 => ?_))
  have hX7 := hX0.step hp5 hl6
  have hlo8 : w.heap.size ≤ b1 := by have := hX0.size; omega
  obtain ⟨G9, hle10, hX11, hbp12, hf13⟩ := hb4.shut hX7 hlo8
  refine q1 rfl rfl rfl (o_alloc [(.slice none 0 0), (.slice none 0 0)] zr69 rfl hX11.pins (fun b14 w15 hk16 hb17 hp18 hl19 => ?_))
  have hX20 := hX11.step hp18 hl19
  have hlo21 : w.heap.size ≤ b14 := by have := hX11.size; omega
  refine qe ?_
  refine s_then ?_
  refine s_seq ?_
  refine c_reg ?_
  refine qd rfl rfl rfl (r_fldp (k := 0) rfl Tryd.underlying30 rfl nz28 rfl) ?_
  refine qd rfl rfl rfl (r_ldp1 (u := v) ag28 rfl (hX20.pins _ _ _ (hbp12 0 _ rfl))) ?_
  refine qd rfl rfl rfl (r_fldp (k := 0) rfl Tryd.underlying30 rfl nz28 rfl) ?_
  refine qd rfl rfl rfl (r_ldp1 (u := v) ag28 rfl (hX20.pins _ _ _ (hbp12 0 _ rfl))) ?_
  refine qd rfl rfl rfl (run_len Tryd.underlying28 (v := v) rfl hv) ?_
  refine qd rfl rfl rfl (r_sub rfl rfl (by omega)) ?_
  refine qd rfl rfl rfl (run_idx Tryd.underlying28 sz69 (v := v) rfl rfl hv (by omega) (by omega)) ?_
  obtain ⟨u22, u23, hr24, hr25, hl26⟩ := nm_node (hv.at (z := ((ns.length : Int) - 1)) (by omega) (by omega)) (j := ((ns.length : Int) - 1).toNat) rfl
  have hm27 := hr24.max
  have hm28 := hr25.max
  refine qd rfl rfl rfl (hl26 ag69 sz69 rfl (Pins.of_le hX20.pins hle10)) ?_
  refine q0 rfl rfl rfl (o_stp (cs' := [u22, u23]) (us := [u22, u23]) (v := (.agg [u22, u23].toArray)) sz69 rfl rfl rfl (ones2 hr24.one hr25.one) hX20.pins hb17 (Nat.le_of_ble_eq_true rfl) rfl (fun w29 hb30 hp31 hg32 hz33 => ?_))
  have hX34 := hX20.write hp31 hg32 ((lo_box hlo21))
  refine qe ?_
  refine s_then ?_
  refine wp_ret ?_
  refine s_ret ?_
  refine c_retc (cs := [u22, u23]) rfl rfl rfl ag69 sz69 (fun j u hj => by rw [Nat.zero_add]; exact hb30.cell hj) ?_
  unfold lastN
  rw [← hlast]
  exact ⟨_, _, _, rfl, (hr24.mono hle10), (hr25.mono hle10), hX34⟩

theorem loaded_spec {w : World} {G : Pin} {p : Nat} {L R B : Value} {mm : PM} {q : PSt} (hP : Pins G w) (hpk : Pk 38 3 G w p L R B mm q) (hok : PoolOk q) {x : Value} {fs : List Nd} (hx : RSl eNode G x fs) (hf : FormOk fs) (hf1 : 1 ≤ fs.length) (hl : q.ns.length + fs.length ≤ 1048576) :
    Calls Tryd.prog 49 [(.pointer (some ⟨p, 0, none⟩)), (.agg [x].toArray)].toArray w fun e w' => ∃ (z : Int) (u v : Value) (xs ys : List Int) (L' R' B' : Value) (q' : PSt) (G' : Pin), e = .returned (.tuple #[.int .i64 z, u, v]) ∧ Pk 38 3 G' w' p L' R' B' mm q' ∧ PoolOk q' ∧ PX q q' ∧ PLo w p L R B mm L' R' B' ∧ Ext (inP p L R B mm) G w G' w' ∧ RSl eInt G' u xs ∧ RSl eInt G' v ys ∧ LoadedOk fs q' z xs ys ∧ q'.ns.length ≤ q.ns.length + fs.length := by
  refine s_enter (n := 28) Tryd.func49 Tryd.ntmps49 rfl rfl ?_
  have hX0 : Ext (inP p L R B mm) G w G w := Ext.refl hP
  have hpin : PIn w (inP p L R B mm) p L R B mm := PIn.self
  have hml1 : (q.ns.map Nd.l).length = q.ns.length ∧ (q.ns.map Nd.r).length = q.ns.length := ⟨List.length_map .., List.length_map ..⟩
  have hml2 : q.bs.length = q.ns.length ∧ q.ns.length ≤ 1048576 := ⟨hok.ar.ok.len, hok.ar.ok.lim⟩
  have hfl := hf.len
  have hlast : (lastN fs).l.length ≤ 1048576 ∧ (lastN fs).r.length ≤ 1048576 := hf.lens (fs.length - 1) (by omega)
  have oo : (∀ o ∈ (lastN fs).l, 0 ≤ o ∧ o < ((fs.length - 1 : Nat) : Int)) ∧ (∀ o ∈ (lastN fs).r, 0 ≤ o ∧ o < ((fs.length - 1 : Nat) : Int)) := optsAt hf.opts (show fs.length - 1 < fs.length by omega)
  refine s_seq ?_
  refine c_reg ?_
  refine q1 rfl rfl rfl (o_box [x] (v := (.agg [x].toArray)) rfl rfl hX0.pins (fun b3 w4 hk5 hb6 hp7 hl8 => ?_))
  have hX9 := hX0.step hp7 hl8
  have hpk10 := hpk.below hl8 hp7
  have ha15 := hpk.new (x := (some b3)) (fun k hk => by rw [(congrArg some hk5)] at hk; cases hk; exact Nat.le_refl _)
  have hlo16 : w.heap.size ≤ b3 := by have := hX0.size; omega
  obtain ⟨G17, hle18, hX19, hbp20, hf21⟩ := hb6.shut hX9 hlo16
  have hpk22 := hpk10.more hle18 hf21 ha15
  refine qd rfl rfl rfl (r_assign (v := (.int .i64 0)) rfl) ?_
  refine qd rfl rfl rfl (r_assign (v := (.slice none 0 0)) rfl) ?_
  refine qd rfl rfl rfl (r_assign (v := (.slice none 0 0)) rfl) ?_
  refine qe ?_
  refine s_then ?_
  refine s_seq ?_
  refine c_reg ?_
  refine qd rfl rfl rfl (r_move (v := (.pointer (some ⟨p, 0, none⟩))) rfl) ?_
  refine qd rfl rfl rfl (r_ldpA (cs := [x]) ag30 sz30 rfl (fun j u hj => hX19.pins _ _ _ (hbp20 _ _ (by simpa using hj)))) ?_
  refine q1 rfl rfl rfl (o_call (vs := [(.pointer (some ⟨p, 0, none⟩)), (.agg [x].toArray)]) Tryd.func69 nm69 rfl rfl rfl ?_)
  refine Calls.mono (load_spec hX19.pins hpk22 hok (hx.mono hle18) hf hl) ?_
  rintro _ w29 ⟨u23, ats, L24, R25, B26, q27, G28, rfl, hpk31, hok32, hpx33, hlo34, hx35, ho30, hnp37, hld36⟩
  refine ⟨_, rfl, ?_⟩
  have hX38 := hX19.trans hx35 hpin
  have hpin39 := PIn.call hpin hlo34 hX19.size
  have hql40 := hpx33.len
  have hml41 : (q27.ns.map Nd.l).length = q27.ns.length ∧ (q27.ns.map Nd.r).length = q27.ns.length := ⟨List.length_map .., List.length_map ..⟩
  have hml42 : q27.bs.length = q27.ns.length ∧ q27.ns.length ≤ 1048576 := ⟨hok32.ar.ok.len, hok32.ar.ok.lim⟩
  have ho43 := ho30.weaken hX19.size
  have hll44 := hld36.len
  refine qd rfl rfl rfl (r_assign (v := u23) rfl) ?_
  refine qe ?_
  refine s_then ?_
  refine s_seq ?_
  refine c_reg ?_
  refine qd rfl rfl rfl (r_ldpA (cs := [x]) ag30 sz30 rfl (fun j u hj => (Pins.of_le hX38.pins hx35.le) _ _ _ (hbp20 _ _ (by simpa using hj)))) ?_
  refine q1 rfl rfl rfl (o_call (vs := [(.agg [x].toArray)]) Tryd.func72 nm72 rfl rfl rfl ?_)
  refine Calls.mono (top_spec hX38.pins (hx.mono (Pin.le_trans hle18 hx35.le)) (by omega)) ?_
  rintro _ w48 ⟨u45, v46, G47, rfl, hr49, hr50, hx51⟩
  refine ⟨_, rfl, ?_⟩
  have hX52 := hX38.tr hx51
  have ho53 := ho43.ext hx51
  have hpk54 := hpk31.ext hx51
  refine q1 rfl rfl rfl (o_alloc [(.slice none 0 0), (.slice none 0 0)] zr69 rfl hX52.pins (fun b55 w56 hk57 hb58 hp59 hl60 => ?_))
  have hX61 := hX52.step hp59 hl60
  have ho62 := ho53.below hl60
  have hpk63 := hpk54.below hl60 hp59
  have ha64 : Apart (some b55) u23.ownBlock := new_ne_own (congrArg some hk57) ho53.lt
  have ha69 := hpk54.new (x := (some b55)) (fun k hk => by rw [(congrArg some hk57)] at hk; cases hk; exact Nat.le_refl _)
  have hlo70 : w.heap.size ≤ b55 := by have := hX52.size; omega
  refine q0 rfl rfl rfl (o_stp (cs' := [u45, v46]) (us := [u45, v46]) (v := (.agg [u45, v46].toArray)) sz69 rfl rfl rfl (ones2 hr49.one hr50.one) hX61.pins hb58 (Nat.le_of_ble_eq_true rfl) rfl (fun w71 hb72 hp73 hg74 hz75 => ?_))
  have hX76 := hX61.write hp73 hg74 ((lo_box hlo70))
  have ho77 := ho62.keptA hg74 ha64.symm
  have hpk78 := hpk63.kept hg74 hp73 ha69
  obtain ⟨G79, hle80, hX81, hbp82, hf83⟩ := hb72.shut hX76 hlo70
  have ho84 := ho77.moreA hle80 hf83 ha64.symm
  have hpk85 := hpk78.more hle80 hf83 ha69
  refine qe ?_
  refine s_then ?_
  refine s_seq ?_
  have hq86 := Gadd.pins hX81.pins u23
  have hr87 := ho84.read
  refine c_draw (S := fun wz => Pins (Gadd G79 w71 u23) wz ∧ Pins G79 wz) (last := 17) (by kernel_rfl) rfl ?_
  have hl88 : Below w71.heap.size w71 w71.drew := (Below.refl _ _).drew
  have hp89 := hX81.pins.below hl88
  have hX90 := hX81.step hp89 hl88
  have ho91 := ho84.below hl88
  have hpk92 := hpk85.below hl88 hp89
  have hq93 := hq86.below hl88
  refine dr_take (i := 0) rfl rfl rfl (want_none rfl _) (by kernel_rfl) (fun _ _ => r_move (v := u23) rfl) ⟨hq93, hX90.pins⟩ ?_
  refine dr_take (i := 1) rfl rfl rfl (want_none rfl _) (by kernel_rfl) (fun _ _ => r_move (v := u23) rfl) ⟨hq93, hX90.pins⟩ ?_
  refine dr_take (i := 2) rfl rfl rfl (want_none rfl _) (by kernel_rfl) (fun _ _ => run_len Tryd.underlying38 (v := u23) rfl hr87) ⟨hq93, hX90.pins⟩ ?_
  refine dr_take (i := 3) rfl rfl rfl (want_none rfl _) (by kernel_rfl) (fun _ _ => r_sub rfl rfl (by omega)) ⟨hq93, hX90.pins⟩ ?_
  refine dr_take (i := 4) rfl rfl rfl (want_none rfl _) (by kernel_rfl) (fun _ _ => run_idx Tryd.underlying38 sz3 (v := u23) rfl rfl hr87 (by omega) (by omega)) ⟨hq93, hX90.pins⟩ ?_
  refine dr_take (i := 5) rfl rfl rfl (want_none rfl _) (by kernel_rfl) (fun _ hS => run_load_int (r := ats.getD ((ats.length : Int) - 1).toNat 0) rfl ag3 (z := ((ats.length : Int) - 1)) rfl hr87 hS.1 (by omega) (by omega)) ⟨hq93, hX90.pins⟩ ?_
  refine dr_take (i := 6) rfl rfl rfl (want_none rfl _) (by kernel_rfl) (fun _ _ => r_fldp (k := 0) rfl Tryd.underlying69 rfl nz38 rfl) ⟨hq93, hX90.pins⟩ ?_
  refine dr_take (i := 7) rfl rfl rfl (want_none rfl _) (by kernel_rfl) (fun _ hS => r_ldp1 (u := u45) ag38 rfl (hS.2 _ _ _ (hbp82 0 _ rfl))) ⟨hq93, hX90.pins⟩ ?_
  refine dr_take (i := 8) rfl rfl rfl (want_none rfl _) (by kernel_rfl) (fun _ _ => r_move (v := u23) rfl) ⟨hq93, hX90.pins⟩ ?_
  refine dr_take (i := 10) rfl rfl rfl (want_none rfl _) (by kernel_rfl) (fun _ _ => r_fldp (k := 1) rfl Tryd.underlying69 rfl nz38 rfl) ⟨hq93, hX90.pins⟩ ?_
  refine dr_take (i := 11) rfl rfl rfl (want_none rfl _) (by kernel_rfl) (fun _ hS => r_ldp1 (u := v46) ag38 rfl (hS.2 _ _ _ (hbp82 1 _ rfl))) ⟨hq93, hX90.pins⟩ ?_
  refine dr_take (i := 12) rfl rfl rfl (want_none rfl _) (by kernel_rfl) (fun _ _ => r_move (v := u23) rfl) ⟨hq93, hX90.pins⟩ ?_
  refine dr_one (i := 9) (by kernel_rfl) (drOp1 (i := 9) rfl rfl rfl (want_none rfl _) (o_call (vs := [u45, u23]) Tryd.func73 nm73 rfl rfl rfl ?_))
  refine Calls.mono (renamed_spec (Gadd.pins hX90.pins u23) ((hr49.mono hle80).mono (Gadd.le _ _ _)) ho91.read (by omega) (fun i hi => by have h7 := oo.1 _ (getD_mem (d := (0 : Int)) hi); omega)) ?_
  rintro _ w96 ⟨u94, G95, rfl, ho97, hx98⟩
  refine ⟨_, rfl, ?_⟩
  have hx99 := deep_back hX90.pins hx98
  have ho100 := ho97.anti flat_int (Pin.le_trans (Gadd.le G79 w71.drew u23) hx98.le)
  have hX101 := hX90.step hx99.pins hx99.below
  have ho102 := ho91.below hx99.below
  have hpk103 := hpk92.below hx99.below hx99.pins
  have ha105 := hpk92.new (x := u94.ownBlock) (fun k hk => (ho100.lt k hk).1)
  have ho106 : Own eInt 3 G79 w96 w.heap.size u94 (atL ats ((lastN fs).l)) := ho100.weaken hX90.size
  have hm107 : (atL ats ((lastN fs).l)).length = ((lastN fs).l).length := at_length
  have hq108 := hq93.below hx99.below
  refine ⟨fun _ => ⟨hq108, hX101.pins⟩, ?_⟩
  refine dr_one (i := 13) (by kernel_rfl) (drOp1 (i := 13) rfl rfl rfl (want_none rfl _) (o_call (vs := [v46, u23]) Tryd.func73 nm73 rfl rfl rfl ?_))
  refine Calls.mono (renamed_spec (Gadd.pins hX101.pins u23) ((hr50.mono hle80).mono (Gadd.le _ _ _)) ho102.read (by omega) (fun i hi => by have h7 := oo.2 _ (getD_mem (d := (0 : Int)) hi); omega)) ?_
  rintro _ w111 ⟨u109, G110, rfl, ho112, hx113⟩
  refine ⟨_, rfl, ?_⟩
  have hx114 := deep_back hX101.pins hx113
  have ho115 := ho112.anti flat_int (Pin.le_trans (Gadd.le G79 w96 u23) hx113.le)
  have hX116 := hX101.step hx114.pins hx114.below
  have ho118 := ho106.below hx114.below
  have hpk119 := hpk103.below hx114.below hx114.pins
  have ha121 : Apart u109.ownBlock u94.ownBlock := made_ne_own ho115.lt ho106.lt
  have ha122 := hpk103.new (x := u109.ownBlock) (fun k hk => (ho115.lt k hk).1)
  have ho123 : Own eInt 3 G79 w111 w.heap.size u109 (atL ats ((lastN fs).r)) := ho115.weaken hX101.size
  have hm124 : (atL ats ((lastN fs).r)).length = ((lastN fs).r).length := at_length
  have hq125 := hq108.below hx114.below
  refine ⟨fun _ => ⟨hq125, hX116.pins⟩, ?_⟩
  refine dr_take (i := 14) rfl rfl rfl (want_none rfl _) (by kernel_rfl) (fun _ _ => r_assign (v := (.int .i64 (ats.getD ((ats.length : Int) - 1).toNat 0))) rfl) ⟨hq125, hX116.pins⟩ ?_
  refine dr_take (i := 15) rfl rfl rfl (want_none rfl _) (by kernel_rfl) (fun _ _ => r_assign (v := u94) rfl) ⟨hq125, hX116.pins⟩ ?_
  refine dr_take (i := 16) rfl rfl rfl (want_none rfl _) (by kernel_rfl) (fun _ _ => r_assign (v := u109) rfl) ⟨hq125, hX116.pins⟩ ?_
  refine dr_end (by kernel_rfl) ?_
  refine s_then ?_
  refine wp_ret ?_
  refine s_ret ?_
  refine c_ret3 (v := (.int .i64 (ats.getD ((ats.length : Int) - 1).toNat 0))) (u := u94) (x := u109) rfl rfl rfl rfl rfl rfl rfl ?_
  obtain ⟨G126, hle129, hX128, hr127, hf130⟩ := ho118.sealed hX116
  have ho132 := ho123.moreO hle129 hf130 ha121
  have hpk133 := hpk119.moreO hle129 hf130 ha105
  obtain ⟨G134, hle137, hX136, hr135, hf138⟩ := ho132.sealed hX128
  have hpk140 := hpk133.moreO hle137 hf138 ha122
  have hlo := hld36.loaded hf hf1
  rw [show fs.length - 1 = ((ats.length : Int) - 1).toNat by omega] at hlo
  exact ⟨_, u94, u109, _, _, L24, R25, B26, q27, G134, rfl, hpk140, hok32, hpx33, PIn.lo hpin39 rfl, hX136, (hr127.mono hle137), hr135, hlo, hld36.hi⟩

theorem through_spec {p : Nat} {L R B : Value} {mm : PM} {w : World} {G : Pin} {q : PSt} {f c : Int} {x : Value} {xs : List Int} {lf : Bool} (hP : Pins G w) (hpk : Pk 38 3 G w p L R B mm q) (hok : PoolOk q) (hf : PlaceOk q f) (hc : PlaceOk q c) (hx : RSl eInt G x xs) (hxs : xs = (if lf = true then (q.ns.getD (c).toNat default).r else (q.ns.getD (c).toNat default).l)) (hxp : ∀ z ∈ xs, PlaceOk q z) :
    Calls Tryd.prog 75 [(.pointer (some ⟨p, 0, none⟩)), (.int .i64 f), (.int .i64 c), (.bool lf), x].toArray w fun e w' => ∃ (t : Int) (q' : PSt) (G' : Pin), e = .returned (.int .i64 t) ∧ thrP q.ns lf f c t ∧ Pk 38 3 G' w' p L R B mm q' ∧ PoolOk q' ∧ PX q q' ∧ (q'.ns = q.ns ∧ q'.bs = q.bs) ∧ Ext (inO (some mm.o)) G w G' w' := by
  refine s_enter (n := 38) Tryd.func75 Tryd.ntmps75 rfl rfl ?_
  have hX0 : Ext (inO (some mm.o)) G w G w := Ext.refl hP
  have hpin : PIn w (inP p L R B mm) p L R B mm := PIn.self
  have hml1 : (q.ns.map Nd.l).length = q.ns.length ∧ (q.ns.map Nd.r).length = q.ns.length := ⟨List.length_map .., List.length_map ..⟩
  have hml2 : q.bs.length = q.ns.length ∧ q.ns.length ≤ 1048576 := ⟨hok.ar.ok.len, hok.ar.ok.lim⟩
  have hm := hx.max
  refine s_seq ?_
  refine c_reg ?_
  refine qd rfl rfl rfl (r_assign (v := (.int .i64 0)) rfl) ?_
  refine qe ?_
  refine s_then ?_
  refine s_seq ?_
  refine s_seq ?_
  refine c_reg ?_
  refine qd rfl rfl rfl (r_move (v := x) rfl) ?_
  refine qd rfl rfl rfl (run_len Tryd.underlying38 (v := x) rfl hx) ?_
  refine qd rfl rfl rfl (r_move (v := (.int .i64 0)) rfl) ?_
  refine qe ?_
  refine s_then ?_
  refine s_blk ?_
  refine s_loop (fun (k : Nat) (en : Nat → Value) (W : World) => ∃ (env1 : Nat → Value) (i : Nat) (q6 : PSt) (GL1 : Pin), en = (upd (upd (upd (upd (upd (upd env1 0 (.pointer (some ⟨p, 0, none⟩))) 1 (.int .i64 f)) 3 (.bool lf)) 13 x) 14 (.int .i64 (xs.length : Int))) 15 (.int .i64 (i : Int))) ∧ k = xs.length - i ∧ Ext (inO (some mm.o)) G w GL1 W ∧ Pin.le G GL1 ∧ (i ≤ xs.length) ∧ (lf = true → ∀ x, x < i → geB q.ns f (xs.getD x 0) = false) ∧ (lf = false → ∀ x, x < i → geB q.ns (xs.getD x 0) f = false) ∧ (Pk 38 3 GL1 W p L R B mm q6) ∧ (PoolOk q6) ∧ (PX q q6) ∧ (q6.ns = q.ns ∧ q6.bs = q.bs)) _ ⟨_, 0, q, G, (packS (x := 15) (packS (x := 14) (packS (x := 13) (packS (x := 3) (packS (x := 1) (pack1 (x := 0) rfl) rfl) rfl) rfl) rfl) rfl), rfl, hX0, Pin.le_refl _, Nat.zero_le _, (fun _ x h => absurd h (Nat.not_lt_zero x)), (fun _ x h => absurd h (Nat.not_lt_zero x)), hpk, hok, (PX.refl _), ⟨rfl, rfl⟩⟩ ?_
  rintro k7 _ w8 ⟨env1, i, q6, GL1, rfl, hk9, hX10, hlek7, hi, hpt, hpf, hpk11, hok12, hpx13, hqn14⟩
  have hql15 := hpx13.len
  have hml16 : (q6.ns.map Nd.l).length = q6.ns.length ∧ (q6.ns.map Nd.r).length = q6.ns.length := ⟨List.length_map .., List.length_map ..⟩
  have hml17 : q6.bs.length = q6.ns.length ∧ q6.ns.length ≤ 1048576 := ⟨hok12.ar.ok.len, hok12.ar.ok.lim⟩
  refine s_seq ?_
  refine c_reg ?_
  refine qd rfl rfl rfl (r_lss rfl rfl) ?_
  refine qe ?_
  refine s_then ?_
  refine s_seq ?_
  refine c_ifd (p := ((i : Int) : Int) < (xs.length : Int)) rfl rfl (fun h18 => ?_) (fun h18 => ?_)
  · skip
    refine wp_skip ?_
    refine s_then ?_
    refine s_seq ?_
    refine s_blk ?_
    refine s_seq ?_
    refine c_reg ?_
    refine qd rfl rfl rfl (run_idx Tryd.underlying38 sz3 (v := x) rfl rfl hx (by omega) (by omega)) ?_
    refine qd rfl rfl rfl (run_load_int (r := xs.getD i 0) rfl ag3 (z := (i : Int)) rfl hx (Pins.of_le hX10.pins hlek7) (by omega) (by omega)) ?_
    refine qd rfl rfl rfl (r_assign (v := (.int .i64 (xs.getD i 0))) rfl) ?_
    refine qe ?_
    refine s_then ?_
    refine s_seq ?_
    refine c_reg ?_
    refine qd rfl rfl rfl (r_move (v := (.bool lf)) rfl) ?_
    refine qd rfl rfl rfl (r_move (v := (.bool lf)) rfl) ?_
    refine qb (t := 20) rfl (fun h19 => ?_) (fun h19 => ?_)
    · skip
      refine qdg rfl rfl rfl rfl rfl rfl (r_move (v := (.pointer (some ⟨p, 0, none⟩))) rfl) ?_
      refine qdg rfl rfl rfl rfl rfl rfl (r_move (v := (.int .i64 f)) rfl) ?_
      refine qdg rfl rfl rfl rfl rfl rfl (r_move (v := (.int .i64 (xs.getD i 0))) rfl) ?_
      refine q1g rfl rfl rfl rfl rfl rfl (o_call (vs := [(.pointer (some ⟨p, 0, none⟩)), (.int .i64 f), (.int .i64 (xs.getD i 0))]) Tryd.func38 nm38 rfl rfl rfl ?_)
      refine Calls.mono (ge_spec hX10.pins hpk11 hok12 (hf.same hqn14) ((hxp _ (getD_mem (d := (0 : Int)) (show i < xs.length by omega))).same hqn14)) ?_
      rintro _ w22 ⟨q20, G21, rfl, hpk23, hok24, hpx25, hqn26, hx27⟩
      refine ⟨_, rfl, ?_⟩
      have hX28 := hX10.trans hx27 (fun i hi => lo_self i hi)
      have hql29 := hpx25.len
      have hml30 : (q20.ns.map Nd.l).length = q20.ns.length ∧ (q20.ns.map Nd.r).length = q20.ns.length := ⟨List.length_map .., List.length_map ..⟩
      have hml31 : q20.bs.length = q20.ns.length ∧ q20.ns.length ≤ 1048576 := ⟨hok24.ar.ok.len, hok24.ar.ok.lim⟩
      have hql32 := congrArg List.length hqn26.1
      refine qd rfl rfl rfl (r_pickT (v := (.bool (geB q6.ns f (xs.getD i 0)))) rfl rfl) ?_
      refine qd rfl rfl rfl (r_move (v := (.bool (geB q6.ns f (xs.getD i 0)))) rfl) ?_
      refine qb (t := 26) rfl (fun h33 => ?_) (fun h33 => ?_)
      · skip
        refine qs rfl rfl rfl rfl rfl rfl ?_
        refine qs rfl rfl rfl rfl rfl rfl ?_
        refine qs rfl rfl rfl rfl rfl rfl ?_
        refine qsu rfl rfl rfl rfl rfl ?_
        refine qsu rfl rfl rfl rfl rfl ?_
        refine qsu rfl rfl rfl rfl rfl ?_
        refine qsu rfl rfl rfl rfl rfl ?_
        refine qs rfl rfl rfl rfl rfl rfl ?_
        refine qd rfl rfl rfl (r_pickT (v := (.bool true)) rfl rfl) ?_
        refine qe ?_
        refine s_then ?_
        refine c_ifT rfl rfl ?_
        refine s_seq ?_
        refine c_reg ?_
        refine qd rfl rfl rfl (r_move (v := (.int .i64 (xs.getD i 0))) rfl) ?_
        refine qd rfl rfl rfl (r_assign (v := (.int .i64 (xs.getD i 0))) rfl) ?_
        refine qe ?_
        refine s_then ?_
        refine wp_ret ?_
        refine s_ret ?_
        refine c_ret1 (v := (.int .i64 (xs.getD i 0))) rfl rfl rfl ?_
        have hmem : xs.getD i 0 ∈ xs := getD_mem (show i < xs.length by omega)
        rw [h19, if_pos rfl] at hxs
        exact ⟨_, q20, _, rfl, thr_hit hok.ar.opts hc (Or.inl ⟨h19, hxs ▸ hmem, ((geB_same hqn14).symm.trans h33)⟩), hpk23, hok24, (PX.trans hpx13 hpx25), (ns_trans hqn14 hqn26), hX28⟩
      refine qdg rfl rfl rfl rfl rfl rfl (r_move (v := (.bool lf)) rfl) ?_
      refine qdg rfl rfl rfl rfl rfl rfl (r_not rfl) ?_
      refine qdg rfl rfl rfl rfl rfl rfl (r_move (v := (.bool (!lf))) rfl) ?_
      refine qbn (t := 29) rfl (fun h34 => ?_) (fun h34 => ?_)
      · skip
        refine qs rfl rfl rfl rfl rfl rfl ?_
        refine qs rfl rfl rfl rfl rfl rfl ?_
        refine qs rfl rfl rfl rfl rfl rfl ?_
        refine qs rfl rfl rfl rfl rfl rfl ?_
        refine qdg rfl rfl rfl rfl rfl rfl (r_pickF (v := (.bool false)) rfl rfl) ?_
        refine qd rfl rfl rfl (r_pickF (v := (.bool false)) rfl rfl) ?_
        refine qe ?_
        refine s_then ?_
        refine c_ifF rfl rfl ?_
        refine wp_skip ?_
        refine s_blkN ?_
        refine s_then ?_
        refine c_reg ?_
        refine qd rfl rfl rfl (r_add rfl rfl (by omega)) ?_
        refine qd rfl rfl rfl (r_move (v := (.int .i64 ((i : Int) + 1))) rfl) ?_
        refine qe ?_
        refine s_lopN ?_
        refine ⟨_, ?_, _, rfl, _, i + 1, q20, G21, (packS (x := 15) (packS (x := 14) (packS (x := 13) (packS (x := 3) (packS (x := 1) (pack1 (x := 0) rfl) rfl) rfl) rfl) rfl) rfl), rfl, hX28, (Pin.le_trans hlek7 hx27.le), (by omega), (fun hl x h2 => if h3 : x = i then h3 ▸ ((geB_same hqn14).symm.trans h33) else hpt hl x (by omega)), (fun hl => absurd (h19.symm.trans hl) (by decide)), hpk23, hok24, (PX.trans hpx13 hpx25), (ns_trans hqn14 hqn26)⟩
        omega
      refine qdg rfl rfl rfl rfl rfl rfl (r_move (v := (.pointer (some ⟨p, 0, none⟩))) rfl) ?_
      refine qdg rfl rfl rfl rfl rfl rfl (r_move (v := (.int .i64 (xs.getD i 0))) rfl) ?_
      refine qdg rfl rfl rfl rfl rfl rfl (r_move (v := (.int .i64 f)) rfl) ?_
      refine q1g rfl rfl rfl rfl rfl rfl (o_call (vs := [(.pointer (some ⟨p, 0, none⟩)), (.int .i64 (xs.getD i 0)), (.int .i64 f)]) Tryd.func38 nm38 rfl rfl rfl ?_)
      refine Calls.mono (ge_spec hX28.pins hpk23 hok24 ((hxp _ (getD_mem (d := (0 : Int)) (show i < xs.length by omega))).same (ns_trans hqn14 hqn26)) (hf.same (ns_trans hqn14 hqn26))) ?_
      rintro _ w37 ⟨q35, G36, rfl, hpk38, hok39, hpx40, hqn41, hx42⟩
      refine ⟨_, rfl, ?_⟩
      have hX43 := hX28.trans hx42 (fun i hi => lo_self i hi)
      have hql44 := hpx40.len
      have hml45 : (q35.ns.map Nd.l).length = q35.ns.length ∧ (q35.ns.map Nd.r).length = q35.ns.length := ⟨List.length_map .., List.length_map ..⟩
      have hml46 : q35.bs.length = q35.ns.length ∧ q35.ns.length ≤ 1048576 := ⟨hok39.ar.ok.len, hok39.ar.ok.lim⟩
      have hql47 := congrArg List.length hqn41.1
      refine qdg rfl rfl rfl rfl rfl rfl (r_pickT (v := (.bool (geB q20.ns (xs.getD i 0) f))) rfl rfl) ?_
      refine qd rfl rfl rfl (r_pickF (v := (.bool (geB q20.ns (xs.getD i 0) f))) rfl rfl) ?_
      refine qe ?_
      refine s_then ?_
      refine c_if rfl rfl (fun h48 => ?_) (fun h48 => ?_)
      · skip
        refine s_seq ?_
        refine c_reg ?_
        refine qd rfl rfl rfl (r_move (v := (.int .i64 (xs.getD i 0))) rfl) ?_
        refine qd rfl rfl rfl (r_assign (v := (.int .i64 (xs.getD i 0))) rfl) ?_
        refine qe ?_
        refine s_then ?_
        refine wp_ret ?_
        refine s_ret ?_
        refine c_ret1 (v := (.int .i64 (xs.getD i 0))) rfl rfl rfl ?_
        exact (absurd (h34.symm.trans h19) Bool.false_ne_true)
      refine wp_skip ?_
      refine s_blkN ?_
      refine s_then ?_
      refine c_reg ?_
      refine qd rfl rfl rfl (r_add rfl rfl (by omega)) ?_
      refine qd rfl rfl rfl (r_move (v := (.int .i64 ((i : Int) + 1))) rfl) ?_
      refine qe ?_
      refine s_lopN ?_
      refine ⟨_, ?_, _, rfl, _, i + 1, q35, G36, (packS (x := 15) (packS (x := 14) (packS (x := 13) (packS (x := 3) (packS (x := 1) (pack1 (x := 0) rfl) rfl) rfl) rfl) rfl) rfl), rfl, hX43, (Pin.le_trans (Pin.le_trans hlek7 hx27.le) hx42.le), (by omega), (absurd (h34.symm.trans h19) Bool.false_ne_true), (absurd (h34.symm.trans h19) Bool.false_ne_true), hpk38, hok39, (PX.trans (PX.trans hpx13 hpx25) hpx40), (ns_trans (ns_trans hqn14 hqn26) hqn41)⟩
      omega
    refine qs rfl rfl rfl rfl rfl rfl ?_
    refine qs rfl rfl rfl rfl rfl rfl ?_
    refine qs rfl rfl rfl rfl rfl rfl ?_
    refine qs rfl rfl rfl rfl rfl rfl ?_
    refine qd rfl rfl rfl (r_pickF (v := (.bool false)) rfl rfl) ?_
    refine qd rfl rfl rfl (r_move (v := (.bool false)) rfl) ?_
    refine qdg rfl rfl rfl rfl rfl rfl (r_move (v := (.bool lf)) rfl) ?_
    refine qdg rfl rfl rfl rfl rfl rfl (r_not rfl) ?_
    refine qdg rfl rfl rfl rfl rfl rfl (r_move (v := (.bool (!lf))) rfl) ?_
    refine qbn (t := 29) rfl (fun h49 => ?_) (fun h49 => ?_)
    · skip
      refine qs rfl rfl rfl rfl rfl rfl ?_
      refine qs rfl rfl rfl rfl rfl rfl ?_
      refine qs rfl rfl rfl rfl rfl rfl ?_
      refine qs rfl rfl rfl rfl rfl rfl ?_
      refine qdg rfl rfl rfl rfl rfl rfl (r_pickF (v := (.bool false)) rfl rfl) ?_
      refine qd rfl rfl rfl (r_pickF (v := (.bool false)) rfl rfl) ?_
      refine qe ?_
      refine s_then ?_
      refine c_ifF rfl rfl ?_
      refine wp_skip ?_
      refine s_blkN ?_
      refine s_then ?_
      refine c_reg ?_
      refine qd rfl rfl rfl (r_add rfl rfl (by omega)) ?_
      refine qd rfl rfl rfl (r_move (v := (.int .i64 ((i : Int) + 1))) rfl) ?_
      refine qe ?_
      refine s_lopN ?_
      refine ⟨_, ?_, _, rfl, _, i + 1, q6, GL1, (packS (x := 15) (packS (x := 14) (packS (x := 13) (packS (x := 3) (packS (x := 1) (pack1 (x := 0) rfl) rfl) rfl) rfl) rfl) rfl), rfl, hX10, hlek7, (by omega), (absurd (h19.symm.trans h49) Bool.false_ne_true), (absurd (h19.symm.trans h49) Bool.false_ne_true), hpk11, hok12, hpx13, hqn14⟩
      omega
    refine qdg rfl rfl rfl rfl rfl rfl (r_move (v := (.pointer (some ⟨p, 0, none⟩))) rfl) ?_
    refine qdg rfl rfl rfl rfl rfl rfl (r_move (v := (.int .i64 (xs.getD i 0))) rfl) ?_
    refine qdg rfl rfl rfl rfl rfl rfl (r_move (v := (.int .i64 f)) rfl) ?_
    refine q1g rfl rfl rfl rfl rfl rfl (o_call (vs := [(.pointer (some ⟨p, 0, none⟩)), (.int .i64 (xs.getD i 0)), (.int .i64 f)]) Tryd.func38 nm38 rfl rfl rfl ?_)
    refine Calls.mono (ge_spec hX10.pins hpk11 hok12 ((hxp _ (getD_mem (d := (0 : Int)) (show i < xs.length by omega))).same hqn14) (hf.same hqn14)) ?_
    rintro _ w52 ⟨q50, G51, rfl, hpk53, hok54, hpx55, hqn56, hx57⟩
    refine ⟨_, rfl, ?_⟩
    have hX58 := hX10.trans hx57 (fun i hi => lo_self i hi)
    have hql59 := hpx55.len
    have hml60 : (q50.ns.map Nd.l).length = q50.ns.length ∧ (q50.ns.map Nd.r).length = q50.ns.length := ⟨List.length_map .., List.length_map ..⟩
    have hml61 : q50.bs.length = q50.ns.length ∧ q50.ns.length ≤ 1048576 := ⟨hok54.ar.ok.len, hok54.ar.ok.lim⟩
    have hql62 := congrArg List.length hqn56.1
    refine qdg rfl rfl rfl rfl rfl rfl (r_pickT (v := (.bool (geB q6.ns (xs.getD i 0) f))) rfl rfl) ?_
    refine qd rfl rfl rfl (r_pickF (v := (.bool (geB q6.ns (xs.getD i 0) f))) rfl rfl) ?_
    refine qe ?_
    refine s_then ?_
    refine c_if rfl rfl (fun h63 => ?_) (fun h63 => ?_)
    · skip
      refine s_seq ?_
      refine c_reg ?_
      refine qd rfl rfl rfl (r_move (v := (.int .i64 (xs.getD i 0))) rfl) ?_
      refine qd rfl rfl rfl (r_assign (v := (.int .i64 (xs.getD i 0))) rfl) ?_
      refine qe ?_
      refine s_then ?_
      refine wp_ret ?_
      refine s_ret ?_
      refine c_ret1 (v := (.int .i64 (xs.getD i 0))) rfl rfl rfl ?_
      have hmem : xs.getD i 0 ∈ xs := getD_mem (show i < xs.length by omega)
      rw [h19, if_neg Bool.false_ne_true] at hxs
      exact ⟨_, q50, _, rfl, thr_hit hok.ar.opts hc (Or.inr ⟨h19, hxs ▸ hmem, ((geB_same hqn14).symm.trans h63)⟩), hpk53, hok54, (PX.trans hpx13 hpx55), (ns_trans hqn14 hqn56), hX58⟩
    refine wp_skip ?_
    refine s_blkN ?_
    refine s_then ?_
    refine c_reg ?_
    refine qd rfl rfl rfl (r_add rfl rfl (by omega)) ?_
    refine qd rfl rfl rfl (r_move (v := (.int .i64 ((i : Int) + 1))) rfl) ?_
    refine qe ?_
    refine s_lopN ?_
    refine ⟨_, ?_, _, rfl, _, i + 1, q50, G51, (packS (x := 15) (packS (x := 14) (packS (x := 13) (packS (x := 3) (packS (x := 1) (pack1 (x := 0) rfl) rfl) rfl) rfl) rfl) rfl), rfl, hX58, (Pin.le_trans hlek7 hx57.le), (by omega), (fun hl => absurd (h19.symm.trans hl) (by decide)), (fun hl x h2 => if h3 : x = i then h3 ▸ ((geB_same hqn14).symm.trans h63) else hpf hl x (by omega)), hpk53, hok54, (PX.trans hpx13 hpx55), (ns_trans hqn14 hqn56)⟩
    omega
  refine wp_exit ?_
  refine s_thenE ?_
  refine s_lopE ?_
  refine s_blkE ?_
  refine s_then ?_
  refine s_seq ?_
  refine c_reg ?_
  refine qd rfl rfl rfl (r_assign (v := (.int .i64 (-1))) rfl) ?_
  refine qe ?_
  refine s_then ?_
  refine wp_ret ?_
  refine s_ret ?_
  refine c_ret1 (v := (.int .i64 (-1))) rfl rfl rfl ?_
  have hii : i = xs.length := by omega
  refine ⟨_, q6, _, rfl, ?_, hpk11, hok12, hpx13, hqn14, hX10⟩
  cases hlf : lf
  · rw [hlf, if_neg Bool.false_ne_true] at hxs
    exact thr_none_f hok.ar.opts hc (fun k hk => by rw [← hxs] at hk ⊢; exact hpf hlf k (by omega))
  · rw [hlf, if_pos rfl] at hxs
    exact thr_none_t hok.ar.opts hc (fun k hk => by rw [← hxs] at hk ⊢; exact hpt hlf k (by omega))

theorem ireversible_spec {p : Nat} {L R B : Value} {mm : PM} {w : World} {G : Pin} {q : PSt} {f : Int} {x : Value} {xs : List Int} {lf : Bool} (hP : Pins G w) (hpk : Pk 38 3 G w p L R B mm q) (hok : PoolOk q) (hf : PlaceOk q f) (hx : RSl eInt G x xs) (hxl : xs.length ≤ 1048576) (hpl : ∀ i, i < xs.length → PlaceOk q (xs.getD i 0)) :
    Calls Tryd.prog 52 [(.pointer (some ⟨p, 0, none⟩)), (.int .i64 f), x, (.bool lf)].toArray w fun e w' => ∃ (u : Value) (q' : PSt) (G' : Pin), e = .returned u ∧ Own eInt 3 G' w' w.heap.size u (revL (gX q xs) (pd q f) lf xs.length) ∧ Pk 38 3 G' w' p L R B mm q' ∧ PoolOk q' ∧ PX q q' ∧ (q'.ns = q.ns ∧ q'.bs = q.bs) ∧ Ext (inO (some mm.o)) G w G' w' := by
  refine s_enter (n := 49) Tryd.func52 Tryd.ntmps52 rfl rfl ?_
  have hX0 : Ext (inO (some mm.o)) G w G w := Ext.refl hP
  have hpin : PIn w (inP p L R B mm) p L R B mm := PIn.self
  have hml1 : (q.ns.map Nd.l).length = q.ns.length ∧ (q.ns.map Nd.r).length = q.ns.length := ⟨List.length_map .., List.length_map ..⟩
  have hml2 : q.bs.length = q.ns.length ∧ q.ns.length ≤ 1048576 := ⟨hok.ar.ok.len, hok.ar.ok.lim⟩
  refine s_seq ?_
  refine c_reg ?_
  refine qd rfl rfl rfl (r_assign (v := (.slice none 0 0)) rfl) ?_
  refine qe ?_
  refine s_then ?_
  refine s_seq ?_
  refine c_reg ?_
  refine q1 rfl rfl rfl (o_build0 (E := eInt) (e := 3) Tryd.underlying38 sz3 hX0.pins (fun u3 w4 ho5 hp6 hl7 hk8 => ?_))
  have hX9 := hX0.step hp6 hl7
  have hpk10 := hpk.below hl7 hp6
  have ha15 := hpk.new (x := u3.ownBlock) (fun k hk => by rw [hk8] at hk; cases hk; exact Nat.le_refl _)
  have ho16 : Own eInt 3 G w4 w.heap.size u3 ([]) := ho5.weaken hX0.size
  refine qd rfl rfl rfl (r_assign (v := u3) rfl) ?_
  refine qe ?_
  refine s_then ?_
  refine s_seq ?_
  refine s_seq ?_
  refine c_reg ?_
  refine qd rfl rfl rfl (r_move (v := x) rfl) ?_
  refine qd rfl rfl rfl (run_len Tryd.underlying38 (v := x) rfl hx) ?_
  refine qd rfl rfl rfl (r_move (v := (.int .i64 0)) rfl) ?_
  refine qe ?_
  refine s_then ?_
  refine s_blk ?_
  refine s_loop (fun (k : Nat) (en : Nat → Value) (W : World) => ∃ (env1 : Nat → Value) (i : Nat) (ov : Value) (out : List Int) (q20 : PSt) (GL1 : Pin), en = (upd (upd (upd (upd (upd (upd (upd (upd env1 0 (.pointer (some ⟨p, 0, none⟩))) 1 (.int .i64 f)) 3 (.bool lf)) 8 (.slice none 0 0)) 9 ov) 14 x) 15 (.int .i64 (xs.length : Int))) 16 (.int .i64 (i : Int))) ∧ k = xs.length - i ∧ Ext (inO (some mm.o)) G w GL1 W ∧ Pin.le G GL1 ∧ (i ≤ xs.length) ∧ (out = revL (gX q xs) (pd q f) lf i) ∧ (Own eInt 3 GL1 W w.heap.size ov (out)) ∧ (Pk 38 3 GL1 W p L R B mm q20) ∧ (PoolOk q20) ∧ (PX q q20) ∧ (q20.ns = q.ns ∧ q20.bs = q.bs) ∧ (NP p L R B mm ov.ownBlock)) _ ⟨_, 0, u3, [], q, G, (packS (x := 16) (packS (x := 15) (packS (x := 14) (packS (x := 9) (packS (x := 8) (packS (x := 3) (packS (x := 1) (pack1 (x := 0) rfl) rfl) rfl) rfl) rfl) rfl) rfl) rfl), rfl, hX9, Pin.le_refl _, Nat.zero_le _, rfl, ho16, hpk10, hok, (PX.refl _), ⟨rfl, rfl⟩, ha15⟩ ?_
  rintro k21 _ w22 ⟨env1, i, ov, out, q20, GL1, rfl, hk23, hX24, hlek21, hi, hout, hw25, hpk26, hok27, hpx28, hqn29, hnp30⟩
  have hql31 := hpx28.len
  have hml32 : (q20.ns.map Nd.l).length = q20.ns.length ∧ (q20.ns.map Nd.r).length = q20.ns.length := ⟨List.length_map .., List.length_map ..⟩
  have hml33 : q20.bs.length = q20.ns.length ∧ q20.ns.length ≤ 1048576 := ⟨hok27.ar.ok.len, hok27.ar.ok.lim⟩
  have hol : out.length ≤ i := by rw [hout]; exact rev_len i
  refine s_seq ?_
  refine c_reg ?_
  refine qd rfl rfl rfl (r_lss rfl rfl) ?_
  refine qe ?_
  refine s_then ?_
  refine s_seq ?_
  refine c_ifd (p := ((i : Int) : Int) < (xs.length : Int)) rfl rfl (fun h34 => ?_) (fun h34 => ?_)
  · skip
    have hpi := hpl i (by omega)
    have hpi1 := hpi.1
    have hpi2 := hpi.2
    refine wp_skip ?_
    refine s_then ?_
    refine s_seq ?_
    refine s_blk ?_
    refine s_seq ?_
    refine c_reg ?_
    refine qd rfl rfl rfl (r_move (v := (.int .i64 (i : Int))) rfl) ?_
    refine qd rfl rfl rfl (run_idx Tryd.underlying38 sz3 (v := x) rfl rfl hx (by omega) (by omega)) ?_
    refine qd rfl rfl rfl (run_load_int (r := xs.getD i 0) rfl ag3 (z := (i : Int)) rfl hx (Pins.of_le hX24.pins hlek21) (by omega) (by omega)) ?_
    refine qd rfl rfl rfl (r_assign (v := (.int .i64 (i : Int))) rfl) ?_
    refine qd rfl rfl rfl (r_assign (v := (.int .i64 (xs.getD i 0))) rfl) ?_
    refine qe ?_
    refine s_then ?_
    refine s_seq ?_
    refine c_reg ?_
    refine qd rfl rfl rfl (r_move (v := (.pointer (some ⟨p, 0, none⟩))) rfl) ?_
    refine qd rfl rfl rfl (r_nil rfl) ?_
    refine qd rfl rfl rfl (r_fldp (k := 0) rfl Tryd.underlying99 rfl nz97 rfl) ?_
    refine qd rfl rfl rfl (r_ldp1 (u := L) ag97 rfl (hpk26.bx.cell (o := 0) rfl)) ?_
    refine qd rfl rfl rfl (r_move (v := (.int .i64 (xs.getD i 0))) rfl) ?_
    refine qd rfl rfl rfl (run_idx Tryd.underlying97 sz38 (v := L) rfl rfl hpk26.ol.read (by omega) (by omega)) ?_
    obtain ⟨u35, hr36, hl37⟩ := nm_sl (hpk26.ol.at (z := (xs.getD i 0)) (by omega) (by omega)) (j := (xs.getD i 0).toNat) rfl
    rw [mapl_getD] at hr36
    have hm38 := hr36.max
    refine qd rfl rfl rfl (hl37 ag38 rfl (Gadd.pins hX24.pins L)) ?_
    refine qd rfl rfl rfl (r_assign (v := u35) rfl) ?_
    refine qe ?_
    refine s_then ?_
    refine s_seq ?_
    refine s_seq ?_
    refine c_reg ?_
    refine qd rfl rfl rfl (r_move (v := (.bool lf)) rfl) ?_
    refine qe ?_
    refine s_then ?_
    refine c_if rfl rfl (fun h39 => ?_) (fun h39 => ?_)
    · skip
      refine c_reg ?_
      refine qd rfl rfl rfl (r_move (v := (.pointer (some ⟨p, 0, none⟩))) rfl) ?_
      refine qd rfl rfl rfl (r_nil rfl) ?_
      refine qd rfl rfl rfl (r_fldp (k := 1) rfl Tryd.underlying99 rfl nz97 rfl) ?_
      refine qd rfl rfl rfl (r_ldp1 (u := R) ag97 rfl (hpk26.bx.cell (o := 1) rfl)) ?_
      refine qd rfl rfl rfl (r_move (v := (.int .i64 (xs.getD i 0))) rfl) ?_
      refine qd rfl rfl rfl (run_idx Tryd.underlying97 sz38 (v := R) rfl rfl hpk26.rr.read (by omega) (by omega)) ?_
      obtain ⟨u40, hr41, hl42⟩ := nm_sl (hpk26.rr.at (z := (xs.getD i 0)) (by omega) (by omega)) (j := (xs.getD i 0).toNat) rfl
      rw [mapr_getD] at hr41
      have hm43 := hr41.max
      refine qd rfl rfl rfl (hl42 ag38 rfl (Gadd.pins hX24.pins R)) ?_
      refine qd rfl rfl rfl (r_assign (v := u40) rfl) ?_
      refine qe ?_
      refine s_then ?_
      refine s_seq ?_
      refine c_reg ?_
      refine qd rfl rfl rfl (r_move (v := (.pointer (some ⟨p, 0, none⟩))) rfl) ?_
      refine qd rfl rfl rfl (r_move (v := (.int .i64 f)) rfl) ?_
      refine qd rfl rfl rfl (r_move (v := (.int .i64 (xs.getD i 0))) rfl) ?_
      refine qd rfl rfl rfl (r_move (v := (.bool lf)) rfl) ?_
      refine qd rfl rfl rfl (r_move (v := u40) rfl) ?_
      refine q1 rfl rfl rfl (o_call (vs := [(.pointer (some ⟨p, 0, none⟩)), (.int .i64 f), (.int .i64 (xs.getD i 0)), (.bool lf), u40]) Tryd.func75 nm75 rfl rfl rfl ?_)
      refine Calls.mono (through_spec hX24.pins hpk26 hok27 (lf := lf) (hf.same hqn29) ((hpl i (by omega)).same hqn29) hr41 (by rw [h39, if_pos rfl]) (opts_place hok27 ((hpl i (by omega)).same hqn29)).2) ?_
      rintro _ w47 ⟨t44, q45, G46, rfl, hthr48, hpk49, hok50, hpx51, hqn52, hx53⟩
      refine ⟨_, rfl, ?_⟩
      have hX54 := hX24.trans hx53 (fun i hi => lo_self i hi)
      have ho55 := hw25.extS hx53 (notO (NP.ho hnp30))
      have hql56 := hpx51.len
      have hml57 : (q45.ns.map Nd.l).length = q45.ns.length ∧ (q45.ns.map Nd.r).length = q45.ns.length := ⟨List.length_map .., List.length_map ..⟩
      have hml58 : q45.bs.length = q45.ns.length ∧ q45.ns.length ≤ 1048576 := ⟨hok50.ar.ok.len, hok50.ar.ok.lim⟩
      have hql59 := congrArg List.length hqn52.1
      have hthr60 := thr_same hqn29 hthr48
      refine qd rfl rfl rfl (r_geq rfl rfl) ?_
      refine qe ?_
      refine s_then ?_
      refine c_ifd (p := (0 : Int) ≤ t44) rfl rfl (fun h61 => ?_) (fun h61 => ?_)
      · skip
        refine c_reg ?_
        refine qd rfl rfl rfl (r_move (v := ov) rfl) ?_
        refine qd rfl rfl rfl (r_move (v := (.int .i64 (i : Int))) rfl) ?_
        refine q1 rfl rfl rfl (o_buildF (E := eInt) (e := 3) [(.int .i64 (i : Int))] [(i : Int)] Tryd.underlying38 sz3 zr3 (by exact reps1 (by rfl)) (ones1 (by rfl)) rfl rfl rfl rfl (by decide) hX54.pins (fun u62 w63 ho64 hp65 hl66 hk67 => ?_))
        have hX68 := hX54.step hp65 hl66
        have ho69 := ho55.below hl66
        have hpk70 := hpk49.below hl66 hp65
        have ha71 : Apart u62.ownBlock ov.ownBlock := new_ne_own hk67 ho55.lt
        have ho77 : Own eInt 3 G46 w63 w.heap.size u62 ([(i : Int)]) := ho64.weaken hX54.size
        refine q1 rfl rfl rfl (o_append (E := eInt) (v := ov) (u := u62) 8 Tryd.underlying38 ap3 (by decide) rfl rfl hX68.pins ho69 ho77.src (by first | omega | (rw [List.nil_append]; omega) | (rw [List.length_nil]; omega) | (rw [List.length_append]; omega) | (simp; done) | (simp; omega) | (simp only [List.length_append, List.length_cons, List.length_nil]; omega)) (by first | omega | (rw [List.nil_append]; omega) | (rw [List.length_nil]; omega) | (rw [List.length_append]; omega) | (simp; done) | (simp; omega) | (simp only [List.length_append, List.length_cons, List.length_nil]; omega)) (hX68.size) (fun u78 w79 ho80 hp81 hg82 hw83 => ?_))
        have hX84 := hX68.write hp81 hg82 ((lo_own ho69))
        have hpk86 := hpk70.kept hg82 hp81 hnp30
        have ha87 : Apart u62.ownBlock u78.ownBlock := app_ne_own ha71 hw83 ho77.lt
        have hnp88 := np_app hnp30 hpk70 hw83
        have hm89 : (out ++ ([(i : Int)])).length = out.length + 1 := List.length_append
        refine qd rfl rfl rfl (r_assign (v := u78) rfl) ?_
        refine qe ?_
        refine s_blkN ?_
        refine s_then ?_
        refine c_reg ?_
        refine qd rfl rfl rfl (r_add rfl rfl (by omega)) ?_
        refine qd rfl rfl rfl (r_move (v := (.int .i64 ((i : Int) + 1))) rfl) ?_
        refine qe ?_
        refine s_lopN ?_
        refine ⟨_, ?_, _, rfl, _, i + 1, u78, out ++ ([(i : Int)]), q45, G46, (packS (x := 16) (packS (x := 15) (packS (x := 14) (packS (x := 9) (packS (x := 8) (packS (x := 3) (packS (x := 1) (pack1 (x := 0) rfl) rfl) rfl) rfl) rfl) rfl) rfl) rfl), rfl, hX84, (Pin.le_trans hlek21 hx53.le), (by omega), (by rw [rev_hit (g := gX q xs) (f := pd q f) (lf := lf) (i := i) (hthr60.1.1 h61), hout]), ho80, hpk86, hok50, (PX.trans hpx28 hpx51), (ns_trans hqn29 hqn52), hnp88⟩
        omega
      refine wp_skip ?_
      refine s_blkN ?_
      refine s_then ?_
      refine c_reg ?_
      refine qd rfl rfl rfl (r_add rfl rfl (by omega)) ?_
      refine qd rfl rfl rfl (r_move (v := (.int .i64 ((i : Int) + 1))) rfl) ?_
      refine qe ?_
      refine s_lopN ?_
      refine ⟨_, ?_, _, rfl, _, i + 1, ov, out, q45, G46, (packS (x := 16) (packS (x := 15) (packS (x := 14) (packS (x := 9) (packS (x := 8) (packS (x := 3) (packS (x := 1) (pack1 (x := 0) rfl) rfl) rfl) rfl) rfl) rfl) rfl) rfl), rfl, hX54, (Pin.le_trans hlek21 hx53.le), (by omega), (by rw [rev_miss (g := gX q xs) (f := pd q f) (lf := lf) (i := i) (fun h => h61 (hthr60.1.2 h)), hout]), ho55, hpk49, hok50, (PX.trans hpx28 hpx51), (ns_trans hqn29 hqn52), hnp30⟩
      omega
    refine wp_skip ?_
    refine s_then ?_
    refine s_seq ?_
    refine c_reg ?_
    refine qd rfl rfl rfl (r_move (v := (.pointer (some ⟨p, 0, none⟩))) rfl) ?_
    refine qd rfl rfl rfl (r_move (v := (.int .i64 f)) rfl) ?_
    refine qd rfl rfl rfl (r_move (v := (.int .i64 (xs.getD i 0))) rfl) ?_
    refine qd rfl rfl rfl (r_move (v := (.bool lf)) rfl) ?_
    refine qd rfl rfl rfl (r_move (v := u35) rfl) ?_
    refine q1 rfl rfl rfl (o_call (vs := [(.pointer (some ⟨p, 0, none⟩)), (.int .i64 f), (.int .i64 (xs.getD i 0)), (.bool lf), u35]) Tryd.func75 nm75 rfl rfl rfl ?_)
    refine Calls.mono (through_spec hX24.pins hpk26 hok27 (lf := lf) (hf.same hqn29) ((hpl i (by omega)).same hqn29) hr36 (by rw [h39, if_neg Bool.false_ne_true]) (opts_place hok27 ((hpl i (by omega)).same hqn29)).1) ?_
    rintro _ w93 ⟨t90, q91, G92, rfl, hthr94, hpk95, hok96, hpx97, hqn98, hx99⟩
    refine ⟨_, rfl, ?_⟩
    have hX100 := hX24.trans hx99 (fun i hi => lo_self i hi)
    have ho101 := hw25.extS hx99 (notO (NP.ho hnp30))
    have hql102 := hpx97.len
    have hml103 : (q91.ns.map Nd.l).length = q91.ns.length ∧ (q91.ns.map Nd.r).length = q91.ns.length := ⟨List.length_map .., List.length_map ..⟩
    have hml104 : q91.bs.length = q91.ns.length ∧ q91.ns.length ≤ 1048576 := ⟨hok96.ar.ok.len, hok96.ar.ok.lim⟩
    have hql105 := congrArg List.length hqn98.1
    have hthr106 := thr_same hqn29 hthr94
    refine qd rfl rfl rfl (r_geq rfl rfl) ?_
    refine qe ?_
    refine s_then ?_
    refine c_ifd (p := (0 : Int) ≤ t90) rfl rfl (fun h107 => ?_) (fun h107 => ?_)
    · skip
      refine c_reg ?_
      refine qd rfl rfl rfl (r_move (v := ov) rfl) ?_
      refine qd rfl rfl rfl (r_move (v := (.int .i64 (i : Int))) rfl) ?_
      refine q1 rfl rfl rfl (o_buildF (E := eInt) (e := 3) [(.int .i64 (i : Int))] [(i : Int)] Tryd.underlying38 sz3 zr3 (by exact reps1 (by rfl)) (ones1 (by rfl)) rfl rfl rfl rfl (by decide) hX100.pins (fun u108 w109 ho110 hp111 hl112 hk113 => ?_))
      have hX114 := hX100.step hp111 hl112
      have ho115 := ho101.below hl112
      have hpk116 := hpk95.below hl112 hp111
      have ha117 : Apart u108.ownBlock ov.ownBlock := new_ne_own hk113 ho101.lt
      have ho123 : Own eInt 3 G92 w109 w.heap.size u108 ([(i : Int)]) := ho110.weaken hX100.size
      refine q1 rfl rfl rfl (o_append (E := eInt) (v := ov) (u := u108) 8 Tryd.underlying38 ap3 (by decide) rfl rfl hX114.pins ho115 ho123.src (by first | omega | (rw [List.nil_append]; omega) | (rw [List.length_nil]; omega) | (rw [List.length_append]; omega) | (simp; done) | (simp; omega) | (simp only [List.length_append, List.length_cons, List.length_nil]; omega)) (by first | omega | (rw [List.nil_append]; omega) | (rw [List.length_nil]; omega) | (rw [List.length_append]; omega) | (simp; done) | (simp; omega) | (simp only [List.length_append, List.length_cons, List.length_nil]; omega)) (hX114.size) (fun u124 w125 ho126 hp127 hg128 hw129 => ?_))
      have hX130 := hX114.write hp127 hg128 ((lo_own ho115))
      have hpk132 := hpk116.kept hg128 hp127 hnp30
      have ha133 : Apart u108.ownBlock u124.ownBlock := app_ne_own ha117 hw129 ho123.lt
      have hnp134 := np_app hnp30 hpk116 hw129
      have hm135 : (out ++ ([(i : Int)])).length = out.length + 1 := List.length_append
      refine qd rfl rfl rfl (r_assign (v := u124) rfl) ?_
      refine qe ?_
      refine s_blkN ?_
      refine s_then ?_
      refine c_reg ?_
      refine qd rfl rfl rfl (r_add rfl rfl (by omega)) ?_
      refine qd rfl rfl rfl (r_move (v := (.int .i64 ((i : Int) + 1))) rfl) ?_
      refine qe ?_
      refine s_lopN ?_
      refine ⟨_, ?_, _, rfl, _, i + 1, u124, out ++ ([(i : Int)]), q91, G92, (packS (x := 16) (packS (x := 15) (packS (x := 14) (packS (x := 9) (packS (x := 8) (packS (x := 3) (packS (x := 1) (pack1 (x := 0) rfl) rfl) rfl) rfl) rfl) rfl) rfl) rfl), rfl, hX130, (Pin.le_trans hlek21 hx99.le), (by omega), (by rw [rev_hit (g := gX q xs) (f := pd q f) (lf := lf) (i := i) (hthr106.1.1 h107), hout]), ho126, hpk132, hok96, (PX.trans hpx28 hpx97), (ns_trans hqn29 hqn98), hnp134⟩
      omega
    refine wp_skip ?_
    refine s_blkN ?_
    refine s_then ?_
    refine c_reg ?_
    refine qd rfl rfl rfl (r_add rfl rfl (by omega)) ?_
    refine qd rfl rfl rfl (r_move (v := (.int .i64 ((i : Int) + 1))) rfl) ?_
    refine qe ?_
    refine s_lopN ?_
    refine ⟨_, ?_, _, rfl, _, i + 1, ov, out, q91, G92, (packS (x := 16) (packS (x := 15) (packS (x := 14) (packS (x := 9) (packS (x := 8) (packS (x := 3) (packS (x := 1) (pack1 (x := 0) rfl) rfl) rfl) rfl) rfl) rfl) rfl) rfl), rfl, hX100, (Pin.le_trans hlek21 hx99.le), (by omega), (by rw [rev_miss (g := gX q xs) (f := pd q f) (lf := lf) (i := i) (fun h => h107 (hthr106.1.2 h)), hout]), ho101, hpk95, hok96, (PX.trans hpx28 hpx97), (ns_trans hqn29 hqn98), hnp30⟩
    omega
  refine wp_exit ?_
  refine s_thenE ?_
  refine s_lopE ?_
  refine s_blkE ?_
  refine s_then ?_
  refine s_seq ?_
  refine c_reg ?_
  refine qd rfl rfl rfl (r_move (v := ov) rfl) ?_
  refine qd rfl rfl rfl (r_assign (v := ov) rfl) ?_
  refine qe ?_
  refine s_then ?_
  refine wp_ret ?_
  refine s_ret ?_
  refine c_ret1 (v := ov) rfl rfl rfl ?_
  have hin : i = xs.length := by omega
  rw [hin] at hout
  exact ⟨_, q20, _, rfl, (by rw [← hout]; exact hw25), hpk26, hok27, hpx28, hqn29, hX24⟩

theorem iReversibleIn_spec {w : World} {G : Pin} {v : Value} {fs : List Nd} (hP : Pins G w) (hv : RSl eNode G v fs) :
    Calls Tryd.prog 31 [(.agg [v].toArray)].toArray w fun e w' => ∃ (u1 u2 : Value) (G' : Pin), e = .returned (.tuple #[u1, u2, .bool (goodB fs)]) ∧ Own eInt 3 G' w' w.heap.size u1 (reL fs) ∧ Own eInt 3 G' w' w.heap.size u2 (reR fs) ∧ Apart u1.ownBlock u2.ownBlock ∧ Ext noS G w G' w' := by
  refine s_enter (n := 30) Tryd.func31 Tryd.ntmps31 rfl rfl ?_
  have hX0 : Ext noS G w G w := Ext.refl hP
  refine s_seq ?_
  refine c_reg ?_
  refine q1 rfl rfl rfl (o_box [v] (v := (.agg [v].toArray)) rfl rfl hX0.pins (fun b1 w2 hk3 hb4 hp5 hl6 => ?_))
  have hX7 := hX0.step hp5 hl6
  have hlo8 : w.heap.size ≤ b1 := by have := hX0.size; omega
  obtain ⟨G9, hle10, hX11, hbp12, hf13⟩ := hb4.shut hX7 hlo8
  refine qd rfl rfl rfl (r_assign (v := (.slice none 0 0)) rfl) ?_
  refine qd rfl rfl rfl (r_assign (v := (.slice none 0 0)) rfl) ?_
  refine qd rfl rfl rfl (r_assign (v := (.bool false)) rfl) ?_
  refine qe ?_
  refine s_then ?_
  refine s_seq ?_
  refine s_seq ?_
  refine c_reg ?_
  refine qd rfl rfl rfl (r_ldpA (cs := [v]) ag30 sz30 rfl (fun j u hj => hX11.pins _ _ _ (hbp12 _ _ (by simpa using hj)))) ?_
  refine q1 rfl rfl rfl (o_call (vs := [(.agg [v].toArray)]) Tryd.func36 nm36 rfl rfl rfl ?_)
  refine Calls.mono (goodForm_spec hX11.pins (hv.mono hle10)) ?_
  rintro _ w15 ⟨G14, rfl, hx16⟩
  refine ⟨_, rfl, ?_⟩
  have hX17 := hX11.tr hx16
  refine qd rfl rfl rfl (r_not rfl) ?_
  refine qe ?_
  refine s_then ?_
  refine c_ifn rfl rfl (fun h18 => ?_) (fun h18 => ?_)
  · skip
    refine wp_skip ?_
    refine s_then ?_
    refine s_seq ?_
    refine c_reg ?_
    have hgb : goodB fs = true := h18
    have hga : GoodP fs := goodB_true.1 hgb
    have hla := hga.lo
    have hha := hga.hi
    have hlb := last_bounds hga
    refine q1 rfl rfl rfl (o_call (vs := []) Tryd.func37 nm37 rfl rfl rfl ?_)
    refine Calls.mono (newPool_spec hX17.pins) ?_
    rintro _ w22 ⟨p19, mm20, G21, rfl, hpk23, hfr24, hx25⟩
    refine ⟨_, rfl, ?_⟩
    have hX29 := hX17.tr hx25
    have hpin30 : PIn w (noS) p19 (.slice none 0 0) (.slice none 0 0) (.slice none 0 0) mm20 := PIn.fresh hfr24 hX17.size
    obtain ⟨q26, hq27⟩ : ∃ q, q = (⟨[], [], [], [], [], [], []⟩ : PSt) := ⟨_, rfl⟩
    rw [← hq27] at hpk23
    have hok28 : PoolOk q26 := by rw [hq27]; exact PoolOk.empty
    have hq27l : q26.ns.length = 0 := by rw [hq27]; rfl
    obtain ⟨L31, R32, B33, eL31, eR32, eB33⟩ : ∃ (l r b : Value), l = .slice none 0 0 ∧ r = .slice none 0 0 ∧ b = .slice none 0 0 := ⟨_, _, _, rfl, rfl, rfl⟩
    have hpk232 : Pk 38 3 G21 w22 p19 L31 R32 B33 mm20 q26 := by rw [eL31, eR32, eB33]; exact hpk23
    have hpin302 : PIn w (noS) p19 L31 R32 B33 mm20 := by rw [eL31, eR32, eB33]; exact hpin30
    have hml34 : (q26.ns.map Nd.l).length = q26.ns.length ∧ (q26.ns.map Nd.r).length = q26.ns.length := ⟨List.length_map .., List.length_map ..⟩
    have hml35 : q26.bs.length = q26.ns.length ∧ q26.ns.length ≤ 1048576 := ⟨hok28.ar.ok.len, hok28.ar.ok.lim⟩
    refine qd rfl rfl rfl (r_assign (v := (.pointer (some ⟨p19, 0, none⟩))) rfl) ?_
    refine qe ?_
    refine s_then ?_
    refine s_seq ?_
    refine c_reg ?_
    refine qd rfl rfl rfl (r_move (v := (.pointer (some ⟨p19, 0, none⟩))) rfl) ?_
    refine qd rfl rfl rfl (r_ldpA (cs := [v]) ag30 sz30 rfl (fun j u hj => (Pins.of_le hX29.pins (Pin.le_trans hx16.le hx25.le)) _ _ _ (hbp12 _ _ (by simpa using hj)))) ?_
    refine q1 rfl rfl rfl (o_call (vs := [(.pointer (some ⟨p19, 0, none⟩)), (.agg [v].toArray)]) Tryd.func49 nm49 rfl rfl rfl ?_)
    refine Calls.mono (loaded_spec hX29.pins hpk232 hok28 (hv.mono (Pin.le_trans (Pin.le_trans hle10 hx16.le) hx25.le)) (good_form hga) hla (by omega)) ?_
    rintro _ w46 ⟨z36, u37, v38, xs39, ys40, L41, R42, B43, q44, G45, rfl, hpk47, hok48, hpx49, hlo50, hx51, hr52, hr53, hld54, hqn55⟩
    refine ⟨_, rfl, ?_⟩
    have hX56 := hX29.trans hx51 hpin302
    have hpin57 := PIn.call hpin302 hlo50 hX29.size
    have hql58 := hpx49.len
    have hml59 : (q44.ns.map Nd.l).length = q44.ns.length ∧ (q44.ns.map Nd.r).length = q44.ns.length := ⟨List.length_map .., List.length_map ..⟩
    have hml60 : q44.bs.length = q44.ns.length ∧ q44.ns.length ≤ 1048576 := ⟨hok48.ar.ok.len, hok48.ar.ok.lim⟩
    have hll61 := hld54.l.1
    have hll62 := hld54.r.1
    refine qd rfl rfl rfl (r_move (v := (.tuple #[(.int .i64 z36), u37, v38])) rfl) ?_
    refine qd rfl rfl rfl (r_extract (v := (.int .i64 z36)) rfl rfl) ?_
    refine qd rfl rfl rfl (r_extract (v := u37) rfl rfl) ?_
    refine qd rfl rfl rfl (r_extract (v := v38) rfl rfl) ?_
    refine qd rfl rfl rfl (r_assign (v := (.int .i64 z36)) rfl) ?_
    refine qd rfl rfl rfl (r_assign (v := u37) rfl) ?_
    refine qd rfl rfl rfl (r_assign (v := v38) rfl) ?_
    refine qe ?_
    refine s_then ?_
    refine s_seq ?_
    refine c_reg ?_
    refine qd rfl rfl rfl (r_move (v := (.pointer (some ⟨p19, 0, none⟩))) rfl) ?_
    refine qd rfl rfl rfl (r_move (v := (.int .i64 z36)) rfl) ?_
    refine qd rfl rfl rfl (r_move (v := u37) rfl) ?_
    refine q1 rfl rfl rfl (o_call (vs := [(.pointer (some ⟨p19, 0, none⟩)), (.int .i64 z36), u37, (.bool true)]) Tryd.func52 nm52 rfl rfl rfl ?_)
    refine Calls.mono (ireversible_spec hX56.pins hpk47 hok48 (hld54.same ⟨rfl, rfl⟩).at_.1 (lf := true) hr52 (by omega) (fun i hi => ((hld54.same ⟨rfl, rfl⟩).l.2 i hi).1)) ?_
    rintro _ w66 ⟨u63, q64, G65, rfl, ho67, hpk68, hok69, hpx70, hqn71, hx72⟩
    refine ⟨_, rfl, ?_⟩
    have hnp73 := hpk47.new (x := u63.ownBlock) (fun k hk => (ho67.lt k hk).1)
    have hX74 := hX56.trans hx72 (fun i hi => (PIn.o hpin57) i hi)
    have hql75 := hpx70.len
    have hml76 : (q64.ns.map Nd.l).length = q64.ns.length ∧ (q64.ns.map Nd.r).length = q64.ns.length := ⟨List.length_map .., List.length_map ..⟩
    have hml77 : q64.bs.length = q64.ns.length ∧ q64.ns.length ≤ 1048576 := ⟨hok69.ar.ok.len, hok69.ar.ok.lim⟩
    have hql78 := congrArg List.length hqn71.1
    have ho79 := ho67.weaken hX56.size
    refine qd rfl rfl rfl (r_move (v := (.pointer (some ⟨p19, 0, none⟩))) rfl) ?_
    refine qd rfl rfl rfl (r_move (v := (.int .i64 z36)) rfl) ?_
    refine qd rfl rfl rfl (r_move (v := v38) rfl) ?_
    refine q1 rfl rfl rfl (o_call (vs := [(.pointer (some ⟨p19, 0, none⟩)), (.int .i64 z36), v38, (.bool false)]) Tryd.func52 nm52 rfl rfl rfl ?_)
    refine Calls.mono (ireversible_spec hX74.pins hpk68 hok69 (hld54.same hqn71).at_.1 (lf := false) (hr53.mono hx72.le) (by omega) (fun i hi => ((hld54.same hqn71).r.2 i hi).1)) ?_
    rintro _ w83 ⟨u80, q81, G82, rfl, ho84, hpk85, hok86, hpx87, hqn88, hx89⟩
    refine ⟨_, rfl, ?_⟩
    have hX91 := hX74.trans hx89 (fun i hi => (PIn.o hpin57) i hi)
    have ho92 := ho79.extS hx89 (notO (NP.ho hnp73))
    have hql93 := hpx87.len
    have hml94 : (q81.ns.map Nd.l).length = q81.ns.length ∧ (q81.ns.map Nd.r).length = q81.ns.length := ⟨List.length_map .., List.length_map ..⟩
    have hml95 : q81.bs.length = q81.ns.length ∧ q81.ns.length ≤ 1048576 := ⟨hok86.ar.ok.len, hok86.ar.ok.lim⟩
    have hql96 := congrArg List.length hqn88.1
    have ha97 : Apart u80.ownBlock u63.ownBlock := made_ne_own ho84.lt ho79.lt
    have ho98 := ho84.weaken hX74.size
    refine qd rfl rfl rfl (r_assign (v := u63) rfl) ?_
    refine qd rfl rfl rfl (r_assign (v := u80) rfl) ?_
    refine qd rfl rfl rfl (r_assign (v := (.bool true)) rfl) ?_
    refine qe ?_
    refine s_then ?_
    refine wp_ret ?_
    refine s_ret ?_
    refine c_ret3 (v := u63) (u := u80) (x := (.bool true)) rfl rfl rfl rfl rfl rfl rfl ?_
    rw [hgb]
    exact ⟨_, _, _, rfl, (by rw [← hld54.reL hgb]; exact ho92), (by rw [← (hld54.same hqn71).reR hgb]; exact ho98), ha97.symm, hX91⟩
  refine s_seq ?_
  refine c_reg ?_
  refine q1 rfl rfl rfl (o_build0 (E := eInt) (e := 3) Tryd.underlying38 sz3 hX17.pins (fun u99 w100 ho101 hp102 hl103 hk104 => ?_))
  have hX105 := hX17.step hp102 hl103
  have ho106 : Own eInt 3 G14 w100 w.heap.size u99 ([]) := ho101.weaken hX17.size
  refine q1 rfl rfl rfl (o_build0 (E := eInt) (e := 3) Tryd.underlying38 sz3 hX105.pins (fun u107 w108 ho109 hp110 hl111 hk112 => ?_))
  have hX113 := hX105.step hp110 hl111
  have ho114 := ho106.below hl111
  have ha115 : Apart u107.ownBlock u99.ownBlock := new_ne_own hk112 ho106.lt
  have ho116 : Own eInt 3 G14 w108 w.heap.size u107 ([]) := ho109.weaken hX105.size
  refine qd rfl rfl rfl (r_assign (v := u99) rfl) ?_
  refine qd rfl rfl rfl (r_assign (v := u107) rfl) ?_
  refine qd rfl rfl rfl (r_assign (v := (.bool false)) rfl) ?_
  refine qe ?_
  refine s_then ?_
  refine wp_ret ?_
  refine s_ret ?_
  refine c_ret3 (v := u99) (u := u107) (x := (.bool false)) rfl rfl rfl rfl rfl rfl rfl ?_
  have hgb : goodB fs = false := h18
  rw [hgb, (re_bad hgb).1, (re_bad hgb).2]
  exact ⟨_, _, _, rfl, ho114, ho116, ha115.symm, hX113⟩

end RI1
end Go.Proofs.YtndhhpaldhlghaaDoor
