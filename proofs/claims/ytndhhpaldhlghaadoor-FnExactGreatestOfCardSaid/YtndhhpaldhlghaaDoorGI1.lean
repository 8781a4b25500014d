/- Walks, printed by a program (walkgen.py) from the spec specs_gi. -/
import Derived.Test.YtndhhpaldhlghaaDoorChecked
import Derived.Test.YtndhhpaldhlghaaDoorRow
import Derived.Test.YtndhhpaldhlghaaDoorGreat
import Derived.Test.YtndhhpaldhlghaaDoorShelf
import Derived.Test.YtndhhpaldhlghaaDoorB1
import Derived.Test.YtndhhpaldhlghaaDoorK1
import Derived.Test.YtndhhpaldhlghaaDoorPO1
import Derived.Test.YtndhhpaldhlghaaDoorPL1
set_option maxRecDepth 20000
set_option maxHeartbeats 2000000
namespace Go.Proofs.YtndhhpaldhlghaaDoor
namespace GI1
open Go.RowKit Go.GL Go.Proofs
open Go.Proofs.YtndhhpaldhlghaaDoor.B1
open Go.Proofs.YtndhhpaldhlghaaDoor.K1
open Go.Proofs.YtndhhpaldhlghaaDoor.PO1
open Go.Proofs.YtndhhpaldhlghaaDoor.PL1
theorem ag3 : (Tryd.prog.underlying 3).map aggD = some false := by kernel_rfl
theorem ag30 : (Tryd.prog.underlying 30).map aggD = some true := by kernel_rfl
theorem ap3 : (Tryd.prog.info? 3).map (fun i => (i.size, i.bytes, (i.zero.map (·.cells.size)))) = some (1, 8, some 1) := by kernel_rfl
theorem nm36 : (Tryd.f36.name == "runtime.NumGoroutine") = false := by kernel_rfl
theorem nm37 : (Tryd.f37.name == "runtime.NumGoroutine") = false := by kernel_rfl
theorem nm38 : (Tryd.f38.name == "runtime.NumGoroutine") = false := by kernel_rfl
theorem nm39 : (Tryd.f39.name == "runtime.NumGoroutine") = false := by kernel_rfl
theorem nm45 : (Tryd.f45.name == "runtime.NumGoroutine") = false := by kernel_rfl
theorem sz3 : (Tryd.prog.info? 3).map (·.size) = some 1 := by kernel_rfl
theorem sz30 : (Tryd.prog.info? 30).map (·.size) = some 1 := by kernel_rfl
theorem zr3 : (Tryd.prog.info? 3).bind (·.zero) = some (.int .i64 0) := by kernel_rfl
theorem zr30 : (Tryd.prog.info? 30).bind (·.zero) = some (.agg #[(.slice none 0 0)]) := by kernel_rfl

theorem roots_spec {w : World} {G : Pin} {p : Nat} {L R B : Value} {mm : PM} {q : PSt} (hP : Pins G w) (hpk : Pk 38 3 G w p L R B mm q) (hok : PoolOk q) {x : Value} {fs : List (List Nd)} (hx : RSl (eSl eNode) G x fs) (hl : fs.length ≤ 24) (hq0 : q.ns.length + 120 * fs.length ≤ 1048576) :
    Calls Tryd.prog 45 [(.pointer (some ⟨p, 0, none⟩)), x].toArray w fun e w' => ∃ (u : Value) (zs : List Int) (ok : Bool) (L' R' B' : Value) (q' : PSt) (G' : Pin), e = .returned (.tuple #[u, .bool ok]) ∧ Pk 38 3 G' w' p L' R' B' mm q' ∧ PoolOk q' ∧ PX q q' ∧ PLo w p L R B mm L' R' B' ∧ Ext (inP p L R B mm) G w G' w' ∧ Own eInt 3 G' w' w.heap.size u zs ∧ NP p L' R' B' mm u.ownBlock ∧ ((ok = true → RtOk fs q q' fs.length zs) ∧ (ok = false → ∃ i, i < fs.length ∧ goodB (fs.getD i []) = false)) := by
  refine s_enter (n := 27) Tryd.func45 Tryd.ntmps45 rfl rfl ?_
  have hX0 : Ext (inP p L R B mm) G w G w := Ext.refl hP
  have hpin : PIn w (inP p L R B mm) p L R B mm := PIn.self
  have hml1 : (q.ns.map Nd.l).length = q.ns.length ∧ (q.ns.map Nd.r).length = q.ns.length := ⟨List.length_map .., List.length_map ..⟩
  have hml2 : q.bs.length = q.ns.length ∧ q.ns.length ≤ 1048576 := ⟨hok.ar.ok.len, hok.ar.ok.lim⟩
  have hm := hx.max
  refine s_seq ?_
  refine c_reg ?_
  refine qd rfl rfl rfl (r_assign (v := (.slice none 0 0)) rfl) ?_
  refine qd rfl rfl rfl (r_assign (v := (.bool false)) rfl) ?_
  refine qe ?_
  refine s_then ?_
  refine s_seq ?_
  refine c_reg ?_
  refine q1 rfl rfl rfl (o_build0 (E := eInt) (e := 3) Tryd.underlying38 sz3 hX0.pins (fun u3 w4 ho5 hp6 hl7 hk8 => ?_))
  have hX9 := hX0.step hp6 hl7
  have hpk10 := hpk.below hl7 hp6
  have ha15 := hpk.new (x := u3.ownBlock) (fun k hk => by rw [hk8] at hk; cases hk; exact Nat.le_refl _)
  have ho16 : Own eInt 3 G w4 w.heap.size u3 ([]) := ho5.weaken hX0.size
  refine qd rfl rfl rfl (r_assign (v := u3) rfl) ?_
  refine qe ?_
  refine s_then ?_
  refine s_seq ?_
  refine s_seq ?_
  refine c_reg ?_
  refine qd rfl rfl rfl (r_move (v := x) rfl) ?_
  refine qd rfl rfl rfl (run_len Tryd.underlying41 (v := x) rfl hx) ?_
  refine qd rfl rfl rfl (r_move (v := (.int .i64 0)) rfl) ?_
  refine qe ?_
  refine s_then ?_
  refine s_blk ?_
  refine s_loop (fun (k : Nat) (en : Nat → Value) (W : World) => ∃ (env1 : Nat → Value) (j : Nat) (zv : Value) (zs : List Int) (L17 : Value) (R18 : Value) (B19 : Value) (q20 : PSt) (GL1 : Pin), en = (upd (upd (upd (upd (upd env1 0 (.pointer (some ⟨p, 0, none⟩))) 6 zv) 10 x) 11 (.int .i64 (fs.length : Int))) 12 (.int .i64 (j : Int))) ∧ k = fs.length - j ∧ Ext (inP p L R B mm) G w GL1 W ∧ Pin.le G GL1 ∧ (j ≤ fs.length) ∧ (RtOk fs q q20 j zs) ∧ (Own eInt 3 GL1 W w.heap.size zv (zs)) ∧ (Pk 38 3 GL1 W p L17 R18 B19 mm q20) ∧ (PIn w ((inP p L R B mm)) p L17 R18 B19 mm) ∧ (PoolOk q20) ∧ (PX q q20) ∧ (NP p L17 R18 B19 mm zv.ownBlock)) _ ⟨_, 0, u3, [], L, R, B, q, G, (packS (x := 12) (packS (x := 11) (packS (x := 10) (packS (x := 6) (pack1 (x := 0) rfl) rfl) rfl) rfl) rfl), rfl, hX9, Pin.le_refl _, Nat.zero_le _, RtOk.start, ho16, hpk10, hpin, hok, (PX.refl _), ha15⟩ ?_
  rintro k21 _ w22 ⟨env1, j, zv, zs, L17, R18, B19, q20, GL1, rfl, hk23, hX24, hlek21, hj, hrt, hw25, hpk26, hpin27, hok28, hpx29, hnp30⟩
  have hql31 := hpx29.len
  have hml32 : (q20.ns.map Nd.l).length = q20.ns.length ∧ (q20.ns.map Nd.r).length = q20.ns.length := ⟨List.length_map .., List.length_map ..⟩
  have hml33 : q20.bs.length = q20.ns.length ∧ q20.ns.length ≤ 1048576 := ⟨hok28.ar.ok.len, hok28.ar.ok.lim⟩
  have hzl := hrt.len
  have hzh := hrt.hi
  refine s_seq ?_
  refine c_reg ?_
  refine qd rfl rfl rfl (r_lss rfl rfl) ?_
  refine qe ?_
  refine s_then ?_
  refine s_seq ?_
  refine c_ifd (p := ((j : Int) : Int) < (fs.length : Int)) rfl rfl (fun h34 => ?_) (fun h34 => ?_)
  · skip
    refine wp_skip ?_
    refine s_then ?_
    refine s_seq ?_
    refine s_blk ?_
    refine s_seq ?_
    refine c_reg ?_
    refine qd rfl rfl rfl (run_idx Tryd.underlying41 sz30 (v := x) rfl rfl hx (by omega) (by omega)) ?_
    obtain ⟨u35, hr36, hl37⟩ := nm_form (hx.at (z := (j : Int)) (by omega) (by omega)) (j := j) rfl
    have hm38 := hr36.max
    refine qd rfl rfl rfl (hl37 ag30 sz30 rfl (Pins.of_le hX24.pins hlek21)) ?_
    refine q1 rfl rfl rfl (o_alloc [(.slice none 0 0)] zr30 rfl hX24.pins (fun b39 w40 hk41 hb42 hp43 hl44 => ?_))
    have hX45 := hX24.step hp43 hl44
    have ho46 := hw25.below hl44
    have hpk47 := hpk26.below hl44 hp43
    have ha48 : Apart (some b39) zv.ownBlock := new_ne_own (congrArg some hk41) hw25.lt
    have ha53 := hpk26.new (x := (some b39)) (fun k hk => by rw [(congrArg some hk41)] at hk; cases hk; exact Nat.le_refl _)
    have hlo54 : w.heap.size ≤ b39 := by have := hX24.size; omega
    refine q0 rfl rfl rfl (o_stp (cs' := [u35]) (us := [u35]) (v := (.agg [u35].toArray)) sz30 rfl rfl rfl (ones1 hr36.one) hX45.pins hb42 (Nat.le_of_ble_eq_true rfl) rfl (fun w55 hb56 hp57 hg58 hz59 => ?_))
    have hX60 := hX45.write hp57 hg58 ((lo_box hlo54))
    have ho61 := ho46.keptA hg58 ha48.symm
    have hpk62 := hpk47.kept hg58 hp57 ha53
    obtain ⟨G63, hle64, hX65, hbp66, hf67⟩ := hb56.shut hX60 hlo54
    have ho68 := ho61.moreA hle64 hf67 ha48.symm
    have hpk69 := hpk62.more hle64 hf67 ha53
    refine qe ?_
    refine s_then ?_
    refine s_seq ?_
    refine s_seq ?_
    refine c_reg ?_
    refine qd rfl rfl rfl (r_ldpA (cs := [u35]) ag30 sz30 rfl (fun j u hj => hX65.pins _ _ _ (hbp66 _ _ (by simpa using hj)))) ?_
    refine q1 rfl rfl rfl (o_call (vs := [(.agg [u35].toArray)]) Tryd.func36 nm36 rfl rfl rfl ?_)
    refine Calls.mono (goodForm_spec hX65.pins (hr36.mono (Pin.le_trans hlek21 hle64))) ?_
    rintro _ w71 ⟨G70, rfl, hx72⟩
    refine ⟨_, rfl, ?_⟩
    have hX73 := hX65.tr hx72
    have ho74 := ho68.ext hx72
    have hpk75 := hpk69.ext hx72
    refine qd rfl rfl rfl (r_not rfl) ?_
    refine qe ?_
    refine s_then ?_
    refine c_ifn rfl rfl (fun h76 => ?_) (fun h76 => ?_)
    · skip
      refine wp_skip ?_
      refine s_then ?_
      refine c_reg ?_
      refine qd rfl rfl rfl (r_move (v := zv) rfl) ?_
      refine qd rfl rfl rfl (r_move (v := (.pointer (some ⟨p, 0, none⟩))) rfl) ?_
      refine qd rfl rfl rfl (r_ldpA (cs := [u35]) ag30 sz30 rfl (fun j u hj => (Pins.of_le hX73.pins hx72.le) _ _ _ (hbp66 _ _ (by simpa using hj)))) ?_
      have hgd77 : GoodP (fs.getD j []) := goodB_true.1 h76
      have hgd77l := hgd77.lo
      have hgd77h := hgd77.hi
      refine q1 rfl rfl rfl (o_call (vs := [(.pointer (some ⟨p, 0, none⟩)), (.agg [u35].toArray)]) Tryd.func39 nm39 rfl rfl rfl ?_)
      refine Calls.mono (root_spec hX73.pins hpk75 hok28 (hr36.mono (Pin.le_trans (Pin.le_trans hlek21 hle64) hx72.le)) (good_form hgd77) (by omega) (by omega)) ?_
      rintro _ w87 ⟨z78, L82, R83, B84, q85, G86, rfl, hpk88, hok89, hpx90, hlo91, hx92, hpl79, hpd80, hqn81⟩
      refine ⟨_, rfl, ?_⟩
      have hX93 := hX73.trans hx92 hpin27
      have ho94 := ho74.extS hx92 hnp30
      have hnp95 := NP.call hnp30 hlo91 (own_lt ho74)
      have hpin96 := PIn.call hpin27 hlo91 hX73.size
      have hql97 := hpx90.len
      have hml98 : (q85.ns.map Nd.l).length = q85.ns.length ∧ (q85.ns.map Nd.r).length = q85.ns.length := ⟨List.length_map .., List.length_map ..⟩
      have hml99 : q85.bs.length = q85.ns.length ∧ q85.ns.length ≤ 1048576 := ⟨hok89.ar.ok.len, hok89.ar.ok.lim⟩
      refine q1 rfl rfl rfl (o_buildF (E := eInt) (e := 3) [(.int .i64 z78)] [z78] Tryd.underlying38 sz3 zr3 (by exact reps1 (by rfl)) (ones1 (by rfl)) rfl rfl rfl rfl (by decide) hX93.pins (fun u100 w101 ho102 hp103 hl104 hk105 => ?_))
      have hX106 := hX93.step hp103 hl104
      have ho107 := ho94.below hl104
      have hpk108 := hpk88.below hl104 hp103
      have ha109 : Apart u100.ownBlock zv.ownBlock := new_ne_own hk105 ho94.lt
      have ho115 : Own eInt 3 G86 w101 w.heap.size u100 ([z78]) := ho102.weaken hX93.size
      refine q1 rfl rfl rfl (o_append (E := eInt) (v := zv) (u := u100) 8 Tryd.underlying38 ap3 (by decide) rfl rfl hX106.pins ho107 ho115.src (by first | omega | (rw [List.nil_append]; omega) | (rw [List.length_nil]; omega) | (rw [List.length_append]; omega) | (simp; done) | (simp; omega) | (simp only [List.length_append, List.length_cons, List.length_nil]; omega)) (by first | omega | (rw [List.nil_append]; omega) | (rw [List.length_nil]; omega) | (rw [List.length_append]; omega) | (simp; done) | (simp; omega) | (simp only [List.length_append, List.length_cons, List.length_nil]; omega)) (hX106.size) (fun u116 w117 ho118 hp119 hg120 hw121 => ?_))
      have hX122 := hX106.write hp119 hg120 ((lo_own ho107))
      have hpk124 := hpk108.kept hg120 hp119 hnp95
      have ha125 : Apart u100.ownBlock u116.ownBlock := app_ne_own ha109 hw121 ho115.lt
      have hnp126 := np_app hnp95 hpk108 hw121
      have hm127 : (zs ++ ([z78])).length = zs.length + 1 := List.length_append
      refine qd rfl rfl rfl (r_assign (v := u116) rfl) ?_
      refine qe ?_
      refine s_blkN ?_
      refine s_then ?_
      refine c_reg ?_
      refine qd rfl rfl rfl (r_add rfl rfl (by omega)) ?_
      refine qd rfl rfl rfl (r_move (v := (.int .i64 ((j : Int) + 1))) rfl) ?_
      refine qe ?_
      refine s_lopN ?_
      refine ⟨_, ?_, _, rfl, _, j + 1, u116, zs ++ ([z78]), L82, R83, B84, q85, G86, (packS (x := 12) (packS (x := 11) (packS (x := 10) (packS (x := 6) (pack1 (x := 0) rfl) rfl) rfl) rfl) rfl), rfl, hX122, (Pin.le_trans (Pin.le_trans (Pin.le_trans hlek21 hle64) hx72.le) hx92.le), (by omega), (hrt.step hgd77 hok28 hok89 hpx90 hpl79 hpd80 hqn81), ho118, hpk124, hpin96, hok89, (PX.trans hpx29 hpx90), hnp126⟩
      omega
    refine s_seq ?_
    refine c_reg ?_
    refine qd rfl rfl rfl (r_assign (v := (.slice none 0 0)) rfl) ?_
    refine qd rfl rfl rfl (r_assign (v := (.bool false)) rfl) ?_
    refine qe ?_
    refine s_then ?_
    refine wp_ret ?_
    refine s_ret ?_
    refine c_ret2 (v := (.slice none 0 0)) (u := (.bool false)) rfl rfl rfl rfl rfl ?_
    exact ⟨.slice none 0 0, [], false, L17, R18, B19, q20, G70, rfl, hpk75, hok28, hpx29, PIn.lo hpin27 rfl, hX73, (Own.nil _ _ _ _ _), np_none, ⟨(fun h => by cases h), (fun _ => ⟨j, by omega, h76⟩)⟩⟩
  refine wp_exit ?_
  refine s_thenE ?_
  refine s_lopE ?_
  refine s_blkE ?_
  refine s_then ?_
  refine s_seq ?_
  refine c_reg ?_
  refine qd rfl rfl rfl (r_move (v := zv) rfl) ?_
  refine qd rfl rfl rfl (r_assign (v := zv) rfl) ?_
  refine qd rfl rfl rfl (r_assign (v := (.bool true)) rfl) ?_
  refine qe ?_
  refine s_then ?_
  refine wp_ret ?_
  refine s_ret ?_
  refine c_ret2 (v := zv) (u := (.bool true)) rfl rfl rfl rfl rfl ?_
  have hjn : j = fs.length := by omega
  rw [hjn] at hrt
  exact ⟨zv, zs, true, L17, R18, B19, q20, GL1, rfl, hpk26, hok28, hpx29, PIn.lo hpin27 rfl, hX24, hw25, hnp30, ⟨(fun _ => hrt), (fun h => by cases h)⟩⟩

theorem iGreatestOf_spec {w : World} {G : Pin} {v : Value} {fs : List (List Nd)} (hP : Pins G w) (hv : RSl (eSl eNode) G v fs) :
    Calls Tryd.prog 21 [v].toArray w fun e w' => ∃ (u : Value) (G' : Pin), e = .returned (.tuple #[u, .bool (decP (AllG fs))]) ∧ Own eInt 3 G' w' w.heap.size u (grF fs) ∧ Ext noS G w G' w' := by
  refine s_enter (n := 71) Tryd.func21 Tryd.ntmps21 rfl rfl ?_
  have hX0 : Ext noS G w G w := Ext.refl hP
  have hm := hv.max
  refine s_seq ?_
  refine c_reg ?_
  refine qd rfl rfl rfl (r_assign (v := (.slice none 0 0)) rfl) ?_
  refine qd rfl rfl rfl (r_assign (v := (.bool false)) rfl) ?_
  refine qe ?_
  refine s_then ?_
  refine s_seq ?_
  refine c_reg ?_
  refine q1 rfl rfl rfl (o_call (vs := []) Tryd.func37 nm37 rfl rfl rfl ?_)
  refine Calls.mono (newPool_spec hX0.pins) ?_
  rintro _ w4 ⟨p1, mm2, G3, rfl, hpk5, hfr6, hx7⟩
  refine ⟨_, rfl, ?_⟩
  have hX11 := hX0.tr hx7
  have hpin12 : PIn w (noS) p1 (.slice none 0 0) (.slice none 0 0) (.slice none 0 0) mm2 := PIn.fresh hfr6 hX0.size
  obtain ⟨q8, hq9⟩ : ∃ q, q = (⟨[], [], [], [], [], [], []⟩ : PSt) := ⟨_, rfl⟩
  rw [← hq9] at hpk5
  have hok10 : PoolOk q8 := by rw [hq9]; exact PoolOk.empty
  have hq9l : q8.ns.length = 0 := by rw [hq9]; rfl
  obtain ⟨L13, R14, B15, eL13, eR14, eB15⟩ : ∃ (l r b : Value), l = .slice none 0 0 ∧ r = .slice none 0 0 ∧ b = .slice none 0 0 := ⟨_, _, _, rfl, rfl, rfl⟩
  have hpk52 : Pk 38 3 G3 w4 p1 L13 R14 B15 mm2 q8 := by rw [eL13, eR14, eB15]; exact hpk5
  have hpin122 : PIn w (noS) p1 L13 R14 B15 mm2 := by rw [eL13, eR14, eB15]; exact hpin12
  have hml16 : (q8.ns.map Nd.l).length = q8.ns.length ∧ (q8.ns.map Nd.r).length = q8.ns.length := ⟨List.length_map .., List.length_map ..⟩
  have hml17 : q8.bs.length = q8.ns.length ∧ q8.ns.length ≤ 1048576 := ⟨hok10.ar.ok.len, hok10.ar.ok.lim⟩
  refine qd rfl rfl rfl (r_assign (v := (.pointer (some ⟨p1, 0, none⟩))) rfl) ?_
  refine qe ?_
  refine s_then ?_
  refine s_seq ?_
  refine s_seq ?_
  refine c_reg ?_
  refine qd rfl rfl rfl (r_move (v := v) rfl) ?_
  refine qd rfl rfl rfl (run_len Tryd.underlying41 (v := v) rfl hv) ?_
  refine qd rfl rfl rfl (r_gtr rfl rfl) ?_
  refine qe ?_
  refine s_then ?_
  refine c_ifd (p := (24 : Int) < (fs.length : Int)) rfl rfl (fun h18 => ?_) (fun h18 => ?_)
  · skip
    refine s_seq ?_
    refine c_reg ?_
    refine q1 rfl rfl rfl (o_build0 (E := eInt) (e := 3) Tryd.underlying38 sz3 hX11.pins (fun u19 w20 ho21 hp22 hl23 hk24 => ?_))
    have hX25 := hX11.step hp22 hl23
    have ho32 : Own eInt 3 G3 w20 w.heap.size u19 ([]) := ho21.weaken hX11.size
    refine qd rfl rfl rfl (r_assign (v := u19) rfl) ?_
    refine qd rfl rfl rfl (r_assign (v := (.bool false)) rfl) ?_
    refine qe ?_
    refine s_then ?_
    refine wp_ret ?_
    refine s_ret ?_
    refine c_ret2 (v := u19) (u := (.bool false)) rfl rfl rfl rfl rfl ?_
    have hag : decP (AllG fs) = false := all_long (by omega)
    rw [hag, gr_bad hag]
    exact ⟨_, _, rfl, ho32, hX25⟩
  refine wp_skip ?_
  refine s_then ?_
  refine s_seq ?_
  refine c_reg ?_
  refine qd rfl rfl rfl (r_move (v := (.pointer (some ⟨p1, 0, none⟩))) rfl) ?_
  refine qd rfl rfl rfl (r_move (v := v) rfl) ?_
  refine q1 rfl rfl rfl (o_call (vs := [(.pointer (some ⟨p1, 0, none⟩)), v]) Tryd.func45 nm45 rfl rfl rfl ?_)
  refine Calls.mono (roots_spec hX11.pins hpk52 hok10 (hv.mono hx7.le) (by omega) (by omega)) ?_
  rintro _ w39 ⟨u33, zs48, ok49, L34, R35, B36, q37, G38, rfl, hpk41, hok42, hpx43, hlo44, hx45, ho40, hnp47, hrt46⟩
  refine ⟨_, rfl, ?_⟩
  have hX50 := hX11.trans hx45 hpin122
  have hpin51 := PIn.call hpin122 hlo44 hX11.size
  have hql52 := hpx43.len
  have hml53 : (q37.ns.map Nd.l).length = q37.ns.length ∧ (q37.ns.map Nd.r).length = q37.ns.length := ⟨List.length_map .., List.length_map ..⟩
  have hml54 : q37.bs.length = q37.ns.length ∧ q37.ns.length ≤ 1048576 := ⟨hok42.ar.ok.len, hok42.ar.ok.lim⟩
  have ho55 := ho40.weaken hX11.size
  refine qd rfl rfl rfl (r_move (v := (.tuple #[u33, (.bool ok49)])) rfl) ?_
  refine qd rfl rfl rfl (r_extract (v := u33) rfl rfl) ?_
  refine qd rfl rfl rfl (r_extract (v := (.bool ok49)) rfl rfl) ?_
  refine qd rfl rfl rfl (r_assign (v := u33) rfl) ?_
  refine qd rfl rfl rfl (r_assign (v := (.bool ok49)) rfl) ?_
  refine qe ?_
  refine s_then ?_
  refine s_seq ?_
  refine s_seq ?_
  refine c_reg ?_
  refine qd rfl rfl rfl (r_move (v := (.bool ok49)) rfl) ?_
  refine qd rfl rfl rfl (r_not rfl) ?_
  refine qe ?_
  refine s_then ?_
  refine c_ifn rfl rfl (fun h56 => ?_) (fun h56 => ?_)
  · skip
    refine wp_skip ?_
    refine s_then ?_
    refine s_seq ?_
    refine c_reg ?_
    have hrt := hrt46.1 h56
    have hzl := hrt.len
    have hAG : AllG fs := all_good (by omega) hrt.good
    refine q1 rfl rfl rfl (o_build0 (E := eInt) (e := 3) Tryd.underlying38 sz3 hX50.pins (fun u57 w58 ho59 hp60 hl61 hk62 => ?_))
    have hX63 := hX50.step hp60 hl61
    have ho64 := ho55.below hl61
    have hpk65 := hpk41.below hl61 hp60
    have ha69 : Apart u57.ownBlock u33.ownBlock := new_ne_own hk62 ho55.lt
    have ha71 := hpk41.new (x := u57.ownBlock) (fun k hk => by rw [hk62] at hk; cases hk; exact Nat.le_refl _)
    have ho72 : Own eInt 3 G38 w58 w.heap.size u57 ([]) := ho59.weaken hX50.size
    refine qd rfl rfl rfl (r_assign (v := u57) rfl) ?_
    refine qe ?_
    refine s_then ?_
    refine s_seq ?_
    refine s_seq ?_
    refine c_reg ?_
    refine qd rfl rfl rfl (r_move (v := u33) rfl) ?_
    refine qd rfl rfl rfl (run_len Tryd.underlying38 (v := u33) rfl ho64.read) ?_
    refine qd rfl rfl rfl (r_move (v := (.int .i64 0)) rfl) ?_
    refine qe ?_
    refine s_then ?_
    refine s_blk ?_
    refine s_loop (fun (k : Nat) (en : Nat → Value) (W : World) => ∃ (env1 : Nat → Value) (i : Nat) (ov : Value) (out : List Int) (q76 : PSt) (GL1 : Pin), en = (upd (upd (upd (upd (upd (upd (upd (upd env1 2 (.slice none 0 0)) 3 (.bool false)) 4 (.pointer (some ⟨p1, 0, none⟩))) 5 u33) 7 ov) 28 u33) 29 (.int .i64 (zs48.length : Int))) 30 (.int .i64 (i : Int))) ∧ k = fs.length - i ∧ Ext noS G w GL1 W ∧ Pin.le G38 GL1 ∧ (i ≤ fs.length) ∧ (out = grL (gF fs) fs.length i) ∧ (Own eInt 3 GL1 W w.heap.size ov (out)) ∧ (Own eInt 3 GL1 W w.heap.size u33 (zs48)) ∧ (Apart ov.ownBlock u33.ownBlock) ∧ (Pk 38 3 GL1 W p1 L34 R35 B36 mm2 q76) ∧ (PoolOk q76) ∧ (PX q37 q76) ∧ (q76.ns = q37.ns ∧ q76.bs = q37.bs) ∧ (NP p1 L34 R35 B36 mm2 ov.ownBlock)) _ ⟨_, 0, u57, [], q37, G38, (packS (x := 30) (packS (x := 29) (packS (x := 28) (packS (x := 7) (packS (x := 5) (packS (x := 4) (packS (x := 3) (pack1 (x := 2) rfl) rfl) rfl) rfl) rfl) rfl) rfl) rfl), rfl, hX63, Pin.le_refl _, Nat.zero_le _, rfl, ho72, ho64, ha69, hpk65, hok42, (PX.refl _), ⟨rfl, rfl⟩, ha71⟩ ?_
    rintro k77 _ w78 ⟨env1, i, ov, out, q76, GL1, rfl, hk79, hX80, hlek77, hi, hout, hw81, hw82, ha83, hpk84, hok85, hpx86, hqn87, hnp88⟩
    have hql89 := hpx86.len
    have hml90 : (q76.ns.map Nd.l).length = q76.ns.length ∧ (q76.ns.map Nd.r).length = q76.ns.length := ⟨List.length_map .., List.length_map ..⟩
    have hml91 : q76.bs.length = q76.ns.length ∧ q76.ns.length ≤ 1048576 := ⟨hok85.ar.ok.len, hok85.ar.ok.lim⟩
    have hol : out.length ≤ i := by rw [hout]; exact gr_len i
    refine s_seq ?_
    refine c_reg ?_
    refine qd rfl rfl rfl (r_lss rfl rfl) ?_
    refine qe ?_
    refine s_then ?_
    refine s_seq ?_
    refine c_ifd (p := ((i : Int) : Int) < (zs48.length : Int)) rfl rfl (fun h92 => ?_) (fun h92 => ?_)
    · skip
      refine wp_skip ?_
      refine s_then ?_
      refine s_seq ?_
      refine s_blk ?_
      refine s_seq ?_
      refine c_reg ?_
      refine qd rfl rfl rfl (r_move (v := (.int .i64 (i : Int))) rfl) ?_
      refine qd rfl rfl rfl (run_idx Tryd.underlying38 sz3 (v := u33) rfl rfl hw82.read (by omega) (by omega)) ?_
      refine qd rfl rfl rfl (run_load_int (r := zs48.getD i 0) rfl ag3 (z := (i : Int)) rfl hw82.read (Gadd.pins hX80.pins u33) (by omega) (by omega)) ?_
      refine qd rfl rfl rfl (r_assign (v := (.int .i64 (i : Int))) rfl) ?_
      refine qd rfl rfl rfl (r_assign (v := (.int .i64 (zs48.getD i 0))) rfl) ?_
      refine qe ?_
      refine s_then ?_
      refine s_seq ?_
      refine c_reg ?_
      refine qd rfl rfl rfl (r_assign (v := (.bool true)) rfl) ?_
      refine qe ?_
      refine s_then ?_
      refine s_seq ?_
      refine s_seq ?_
      refine c_reg ?_
      refine qd rfl rfl rfl (r_move (v := u33) rfl) ?_
      refine qd rfl rfl rfl (run_len Tryd.underlying38 (v := u33) rfl hw82.read) ?_
      refine qd rfl rfl rfl (r_move (v := (.int .i64 0)) rfl) ?_
      refine qe ?_
      refine s_then ?_
      refine s_blk ?_
      refine s_loop (fun (k : Nat) (en : Nat → Value) (W : World) => ∃ (env1 : Nat → Value) (j : Nat) (bst : Bool) (q96 : PSt) (GL2 : Pin), en = (upd (upd (upd (upd (upd (upd (upd (upd (upd (upd (upd (upd (upd (upd env1 2 (.slice none 0 0)) 3 (.bool false)) 4 (.pointer (some ⟨p1, 0, none⟩))) 5 u33) 7 ov) 8 (.int .i64 (i : Int))) 9 (.int .i64 (zs48.getD i 0))) 10 (.bool bst)) 28 u33) 29 (.int .i64 (zs48.length : Int))) 30 (.int .i64 (i : Int))) 35 u33) 36 (.int .i64 (zs48.length : Int))) 37 (.int .i64 (j : Int))) ∧ k = fs.length - j ∧ Ext noS G w GL2 W ∧ Pin.le GL1 GL2 ∧ (j ≤ fs.length) ∧ (bst = grB (gF fs) i j) ∧ (Own eInt 3 GL2 W w.heap.size ov (out)) ∧ (Own eInt 3 GL2 W w.heap.size u33 (zs48)) ∧ (Pk 38 3 GL2 W p1 L34 R35 B36 mm2 q96) ∧ (PoolOk q96) ∧ (PX q76 q96) ∧ (q96.ns = q76.ns ∧ q96.bs = q76.bs)) _ ⟨_, 0, true, q76, GL1, (packS (x := 37) (packS (x := 36) (packS (x := 35) (packS (x := 30) (packS (x := 29) (packS (x := 28) (packS (x := 10) (packS (x := 9) (packS (x := 8) (packS (x := 7) (packS (x := 5) (packS (x := 4) (packS (x := 3) (pack1 (x := 2) rfl) rfl) rfl) rfl) rfl) rfl) rfl) rfl) rfl) rfl) rfl) rfl) rfl) rfl), rfl, hX80, Pin.le_refl _, Nat.zero_le _, gr_start, hw81, hw82, hpk84, hok85, (PX.refl _), ⟨rfl, rfl⟩⟩ ?_
      rintro k97 _ w98 ⟨env1, j, bst, q96, GL2, rfl, hk99, hX100, hlek97, hk, hbst, hw101, hw102, hpk103, hok104, hpx105, hqn106⟩
      have hql107 := hpx105.len
      have hml108 : (q96.ns.map Nd.l).length = q96.ns.length ∧ (q96.ns.map Nd.r).length = q96.ns.length := ⟨List.length_map .., List.length_map ..⟩
      have hml109 : q96.bs.length = q96.ns.length ∧ q96.ns.length ≤ 1048576 := ⟨hok104.ar.ok.len, hok104.ar.ok.lim⟩
      refine s_seq ?_
      refine c_reg ?_
      refine qd rfl rfl rfl (r_lss rfl rfl) ?_
      refine qe ?_
      refine s_then ?_
      refine s_seq ?_
      refine c_ifd (p := ((j : Int) : Int) < (zs48.length : Int)) rfl rfl (fun h110 => ?_) (fun h110 => ?_)
      · skip
        refine wp_skip ?_
        refine s_then ?_
        refine s_seq ?_
        refine s_blk ?_
        refine s_seq ?_
        refine c_reg ?_
        refine qd rfl rfl rfl (r_move (v := (.int .i64 (j : Int))) rfl) ?_
        refine qd rfl rfl rfl (run_idx Tryd.underlying38 sz3 (v := u33) rfl rfl hw102.read (by omega) (by omega)) ?_
        refine qd rfl rfl rfl (run_load_int (r := zs48.getD j 0) rfl ag3 (z := (j : Int)) rfl hw102.read (Gadd.pins hX100.pins u33) (by omega) (by omega)) ?_
        refine qd rfl rfl rfl (r_assign (v := (.int .i64 (j : Int))) rfl) ?_
        refine qd rfl rfl rfl (r_assign (v := (.int .i64 (zs48.getD j 0))) rfl) ?_
        refine qe ?_
        refine s_then ?_
        refine s_seq ?_
        refine c_reg ?_
        refine qd rfl rfl rfl (r_move (v := (.int .i64 (j : Int))) rfl) ?_
        refine qd rfl rfl rfl (r_move (v := (.int .i64 (i : Int))) rfl) ?_
        refine qd rfl rfl rfl (r_neq rfl rfl) ?_
        refine qd rfl rfl rfl (r_move (v := (.bool (decide (((j : Int) : Int) ≠ (i : Int))))) rfl) ?_
        refine qbd (p := ((j : Int) : Int) ≠ (i : Int)) (t := 45) rfl (fun h111 => ?_) (fun h111 => ?_)
        · skip
          refine qdg rfl rfl rfl rfl rfl rfl (r_move (v := (.pointer (some ⟨p1, 0, none⟩))) rfl) ?_
          refine qdg rfl rfl rfl rfl rfl rfl (r_move (v := (.int .i64 (zs48.getD j 0))) rfl) ?_
          refine qdg rfl rfl rfl rfl rfl rfl (r_move (v := (.int .i64 (zs48.getD i 0))) rfl) ?_
          refine q1g rfl rfl rfl rfl rfl rfl (o_call (vs := [(.pointer (some ⟨p1, 0, none⟩)), (.int .i64 (zs48.getD j 0)), (.int .i64 (zs48.getD i 0))]) Tryd.func38 nm38 rfl rfl rfl ?_)
          refine Calls.mono (ge_spec hX100.pins hpk103 hok104 (hrt.same (ns_trans hqn87 hqn106) (i := j) (by omega)) (hrt.same (ns_trans hqn87 hqn106) (i := i) (by omega))) ?_
          rintro _ w114 ⟨q112, G113, rfl, hpk115, hok116, hpx117, hqn118, hx119⟩
          refine ⟨_, rfl, ?_⟩
          have hX120 := hX100.trans hx119 (fun i hi => (PIn.o hpin51) i hi)
          have ho121 := hw101.extS hx119 (notO (NP.ho hnp88))
          have ho122 := hw102.extS hx119 (notO (NP.ho hnp47))
          have hql123 := hpx117.len
          have hml124 : (q112.ns.map Nd.l).length = q112.ns.length ∧ (q112.ns.map Nd.r).length = q112.ns.length := ⟨List.length_map .., List.length_map ..⟩
          have hml125 : q112.bs.length = q112.ns.length ∧ q112.ns.length ≤ 1048576 := ⟨hok116.ar.ok.len, hok116.ar.ok.lim⟩
          have hql126 := congrArg List.length hqn118.1
          refine qd rfl rfl rfl (r_pickT (v := (.bool (geB q96.ns (zs48.getD j 0) (zs48.getD i 0)))) rfl rfl) ?_
          refine qd rfl rfl rfl (r_move (v := (.bool (geB q96.ns (zs48.getD j 0) (zs48.getD i 0)))) rfl) ?_
          refine qb (t := 51) rfl (fun h127 => ?_) (fun h127 => ?_)
          · skip
            refine qdg rfl rfl rfl rfl rfl rfl (r_move (v := (.int .i64 (j : Int))) rfl) ?_
            refine qdg rfl rfl rfl rfl rfl rfl (r_move (v := (.int .i64 (i : Int))) rfl) ?_
            refine qdg rfl rfl rfl rfl rfl rfl (r_lss rfl rfl) ?_
            refine qdg rfl rfl rfl rfl rfl rfl (r_move (v := (.bool (decide (((j : Int) : Int) < (i : Int))))) rfl) ?_
            refine qbd (p := ((j : Int) : Int) < (i : Int)) (t := 55) rfl (fun h128 => ?_) (fun h128 => ?_)
            · skip
              refine qs rfl rfl rfl rfl rfl rfl ?_
              refine qs rfl rfl rfl rfl rfl rfl ?_
              refine qs rfl rfl rfl rfl rfl rfl ?_
              refine qs rfl rfl rfl rfl rfl rfl ?_
              refine qs rfl rfl rfl rfl rfl rfl ?_
              refine qdg rfl rfl rfl rfl rfl rfl (r_pickT (v := (.bool true)) rfl rfl) ?_
              refine qd rfl rfl rfl (r_pickT (v := (.bool true)) rfl rfl) ?_
              refine qe ?_
              refine s_then ?_
              refine c_ifT rfl rfl ?_
              refine c_reg ?_
              refine qd rfl rfl rfl (r_assign (v := (.bool false)) rfl) ?_
              refine qe ?_
              refine s_blkN ?_
              refine s_then ?_
              refine c_reg ?_
              refine qd rfl rfl rfl (r_add rfl rfl (by omega)) ?_
              refine qd rfl rfl rfl (r_move (v := (.int .i64 ((j : Int) + 1))) rfl) ?_
              refine qe ?_
              refine s_lopN ?_
              refine ⟨_, ?_, _, rfl, _, j + 1, false, q112, G113, (packS (x := 37) (packS (x := 36) (packS (x := 35) (packS (x := 30) (packS (x := 29) (packS (x := 28) (packS (x := 10) (packS (x := 9) (packS (x := 8) (packS (x := 7) (packS (x := 5) (packS (x := 4) (packS (x := 3) (pack1 (x := 2) rfl) rfl) rfl) rfl) rfl) rfl) rfl) rfl) rfl) rfl) rfl) rfl) rfl) rfl), rfl, hX120, (Pin.le_trans hlek97 hx119.le), (by omega), (gr_yes ⟨h111, (decP_true.1 ((hrt.ge (ns_trans hqn87 hqn106) (by omega) (by omega)).symm.trans h127)), Or.inl h128⟩), ho121, ho122, hpk115, hok116, (PX.trans hpx105 hpx117), (ns_trans hqn106 hqn118)⟩
              omega
            refine qdg rfl rfl rfl rfl rfl rfl (r_move (v := (.pointer (some ⟨p1, 0, none⟩))) rfl) ?_
            refine qdg rfl rfl rfl rfl rfl rfl (r_move (v := (.int .i64 (zs48.getD i 0))) rfl) ?_
            refine qdg rfl rfl rfl rfl rfl rfl (r_move (v := (.int .i64 (zs48.getD j 0))) rfl) ?_
            refine q1g rfl rfl rfl rfl rfl rfl (o_call (vs := [(.pointer (some ⟨p1, 0, none⟩)), (.int .i64 (zs48.getD i 0)), (.int .i64 (zs48.getD j 0))]) Tryd.func38 nm38 rfl rfl rfl ?_)
            refine Calls.mono (ge_spec hX120.pins hpk115 hok116 (hrt.same (ns_trans (ns_trans hqn87 hqn106) hqn118) (i := i) (by omega)) (hrt.same (ns_trans (ns_trans hqn87 hqn106) hqn118) (i := j) (by omega))) ?_
            rintro _ w131 ⟨q129, G130, rfl, hpk132, hok133, hpx134, hqn135, hx136⟩
            refine ⟨_, rfl, ?_⟩
            have hX137 := hX120.trans hx136 (fun i hi => (PIn.o hpin51) i hi)
            have ho138 := ho121.extS hx136 (notO (NP.ho hnp88))
            have ho139 := ho122.extS hx136 (notO (NP.ho hnp47))
            have hql140 := hpx134.len
            have hml141 : (q129.ns.map Nd.l).length = q129.ns.length ∧ (q129.ns.map Nd.r).length = q129.ns.length := ⟨List.length_map .., List.length_map ..⟩
            have hml142 : q129.bs.length = q129.ns.length ∧ q129.ns.length ≤ 1048576 := ⟨hok133.ar.ok.len, hok133.ar.ok.lim⟩
            have hql143 := congrArg List.length hqn135.1
            refine qdg rfl rfl rfl rfl rfl rfl (r_not rfl) ?_
            refine qdg rfl rfl rfl rfl rfl rfl (r_pickF (v := (.bool (!(geB q112.ns (zs48.getD i 0) (zs48.getD j 0))))) rfl rfl) ?_
            refine qd rfl rfl rfl (r_pickT (v := (.bool (!(geB q112.ns (zs48.getD i 0) (zs48.getD j 0))))) rfl rfl) ?_
            refine qe ?_
            refine s_then ?_
            refine c_ifn rfl rfl (fun h144 => ?_) (fun h144 => ?_)
            · skip
              refine wp_skip ?_
              refine s_blkN ?_
              refine s_then ?_
              refine c_reg ?_
              refine qd rfl rfl rfl (r_add rfl rfl (by omega)) ?_
              refine qd rfl rfl rfl (r_move (v := (.int .i64 ((j : Int) + 1))) rfl) ?_
              refine qe ?_
              refine s_lopN ?_
              refine ⟨_, ?_, _, rfl, _, j + 1, bst, q129, G130, (packS (x := 37) (packS (x := 36) (packS (x := 35) (packS (x := 30) (packS (x := 29) (packS (x := 28) (packS (x := 10) (packS (x := 9) (packS (x := 8) (packS (x := 7) (packS (x := 5) (packS (x := 4) (packS (x := 3) (pack1 (x := 2) rfl) rfl) rfl) rfl) rfl) rfl) rfl) rfl) rfl) rfl) rfl) rfl) rfl) rfl), rfl, hX137, (Pin.le_trans (Pin.le_trans hlek97 hx119.le) hx136.le), (by omega), (gr_no hbst (fun p => p.2.2.elim h128 (fun h => h (decP_true.1 ((hrt.ge (ns_trans (ns_trans hqn87 hqn106) hqn118) (by omega) (by omega)).symm.trans h144))))), ho138, ho139, hpk132, hok133, (PX.trans (PX.trans hpx105 hpx117) hpx134), (ns_trans (ns_trans hqn106 hqn118) hqn135)⟩
              omega
            refine c_reg ?_
            refine qd rfl rfl rfl (r_assign (v := (.bool false)) rfl) ?_
            refine qe ?_
            refine s_blkN ?_
            refine s_then ?_
            refine c_reg ?_
            refine qd rfl rfl rfl (r_add rfl rfl (by omega)) ?_
            refine qd rfl rfl rfl (r_move (v := (.int .i64 ((j : Int) + 1))) rfl) ?_
            refine qe ?_
            refine s_lopN ?_
            refine ⟨_, ?_, _, rfl, _, j + 1, false, q129, G130, (packS (x := 37) (packS (x := 36) (packS (x := 35) (packS (x := 30) (packS (x := 29) (packS (x := 28) (packS (x := 10) (packS (x := 9) (packS (x := 8) (packS (x := 7) (packS (x := 5) (packS (x := 4) (packS (x := 3) (pack1 (x := 2) rfl) rfl) rfl) rfl) rfl) rfl) rfl) rfl) rfl) rfl) rfl) rfl) rfl) rfl), rfl, hX137, (Pin.le_trans (Pin.le_trans hlek97 hx119.le) hx136.le), (by omega), (gr_yes ⟨h111, (decP_true.1 ((hrt.ge (ns_trans hqn87 hqn106) (by omega) (by omega)).symm.trans h127)), Or.inr (decP_false.1 ((hrt.ge (ns_trans (ns_trans hqn87 hqn106) hqn118) (by omega) (by omega)).symm.trans h144))⟩), ho138, ho139, hpk132, hok133, (PX.trans (PX.trans hpx105 hpx117) hpx134), (ns_trans (ns_trans hqn106 hqn118) hqn135)⟩
            omega
          refine qs rfl rfl rfl rfl rfl rfl ?_
          refine qs rfl rfl rfl rfl rfl rfl ?_
          refine qs rfl rfl rfl rfl rfl rfl ?_
          refine qs rfl rfl rfl rfl rfl rfl ?_
          refine qsu rfl rfl rfl rfl rfl ?_
          refine qsu rfl rfl rfl rfl rfl ?_
          refine qsu rfl rfl rfl rfl rfl ?_
          refine qsu rfl rfl rfl rfl rfl ?_
          refine qsu rfl rfl rfl rfl rfl ?_
          refine qs rfl rfl rfl rfl rfl rfl ?_
          refine qd rfl rfl rfl (r_pickF (v := (.bool false)) rfl rfl) ?_
          refine qe ?_
          refine s_then ?_
          refine c_ifF rfl rfl ?_
          refine wp_skip ?_
          refine s_blkN ?_
          refine s_then ?_
          refine c_reg ?_
          refine qd rfl rfl rfl (r_add rfl rfl (by omega)) ?_
          refine qd rfl rfl rfl (r_move (v := (.int .i64 ((j : Int) + 1))) rfl) ?_
          refine qe ?_
          refine s_lopN ?_
          refine ⟨_, ?_, _, rfl, _, j + 1, bst, q112, G113, (packS (x := 37) (packS (x := 36) (packS (x := 35) (packS (x := 30) (packS (x := 29) (packS (x := 28) (packS (x := 10) (packS (x := 9) (packS (x := 8) (packS (x := 7) (packS (x := 5) (packS (x := 4) (packS (x := 3) (pack1 (x := 2) rfl) rfl) rfl) rfl) rfl) rfl) rfl) rfl) rfl) rfl) rfl) rfl) rfl) rfl), rfl, hX120, (Pin.le_trans hlek97 hx119.le), (by omega), (gr_no hbst (fun p => (decP_false.1 ((hrt.ge (ns_trans hqn87 hqn106) (by omega) (by omega)).symm.trans h127)) p.2.1)), ho121, ho122, hpk115, hok116, (PX.trans hpx105 hpx117), (ns_trans hqn106 hqn118)⟩
          omega
        refine qs rfl rfl rfl rfl rfl rfl ?_
        refine qs rfl rfl rfl rfl rfl rfl ?_
        refine qs rfl rfl rfl rfl rfl rfl ?_
        refine qs rfl rfl rfl rfl rfl rfl ?_
        refine qd rfl rfl rfl (r_pickF (v := (.bool false)) rfl rfl) ?_
        refine qd rfl rfl rfl (r_move (v := (.bool false)) rfl) ?_
        refine qs rfl rfl rfl rfl rfl rfl ?_
        refine qs rfl rfl rfl rfl rfl rfl ?_
        refine qs rfl rfl rfl rfl rfl rfl ?_
        refine qs rfl rfl rfl rfl rfl rfl ?_
        refine qsu rfl rfl rfl rfl rfl ?_
        refine qsu rfl rfl rfl rfl rfl ?_
        refine qsu rfl rfl rfl rfl rfl ?_
        refine qsu rfl rfl rfl rfl rfl ?_
        refine qsu rfl rfl rfl rfl rfl ?_
        refine qs rfl rfl rfl rfl rfl rfl ?_
        refine qd rfl rfl rfl (r_pickF (v := (.bool false)) rfl rfl) ?_
        refine qe ?_
        refine s_then ?_
        refine c_ifF rfl rfl ?_
        refine wp_skip ?_
        refine s_blkN ?_
        refine s_then ?_
        refine c_reg ?_
        refine qd rfl rfl rfl (r_add rfl rfl (by omega)) ?_
        refine qd rfl rfl rfl (r_move (v := (.int .i64 ((j : Int) + 1))) rfl) ?_
        refine qe ?_
        refine s_lopN ?_
        refine ⟨_, ?_, _, rfl, _, j + 1, bst, q96, GL2, (packS (x := 37) (packS (x := 36) (packS (x := 35) (packS (x := 30) (packS (x := 29) (packS (x := 28) (packS (x := 10) (packS (x := 9) (packS (x := 8) (packS (x := 7) (packS (x := 5) (packS (x := 4) (packS (x := 3) (pack1 (x := 2) rfl) rfl) rfl) rfl) rfl) rfl) rfl) rfl) rfl) rfl) rfl) rfl) rfl) rfl), rfl, hX100, hlek97, (by omega), (gr_no hbst (fun p => h111 p.1)), hw101, hw102, hpk103, hok104, hpx105, hqn106⟩
        omega
      refine wp_exit ?_
      refine s_thenE ?_
      refine s_lopE ?_
      refine s_blkE ?_
      refine s_then ?_
      refine s_seq ?_
      refine c_reg ?_
      refine qd rfl rfl rfl (r_move (v := (.bool bst)) rfl) ?_
      refine qe ?_
      refine s_then ?_
      refine c_if rfl rfl (fun h145 => ?_) (fun h145 => ?_)
      · skip
        refine c_reg ?_
        refine qd rfl rfl rfl (r_move (v := ov) rfl) ?_
        refine qd rfl rfl rfl (r_move (v := (.int .i64 (i : Int))) rfl) ?_
        refine q1 rfl rfl rfl (o_buildF (E := eInt) (e := 3) [(.int .i64 (i : Int))] [(i : Int)] Tryd.underlying38 sz3 zr3 (by exact reps1 (by rfl)) (ones1 (by rfl)) rfl rfl rfl rfl (by decide) hX100.pins (fun u146 w147 ho148 hp149 hl150 hk151 => ?_))
        have hX152 := hX100.step hp149 hl150
        have ho153 := hw101.below hl150
        have ho154 := hw102.below hl150
        have hpk155 := hpk103.below hl150 hp149
        have ha156 : Apart u146.ownBlock ov.ownBlock := new_ne_own hk151 hw101.lt
        have ho163 : Own eInt 3 GL2 w147 w.heap.size u146 ([(i : Int)]) := ho148.weaken hX100.size
        refine q1 rfl rfl rfl (o_append (E := eInt) (v := ov) (u := u146) 8 Tryd.underlying38 ap3 (by decide) rfl rfl hX152.pins ho153 ho163.src (by first | omega | (rw [List.nil_append]; omega) | (rw [List.length_nil]; omega) | (rw [List.length_append]; omega) | (simp; done) | (simp; omega) | (simp only [List.length_append, List.length_cons, List.length_nil]; omega)) (by first | omega | (rw [List.nil_append]; omega) | (rw [List.length_nil]; omega) | (rw [List.length_append]; omega) | (simp; done) | (simp; omega) | (simp only [List.length_append, List.length_cons, List.length_nil]; omega)) (hX152.size) (fun u164 w165 ho166 hp167 hg168 hw169 => ?_))
        have hX170 := hX152.write hp167 hg168 ((lo_own ho153))
        have ho171 := ho154.keptA hg168 ha83.symm
        have hpk173 := hpk155.kept hg168 hp167 hnp88
        have ha174 : Apart u33.ownBlock u164.ownBlock := app_ne_own ha83.symm hw169 ho154.lt
        have ha175 : Apart u146.ownBlock u164.ownBlock := app_ne_own ha156 hw169 ho163.lt
        have hnp176 := np_app hnp88 hpk155 hw169
        have hm177 : (out ++ ([(i : Int)])).length = out.length + 1 := List.length_append
        refine qd rfl rfl rfl (r_assign (v := u164) rfl) ?_
        refine qe ?_
        refine s_blkN ?_
        refine s_then ?_
        refine c_reg ?_
        refine qd rfl rfl rfl (r_add rfl rfl (by omega)) ?_
        refine qd rfl rfl rfl (r_move (v := (.int .i64 ((i : Int) + 1))) rfl) ?_
        refine qe ?_
        refine s_lopN ?_
        have hkn : j = fs.length := by omega
        rw [hkn] at hbst
        rw [h145] at hbst
        refine ⟨_, ?_, _, rfl, _, i + 1, u164, out ++ ([(i : Int)]), q96, GL2, (packS (x := 30) (packS (x := 29) (packS (x := 28) (packS (x := 7) (packS (x := 5) (packS (x := 4) (packS (x := 3) (pack1 (x := 2) rfl) rfl) rfl) rfl) rfl) rfl) rfl) rfl), rfl, hX170, (Pin.le_trans hlek77 hlek97), (by omega), (by rw [gr_take hbst, hout]), ho166, ho171, ha174.symm, hpk173, hok104, (PX.trans hpx86 hpx105), (ns_trans hqn87 hqn106), hnp176⟩
        omega
      refine wp_skip ?_
      refine s_blkN ?_
      refine s_then ?_
      refine c_reg ?_
      refine qd rfl rfl rfl (r_add rfl rfl (by omega)) ?_
      refine qd rfl rfl rfl (r_move (v := (.int .i64 ((i : Int) + 1))) rfl) ?_
      refine qe ?_
      refine s_lopN ?_
      have hkn : j = fs.length := by omega
      rw [hkn] at hbst
      refine ⟨_, ?_, _, rfl, _, i + 1, ov, out, q96, GL2, (packS (x := 30) (packS (x := 29) (packS (x := 28) (packS (x := 7) (packS (x := 5) (packS (x := 4) (packS (x := 3) (pack1 (x := 2) rfl) rfl) rfl) rfl) rfl) rfl) rfl) rfl), rfl, hX100, (Pin.le_trans hlek77 hlek97), (by omega), (by rw [gr_leave hbst h145, hout]), hw101, hw102, ha83, hpk103, hok104, (PX.trans hpx86 hpx105), (ns_trans hqn87 hqn106), hnp88⟩
      omega
    refine wp_exit ?_
    refine s_thenE ?_
    refine s_lopE ?_
    refine s_blkE ?_
    refine s_then ?_
    refine s_seq ?_
    refine c_reg ?_
    refine qd rfl rfl rfl (r_move (v := ov) rfl) ?_
    refine qd rfl rfl rfl (r_assign (v := ov) rfl) ?_
    refine qd rfl rfl rfl (r_assign (v := (.bool true)) rfl) ?_
    refine qe ?_
    refine s_then ?_
    refine wp_ret ?_
    refine s_ret ?_
    refine c_ret2 (v := ov) (u := (.bool true)) rfl rfl rfl rfl rfl ?_
    have hin : i = fs.length := by omega
    rw [hin] at hout
    rw [decP_true.2 hAG, gr_good hAG, ← hout]
    exact ⟨_, _, rfl, hw81, hX80⟩
  refine s_seq ?_
  refine c_reg ?_
  refine q1 rfl rfl rfl (o_build0 (E := eInt) (e := 3) Tryd.underlying38 sz3 hX50.pins (fun u178 w179 ho180 hp181 hl182 hk183 => ?_))
  have hX184 := hX50.step hp181 hl182
  have ho193 : Own eInt 3 G38 w179 w.heap.size u178 ([]) := ho180.weaken hX50.size
  refine qd rfl rfl rfl (r_assign (v := u178) rfl) ?_
  refine qd rfl rfl rfl (r_assign (v := (.bool false)) rfl) ?_
  refine qe ?_
  refine s_then ?_
  refine wp_ret ?_
  refine s_ret ?_
  refine c_ret2 (v := u178) (u := (.bool false)) rfl rfl rfl rfl rfl ?_
  obtain ⟨i, hi, hgi⟩ := hrt46.2 h56
  have hag : decP (AllG fs) = false := all_bad hi hgi
  rw [hag, gr_bad hag]
  exact ⟨_, _, rfl, ho193, hX184⟩

end GI1
end Go.Proofs.YtndhhpaldhlghaaDoor
