/- Texts of this claim in one file: NG1, NF1, LN1. -/
import Derived.Test.YtpknebplcmgnkaaGreatDoorNf6
import Derived.Test.YtpknebplcmgnkaaGreatDoorChecked
set_option maxRecDepth 20000
set_option maxHeartbeats 2000000
namespace Go.Proofs.YtpknebplcmgnkaaGreatDoor
namespace NG1
open Go.RowKit Go.GL Go.Proofs
open Go.Proofs.YtpknebplcmgnkaaGreatDoor.B1
open Go.Proofs.YtpknebplcmgnkaaGreatDoor.K1
open Go.Proofs.YtpknebplcmgnkaaGreatDoor.PO1
open Go.Proofs.YtpknebplcmgnkaaGreatDoor.PL1
theorem ag3 : (Tryz.prog.underlying 3).map aggD = some false := by kernel_rfl
theorem ag67 : (Tryz.prog.underlying 67).map aggD = some false := by kernel_rfl
theorem ag68 : (Tryz.prog.underlying 68).map aggD = some false := by kernel_rfl
theorem ag71 : (Tryz.prog.underlying 71).map aggD = some false := by kernel_rfl
theorem ap3 : (Tryz.prog.info? 3).map (fun i => (i.size, i.bytes, (i.zero.map (·.cells.size)))) = some (1, 8, some 1) := by kernel_rfl
theorem nm78 : (Tryz.f78.name == "runtime.NumGoroutine") = false := by kernel_rfl
theorem nm87 : (Tryz.f87.name == "runtime.NumGoroutine") = false := by kernel_rfl
theorem nz68 : (Tryz.prog.info? 68).map (·.size == 0) = some false := by kernel_rfl
theorem nz71 : (Tryz.prog.info? 71).map (·.size == 0) = some false := by kernel_rfl
theorem sz3 : (Tryz.prog.info? 3).map (·.size) = some 1 := by kernel_rfl
theorem sz67 : (Tryz.prog.info? 67).map (·.size) = some 1 := by kernel_rfl
theorem zr3 : (Tryz.prog.info? 3).bind (·.zero) = some (.int .i64 0) := by kernel_rfl

def NegP (m p : Nat) (mm : PM) : Prop := ∀ {w : World} {G : Pin} {L R B : Value} {q : PSt} {f : Int} {qz : PSt} {S : List Nat} (_ : Pins G w) (_ : Pk 67 3 G w p L R B mm q) (_ : PoolOk q) (_ : PlaceOk q f) (_ : Bud qz q S) (_ : ∀ x, SubG (pd q f) x → negG x ∈ S), f.toNat < m →
  Calls Tryz.prog 78 [(.pointer (some ⟨p, 0, none⟩)), (.int .i64 f)].toArray w fun e w' => ∃ (z : Int) (L' R' B' : Value) (q' : PSt) (G' : Pin), e = .returned (.int .i64 z) ∧ Pk 67 3 G' w' p L' R' B' mm q' ∧ PoolOk q' ∧ PX q q' ∧ PLo w p L R B mm L' R' B' ∧ Ext (inP p L R B mm) G w G' w' ∧ PlaceOk q' z ∧ pd q' z = negG (pd q f) ∧ Bud qz q' S

theorem neg_step {w : World} {G : Pin} {L R B : Value} {q : PSt} {f : Int} {p : Nat} {mm : PM} {qz : PSt} {S : List Nat} {m : Nat} (hP : Pins G w) (hpk : Pk 67 3 G w p L R B mm q) (hok : PoolOk q) (hf : PlaceOk q f) (hbd : Bud qz q S) (hS : ∀ x, SubG (pd q f) x → negG x ∈ S) (ih : NegP m p mm) (hm : f.toNat < m + 1) :
  Calls Tryz.prog 78 [(.pointer (some ⟨p, 0, none⟩)), (.int .i64 f)].toArray w fun e w' => ∃ (z : Int) (L' R' B' : Value) (q' : PSt) (G' : Pin), e = .returned (.int .i64 z) ∧ Pk 67 3 G' w' p L' R' B' mm q' ∧ PoolOk q' ∧ PX q q' ∧ PLo w p L R B mm L' R' B' ∧ Ext (inP p L R B mm) G w G' w' ∧ PlaceOk q' z ∧ pd q' z = negG (pd q f) ∧ Bud qz q' S := by
 refine s_enter (n := 76) Tryz.func78 Tryz.ntmps78 rfl rfl ?_
 have hX0 : Ext (inP p L R B mm) G w G w := Ext.refl hP
 have hpin : PIn w (inP p L R B mm) p L R B mm := PIn.self
 have hml1 : (q.ns.map Nd.l).length = q.ns.length ∧ (q.ns.map Nd.r).length = q.ns.length := ⟨List.length_map .., List.length_map ..⟩
 have hml2 : q.bs.length = q.ns.length ∧ q.ns.length ≤ 1048576 := ⟨hok.ar.ok.len, hok.ar.ok.lim⟩
 have hf0 := hf.1
 have hf1 := hf.2
 have hol0 := hok.ar.ok.lens (f).toNat (by omega)
 refine s_seq (c_reg ?_)
 refine qd rfl rfl rfl (r_assign (v := (.int .i64 0)) rfl) ?_
 refine qe (s_then (s_seq (s_seq (c_reg ?_))))
 refine qd rfl rfl rfl (r_move (v := (.pointer (some ⟨p, 0, none⟩))) rfl) ?_
 refine qd rfl rfl rfl (r_nil rfl) ?_
 refine qd rfl rfl rfl (r_fldp (k := 7) rfl Tryz.underlying74 rfl nz71 rfl) ?_
 refine qd rfl rfl rfl (r_ldp1 (u := (.map (some mm.n))) ag71 rfl (hpk.bx.cell (o := 7) rfl)) ?_
 refine qd rfl rfl rfl (r_move (v := (.int .i64 f)) rfl) ?_
 refine qd rfl rfl rfl (run_lookv_int (k := f) (key_int Tryz.underlying3) Tryz.underlying71 zr3 hpk.fn rfl rfl) ?_
 refine qd rfl rfl rfl (r_move (v := (.tuple #[(.int .i64 ((Go.GL.look q.gm f).getD 0)), (.bool ((Go.GL.look q.gm f).isSome))])) rfl) ?_
 refine qd rfl rfl rfl (r_extract (v := (.int .i64 ((Go.GL.look q.gm f).getD 0))) rfl rfl) ?_
 refine qd rfl rfl rfl (r_extract (v := (.bool ((Go.GL.look q.gm f).isSome))) rfl rfl) ?_
 refine qd rfl rfl rfl (r_assign (v := (.int .i64 ((Go.GL.look q.gm f).getD 0))) rfl) ?_
 refine qd rfl rfl rfl (r_assign (v := (.bool ((Go.GL.look q.gm f).isSome))) rfl) ?_
 refine qe (s_then (s_seq (c_reg ?_)))
 refine qd rfl rfl rfl (r_move (v := (.bool ((Go.GL.look q.gm f).isSome))) rfl) ?_
 refine qe (s_then ?_)
 refine c_if rfl rfl (fun h3 => ?_) (fun h3 => ?_)
 ·skip
  refine s_seq (c_reg ?_)
  refine qd rfl rfl rfl (r_move (v := (.int .i64 ((Go.GL.look q.gm f).getD 0))) rfl) ?_
  refine qd rfl rfl rfl (r_assign (v := (.int .i64 ((Go.GL.look q.gm f).getD 0))) rfl) ?_
  refine qe (s_then ?_)
  refine wp_ret ?_
  refine s_ret ?_
  refine c_ret1 (v := (.int .i64 ((Go.GL.look q.gm f).getD 0))) rfl rfl rfl ?_
  obtain ⟨z, hz⟩ := Option.isSome_iff_exists.1 h3
  obtain ⟨_, f1, f2⟩ := hok.neg f z hz
  rw [hz]
  exact ⟨z, L, R, B, q, G, rfl, hpk, hok, (PX.refl _), PIn.lo hpin rfl, hX0, f1, f2, hbd⟩
 refine wp_skip ?_
 refine s_then (s_seq (c_reg ?_))
 refine q1 rfl rfl rfl (o_build0 (E := eInt) (e := 3) Tryz.underlying67 sz3 hX0.pins (fun u4 w5 ho6 hp7 hl8 hk9 => ?_))
 have hX10 := hX0.step hp7 hl8
 have hpk11 := hpk.below hl8 hp7
 have ha16 := hpk.new (x := u4.ownBlock) (fun k hk => by rw [hk9] at hk; cases hk; exact Nat.le_refl _)
 have ho17 : Own eInt 3 G w5 w.heap.size u4 ([]) := ho6.weaken hX0.size
 refine q1 rfl rfl rfl (o_build0 (E := eInt) (e := 3) Tryz.underlying67 sz3 hX10.pins (fun u18 w19 ho20 hp21 hl22 hk23 => ?_))
 have hX24 := hX10.step hp21 hl22
 have ho25 := ho17.below hl22
 have hpk26 := hpk11.below hl22 hp21
 have ha30 : Apart u18.ownBlock u4.ownBlock := new_ne_own hk23 ho17.lt
 have ha32 := hpk11.new (x := u18.ownBlock) (fun k hk => by rw [hk23] at hk; cases hk; exact Nat.le_refl _)
 have ho33 : Own eInt 3 G w19 w.heap.size u18 ([]) := ho20.weaken hX10.size
 refine qd rfl rfl rfl (r_assign (v := u4) rfl) ?_
 refine qd rfl rfl rfl (r_assign (v := u18) rfl) ?_
 refine qe (s_then (s_seq (s_seq (c_reg ?_))))
 refine qd rfl rfl rfl (r_move (v := (.pointer (some ⟨p, 0, none⟩))) rfl) ?_
 refine qd rfl rfl rfl (r_nil rfl) ?_
 refine qd rfl rfl rfl (r_fldp (k := 1) rfl Tryz.underlying74 rfl nz68 rfl) ?_
 refine qd rfl rfl rfl (r_ldp1 (u := R) ag68 rfl (hpk26.bx.cell (o := 1) rfl)) ?_
 refine qd rfl rfl rfl (r_move (v := (.int .i64 f)) rfl) ?_
 refine qd rfl rfl rfl (run_idx Tryz.underlying68 sz67 (v := R) rfl rfl hpk26.rr.read (by omega) (by omega)) ?_
 obtain ⟨u34, hr35, hl36⟩ := nm_sl (hpk26.rr.at (z := f) (by omega) (by omega)) (j := (f).toNat) rfl
 rw [mapr_getD] at hr35
 have hm37 := hr35.max
 refine qd rfl rfl rfl (hl36 ag67 rfl (Gadd.pins hX24.pins R)) ?_
 refine qd rfl rfl rfl (run_len Tryz.underlying67 (v := u34) rfl hr35) ?_
 refine qd rfl rfl rfl (r_move (v := (.int .i64 0)) rfl) ?_
 refine qe (s_then ?_)
 refine s_blk ?_
 refine s_loop (fun (k : Nat) (en : Nat → Value) (W : World) => ∃ (env1 : Nat → Value) (j1 : Nat) (lv1 : Value) (ls1 : List Int) (L38 : Value) (R39 : Value) (B40 : Value) (q41 : PSt) (GL1 : Pin), en = (upd (upd (upd (upd (upd (upd (upd (upd env1 0 (.pointer (some ⟨p, 0, none⟩))) 1 (.int .i64 f)) 4 (.int .i64 0)) 7 lv1) 8 u18) 33 u34) 34 (.int .i64 (((q.ns.getD (f).toNat default).r).length : Int))) 35 (.int .i64 (j1 : Int))) ∧ k = (q.ns.getD (f).toNat default).r.length - j1 ∧ Ext (inP p L R B mm) G w GL1 W ∧ Pin.le G GL1 ∧ (j1 ≤ (q.ns.getD (f).toNat default).r.length) ∧ (GsOk q41 ls1 ([] ++ ((q.ns.getD (f).toNat default).r.take j1).map fun o => negG (pd q o))) ∧ (Bud qz q41 S) ∧ (Own eInt 3 GL1 W w.heap.size lv1 (ls1)) ∧ (Own eInt 3 GL1 W w.heap.size u18 ([])) ∧ (Apart lv1.ownBlock u18.ownBlock) ∧ (Pk 67 3 GL1 W p L38 R39 B40 mm q41) ∧ (PIn w ((inP p L R B mm)) p L38 R39 B40 mm) ∧ (PoolOk q41) ∧ (PX q q41) ∧ (NP p L38 R39 B40 mm lv1.ownBlock) ∧ (NP p L38 R39 B40 mm u18.ownBlock)) _ ⟨_, 0, u4, [], L, R, B, q, G, (packS (x := 35) (packS (x := 34) (packS (x := 33) (packS (x := 8) (packS (x := 7) (packS (x := 4) (packS (x := 1) (pack1 (x := 0) rfl) rfl) rfl) rfl) rfl) rfl) rfl) rfl), rfl, hX24, Pin.le_refl _, Nat.zero_le _, GsOk.nil, hbd, ho25, ho33, ha30.symm, hpk26, hpin, hok, (PX.refl _), ha16, ha32⟩ ?_
 rintro k42 _ w43 ⟨env1, j1, lv1, ls1, L38, R39, B40, q41, GL1, rfl, hk44, hX45, hlek42, hkj1, hg1, hbuj1, hw46, hw47, ha48, hpk49, hpin50, hok51, hpx52, hnp53, hnp54⟩
 have hql55 := hpx52.len
 have hml56 : (q41.ns.map Nd.l).length = q41.ns.length ∧ (q41.ns.map Nd.r).length = q41.ns.length := ⟨List.length_map .., List.length_map ..⟩
 have hml57 : q41.bs.length = q41.ns.length ∧ q41.ns.length ≤ 1048576 := ⟨hok51.ar.ok.len, hok51.ar.ok.lim⟩
 have hglj1 := hg1.lenj hkj1
 rw [List.length_nil] at hglj1
 refine s_seq (c_reg ?_)
 refine qd rfl rfl rfl (r_lss rfl rfl) ?_
 refine qe (s_then (s_seq ?_))
 refine c_ifd (p := ((j1 : Int) : Int) < (((q.ns.getD (f).toNat default).r).length : Int)) rfl rfl (fun h58 => ?_) (fun h58 => ?_)
 ·skip
  have hmj : (q.ns.getD (f).toNat default).r.getD j1 0 ∈ (q.ns.getD (f).toNat default).r := getD_mem (show j1 < (q.ns.getD (f).toNat default).r.length by omega)
  have hoj := (opts_place hok hf).2 _ hmj
  have hoj1 := hoj.1
  have hoz := ((optsAt hok.ar.opts (show (f).toNat < q.ns.length by omega)).2 _ hmj).2
  have hsb := sub_r hok hf hmj
  refine wp_skip ?_
  refine s_then (s_seq ?_)
  refine s_blk ?_
  refine s_seq (c_reg ?_)
  refine qd rfl rfl rfl (run_idx Tryz.underlying67 sz3 (v := u34) rfl rfl hr35 (by omega) (by omega)) ?_
  refine qd rfl rfl rfl (run_load_int (r := ((q.ns.getD (f).toNat default).r).getD j1 0) rfl ag3 (z := (j1 : Int)) rfl hr35 (Pins.of_le hX45.pins hlek42) (by omega) (by omega)) ?_
  refine qd rfl rfl rfl (r_assign (v := (.int .i64 (((q.ns.getD (f).toNat default).r).getD j1 0))) rfl) ?_
  refine qe (s_then (c_reg ?_))
  refine qd rfl rfl rfl (r_move (v := lv1) rfl) ?_
  refine qd rfl rfl rfl (r_move (v := (.pointer (some ⟨p, 0, none⟩))) rfl) ?_
  refine qd rfl rfl rfl (r_move (v := (.int .i64 (((q.ns.getD (f).toNat default).r).getD j1 0))) rfl) ?_
  refine q1 rfl rfl rfl (o_call (vs := [(.pointer (some ⟨p, 0, none⟩)), (.int .i64 (((q.ns.getD (f).toNat default).r).getD j1 0))]) Tryz.func78 nm78 rfl rfl rfl ?_)
  refine Calls.mono (ih hX45.pins hpk49 hok51 (hpx52.place hoj) hbuj1 (fun x hx => hS x (hsb.trans (by rw [hpx52.pd hok hok51 hoj] at hx; exact hx))) (by omega)) ?_
  rintro _ w68 ⟨z59, L63, R64, B65, q66, G67, rfl, hpk69, hok70, hpx71, hlo72, hx73, hpl60, hpd61, hbu62⟩
  refine ⟨_, rfl, ?_⟩
  have hX74 := hX45.trans hx73 hpin50
  have ho75 := hw46.extS hx73 hnp53
  have hnp76 := NP.call hnp53 hlo72 (own_lt hw46)
  have ho77 := hw47.extS hx73 hnp54
  have hnp78 := NP.call hnp54 hlo72 (own_lt hw47)
  have hpin79 := PIn.call hpin50 hlo72 hX45.size
  have hql80 := hpx71.len
  have hml81 : (q66.ns.map Nd.l).length = q66.ns.length ∧ (q66.ns.map Nd.r).length = q66.ns.length := ⟨List.length_map .., List.length_map ..⟩
  have hml82 : q66.bs.length = q66.ns.length ∧ q66.ns.length ≤ 1048576 := ⟨hok70.ar.ok.len, hok70.ar.ok.lim⟩
  refine q1 rfl rfl rfl (o_buildF (E := eInt) (e := 3) [(.int .i64 z59)] [z59] Tryz.underlying67 sz3 zr3 (by exact reps1 (by rfl)) (ones1 (by rfl)) rfl rfl rfl rfl (by decide) hX74.pins (fun u83 w84 ho85 hp86 hl87 hk88 => ?_))
  have hX89 := hX74.step hp86 hl87
  have ho90 := ho75.below hl87
  have ho91 := ho77.below hl87
  have hpk92 := hpk69.below hl87 hp86
  have ho100 : Own eInt 3 G67 w84 w.heap.size u83 ([z59]) := ho85.weaken hX74.size
  refine q1 rfl rfl rfl (o_append (E := eInt) (v := lv1) (u := u83) 8 Tryz.underlying67 ap3 (by decide) rfl rfl hX89.pins ho90 ho100.src (by first | omega | (rw [List.nil_append]; omega) | (rw [List.length_nil]; omega) | (rw [List.length_append]; omega) | (simp; done) | (simp; omega) | (simp only [List.length_append, List.length_cons, List.length_nil]; omega)) (by first | omega | (rw [List.nil_append]; omega) | (rw [List.length_nil]; omega) | (rw [List.length_append]; omega) | (simp; done) | (simp; omega) | (simp only [List.length_append, List.length_cons, List.length_nil]; omega)) (hX89.size) (fun u101 w102 ho103 hp104 hg105 hw106 => ?_))
  have hX107 := hX89.write hp104 hg105 ((lo_own ho90))
  have ho108 := ho91.keptA hg105 ha48.symm
  have hpk110 := hpk92.kept hg105 hp104 hnp76
  have ha111 : Apart u18.ownBlock u101.ownBlock := app_ne_own ha48.symm hw106 ho91.lt
  have hnp113 := np_app hnp76 hpk92 hw106
  have hm114 : (ls1 ++ ([z59])).length = ls1.length + 1 := List.length_append
  refine qd rfl rfl rfl (r_assign (v := u101) rfl) ?_
  refine qe ?_
  refine s_blkN ?_
  refine s_then (c_reg ?_)
  refine qd rfl rfl rfl (r_add rfl rfl (by omega)) ?_
  refine qd rfl rfl rfl (r_move (v := (.int .i64 ((j1 : Int) + 1))) rfl) ?_
  refine qe ?_
  refine s_lopN ?_
  refine ⟨_, ?_, _, rfl, _, j1 + 1, u101, ls1 ++ ([z59]), L63, R64, B65, q66, G67, (packS (x := 35) (packS (x := 34) (packS (x := 33) (packS (x := 8) (packS (x := 7) (packS (x := 4) (packS (x := 1) (pack1 (x := 0) rfl) rfl) rfl) rfl) rfl) rfl) rfl) rfl), rfl, hX107, (Pin.le_trans hlek42 hx73.le), (by omega), (hg1.next hpx71 hok51 hok70 hpl60 (by omega) (hpd61.trans (by rw [hpx52.pd hok hok51 hoj]))), hbu62, ho103, ho108, ha111.symm, hpk110, hpin79, hok70, (PX.trans hpx52 hpx71), hnp113, hnp78⟩
  omega
 refine wp_exit ?_
 refine s_thenE ?_
 refine s_lopE ?_
 refine s_blkE ?_
 refine s_then (s_seq (s_seq (c_reg ?_)))
 refine qd rfl rfl rfl (r_move (v := (.pointer (some ⟨p, 0, none⟩))) rfl) ?_
 refine qd rfl rfl rfl (r_nil rfl) ?_
 refine qd rfl rfl rfl (r_fldp (k := 0) rfl Tryz.underlying74 rfl nz68 rfl) ?_
 refine qd rfl rfl rfl (r_ldp1 (u := L38) ag68 rfl (hpk49.bx.cell (o := 0) rfl)) ?_
 refine qd rfl rfl rfl (r_move (v := (.int .i64 f)) rfl) ?_
 refine qd rfl rfl rfl (run_idx Tryz.underlying68 sz67 (v := L38) rfl rfl hpk49.ol.read (by omega) (by omega)) ?_
 obtain ⟨u115, hr116, hl117⟩ := nm_sl (hpk49.ol.at (z := f) (by omega) (by omega)) (j := (f).toNat) rfl
 rw [mapl_getD] at hr116
 have hm118 := hr116.max
 refine qd rfl rfl rfl (hl117 ag67 rfl (Gadd.pins hX45.pins L38)) ?_
 refine qd rfl rfl rfl (run_len Tryz.underlying67 (v := u115) rfl hr116) ?_
 refine qd rfl rfl rfl (r_move (v := (.int .i64 0)) rfl) ?_
 refine qe (s_then ?_)
 refine s_blk ?_
 have hold : q41.ns.getD (f).toNat default = q.ns.getD (f).toNat default := hpx52.old _ (by omega)
 have holdl : (q41.ns.getD (f).toNat default).l.length = (q.ns.getD (f).toNat default).l.length := by rw [hold]
 rw [hold] at hr116
 have hj1 : j1 = (q.ns.getD (f).toNat default).r.length := by omega
 have hg1d := hg1.done hj1
 refine s_loop (fun (k : Nat) (en : Nat → Value) (W : World) => ∃ (env1 : Nat → Value) (j2 : Nat) (lv2 : Value) (ls2 : List Int) (L119 : Value) (R120 : Value) (B121 : Value) (q122 : PSt) (GL2 : Pin), en = (upd (upd (upd (upd (upd (upd (upd (upd env1 0 (.pointer (some ⟨p, 0, none⟩))) 1 (.int .i64 f)) 4 (.int .i64 0)) 7 lv1) 8 lv2) 52 u115) 53 (.int .i64 (((q41.ns.getD (f).toNat default).l).length : Int))) 54 (.int .i64 (j2 : Int))) ∧ k = (q.ns.getD (f).toNat default).l.length - j2 ∧ Ext (inP p L R B mm) G w GL2 W ∧ Pin.le GL1 GL2 ∧ (j2 ≤ (q.ns.getD (f).toNat default).l.length) ∧ (GsOk q122 ls2 ([] ++ ((q.ns.getD (f).toNat default).l.take j2).map fun o => negG (pd q o))) ∧ (Bud qz q122 S) ∧ (GsOk q122 ls1 ([] ++ (q.ns.getD (f).toNat default).r.map fun o => negG (pd q o))) ∧ (Own eInt 3 GL2 W w.heap.size lv2 (ls2)) ∧ (Own eInt 3 GL2 W w.heap.size lv1 (ls1)) ∧ (Apart lv2.ownBlock lv1.ownBlock) ∧ (Pk 67 3 GL2 W p L119 R120 B121 mm q122) ∧ (PIn w ((inP p L R B mm)) p L119 R120 B121 mm) ∧ (PoolOk q122) ∧ (PX q41 q122) ∧ (NP p L119 R120 B121 mm lv2.ownBlock) ∧ (NP p L119 R120 B121 mm lv1.ownBlock)) _ ⟨_, 0, u18, [], L38, R39, B40, q41, GL1, (packS (x := 54) (packS (x := 53) (packS (x := 52) (packS (x := 8) (packS (x := 7) (packS (x := 4) (packS (x := 1) (pack1 (x := 0) rfl) rfl) rfl) rfl) rfl) rfl) rfl) rfl), rfl, hX45, Pin.le_refl _, Nat.zero_le _, GsOk.nil, hbuj1, hg1d, hw47, hw46, ha48.symm, hpk49, hpin50, hok51, (PX.refl _), hnp54, hnp53⟩ ?_
 rintro k123 _ w124 ⟨env1, j2, lv2, ls2, L119, R120, B121, q122, GL2, rfl, hk125, hX126, hlek123, hkj2, hg2, hbuj2, hg1e, hw127, hw128, ha129, hpk130, hpin131, hok132, hpx133, hnp134, hnp135⟩
 have hql136 := hpx133.len
 have hml137 : (q122.ns.map Nd.l).length = q122.ns.length ∧ (q122.ns.map Nd.r).length = q122.ns.length := ⟨List.length_map .., List.length_map ..⟩
 have hml138 : q122.bs.length = q122.ns.length ∧ q122.ns.length ≤ 1048576 := ⟨hok132.ar.ok.len, hok132.ar.ok.lim⟩
 have hglj2 := hg2.lenj hkj2
 rw [List.length_nil] at hglj2
 refine s_seq (c_reg ?_)
 refine qd rfl rfl rfl (r_lss rfl rfl) ?_
 refine qe (s_then (s_seq ?_))
 refine c_ifd (p := ((j2 : Int) : Int) < (((q41.ns.getD (f).toNat default).l).length : Int)) rfl rfl (fun h139 => ?_) (fun h139 => ?_)
 ·skip
  have hmj : (q.ns.getD (f).toNat default).l.getD j2 0 ∈ (q.ns.getD (f).toNat default).l := getD_mem (show j2 < (q.ns.getD (f).toNat default).l.length by omega)
  have hoj := (opts_place hok hf).1 _ hmj
  have hoj1 := hoj.1
  have hoz := ((optsAt hok.ar.opts (show (f).toNat < q.ns.length by omega)).1 _ hmj).2
  have hsb := sub_l hok hf hmj
  refine wp_skip ?_
  refine s_then (s_seq ?_)
  refine s_blk ?_
  refine s_seq (c_reg ?_)
  refine qd rfl rfl rfl (run_idx Tryz.underlying67 sz3 (v := u115) rfl rfl hr116 (by omega) (by omega)) ?_
  refine qd rfl rfl rfl (run_load_int (r := ((q.ns.getD (f).toNat default).l).getD j2 0) rfl ag3 (z := (j2 : Int)) rfl hr116 (Pins.of_le hX126.pins hlek123) (by omega) (by omega)) ?_
  refine qd rfl rfl rfl (r_assign (v := (.int .i64 (((q.ns.getD (f).toNat default).l).getD j2 0))) rfl) ?_
  refine qe (s_then (c_reg ?_))
  refine qd rfl rfl rfl (r_move (v := lv2) rfl) ?_
  refine qd rfl rfl rfl (r_move (v := (.pointer (some ⟨p, 0, none⟩))) rfl) ?_
  refine qd rfl rfl rfl (r_move (v := (.int .i64 (((q.ns.getD (f).toNat default).l).getD j2 0))) rfl) ?_
  refine q1 rfl rfl rfl (o_call (vs := [(.pointer (some ⟨p, 0, none⟩)), (.int .i64 (((q.ns.getD (f).toNat default).l).getD j2 0))]) Tryz.func78 nm78 rfl rfl rfl ?_)
  refine Calls.mono (ih hX126.pins hpk130 hok132 ((PX.trans hpx52 hpx133).place hoj) hbuj2 (fun x hx => hS x (hsb.trans (by rw [(PX.trans hpx52 hpx133).pd hok hok132 hoj] at hx; exact hx))) (by omega)) ?_
  rintro _ w149 ⟨z140, L144, R145, B146, q147, G148, rfl, hpk150, hok151, hpx152, hlo153, hx154, hpl141, hpd142, hbu143⟩
  refine ⟨_, rfl, ?_⟩
  have hX155 := hX126.trans hx154 hpin131
  have ho156 := hw127.extS hx154 hnp134
  have hnp157 := NP.call hnp134 hlo153 (own_lt hw127)
  have ho158 := hw128.extS hx154 hnp135
  have hnp159 := NP.call hnp135 hlo153 (own_lt hw128)
  have hpin160 := PIn.call hpin131 hlo153 hX126.size
  have hql161 := hpx152.len
  have hml162 : (q147.ns.map Nd.l).length = q147.ns.length ∧ (q147.ns.map Nd.r).length = q147.ns.length := ⟨List.length_map .., List.length_map ..⟩
  have hml163 : q147.bs.length = q147.ns.length ∧ q147.ns.length ≤ 1048576 := ⟨hok151.ar.ok.len, hok151.ar.ok.lim⟩
  refine q1 rfl rfl rfl (o_buildF (E := eInt) (e := 3) [(.int .i64 z140)] [z140] Tryz.underlying67 sz3 zr3 (by exact reps1 (by rfl)) (ones1 (by rfl)) rfl rfl rfl rfl (by decide) hX155.pins (fun u164 w165 ho166 hp167 hl168 hk169 => ?_))
  have hX170 := hX155.step hp167 hl168
  have ho171 := ho156.below hl168
  have ho172 := ho158.below hl168
  have hpk173 := hpk150.below hl168 hp167
  have ho181 : Own eInt 3 G148 w165 w.heap.size u164 ([z140]) := ho166.weaken hX155.size
  refine q1 rfl rfl rfl (o_append (E := eInt) (v := lv2) (u := u164) 8 Tryz.underlying67 ap3 (by decide) rfl rfl hX170.pins ho171 ho181.src (by first | omega | (rw [List.nil_append]; omega) | (rw [List.length_nil]; omega) | (rw [List.length_append]; omega) | (simp; done) | (simp; omega) | (simp only [List.length_append, List.length_cons, List.length_nil]; omega)) (by first | omega | (rw [List.nil_append]; omega) | (rw [List.length_nil]; omega) | (rw [List.length_append]; omega) | (simp; done) | (simp; omega) | (simp only [List.length_append, List.length_cons, List.length_nil]; omega)) (hX170.size) (fun u182 w183 ho184 hp185 hg186 hw187 => ?_))
  have hX188 := hX170.write hp185 hg186 ((lo_own ho171))
  have ho189 := ho172.keptA hg186 ha129.symm
  have hpk191 := hpk173.kept hg186 hp185 hnp157
  have ha192 : Apart lv1.ownBlock u182.ownBlock := app_ne_own ha129.symm hw187 ho172.lt
  have hnp194 := np_app hnp157 hpk173 hw187
  have hm195 : (ls2 ++ ([z140])).length = ls2.length + 1 := List.length_append
  refine qd rfl rfl rfl (r_assign (v := u182) rfl) ?_
  refine qe ?_
  refine s_blkN ?_
  refine s_then (c_reg ?_)
  refine qd rfl rfl rfl (r_add rfl rfl (by omega)) ?_
  refine qd rfl rfl rfl (r_move (v := (.int .i64 ((j2 : Int) + 1))) rfl) ?_
  refine qe ?_
  refine s_lopN ?_
  refine ⟨_, ?_, _, rfl, _, j2 + 1, u182, ls2 ++ ([z140]), L144, R145, B146, q147, G148, (packS (x := 54) (packS (x := 53) (packS (x := 52) (packS (x := 8) (packS (x := 7) (packS (x := 4) (packS (x := 1) (pack1 (x := 0) rfl) rfl) rfl) rfl) rfl) rfl) rfl) rfl), rfl, hX188, (Pin.le_trans hlek123 hx154.le), (by omega), (hg2.next hpx152 hok132 hok151 hpl141 (by omega) (hpd142.trans (by rw [(PX.trans hpx52 hpx133).pd hok hok132 hoj]))), hbu143, (hg1e.px hpx152 hok132 hok151), ho184, ho189, ha192.symm, hpk191, hpin160, hok151, (PX.trans hpx133 hpx152), hnp194, hnp159⟩
  omega
 refine wp_exit ?_
 refine s_thenE ?_
 refine s_lopE ?_
 refine s_blkE ?_
 refine s_then (s_seq (c_reg ?_))
 refine qd rfl rfl rfl (r_move (v := (.pointer (some ⟨p, 0, none⟩))) rfl) ?_
 refine qd rfl rfl rfl (r_move (v := lv1) rfl) ?_
 refine qd rfl rfl rfl (r_move (v := lv2) rfl) ?_
 obtain ⟨G196, hle199, hX198, hr197, hf200⟩ := hw128.sealed hX126
 have ho201 := hw127.moreO hle199 hf200 ha129
 have hpk202 := hpk130.moreO hle199 hf200 hnp135
 obtain ⟨G203, hle206, hX205, hr204, hf207⟩ := ho201.sealed hX198
 have hpk208 := hpk202.moreO hle206 hf207 hnp134
 have hj2 : j2 = (q.ns.getD (f).toNat default).l.length := by omega
 have hg2d := hg2.done hj2
 have hl1 := hg1e.len
 have hl2 := hg2d.len
 rw [List.nil_append, List.length_map] at hl1 hl2
 refine q1 rfl rfl rfl (o_call (vs := [(.pointer (some ⟨p, 0, none⟩)), lv1, lv2]) Tryz.func87 nm87 rfl rfl rfl ?_)
 refine Calls.mono (node_spec hX205.pins hpk208 hok132 (hr197.mono hle206) hr204 (hbuj2.room hok132) ⟨by omega, by omega⟩ (places_of hg1e.pl) (places_of hg2d.pl)) ?_
 rintro _ w219 ⟨z209, L214, R215, B216, q217, G218, rfl, hpk220, hok221, hpx222, hlo223, hx224, hpl210, hpd211, hqn212, hcm213⟩
 refine ⟨_, rfl, ?_⟩
 have hX225 := hX205.trans hx224 hpin131
 have hpin226 := PIn.call hpin131 hlo223 hX205.size
 have hql227 := hpx222.len
 have hml228 : (q217.ns.map Nd.l).length = q217.ns.length ∧ (q217.ns.map Nd.r).length = q217.ns.length := ⟨List.length_map .., List.length_map ..⟩
 have hml229 : q217.bs.length = q217.ns.length ∧ q217.ns.length ≤ 1048576 := ⟨hok221.ar.ok.len, hok221.ar.ok.lim⟩
 have hng : pd q217 z209 = negG (pd q f) := by rw [hpd211, hg1e.eq, hg2d.eq, List.nil_append, List.nil_append]; exact neg_node hok hf
 have hbn := hbuj2.node hok132 hok221 hpx222 hqn212 hcm213.2 (by rw [hng]; exact hS _ .self)
 have hf4 := (PX.trans (PX.trans hpx52 hpx133) hpx222).place hf
 have hpf4 := (PX.trans (PX.trans hpx52 hpx133) hpx222).pd hok hok221 hf
 refine qd rfl rfl rfl (r_assign (v := (.int .i64 z209)) rfl) ?_
 refine qe (s_then (s_seq (c_reg ?_)))
 refine qd rfl rfl rfl (r_move (v := (.pointer (some ⟨p, 0, none⟩))) rfl) ?_
 refine qd rfl rfl rfl (r_nil rfl) ?_
 refine qd rfl rfl rfl (r_fldp (k := 7) rfl Tryz.underlying74 rfl nz71 rfl) ?_
 refine qd rfl rfl rfl (r_ldp1 (u := (.map (some mm.n))) ag71 rfl (hpk220.bx.cell (o := 7) rfl)) ?_
 refine qd rfl rfl rfl (r_move (v := (.int .i64 f)) rfl) ?_
 refine qd rfl rfl rfl (r_move (v := (.int .i64 z209)) rfl) ?_
 refine q0 rfl rfl rfl (o_mapUpdate (val := (fun v : Int => Value.int .i64 v)) (k := f) (v := z209) (key_int Tryz.underlying3) Tryz.underlying71 rfl rfl rfl hX225.pins hpk220.fn (fun w230 hm231 hp232 hg233 hz234 => ?_))
 have hX236 := hX225.trans (Ext.one hp232 hg233) (fun i hi => (PIn.n hpin226) i hi)
 have hpk235 := hpk220.setN (Ext.one hp232 hg233) hm231
 have hok239 := PoolOk.setN hok221 hf4 hpl210 (by rw [hng, hpf4])
 obtain ⟨q237, hq238⟩ : ∃ q, q = ({ q217 with gm := putE q217.gm f z209 } : PSt) := ⟨_, rfl⟩
 rw [← hq238] at hpk235 hok239
 have hq238n : q237.ns = q217.ns ∧ q237.bs = q217.bs := by rw [hq238]; exact ⟨rfl, rfl⟩
 have hq238x : PX q217 q237 := by rw [hq238]; exact ⟨Nat.le_refl _, fun _ _ => rfl, fun _ h => h⟩
 have hml240 : (q237.ns.map Nd.l).length = q237.ns.length ∧ (q237.ns.map Nd.r).length = q237.ns.length := ⟨List.length_map .., List.length_map ..⟩
 have hml241 : q237.bs.length = q237.ns.length ∧ q237.ns.length ≤ 1048576 := ⟨hok239.ar.ok.len, hok239.ar.ok.lim⟩
 have hql242 := hq238x.len
 refine qe (s_then (s_seq (c_reg ?_)))
 refine qd rfl rfl rfl (r_move (v := (.int .i64 z209)) rfl) ?_
 refine qd rfl rfl rfl (r_assign (v := (.int .i64 z209)) rfl) ?_
 refine qe (s_then ?_)
 refine wp_ret ?_
 refine s_ret ?_
 refine c_ret1 (v := (.int .i64 z209)) rfl rfl rfl ?_
 exact ⟨_, L214, R215, B216, q237, G218, rfl, hpk235, hok239, (PX.trans (PX.trans (PX.trans hpx52 hpx133) hpx222) hq238x), PIn.lo hpin226 rfl, hX236, hpl210.same hq238n, (by rw [pd_same hq238n]; exact hng), hbn.same hq238x hq238n⟩

theorem neg_all {p : Nat} {mm : PM} : ∀ m, NegP m p mm
 | 0 => fun _ _ _ _ _ _ h => absurd h (Nat.not_lt_zero _)
 | m + 1 => fun hP hpk hok hf hb hS hm => neg_step hP hpk hok hf hb hS (neg_all m) hm
theorem neg_spec {w : World} {G : Pin} {L R B : Value} {q : PSt} {f : Int} {p : Nat} {mm : PM} {qz : PSt} {S : List Nat} (hP : Pins G w) (hpk : Pk 67 3 G w p L R B mm q) (hok : PoolOk q) (hf : PlaceOk q f) (hbd : Bud qz q S) (hS : ∀ x, SubG (pd q f) x → negG x ∈ S) :
  Calls Tryz.prog 78 [(.pointer (some ⟨p, 0, none⟩)), (.int .i64 f)].toArray w fun e w' => ∃ (z : Int) (L' R' B' : Value) (q' : PSt) (G' : Pin), e = .returned (.int .i64 z) ∧ Pk 67 3 G' w' p L' R' B' mm q' ∧ PoolOk q' ∧ PX q q' ∧ PLo w p L R B mm L' R' B' ∧ Ext (inP p L R B mm) G w G' w' ∧ PlaceOk q' z ∧ pd q' z = negG (pd q f) ∧ Bud qz q' S :=
 neg_all _ hP hpk hok hf hbd hS (Nat.lt_succ_self _)

end NG1
end Go.Proofs.YtpknebplcmgnkaaGreatDoor

set_option maxRecDepth 20000
set_option maxHeartbeats 2000000
namespace Go.Proofs.YtpknebplcmgnkaaGreatDoor
namespace NF1
open Go.RowKit Go.GL Go.Proofs
open Go.Proofs.YtpknebplcmgnkaaGreatDoor.B1
open Go.Proofs.YtpknebplcmgnkaaGreatDoor.C1
open Go.Proofs.YtpknebplcmgnkaaGreatDoor.D1
open Go.Proofs.YtpknebplcmgnkaaGreatDoor.E1
open Go.Proofs.YtpknebplcmgnkaaGreatDoor.K1
open Go.Proofs.YtpknebplcmgnkaaGreatDoor.PO1
open Go.Proofs.YtpknebplcmgnkaaGreatDoor.PL1
open Go.Proofs.YtpknebplcmgnkaaGreatDoor.PA1
open Go.Proofs.YtpknebplcmgnkaaGreatDoor.SO1
open Go.Proofs.YtpknebplcmgnkaaGreatDoor.OD1
open Go.Proofs.YtpknebplcmgnkaaGreatDoor.FO1
open Go.Proofs.YtpknebplcmgnkaaGreatDoor.NG1
theorem ag3 : (Tryz.prog.underlying 3).map aggD = some false := by kernel_rfl
theorem ag30 : (Tryz.prog.underlying 30).map aggD = some false := by kernel_rfl
theorem ag32 : (Tryz.prog.underlying 32).map aggD = some true := by kernel_rfl
theorem ag67 : (Tryz.prog.underlying 67).map aggD = some false := by kernel_rfl
theorem ap3 : (Tryz.prog.info? 3).map (fun i => (i.size, i.bytes, (i.zero.map (·.cells.size)))) = some (1, 8, some 1) := by kernel_rfl
theorem nm106 : (Tryz.f106.name == "runtime.NumGoroutine") = false := by kernel_rfl
theorem nm115 : (Tryz.f115.name == "runtime.NumGoroutine") = false := by kernel_rfl
theorem nm51 : (Tryz.f51.name == "runtime.NumGoroutine") = false := by kernel_rfl
theorem nm54 : (Tryz.f54.name == "runtime.NumGoroutine") = false := by kernel_rfl
theorem nm55 : (Tryz.f55.name == "runtime.NumGoroutine") = false := by kernel_rfl
theorem nm57 : (Tryz.f57.name == "runtime.NumGoroutine") = false := by kernel_rfl
theorem nm67 : (Tryz.f67.name == "runtime.NumGoroutine") = false := by kernel_rfl
theorem nm77 : (Tryz.f77.name == "runtime.NumGoroutine") = false := by kernel_rfl
theorem nm78 : (Tryz.f78.name == "runtime.NumGoroutine") = false := by kernel_rfl
theorem nm91 : (Tryz.f91.name == "runtime.NumGoroutine") = false := by kernel_rfl
theorem nz30 : (Tryz.prog.info? 30).map (·.size == 0) = some false := by kernel_rfl
theorem nz67 : (Tryz.prog.info? 67).map (·.size == 0) = some false := by kernel_rfl
theorem pl106 : (Tryz.prog.underlying 106).bind (placesD Tryz.prog) = some [(0, 1), (1, 1)] := by kernel_rfl
theorem pl32 : (Tryz.prog.underlying 32).bind (placesD Tryz.prog) = some [(0, 1)] := by kernel_rfl
theorem sz103 : (Tryz.prog.info? 103).map (·.size) = some 2 := by kernel_rfl
theorem sz3 : (Tryz.prog.info? 3).map (·.size) = some 1 := by kernel_rfl
theorem sz32 : (Tryz.prog.info? 32).map (·.size) = some 1 := by kernel_rfl
theorem zr106 : (Tryz.prog.info? 106).bind (·.zero) = some (.agg #[(.slice none 0 0), (.slice none 0 0)]) := by kernel_rfl
theorem zr3 : (Tryz.prog.info? 3).bind (·.zero) = some (.int .i64 0) := by kernel_rfl
theorem zr32 : (Tryz.prog.info? 32).bind (·.zero) = some (.agg #[(.slice none 0 0)]) := by kernel_rfl

theorem l5Neg_spec {w : World} {G : Pin} {v : Value} {fs : List Nd} (hP : Pins G w) (hv : RSl eNode G v fs) (hf : FormOk fs) (h1 : 1 ≤ fs.length ∧ fs.length ≤ 524288) :
  Calls Tryz.prog 77 [(.agg [v].toArray)].toArray w fun e w' => ∃ (u : Value) (G' : Pin), e = .returned (.agg [u].toArray) ∧ RSl eNode G' u (formG (negG (gOf fs))) ∧ Ext noS G w G' w' := by
 refine s_enter (n := 45) Tryz.func77 Tryz.ntmps77 rfl rfl ?_
 have hX0 : Ext noS G w G w := Ext.refl hP
 have hm := hv.max
 have hfl := hf.len
 refine s_seq (c_reg ?_)
 refine q1 rfl rfl rfl (o_box [v] (v := (.agg [v].toArray)) rfl rfl hX0.pins (fun b1 w2 hk3 hb4 hp5 hl6 => ?_))
 have hX7 := hX0.step hp5 hl6
 have hlo8 : w.heap.size ≤ b1 := by have := hX0.size; omega
 obtain ⟨G9, hle10, hX11, hbp12, hf13⟩ := hb4.shut hX7 hlo8
 refine q1 rfl rfl rfl (o_alloc [(.slice none 0 0)] zr32 rfl hX11.pins (fun b14 w15 hk16 hb17 hp18 hl19 => ?_))
 have hX20 := hX11.step hp18 hl19
 have hlo21 : w.heap.size ≤ b14 := by have := hX11.size; omega
 refine qe (s_then (s_seq (c_reg ?_)))
 refine qd rfl rfl rfl (r_build [(.slice none 0 0), (.slice none 0 0)] [(.slice none 0 0), (.slice none 0 0)] [] Tryz.underlying106 zr106 rfl pl106 rfl (fun _ h => by cases h) rfl) ?_
 refine q1 rfl rfl rfl (o_box [(.slice none 0 0), (.slice none 0 0)] (v := (.agg [(.slice none 0 0), (.slice none 0 0)].toArray)) rfl rfl hX20.pins (fun b22 w23 hk24 hb25 hp26 hl27 => ?_))
 have hX28 := hX20.step hp26 hl27
 have hb29 := hb17.below hl27
 have ha30 : Apart (some b22) (some b14) := new_ne_box (congrArg some hk24) hb17.lt
 have hlo31 : w.heap.size ≤ b22 := by have := hX20.size; omega
 refine qd rfl rfl rfl (r_assign (v := (.pointer (some ⟨b22, 0, none⟩))) rfl) ?_
 refine qe (s_then (s_seq (c_reg ?_)))
 refine q1 rfl rfl rfl (o_build0 (E := eInt) (e := 3) Tryz.underlying67 sz3 hX28.pins (fun u32 w33 ho34 hp35 hl36 hk37 => ?_))
 have hX38 := hX28.step hp35 hl36
 have hb39 := hb29.below hl36
 have hb40 := hb25.below hl36
 have ha41 : Apart u32.ownBlock (some b14) := new_ne_box hk37 hb29.lt
 have ha42 : Apart u32.ownBlock (some b22) := new_ne_box hk37 hb25.lt
 have ho43 : Own eInt 3 G9 w33 w.heap.size u32 ([]) := ho34.weaken hX28.size
 refine qd rfl rfl rfl (r_assign (v := u32) rfl) ?_
 refine qe (s_then (s_seq (s_seq (c_reg ?_))))
 refine qd rfl rfl rfl (r_assign (v := (.int .i64 0)) rfl) ?_
 refine qe (s_then ?_)
 refine s_blk ?_
 refine s_loop (fun (k : Nat) (en : Nat → Value) (W : World) => ∃ (env1 : Nat → Value) (k5 : Nat) (at_ : Value) (ats : List Int) (u2 : Value) (v2 : Value) (ns2 : List Nd) (bs2 : List Int) (GL1 : Pin), en = (upd (upd (upd (upd (upd env1 1 (.pointer (some ⟨b1, 0, none⟩))) 2 (.pointer (some ⟨b14, 0, none⟩))) 3 (.pointer (some ⟨b22, 0, none⟩))) 4 at_) 5 (.int .i64 (k5 : Int))) ∧ k = fs.length - k5 ∧ Ext noS G w GL1 W ∧ Pin.le G9 GL1 ∧ (k5 ≤ fs.length) ∧ (PoolOk (bkq ns2 bs2)) ∧ (NkOk (bkq ns2 bs2) ats k5 (fun i => negG (den fs i))) ∧ (ns2.length ≤ k5) ∧ (Own eInt 3 GL1 W w.heap.size at_ (ats)) ∧ (Own eNode 103 GL1 W 0 u2 (ns2)) ∧ (Own eInt 3 GL1 W 0 v2 (bs2)) ∧ (Bx GL1 W b14 [(.slice none 0 0)]) ∧ (Bx GL1 W b22 [u2, v2]) ∧ (Apart at_.ownBlock u2.ownBlock) ∧ (Apart at_.ownBlock v2.ownBlock) ∧ (Apart at_.ownBlock (some b14)) ∧ (Apart at_.ownBlock (some b22)) ∧ (Apart u2.ownBlock v2.ownBlock) ∧ (Apart u2.ownBlock (some b14)) ∧ (Apart u2.ownBlock (some b22)) ∧ (Apart v2.ownBlock (some b14)) ∧ (Apart v2.ownBlock (some b22)) ∧ (Lo w noS u2.ownBlock) ∧ (Lo w noS v2.ownBlock)) _ ⟨_, 0, u32, [], (.slice none 0 0), (.slice none 0 0), [], [], G9, (packS (x := 5) (packS (x := 4) (packS (x := 3) (packS (x := 2) (pack1 (x := 1) rfl) rfl) rfl) rfl) rfl), rfl, hX38, Pin.le_refl _, Nat.zero_le _, (bkq_ok Ar.empty), NkOk.start, Nat.le_refl 0, ho43, (Own.nil _ _ _ _ _), (Own.nil _ _ _ _ _), hb39, hb40, apart_none.symm, apart_none.symm, ha41, ha42, apart_none, apart_none, apart_none, apart_none, apart_none, (lo_none _ _), (lo_none _ _)⟩ ?_
 rintro k44 _ w45 ⟨env1, k5, at_, ats, u2, v2, ns2, bs2, GL1, rfl, hk46, hX47, hlek44, hk5, hokb, hnk, hbl, hw48, hw49, hw50, hw51, hw52, ha53, ha54, ha55, ha56, ha57, ha58, ha59, ha60, ha61, hlo62, hlo63⟩
 have hnl := hnk.len
 refine s_seq (s_seq (c_reg ?_))
 refine qd rfl rfl rfl (r_move (v := (.int .i64 (k5 : Int))) rfl) ?_
 refine qd rfl rfl rfl (r_fldp (k := 0) rfl Tryz.underlying32 rfl nz30 rfl) ?_
 refine qd rfl rfl rfl (r_ldp1 (u := v) ag30 rfl ((Pins.of_le hX47.pins hlek44) _ _ _ (hbp12 0 _ rfl))) ?_
 refine qd rfl rfl rfl (run_len Tryz.underlying30 (v := v) rfl hv) ?_
 refine qd rfl rfl rfl (r_lss rfl rfl) ?_
 refine qe (s_then ?_)
 refine c_ifd (p := ((k5 : Int) : Int) < (fs.length : Int)) rfl rfl (fun h64 => ?_) (fun h64 => ?_)
 ·skip
  have oo := optsAt hf.opts (show k5 < fs.length by omega)
  have hfe := hf.lens k5 (by omega)
  have hol := hnk.opts oo.1
  have hor := hnk.opts oo.2
  have hil : ∀ i, i < (fs.getD k5 default).l.length → 0 ≤ (fs.getD k5 default).l.getD i 0 ∧ (fs.getD k5 default).l.getD i 0 < ats.length := fun i hi => by have h := oo.1 _ (getD_mem (d := (0 : Int)) hi); omega
  have hir : ∀ i, i < (fs.getD k5 default).r.length → 0 ≤ (fs.getD k5 default).r.getD i 0 ∧ (fs.getD k5 default).r.getD i 0 < ats.length := fun i hi => by have h := oo.2 _ (getD_mem (d := (0 : Int)) hi); omega
  have hpt := bk_put (xs := atL ats (fs.getD k5 default).r) (ys := atL ats (fs.getD k5 default).l) hokb (by omega) ⟨by rw [at_length]; omega, by rw [at_length]; omega⟩ hor.1 hol.1
  refine wp_skip ?_
  refine s_then (s_seq ?_)
  refine s_blk ?_
  refine c_draw (S := fun wz => Pins GL1 wz) (last := 22) (by kernel_rfl) rfl ?_
  have hl65 : Below w45.heap.size w45 w45.drew := (Below.refl _ _).drew
  have hp66 := hX47.pins.below hl65
  have hX67 := hX47.step hp66 hl65
  have ho68 := hw48.below hl65
  have ho69 := hw49.below hl65
  have ho70 := hw50.below hl65
  have hb71 := hw51.below hl65
  have hb72 := hw52.below hl65
  refine dr_take (i := 0) rfl rfl rfl (want_none rfl _) (by kernel_rfl) (fun _ _ => r_move (v := at_) rfl) hX67.pins ?_
  refine dr_take (i := 1) rfl rfl rfl (want_none rfl _) (by kernel_rfl) (fun _ _ => r_move (v := (.pointer (some ⟨b22, 0, none⟩))) rfl) hX67.pins ?_
  refine dr_take (i := 2) rfl rfl rfl (want_none rfl _) (by kernel_rfl) (fun _ _ => r_move (v := at_) rfl) hX67.pins ?_
  refine dr_take (i := 3) rfl rfl rfl (want_none rfl _) (by kernel_rfl) (fun _ _ => r_fldp (k := 0) rfl Tryz.underlying32 rfl nz30 rfl) hX67.pins ?_
  refine dr_take (i := 4) rfl rfl rfl (want_none rfl _) (by kernel_rfl) (fun _ hS => r_ldp1 (u := v) ag30 rfl ((Pins.of_le hS hlek44) _ _ _ (hbp12 0 _ rfl))) hX67.pins ?_
  refine dr_take (i := 5) rfl rfl rfl (want_none rfl _) (by kernel_rfl) (fun _ _ => r_move (v := (.int .i64 (k5 : Int))) rfl) hX67.pins ?_
  refine dr_take (i := 6) rfl rfl rfl (want_none rfl _) (by kernel_rfl) (fun _ _ => run_idx Tryz.underlying30 sz103 (v := v) rfl rfl hv (by omega) (by omega)) hX67.pins ?_
  refine dr_take (i := 7) rfl rfl rfl (want_none rfl _) (by kernel_rfl) (fun _ _ => run_fld (off := 1) Tryz.underlying103 rfl rfl nz67 (z := (k5 : Int)) (k := 0) rfl hv (by omega) (by omega)) hX67.pins ?_
  obtain ⟨u73, hr74, hl75⟩ := nm_nr (hv.at (z := (k5 : Int)) (by omega) (by omega)) (j := k5) rfl
  have hm76 := hr74.max
  refine dr_take (i := 8) rfl rfl rfl (want_none rfl _) (by kernel_rfl) (fun _ hS => hl75 ag67 rfl (Pins.of_le hS (Pin.le_trans hle10 hlek44))) hX67.pins ?_
  refine dr_take (i := 10) rfl rfl rfl (want_none rfl _) (by kernel_rfl) (fun _ _ => r_move (v := at_) rfl) hX67.pins ?_
  refine dr_take (i := 11) rfl rfl rfl (want_none rfl _) (by kernel_rfl) (fun _ _ => r_fldp (k := 0) rfl Tryz.underlying32 rfl nz30 rfl) hX67.pins ?_
  refine dr_take (i := 12) rfl rfl rfl (want_none rfl _) (by kernel_rfl) (fun _ hS => r_ldp1 (u := v) ag30 rfl ((Pins.of_le hS hlek44) _ _ _ (hbp12 0 _ rfl))) hX67.pins ?_
  refine dr_take (i := 13) rfl rfl rfl (want_none rfl _) (by kernel_rfl) (fun _ _ => r_move (v := (.int .i64 (k5 : Int))) rfl) hX67.pins ?_
  refine dr_take (i := 14) rfl rfl rfl (want_none rfl _) (by kernel_rfl) (fun _ _ => run_idx Tryz.underlying30 sz103 (v := v) rfl rfl hv (by omega) (by omega)) hX67.pins ?_
  refine dr_take (i := 15) rfl rfl rfl (want_none rfl _) (by kernel_rfl) (fun _ _ => run_fld (off := 0) Tryz.underlying103 rfl rfl nz67 (z := (k5 : Int)) (k := 0) rfl hv (by omega) (by omega)) hX67.pins ?_
  obtain ⟨u77, hr78, hl79⟩ := nm_nl (hv.at (z := (k5 : Int)) (by omega) (by omega)) (j := k5) rfl
  have hm80 := hr78.max
  refine dr_take (i := 16) rfl rfl rfl (want_none rfl _) (by kernel_rfl) (fun _ hS => hl79 ag67 rfl (Pins.of_le hS (Pin.le_trans hle10 hlek44))) hX67.pins ?_
  refine dr_one (i := 9) (by kernel_rfl) (drOp1 (i := 9) rfl rfl rfl (want_none rfl _) (o_call (vs := [at_, u73]) Tryz.func106 nm106 rfl rfl rfl ?_))
  refine Calls.mono (l3At_spec hX67.pins (Gadd.pins hX67.pins at_) ho68.read (hr74.mono (Pin.le_trans hle10 hlek44)) (by omega) hir) ?_
  rintro _ w83 ⟨u81, G82, rfl, ho84, hx85⟩
  refine ⟨_, rfl, ?_⟩
  have hX86 := hX67.tr hx85
  have ho87 := ho68.ext hx85
  have ho88 := ho69.ext hx85
  have ho89 := ho70.ext hx85
  have hb90 := hb71.ext hx85
  have hb91 := hb72.ext hx85
  have ha92 : Apart u81.ownBlock at_.ownBlock := made_ne_own ho84.lt ho68.lt
  have ha93 : Apart u81.ownBlock u2.ownBlock := made_ne_own ho84.lt ho69.lt
  have ha94 : Apart u81.ownBlock v2.ownBlock := made_ne_own ho84.lt ho70.lt
  have ha95 : Apart u81.ownBlock (some b14) := made_ne_box ho84.lt hb71.lt
  have ha96 : Apart u81.ownBlock (some b22) := made_ne_box ho84.lt hb72.lt
  have ho97 : Own eInt 3 G82 w83 w.heap.size u81 (atL ats ((fs.getD k5 default).r)) := ho84.weaken hX67.size
  refine ⟨fun _ => (Pins.of_le hX86.pins hx85.le), ?_⟩
  refine dr_one (i := 17) (by kernel_rfl) (drOp1 (i := 17) rfl rfl rfl (want_none rfl _) (o_call (vs := [at_, u77]) Tryz.func106 nm106 rfl rfl rfl ?_))
  refine Calls.mono (l3At_spec hX86.pins (Gadd.pins hX86.pins at_) ho87.read (hr78.mono (Pin.le_trans (Pin.le_trans hle10 hlek44) hx85.le)) (by omega) hil) ?_
  rintro _ w100 ⟨u98, G99, rfl, ho101, hx102⟩
  refine ⟨_, rfl, ?_⟩
  have hX103 := hX86.tr hx102
  have ho104 := ho87.ext hx102
  have ho105 := ho88.ext hx102
  have ho106 := ho89.ext hx102
  have ho107 := ho97.ext hx102
  have hb108 := hb90.ext hx102
  have hb109 := hb91.ext hx102
  have ha110 : Apart u98.ownBlock at_.ownBlock := made_ne_own ho101.lt ho87.lt
  have ha111 : Apart u98.ownBlock u2.ownBlock := made_ne_own ho101.lt ho88.lt
  have ha112 : Apart u98.ownBlock v2.ownBlock := made_ne_own ho101.lt ho89.lt
  have ha113 : Apart u98.ownBlock u81.ownBlock := made_ne_own ho101.lt ho97.lt
  have ha114 : Apart u98.ownBlock (some b14) := made_ne_box ho101.lt hb90.lt
  have ha115 : Apart u98.ownBlock (some b22) := made_ne_box ho101.lt hb91.lt
  have ho116 : Own eInt 3 G99 w100 w.heap.size u98 (atL ats ((fs.getD k5 default).l)) := ho101.weaken hX86.size
  refine ⟨fun _ => (Pins.of_le hX103.pins (Pin.le_trans hx85.le hx102.le)), ?_⟩
  obtain ⟨G117, hle120, hX119, hr118, hf121⟩ := ho107.sealed hX103
  have ho122 := ho104.moreO hle120 hf121 ha92.symm
  have ho123 := ho105.moreO hle120 hf121 ha93.symm
  have ho124 := ho106.moreO hle120 hf121 ha94.symm
  have ho125 := ho116.moreO hle120 hf121 ha113
  have hb126 := hb108.moreO hf121 ha95.symm
  have hb127 := hb109.moreO hf121 ha96.symm
  obtain ⟨G128, hle131, hX130, hr129, hf132⟩ := ho125.sealed hX119
  have ho133 := ho122.moreO hle131 hf132 ha110.symm
  have ho134 := ho123.moreO hle131 hf132 ha111.symm
  have ho135 := ho124.moreO hle131 hf132 ha112.symm
  have hb136 := hb126.moreO hf132 ha114.symm
  have hb137 := hb127.moreO hf132 ha115.symm
  refine dr_one (i := 18) (by kernel_rfl) (drOp1 (i := 18) rfl rfl rfl (want_none rfl _) (o_call (vs := [(.pointer (some ⟨b22, 0, none⟩)), u81, u98]) Tryz.func115 nm115 rfl rfl rfl ?_))
  refine Calls.mono (put_spec hX130.pins ⟨hb137, ho134, ho135, ha59.symm, ha61.symm, ha57⟩ hokb.ar.ok (hr118.mono hle131) hr129 ⟨by rw [at_length]; omega, by rw [at_length]; omega⟩ (places_of hor.1) (places_of hol.1)) ?_
  rintro _ w141 ⟨u138, v139, G140, rfl, hbk142, hx143, hlu144, hlv145⟩
  refine ⟨_, rfl, ?_⟩
  have hin148 : ∀ i, inS b22 u2 v2 i → w.heap.size ≤ i ∨ noS i := inS_lo (lo_box hlo31) hlo62 hlo63
  have hX149 := hX130.trans hx143 hin148
  have hn150 := notS (u := u2) (v := v2) ha56 ha53 ha54
  have ho151 := ho133.extS hx143 hn150
  have ha152 : Apart at_.ownBlock u138.ownBlock := ap_call hlu144 hn150 (own_lt ho133)
  have ha153 : Apart at_.ownBlock v139.ownBlock := ap_call hlv145 hn150 (own_lt ho133)
  have hn154 := notS (u := u2) (v := v2) ha30.symm ha58.symm ha60.symm
  have ho155 := hb136.extS hx143 (notSb hn154)
  have ha156 : Apart (some b14) u138.ownBlock := ap_call hlu144 hn154 (box_lt hb136)
  have ha157 : Apart (some b14) v139.ownBlock := ap_call hlv145 hn154 (box_lt hb136)
  have hb158 := hbk142.bx
  have ho159 := hbk142.ou
  have ho160 := hbk142.ov
  have ha161 := hbk142.abu
  have ha162 := hbk142.abv
  have ha163 := hbk142.auv
  have hlo164 := lo_call hlu144 hin148 hX130.size
  have hlo165 := lo_call hlv145 hin148 hX130.size
  refine ⟨fun _ => (Pins.of_le hX149.pins (Pin.le_trans (Pin.le_trans (Pin.le_trans (Pin.le_trans hx85.le hx102.le) hle120) hle131) hx143.le)), ?_⟩
  refine dr_one (i := 19) (by kernel_rfl) (drOp1 (i := 19) rfl rfl rfl (want_none rfl _) (o_buildF (E := eInt) (e := 3) [(.int .i64 (putK ns2 bs2 (atL ats ((fs.getD k5 default).r)) (atL ats ((fs.getD k5 default).l))))] [putK ns2 bs2 (atL ats ((fs.getD k5 default).r)) (atL ats ((fs.getD k5 default).l))] Tryz.underlying67 sz3 zr3 (by exact reps1 (by rfl)) (ones1 (by rfl)) rfl rfl rfl rfl (by decide) hX149.pins (fun u166 w167 ho168 hp169 hl170 hk171 => ?_)))
  have hX172 := hX149.step hp169 hl170
  have ho173 := ho151.below hl170
  have ho174 := ho159.below hl170
  have ho175 := ho160.below hl170
  have hb176 := ho155.below hl170
  have hb177 := hb158.below hl170
  have ho183 : Own eInt 3 G140 w167 w.heap.size u166 ([putK ns2 bs2 (atL ats ((fs.getD k5 default).r)) (atL ats ((fs.getD k5 default).l))]) := ho168.weaken hX149.size
  refine ⟨fun _ => (Pins.of_le hX172.pins (Pin.le_trans (Pin.le_trans (Pin.le_trans (Pin.le_trans hx85.le hx102.le) hle120) hle131) hx143.le)), ?_⟩
  refine dr_one (i := 20) (by kernel_rfl) (drOp1 (i := 20) rfl rfl rfl (want_none rfl _) (o_append (E := eInt) (v := at_) (u := u166) 8 Tryz.underlying67 ap3 (by decide) rfl rfl hX172.pins ho173 ho183.src (by first | omega | (rw [List.nil_append]; omega) | (rw [List.length_nil]; omega) | (rw [List.length_append]; omega) | (simp; done) | (simp; omega) | (simp only [List.length_append, List.length_cons, List.length_nil]; omega)) (by first | omega | (rw [List.nil_append]; omega) | (rw [List.length_nil]; omega) | (rw [List.length_append]; omega) | (simp; done) | (simp; omega) | (simp only [List.length_append, List.length_cons, List.length_nil]; omega)) (hX172.size) (fun u184 w185 ho186 hp187 hg188 hw189 => ?_)))
  have hX190 := hX172.write hp187 hg188 ((lo_own ho173))
  have ho191 := ho174.keptA hg188 ha152.symm
  have ho192 := ho175.keptA hg188 ha153.symm
  have hb194 := hb176.keptA hg188 ha55.symm
  have hb195 := hb177.keptA hg188 ha56.symm
  have ha196 : Apart u138.ownBlock u184.ownBlock := app_ne_own ha152.symm hw189 ho174.lt
  have ha197 : Apart v139.ownBlock u184.ownBlock := app_ne_own ha153.symm hw189 ho175.lt
  have ha199 : Apart (some b14) u184.ownBlock := app_ne_box ha55.symm hw189 hb176.lt
  have ha200 : Apart (some b22) u184.ownBlock := app_ne_box ha56.symm hw189 hb177.lt
  have hm201 : (ats ++ ([putK ns2 bs2 (atL ats ((fs.getD k5 default).r)) (atL ats ((fs.getD k5 default).l))])).length = ats.length + 1 := List.length_append
  refine ⟨fun _ => (Pins.of_le hX190.pins (Pin.le_trans (Pin.le_trans (Pin.le_trans (Pin.le_trans hx85.le hx102.le) hle120) hle131) hx143.le)), ?_⟩
  refine dr_take (i := 21) rfl rfl rfl (want_none rfl _) (by kernel_rfl) (fun _ _ => r_assign (v := u184) rfl) (Pins.of_le hX190.pins (Pin.le_trans (Pin.le_trans (Pin.le_trans (Pin.le_trans hx85.le hx102.le) hle120) hle131) hx143.le)) ?_
  refine dr_end (by kernel_rfl) ?_
  refine s_blkN ?_
  refine s_then (c_reg ?_)
  refine qd rfl rfl rfl (r_move (v := (.int .i64 (k5 : Int))) rfl) ?_
  refine qd rfl rfl rfl (r_add rfl rfl (by omega)) ?_
  refine qd rfl rfl rfl (r_assign (v := (.int .i64 ((k5 : Int) + 1))) rfl) ?_
  refine qe ?_
  refine s_lopN ?_
  refine ⟨_, ?_, _, rfl, _, k5 + 1, u184, ats ++ ([putK ns2 bs2 (atL ats ((fs.getD k5 default).r)) (atL ats ((fs.getD k5 default).l))]), u138, v139, putN ns2 bs2 (atL ats ((fs.getD k5 default).r)) (atL ats ((fs.getD k5 default).l)), putB ns2 bs2 (atL ats ((fs.getD k5 default).r)) (atL ats ((fs.getD k5 default).l)), G140, (packS (x := 5) (packS (x := 4) (packS (x := 3) (packS (x := 2) (pack1 (x := 1) rfl) rfl) rfl) rfl) rfl), rfl, hX190, (Pin.le_trans (Pin.le_trans (Pin.le_trans (Pin.le_trans (Pin.le_trans hlek44 hx85.le) hx102.le) hle120) hle131) hx143.le), (by omega), hpt.ok, (hnk.snoc hpt.px hokb hpt.ok hpt.pl (hpt.pd.trans (by rw [hor.2, hol.2]; exact neg_den hf.opts (by omega)))), (by have := hpt.len; omega), ho186, ho191, ho192, hb194, hb195, ha196.symm, ha197.symm, ha199.symm, ha200.symm, ha163, ha156.symm, ha161.symm, ha157.symm, ha162.symm, hlo164, hlo165⟩
  omega
 refine wp_exit ?_
 refine s_thenE ?_
 refine s_lopE ?_
 refine s_blkE ?_
 refine s_then (s_seq (c_reg ?_))
 have hkn : k5 = fs.length := by omega
 have hrt := hnk.at_ (i := fs.length - 1) (by omega)
 rw [show fs.length - 1 = ((ats.length : Int) - 1).toNat by omega] at hrt
 have hgo : negG (den fs ((ats.length : Int) - 1).toNat) = negG (gOf fs) := by unfold gOf; rw [show ((ats.length : Int) - 1).toNat = fs.length - 1 by omega]
 rw [hgo] at hrt
 refine qd rfl rfl rfl (r_move (v := (.pointer (some ⟨b22, 0, none⟩))) rfl) ?_
 refine qd rfl rfl rfl (r_move (v := at_) rfl) ?_
 refine qd rfl rfl rfl (r_move (v := at_) rfl) ?_
 refine qd rfl rfl rfl (run_len Tryz.underlying67 (v := at_) rfl hw48.read) ?_
 refine qd rfl rfl rfl (r_sub rfl rfl (by omega)) ?_
 refine qd rfl rfl rfl (run_idx Tryz.underlying67 sz3 (v := at_) rfl rfl hw48.read (by omega) (by omega)) ?_
 refine qd rfl rfl rfl (run_load_int (r := ats.getD ((ats.length : Int) - 1).toNat 0) rfl ag3 (z := ((ats.length : Int) - 1)) rfl hw48.read (Gadd.pins hX47.pins at_) (by omega) (by omega)) ?_
 refine q1 rfl rfl rfl (o_call (vs := [(.pointer (some ⟨b22, 0, none⟩)), (.int .i64 (ats.getD ((ats.length : Int) - 1).toNat 0))]) Tryz.func91 nm91 rfl rfl rfl ?_)
 refine Calls.mono (form_spec hX47.pins ⟨hw52, hw49, hw50, ha59.symm, ha61.symm, ha57⟩ hokb.ar.ok hrt.1) ?_
 rintro _ w204 ⟨u202, G203, rfl, hr205, hx206⟩
 refine ⟨_, rfl, ?_⟩
 have hX207 := hX47.tr hx206
 have hb211 := hw51.ext hx206
 refine q0 rfl rfl rfl (o_stp (cs' := [u202]) (us := [u202]) (v := (.agg [u202].toArray)) sz32 rfl rfl rfl (ones1 hr205.one) hX207.pins hb211 (Nat.le_of_ble_eq_true rfl) rfl (fun w213 hb214 hp215 hg216 hz217 => ?_))
 have hX218 := hX207.write hp215 hg216 ((lo_box hlo21))
 refine qe (s_then ?_)
 refine wp_ret ?_
 refine s_ret ?_
 refine c_retc (cs := [u202]) rfl rfl rfl ag32 sz32 (fun j u hj => by rw [Nat.zero_add]; exact hb214.cell hj) ?_
 exact ⟨_, _, rfl, (by rw [← hrt.2, ← book_form hokb hrt.1]; exact hr205), hX218⟩

noncomputable def ngF (fs : List Nd) : List Nd := if goodB fs = true then formG (negG (gOf fs)) else []
theorem ngF_bad {fs : List Nd} (h : goodB fs = false) : ngF fs = [] := by unfold ngF; rw [h]; rfl
theorem ngF_good {fs : List Nd} (h : goodB fs = true) : ngF fs = formG (negG (gOf fs)) := by unfold ngF; rw [if_pos h]

theorem sNegForm_spec {w : World} {G : Pin} {v : Value} {fs : List Nd} (hP : Pins G w) (hv : RSl eNode G v fs) :
  Calls Tryz.prog 36 [(.agg [v].toArray)].toArray w fun e w' => ∃ (u : Value) (G' : Pin), e = .returned (.tuple #[(.agg [u].toArray), .bool (goodB fs)]) ∧ RSl eNode G' u (ngF fs) ∧ Ext noS G w G' w' := by
 refine s_enter (n := 10) Tryz.func36 Tryz.ntmps36 rfl rfl ?_
 have hX0 : Ext noS G w G w := Ext.refl hP
 refine s_seq (c_reg ?_)
 refine q1 rfl rfl rfl (o_box [v] (v := (.agg [v].toArray)) rfl rfl hX0.pins (fun b1 w2 hk3 hb4 hp5 hl6 => ?_))
 have hX7 := hX0.step hp5 hl6
 have hlo8 : w.heap.size ≤ b1 := by have := hX0.size; omega
 obtain ⟨G9, hle10, hX11, hbp12, hf13⟩ := hb4.shut hX7 hlo8
 refine q1 rfl rfl rfl (o_alloc [(.slice none 0 0)] zr32 rfl hX11.pins (fun b14 w15 hk16 hb17 hp18 hl19 => ?_))
 have hX20 := hX11.step hp18 hl19
 have hlo21 : w.heap.size ≤ b14 := by have := hX11.size; omega
 refine qd rfl rfl rfl (r_assign (v := (.bool false)) rfl) ?_
 refine qe (s_then (s_seq (s_seq (c_reg ?_))))
 refine qd rfl rfl rfl (r_ldpA (cs := [v]) ag32 sz32 rfl (fun j u hj => hX20.pins _ _ _ (hbp12 _ _ (by simpa using hj)))) ?_
 refine q1 rfl rfl rfl (o_call (vs := [(.agg [v].toArray)]) Tryz.func51 nm51 rfl rfl rfl ?_)
 refine Calls.mono (l3Good_spec hX20.pins (hv.mono hle10)) ?_
 rintro _ w23 ⟨G22, rfl, hx24⟩
 refine ⟨_, rfl, ?_⟩
 have hX25 := hX20.tr hx24
 have hb26 := hb17.ext hx24
 refine qd rfl rfl rfl (r_not rfl) ?_
 refine qe (s_then ?_)
 refine c_ifn rfl rfl (fun h27 => ?_) (fun h27 => ?_)
 ·skip
  refine wp_skip ?_
  refine s_then (s_seq (c_reg ?_))
  refine qd rfl rfl rfl (r_ldpA (cs := [v]) ag32 sz32 rfl (fun j u hj => (Pins.of_le hX25.pins hx24.le) _ _ _ (hbp12 _ _ (by simpa using hj)))) ?_
  have hgb : goodB fs = true := (good_eq fs).symm.trans h27
  have hga := good_form (goodB_true.1 hgb)
  have hgl := (goodB_true.1 hgb).lo
  have hgh := (goodB_true.1 hgb).hi
  refine q1 rfl rfl rfl (o_call (vs := [(.agg [v].toArray)]) Tryz.func77 nm77 rfl rfl rfl ?_)
  refine Calls.mono (l5Neg_spec hX25.pins (hv.mono (Pin.le_trans hle10 hx24.le)) hga ⟨by omega, by omega⟩) ?_
  rintro _ w30 ⟨u28, G29, rfl, hr31, hx32⟩
  refine ⟨_, rfl, ?_⟩
  have hX33 := hX25.tr hx32
  have hb34 := hb26.ext hx32
  refine q0 rfl rfl rfl (o_stp (cs' := [u28]) (us := [u28]) (v := (.agg [u28].toArray)) sz32 rfl rfl rfl (ones1 hr31.one) hX33.pins hb34 (Nat.le_of_ble_eq_true rfl) rfl (fun w35 hb36 hp37 hg38 hz39 => ?_))
  have hX40 := hX33.write hp37 hg38 ((lo_box hlo21))
  refine qd rfl rfl rfl (r_assign (v := (.bool true)) rfl) ?_
  refine qe (s_then ?_)
  refine wp_ret ?_
  refine s_ret ?_
  refine c_retct (cs := [u28]) (v := (.bool true)) rfl rfl rfl rfl rfl ag32 sz32 (fun j u hj => by rw [Nat.zero_add]; exact hb36.cell hj) ?_
  rw [hgb, ngF_good hgb]
  exact ⟨_, _, rfl, hr31, hX40⟩
 refine s_seq (c_reg ?_)
 refine qd rfl rfl rfl (r_build [(.slice none 0 0)] [(.slice none 0 0)] [] Tryz.underlying32 zr32 rfl pl32 rfl (fun _ h => by cases h) rfl) ?_
 refine q0 rfl rfl rfl (o_stp (cs' := [(.slice none 0 0)]) (us := [(.slice none 0 0)]) (v := (.agg [(.slice none 0 0)].toArray)) sz32 rfl rfl rfl (ones1 (by rfl)) hX25.pins hb26 (Nat.le_of_ble_eq_true rfl) rfl (fun w41 hb42 hp43 hg44 hz45 => ?_))
 have hX46 := hX25.write hp43 hg44 ((lo_box hlo21))
 refine qd rfl rfl rfl (r_assign (v := (.bool false)) rfl) ?_
 refine qe (s_then ?_)
 refine wp_ret ?_
 refine s_ret ?_
 refine c_retct (cs := [(.slice none 0 0)]) (v := (.bool false)) rfl rfl rfl rfl rfl ag32 sz32 (fun j u hj => by rw [Nat.zero_add]; exact hb42.cell hj) ?_
 have hgb : goodB fs = false := (good_eq fs).symm.trans h27
 rw [hgb, ngF_bad hgb]
 exact ⟨_, _, rfl, (nil_reads _ _), hX46⟩

theorem iNegForm_dspec {w : World} {G : Pin} {v : Value} {fs : List Nd} (hP : Pins G w) (hv : RSl eNode G v fs) :
  Calls Tryz.prog 37 [(.agg [v].toArray)].toArray w fun e w' => ∃ (u : Value) (G' : Pin), e = .returned (.tuple #[(.agg [u].toArray), .bool (goodB fs)]) ∧ DForm 103 3 G' w' w.heap.size w'.heap.size u (ngF fs) ∧ Ext noS G w G' w' := by
 refine s_enter (n := 19) Tryz.func37 Tryz.ntmps37 rfl rfl ?_
 have hX0 : Ext noS G w G w := Ext.refl hP
 refine s_seq (c_reg ?_)
 refine q1 rfl rfl rfl (o_box [v] (v := (.agg [v].toArray)) rfl rfl hX0.pins (fun b1 w2 hk3 hb4 hp5 hl6 => ?_))
 have hX7 := hX0.step hp5 hl6
 have hlo8 : w.heap.size ≤ b1 := by have := hX0.size; omega
 obtain ⟨G9, hle10, hX11, hbp12, hf13⟩ := hb4.shut hX7 hlo8
 refine q1 rfl rfl rfl (o_alloc [(.slice none 0 0)] zr32 rfl hX11.pins (fun b14 w15 hk16 hb17 hp18 hl19 => ?_))
 have hX20 := hX11.step hp18 hl19
 have hlo21 : w.heap.size ≤ b14 := by have := hX11.size; omega
 refine qd rfl rfl rfl (r_assign (v := (.bool false)) rfl) ?_
 refine qe (s_then (s_seq (s_seq (c_reg ?_))))
 refine qd rfl rfl rfl (r_ldpA (cs := [v]) ag32 sz32 rfl (fun j u hj => hX20.pins _ _ _ (hbp12 _ _ (by simpa using hj)))) ?_
 refine q1 rfl rfl rfl (o_call (vs := [(.agg [v].toArray)]) Tryz.func54 nm54 rfl rfl rfl ?_)
 refine Calls.mono (goodForm_spec hX20.pins (hv.mono hle10)) ?_
 rintro _ w23 ⟨G22, rfl, hx24⟩
 refine ⟨_, rfl, ?_⟩
 have hX25 := hX20.tr hx24
 have hb26 := hb17.ext hx24
 refine qd rfl rfl rfl (r_not rfl) ?_
 refine qe (s_then ?_)
 refine c_ifn rfl rfl (fun h27 => ?_) (fun h27 => ?_)
 ·skip
  refine wp_skip ?_
  refine s_then (s_seq (c_reg ?_))
  have hgb : goodB fs = true := h27
  have hga : GoodP fs := goodB_true.1 hgb
  have hla := hga.lo
  have hha := hga.hi
  have hlb := last_bounds hga
  refine q1 rfl rfl rfl (o_call (vs := []) Tryz.func55 nm55 rfl rfl rfl ?_)
  refine Calls.mono (newPool_spec hX25.pins) ?_
  rintro _ w31 ⟨p28, mm29, G30, rfl, hpk32, hfr33, hx34⟩
  refine ⟨_, rfl, ?_⟩
  have hX38 := hX25.tr hx34
  have hb39 := hb26.ext hx34
  have hnp40 := np_fresh hfr33 (x := (some b14)) (box_lt hb26)
  have hpin41 : PIn w (noS) p28 (.slice none 0 0) (.slice none 0 0) (.slice none 0 0) mm29 := PIn.fresh hfr33 hX25.size
  obtain ⟨q35, hq36⟩ : ∃ q, q = (⟨[], [], [], [], [], [], []⟩ : PSt) := ⟨_, rfl⟩
  rw [← hq36] at hpk32
  have hok37 : PoolOk q35 := by rw [hq36]; exact PoolOk.empty
  have hq36l : q35.ns.length = 0 := by rw [hq36]; rfl
  obtain ⟨L42, R43, B44, eL42, eR43, eB44⟩ : ∃ (l r b : Value), l = .slice none 0 0 ∧ r = .slice none 0 0 ∧ b = .slice none 0 0 := ⟨_, _, _, rfl, rfl, rfl⟩
  have hpk322 : Pk 67 3 G30 w31 p28 L42 R43 B44 mm29 q35 := by rw [eL42, eR43, eB44]; exact hpk32
  have hpin412 : PIn w (noS) p28 L42 R43 B44 mm29 := by rw [eL42, eR43, eB44]; exact hpin41
  have hml45 : (q35.ns.map Nd.l).length = q35.ns.length ∧ (q35.ns.map Nd.r).length = q35.ns.length := ⟨List.length_map .., List.length_map ..⟩
  have hml46 : q35.bs.length = q35.ns.length ∧ q35.ns.length ≤ 1048576 := ⟨hok37.ar.ok.len, hok37.ar.ok.lim⟩
  have hnp40x : NP p28 L42 R43 B44 mm29 (some b14) := by rw [eL42, eR43, eB44]; exact hnp40
  refine qd rfl rfl rfl (r_assign (v := (.pointer (some ⟨p28, 0, none⟩))) rfl) ?_
  refine qe (s_then (s_seq (c_reg ?_)))
  refine qd rfl rfl rfl (r_move (v := (.pointer (some ⟨p28, 0, none⟩))) rfl) ?_
  refine qd rfl rfl rfl (r_move (v := (.pointer (some ⟨p28, 0, none⟩))) rfl) ?_
  refine qd rfl rfl rfl (r_move (v := (.pointer (some ⟨p28, 0, none⟩))) rfl) ?_
  refine qd rfl rfl rfl (r_ldpA (cs := [v]) ag32 sz32 rfl (fun j u hj => (Pins.of_le hX38.pins (Pin.le_trans hx24.le hx34.le)) _ _ _ (hbp12 _ _ (by simpa using hj)))) ?_
  refine q1 rfl rfl rfl (o_call (vs := [(.pointer (some ⟨p28, 0, none⟩)), (.agg [v].toArray)]) Tryz.func57 nm57 rfl rfl rfl ?_)
  refine Calls.mono (root_spec hX38.pins hpk322 hok37 (hv.mono (Pin.le_trans (Pin.le_trans hle10 hx24.le) hx34.le)) (good_form hga) (by omega) hla) ?_
  rintro _ w56 ⟨z47, L51, R52, B53, q54, G55, rfl, hpk57, hok58, hpx59, hlo60, hx61, hpl48, hpd49, hqn50⟩
  refine ⟨_, rfl, ?_⟩
  have hX62 := hX38.trans hx61 hpin412
  have hb63 := hb39.extS hx61 (NP.notb hnp40x)
  have hnp64 := NP.call hnp40x hlo60 (box_lt hb39)
  have hpin65 := PIn.call hpin412 hlo60 hX38.size
  have hql66 := hpx59.len
  have hml67 : (q54.ns.map Nd.l).length = q54.ns.length ∧ (q54.ns.map Nd.r).length = q54.ns.length := ⟨List.length_map .., List.length_map ..⟩
  have hml68 : q54.bs.length = q54.ns.length ∧ q54.ns.length ≤ 1048576 := ⟨hok58.ar.ok.len, hok58.ar.ok.lim⟩
  have hpz := hpd49
  refine q1 rfl rfl rfl (o_call (vs := [(.pointer (some ⟨p28, 0, none⟩)), (.int .i64 z47)]) Tryz.func78 nm78 rfl rfl rfl ?_)
  refine Calls.mono (neg_spec hX62.pins hpk57 hok58 hpl48 (qz := q54) (S := (subL fs).map negG) (Bud.start (by rw [List.length_map, subL_len]; omega)) (fun x hx => List.mem_map.2 ⟨x, subL_mem (good_sg hga) (by rw [hpz] at hx; exact hx), rfl⟩)) ?_
  rintro _ w78 ⟨z69, L73, R74, B75, q76, G77, rfl, hpk79, hok80, hpx81, hlo82, hx83, hpl70, hpd71, hbu72⟩
  refine ⟨_, rfl, ?_⟩
  have hX84 := hX62.trans hx83 hpin65
  have hb85 := hb63.extS hx83 (NP.notb hnp64)
  have hpin87 := PIn.call hpin65 hlo82 hX62.size
  have hql88 := hpx81.len
  have hml89 : (q76.ns.map Nd.l).length = q76.ns.length ∧ (q76.ns.map Nd.r).length = q76.ns.length := ⟨List.length_map .., List.length_map ..⟩
  have hml90 : q76.bs.length = q76.ns.length ∧ q76.ns.length ≤ 1048576 := ⟨hok80.ar.ok.len, hok80.ar.ok.lim⟩
  refine q1 rfl rfl rfl (o_call (vs := [(.pointer (some ⟨p28, 0, none⟩)), (.int .i64 z69)]) Tryz.func67 nm67 rfl rfl rfl ?_)
  refine Calls.mono (form_spec hX84.pins hpk79 hok80 hpl70) ?_
  rintro _ w93 ⟨u91, G92, rfl, hd94, hx95⟩
  refine ⟨_, rfl, ?_⟩
  have hX96 := hX84.tr hx95
  have hb97 := hb85.ext hx95
  have hone99 := hd94.one
  refine qd rfl rfl rfl (r_extract (v := (.agg [u91].toArray)) rfl rfl) ?_
  refine qd rfl rfl rfl (r_extract (v := (.bool (fitB (pd q76 z69)))) rfl rfl) ?_
  refine q0 rfl rfl rfl (o_stp (cs' := [u91]) (us := [u91]) (v := (.agg [u91].toArray)) sz32 rfl rfl rfl (ones1 hone99) hX96.pins hb97 (Nat.le_of_ble_eq_true rfl) rfl (fun w100 hb101 hp102 hg103 hz104 => ?_))
  have hX105 := hX96.write hp102 hg103 ((lo_box hlo21))
  have hd106 := hd94.kept hg103 (Or.inr hb85.lt)
  have hs107 := Nat.le_trans (Nat.le_refl w93.heap.size) hg103.size
  refine qd rfl rfl rfl (r_assign (v := (.bool (fitB (pd q76 z69)))) rfl) ?_
  refine qe (s_then ?_)
  refine wp_ret ?_
  refine s_ret ?_
  refine c_retct (cs := [u91]) (v := (.bool (fitB (pd q76 z69)))) rfl rfl rfl rfl rfl ag32 sz32 (fun j u hj => by rw [Nat.zero_add]; exact hb101.cell hj) ?_
  have hgz : pd q76 z69 = negG (gOf fs) := hpd71.trans (by rw [hpz])
  have hif := form_is hok80 hpl70
  rw [hgz] at hif
  have hft := neg_fits hga hif
  rw [hgb, ngF_good hgb, ← frm_yes hif hft, ← hgz]
  exact ⟨_, _, congrArg (fun z => Ending.returned (Value.tuple #[(.agg [u91].toArray), Value.bool z])) (by rw [hgz]; exact hft), (hd106.wide hX84.size hs107), hX105⟩
 refine s_seq (c_reg ?_)
 refine qd rfl rfl rfl (r_build [(.slice none 0 0)] [(.slice none 0 0)] [] Tryz.underlying32 zr32 rfl pl32 rfl (fun _ h => by cases h) rfl) ?_
 refine q0 rfl rfl rfl (o_stp (cs' := [(.slice none 0 0)]) (us := [(.slice none 0 0)]) (v := (.agg [(.slice none 0 0)].toArray)) sz32 rfl rfl rfl (ones1 (by rfl)) hX25.pins hb26 (Nat.le_of_ble_eq_true rfl) rfl (fun w109 hb110 hp111 hg112 hz113 => ?_))
 have hX114 := hX25.write hp111 hg112 ((lo_box hlo21))
 refine qd rfl rfl rfl (r_assign (v := (.bool false)) rfl) ?_
 refine qe (s_then ?_)
 refine wp_ret ?_
 refine s_ret ?_
 refine c_retct (cs := [(.slice none 0 0)]) (v := (.bool false)) rfl rfl rfl rfl rfl ag32 sz32 (fun j u hj => by rw [Nat.zero_add]; exact hb110.cell hj) ?_
 have hgb : goodB fs = false := h27
 rw [hgb, ngF_bad hgb]
 exact ⟨_, _, rfl, DForm.nil, hX114⟩

end NF1
end Go.Proofs.YtpknebplcmgnkaaGreatDoor

set_option maxRecDepth 20000
set_option maxHeartbeats 2000000
namespace Go.Proofs.YtpknebplcmgnkaaGreatDoor
namespace LN1
open Go.RowKit Go.GL Go.Proofs
open Go.Proofs.YtpknebplcmgnkaaGreatDoor.B1
open Go.Proofs.YtpknebplcmgnkaaGreatDoor.C1
open Go.Proofs.YtpknebplcmgnkaaGreatDoor.D1
open Go.Proofs.YtpknebplcmgnkaaGreatDoor.E1
open Go.Proofs.YtpknebplcmgnkaaGreatDoor.G1
open Go.Proofs.YtpknebplcmgnkaaGreatDoor.L1
open Go.Proofs.YtpknebplcmgnkaaGreatDoor.NF1
theorem ag22 : (Tryz.prog.underlying 22).map aggD = some false := by kernel_rfl
theorem ag24 : (Tryz.prog.underlying 24).map aggD = some true := by kernel_rfl
theorem ag30 : (Tryz.prog.underlying 30).map aggD = some false := by kernel_rfl
theorem ag32 : (Tryz.prog.underlying 32).map aggD = some true := by kernel_rfl
theorem ag67 : (Tryz.prog.underlying 67).map aggD = some false := by kernel_rfl
theorem nm111 : (Tryz.f111.name == "runtime.NumGoroutine") = false := by kernel_rfl
theorem nm112 : (Tryz.f112.name == "runtime.NumGoroutine") = false := by kernel_rfl
theorem nm15 : (Tryz.f15.name == "runtime.NumGoroutine") = false := by kernel_rfl
theorem nm17 : (Tryz.f17.name == "runtime.NumGoroutine") = false := by kernel_rfl
theorem nm20 : (Tryz.f20.name == "runtime.NumGoroutine") = false := by kernel_rfl
theorem nm25 : (Tryz.f25.name == "runtime.NumGoroutine") = false := by kernel_rfl
theorem nm26 : (Tryz.f26.name == "runtime.NumGoroutine") = false := by kernel_rfl
theorem nm36 : (Tryz.f36.name == "runtime.NumGoroutine") = false := by kernel_rfl
theorem nm37 : (Tryz.f37.name == "runtime.NumGoroutine") = false := by kernel_rfl
theorem nm50 : (Tryz.f50.name == "runtime.NumGoroutine") = false := by kernel_rfl
theorem nm68 : (Tryz.f68.name == "runtime.NumGoroutine") = false := by kernel_rfl
theorem nm69 : (Tryz.f69.name == "runtime.NumGoroutine") = false := by kernel_rfl
theorem nz22 : (Tryz.prog.info? 22).map (·.size == 0) = some false := by kernel_rfl
theorem nz30 : (Tryz.prog.info? 30).map (·.size == 0) = some false := by kernel_rfl
theorem nz67 : (Tryz.prog.info? 67).map (·.size == 0) = some false := by kernel_rfl
theorem sz103 : (Tryz.prog.info? 103).map (·.size) = some 2 := by kernel_rfl
theorem sz24 : (Tryz.prog.info? 24).map (·.size) = some 1 := by kernel_rfl
theorem sz32 : (Tryz.prog.info? 32).map (·.size) = some 1 := by kernel_rfl
theorem zr32 : (Tryz.prog.info? 32).bind (·.zero) = some (.agg #[(.slice none 0 0)]) := by kernel_rfl

theorem szFormT_spec {w : World} {G : Pin} {v : Value} {ns : List Nd} {left : Int} (hP : Pins G w) (hv : RSl eNode G v ns) (hl : 0 ≤ left ∧ left ≤ 1048576) :
  Calls Tryz.prog 15 [(.agg [v].toArray), (.int .i64 left)].toArray w fun e w' => ∃ z G', e = .returned (.int .i64 z) ∧ (z < 0 ∨ 0 ≤ z ∧ z + totN ns ≤ left ∧ Small ns) ∧ Ext noS G w G' w' := by
 refine s_enter (n := 12) Tryz.func15 Tryz.ntmps15 rfl rfl ?_
 have hX0 : Ext noS G w G w := Ext.refl hP
 refine s_seq (c_reg ?_)
 refine q1 rfl rfl rfl (o_box [v] (v := (.agg [v].toArray)) rfl rfl hX0.pins (fun b1 w2 hk3 hb4 hp5 hl6 => ?_))
 have hX7 := hX0.step hp5 hl6
 have hlo8 : w.heap.size ≤ b1 := by have := hX0.size; omega
 obtain ⟨G9, hle10, hX11, hbp12, hf13⟩ := hb4.shut hX7 hlo8
 refine qd rfl rfl rfl (r_assign (v := (.int .i64 0)) rfl) ?_
 refine qe (s_then (s_seq (c_reg ?_)))
 refine qd rfl rfl rfl (r_fldp (k := 0) rfl Tryz.underlying24 rfl nz22 rfl) ?_
 refine qd rfl rfl rfl (r_ldp1 (u := v) ag22 rfl (hX11.pins _ _ _ (hbp12 0 _ rfl))) ?_
 refine qd rfl rfl rfl (r_move (v := (.int .i64 left)) rfl) ?_
 refine q1 rfl rfl rfl (o_call (vs := [v, (.int .i64 left)]) Tryz.func50 nm50 rfl rfl rfl ?_)
 refine Calls.mono (szNodeS_spec hX11.pins (hv.mono hle10) (by omega)) ?_
 rintro _ w15 ⟨G14, rfl, hx16⟩
 refine ⟨_, rfl, ?_⟩
 have hX17 := hX11.tr hx16
 refine qd rfl rfl rfl (r_assign (v := (.int .i64 (szNds ns left))) rfl) ?_
 refine qe (s_then (s_seq (s_seq (c_reg ?_))))
 refine qd rfl rfl rfl (r_move (v := (.int .i64 (szNds ns left))) rfl) ?_
 refine qd rfl rfl rfl (r_lss rfl rfl) ?_
 refine qe (s_then ?_)
 refine c_ifd (p := (szNds ns left : Int) < 0) rfl rfl (fun h18 => ?_) (fun h18 => ?_)
 ·skip
  refine s_seq (c_reg ?_)
  refine qd rfl rfl rfl (r_assign (v := (.int .i64 (-1))) rfl) ?_
  refine qe (s_then ?_)
  refine wp_ret ?_
  refine s_ret ?_
  refine c_ret1 (v := (.int .i64 (-1))) rfl rfl rfl ?_
  exact ⟨_, _, rfl, Or.inl (by omega), hX17⟩
 refine wp_skip ?_
 refine s_then (s_seq (c_reg ?_))
 refine qd rfl rfl rfl (r_move (v := (.int .i64 (szNds ns left))) rfl) ?_
 refine qd rfl rfl rfl (r_assign (v := (.int .i64 (szNds ns left))) rfl) ?_
 refine qe (s_then ?_)
 refine wp_ret ?_
 refine s_ret ?_
 refine c_ret1 (v := (.int .i64 (szNds ns left))) rfl rfl rfl ?_
 have hzl := szNds_le h18
 have hzt := szNds_tot h18
 exact ⟨_, _, rfl, Or.inr ⟨by omega, by omega, small_le h18 hl.2⟩, hX17⟩

theorem markNodeX_spec {w : World} {G : Pin} {v : Value} {ps : List (Value × Value)} {ns : List Nd} {kz : Int} {lo hi : Nat} (hP : Pins G w) (ho : Own eVal2 103 G w 0 v ps) (hpl : ps.length = ns.length) (hav : ∀ u ∈ leafV ps, Apart u.ownBlock v.ownBlock) (hF : Lvs 3 G w lo hi (lvN ps ns)) (hsm : Small ns) (hk : 0 ≤ kz ∧ kz ≤ 1099511627776) :
  Calls Tryz.prog 68 [v, (.int .i64 kz)].toArray w fun e w' => e = .returned (.int .i64 (kz + totN ns)) ∧ Lvs 3 G w' lo hi (lvN ps (markN kz ns)) ∧ Ext (inV (leafV ps)) G w G w' := by
 refine s_enter (n := 27) Tryz.func68 Tryz.ntmps68 rfl rfl ?_
 have hX0 : Ext (inV (leafV ps)) G w G w := Ext.refl hP
 have hln := hsm.len
 refine s_seq (c_reg ?_)
 refine qd rfl rfl rfl (r_assign (v := (.int .i64 0)) rfl) ?_
 refine qe (s_then (s_seq (s_seq (c_reg ?_))))
 refine qd rfl rfl rfl (r_assign (v := (.int .i64 0)) rfl) ?_
 refine qe (s_then ?_)
 refine s_blk ?_
 refine s_loop (fun (k : Nat) (en : Nat → Value) (W : World) => ∃ (env1 : Nat → Value) (j : Nat) (q : Int) (A : List Leaf), en = (upd (upd (upd (upd env1 0 v) 1 (.int .i64 q)) 4 (.int .i64 0)) 5 (.int .i64 (j : Int))) ∧ k = ps.length - j ∧ Ext (inV (leafV ps)) G w G W ∧ (j ≤ ps.length) ∧ (0 ≤ q ∧ q ≤ kz + 2097152 * (j : Int)) ∧ (kz + totN ns = q + totN (ns.drop j)) ∧ (lvN ps (markN kz ns) = A ++ lvN (ps.drop j) (markN q (ns.drop j))) ∧ (Lvs 3 G W lo hi (A ++ lvN (ps.drop j) (ns.drop j))) ∧ (Own eVal2 103 G W 0 v (ps))) _ ⟨_, 0, kz, [], (packS (x := 5) (packS (x := 4) (packS (x := 1) (pack1 (x := 0) rfl) rfl) rfl) rfl), rfl, hX0, Nat.zero_le _, (by omega), rfl, rfl, hF, ho⟩ ?_
 rintro k1 _ w2 ⟨env1, j, q, A, rfl, hk3, hX4, hj, hq, hqt, hA, hF1, hw5⟩
 refine s_seq (s_seq (c_reg ?_))
 refine qd rfl rfl rfl (r_move (v := (.int .i64 (j : Int))) rfl) ?_
 refine qd rfl rfl rfl (r_move (v := v) rfl) ?_
 refine qd rfl rfl rfl (run_len Tryz.underlying30 (v := v) rfl hw5.read) ?_
 refine qd rfl rfl rfl (r_lss rfl rfl) ?_
 refine qe (s_then ?_)
 refine c_ifd (p := ((j : Int) : Int) < (ps.length : Int)) rfl rfl (fun h6 => ?_) (fun h6 => ?_)
 ·skip
  have hso := hsm.opts j (by omega)
  refine wp_skip ?_
  refine s_then (s_seq ?_)
  refine s_blk ?_
  refine s_seq (c_reg ?_)
  refine qd rfl rfl rfl (r_move (v := v) rfl) ?_
  refine qd rfl rfl rfl (r_move (v := (.int .i64 (j : Int))) rfl) ?_
  refine qd rfl rfl rfl (run_idx Tryz.underlying30 sz103 (v := v) rfl rfl hw5.read (by omega) (by omega)) ?_
  refine qd rfl rfl rfl (run_fld (off := 0) Tryz.underlying103 rfl rfl nz67 (z := (j : Int)) (k := 0) rfl hw5.read (by omega) (by omega)) ?_
  obtain ⟨cs7, hrep8, hagg9, hcell10⟩ := nm_el (j := j) default (hw5.at (z := (j : Int)) (by omega) (by omega)) rfl
  obtain ⟨rfl, hone13⟩ := hrep8
  obtain ⟨u11, hu12⟩ : ∃ u, u = (ps.getD j default).1 := ⟨_, rfl⟩
  refine qd rfl rfl rfl (hcell10 0 u11 (by rw [hu12]; rfl) ag67 rfl (Gadd.pins hX4.pins v)) ?_
  refine qd rfl rfl rfl (r_move (v := (.int .i64 q)) rfl) ?_
  have hmem17 : u11 ∈ leafV ps := by rw [hu12]; exact (leafV_mem (by omega)).1
  have hL18 : Lvs 3 G w2 lo hi (A ++ (u11, (ns.getD j default).l) :: (((ps.getD j default).2, (ns.getD j default).r) :: lvN (ps.drop (j + 1)) (ns.drop (j + 1)))) := by rw [hu12, ← lvN_next (by omega) (by omega)]; exact hF1
  refine q1 rfl rfl rfl (o_call (vs := [u11, (.int .i64 q)]) Tryz.func111 nm111 rfl rfl rfl ?_)
  refine Calls.mono (markIntS_spec hX4.pins ((hL18.own _ (List.mem_append_right _ List.mem_cons_self)).weaken (Nat.zero_le _)) (by omega) (hso.1)) ?_
  rintro _ w14 ⟨rfl, ho15, hx16⟩
  refine ⟨_, rfl, ?_⟩
  have hg20 := mark_grown hx16
  have hX21 := hX4.write hx16.pins hg20 (fun k hk => Or.inr ⟨_, hmem17, hk⟩)
  have ho22 := hw5.keptA hg20 (hav _ hmem17).symm
  have hL19 := Lvs.step hL18 (ho15.up (fun k hk => ((hL18.own _ (List.mem_append_right _ List.mem_cons_self)).lt k hk).1)) hg20
  refine qd rfl rfl rfl (r_assign (v := (.int .i64 (q + ((ns.getD j default).l.length : Int)))) rfl) ?_
  refine qe (s_then (c_reg ?_))
  refine qd rfl rfl rfl (r_move (v := v) rfl) ?_
  refine qd rfl rfl rfl (r_move (v := (.int .i64 (j : Int))) rfl) ?_
  refine qd rfl rfl rfl (run_idx Tryz.underlying30 sz103 (v := v) rfl rfl ho22.read (by omega) (by omega)) ?_
  refine qd rfl rfl rfl (run_fld (off := 1) Tryz.underlying103 rfl rfl nz67 (z := (j : Int)) (k := 0) rfl ho22.read (by omega) (by omega)) ?_
  obtain ⟨cs23, hrep24, hagg25, hcell26⟩ := nm_el (j := j) default (ho22.at (z := (j : Int)) (by omega) (by omega)) rfl
  obtain ⟨rfl, hone29⟩ := hrep24
  obtain ⟨u27, hu28⟩ : ∃ u, u = (ps.getD j default).2 := ⟨_, rfl⟩
  refine qd rfl rfl rfl (hcell26 1 u27 (by rw [hu28]; rfl) ag67 rfl (Gadd.pins hX21.pins v)) ?_
  refine qd rfl rfl rfl (r_move (v := (.int .i64 (q + ((ns.getD j default).l.length : Int)))) rfl) ?_
  have hmem33 : u27 ∈ leafV ps := by rw [hu28]; exact (leafV_mem (by omega)).2
  have hL34 : Lvs 3 G w14 lo hi ((A ++ [(u11, upL (q) (ns.getD j default).l.length)]) ++ (u27, (ns.getD j default).r) :: lvN (ps.drop (j + 1)) (ns.drop (j + 1))) := by rw [hu28, List.append_assoc]; exact hL19
  refine q1 rfl rfl rfl (o_call (vs := [u27, (.int .i64 (q + ((ns.getD j default).l.length : Int)))]) Tryz.func111 nm111 rfl rfl rfl ?_)
  refine Calls.mono (markIntS_spec hX21.pins ((hL34.own _ (List.mem_append_right _ List.mem_cons_self)).weaken (Nat.zero_le _)) (by omega) (hso.2)) ?_
  rintro _ w30 ⟨rfl, ho31, hx32⟩
  refine ⟨_, rfl, ?_⟩
  have hg36 := mark_grown hx32
  have hX37 := hX21.write hx32.pins hg36 (fun k hk => Or.inr ⟨_, hmem33, hk⟩)
  have ho38 := ho22.keptA hg36 (hav _ hmem33).symm
  have hL35 := Lvs.step hL34 (ho31.up (fun k hk => ((hL34.own _ (List.mem_append_right _ List.mem_cons_self)).lt k hk).1)) hg36
  refine qd rfl rfl rfl (r_assign (v := (.int .i64 ((q + ((ns.getD j default).l.length : Int)) + ((ns.getD j default).r.length : Int)))) rfl) ?_
  refine qe ?_
  refine s_blkN ?_
  refine s_then (c_reg ?_)
  refine qd rfl rfl rfl (r_move (v := (.int .i64 (j : Int))) rfl) ?_
  refine qd rfl rfl rfl (r_add rfl rfl (by omega)) ?_
  refine qd rfl rfl rfl (r_assign (v := (.int .i64 ((j : Int) + 1))) rfl) ?_
  refine qe ?_
  refine s_lopN ?_
  refine ⟨_, ?_, _, rfl, _, j + 1, (q + ((ns.getD j default).l.length : Int)) + ((ns.getD j default).r.length : Int), A ++ [(u11, upL (q) (ns.getD j default).l.length)] ++ [(u27, upL (q + ((ns.getD j default).l.length : Int)) (ns.getD j default).r.length)], (packS (x := 5) (packS (x := 4) (packS (x := 1) (pack1 (x := 0) rfl) rfl) rfl) rfl), rfl, hX37, (by omega), (by omega), (hqt.trans (by rw [totN_next (by omega)]; omega)), (hA.trans (by rw [lvN_markN (by omega) (by omega), List.append_assoc, List.append_assoc, ← hu12, ← hu28]; rfl)), (by rw [List.append_assoc]; exact hL35), ho38⟩
  omega
 refine wp_exit ?_
 refine s_thenE ?_
 refine s_lopE ?_
 refine s_blkE ?_
 refine s_then (s_seq (c_reg ?_))
 refine qd rfl rfl rfl (r_move (v := (.int .i64 q)) rfl) ?_
 refine qd rfl rfl rfl (r_assign (v := (.int .i64 q)) rfl) ?_
 refine qe (s_then ?_)
 refine wp_ret ?_
 refine s_ret ?_
 refine c_ret1 (v := (.int .i64 q)) rfl rfl rfl ?_
 rw [lvN_end (by omega), List.append_nil] at hA
 rw [lvN_end (by omega), List.append_nil] at hF1
 exact ⟨congrArg (fun z => Ending.returned (Value.int .i64 z)) (by rw [hqt, totN_end (by omega)]; omega), (by rw [hA]; exact hF1), hX4⟩

theorem markFormX_spec {w : World} {G : Pin} {v : Value} {ns : List Nd} {kz : Int} {lo hi : Nat} (hP : Pins G w) (hd : DForm 103 3 G w lo hi v ns) (hsz : hi ≤ w.heap.size) (hsm : Small ns) (hk : 0 ≤ kz ∧ kz ≤ 1099511627776) :
  Calls Tryz.prog 25 [(.agg [v].toArray), (.int .i64 kz)].toArray w fun e w' => e = .returned (.int .i64 (kz + totN ns)) ∧ DForm 103 3 G w' lo hi v (markN kz ns) ∧ Ext (inR lo hi) G w G w' := by
 refine s_enter (n := 10) Tryz.func25 Tryz.ntmps25 rfl rfl ?_
 have hX0 : Ext (inR lo hi) G w G w := Ext.refl hP
 refine s_seq (c_reg ?_)
 refine q1 rfl rfl rfl (o_box [v] (v := (.agg [v].toArray)) rfl rfl hX0.pins (fun b1 w2 hk3 hb4 hp5 hl6 => ?_))
 have hX7 := hX0.step hp5 hl6
 have hd8 := hd.below hl6
 have hs9 := Nat.le_trans hsz hl6.size
 have ha10 : hi ≤ b1 ∨ b1 < lo := Or.inl (by have e := Option.some.inj (congrArg some hk3); have := hsz; omega)
 have hlo11 : w.heap.size ≤ b1 := by have := hX0.size; omega
 obtain ⟨G12, hle13, hX14, hbp15, hf16⟩ := hb4.shut hX7 hlo11
 have hd17 := hd8.more hle13 hf16 ha10
 refine qd rfl rfl rfl (r_assign (v := (.int .i64 0)) rfl) ?_
 refine qe (s_then (s_seq (c_reg ?_)))
 refine qd rfl rfl rfl (r_fldp (k := 0) rfl Tryz.underlying32 rfl nz30 rfl) ?_
 refine qd rfl rfl rfl (r_ldp1 (u := v) ag30 rfl (hX14.pins _ _ _ (hbp15 0 _ rfl))) ?_
 refine qd rfl rfl rfl (r_move (v := (.int .i64 kz)) rfl) ?_
 obtain ⟨ps18, ho19, hpl20, hav21, hL22, hin23, hst24⟩ := hd17.mark
 refine q1 rfl rfl rfl (o_call (vs := [v, (.int .i64 kz)]) Tryz.func68 nm68 rfl rfl rfl ?_)
 refine Calls.mono (markNodeX_spec hX14.pins ho19 hpl20 hav21 hL22 hsm hk) ?_
 rintro _ w25 ⟨rfl, hL26, hx27⟩
 refine ⟨_, rfl, ?_⟩
 have hX28 := hX14.trans hx27 (fun i hi => Or.inr (hin23 i hi))
 have hd29 := hst24 (markN_length _ _) hL26 hx27
 refine qd rfl rfl rfl (r_assign (v := (.int .i64 (kz + totN ns))) rfl) ?_
 refine qe (s_then (s_seq (c_reg ?_)))
 refine qd rfl rfl rfl (r_move (v := (.int .i64 (kz + totN ns))) rfl) ?_
 refine qd rfl rfl rfl (r_assign (v := (.int .i64 (kz + totN ns))) rfl) ?_
 refine qe (s_then ?_)
 refine wp_ret ?_
 refine s_ret ?_
 refine c_ret1 (v := (.int .i64 (kz + totN ns))) rfl rfl rfl ?_
 exact ⟨rfl, hd29.anti hle13, hX28.shrink⟩

theorem heldNodeS_spec {w : World} {G : Pin} {v : Value} {ns : List Nd} {kz : Int} (hP : Pins G w) (hv : RSl eNode G v (markN kz ns)) (hsm : Small ns) (hk : 0 ≤ kz ∧ kz ≤ 1099511627776) :
  Calls Tryz.prog 69 [v, (.int .i64 kz)].toArray w fun e w' => e = .returned (.int .i64 (kz + totN ns)) ∧ w' = w := by
 refine s_enter (n := 31) Tryz.func69 Tryz.ntmps69 rfl rfl ?_
 have hX0 : Ext noS G w G w := Ext.refl hP
 have hul := markN_length kz ns
 have hln := hsm.len
 refine s_seq (c_reg ?_)
 refine qd rfl rfl rfl (r_assign (v := (.int .i64 0)) rfl) ?_
 refine qe (s_then (s_seq (s_seq (c_reg ?_))))
 refine qd rfl rfl rfl (r_assign (v := (.int .i64 0)) rfl) ?_
 refine qe (s_then ?_)
 refine s_blk ?_
 refine s_loop (fun (k : Nat) (en : Nat → Value) (W : World) => ∃ (env1 : Nat → Value) (j : Nat) (q : Int), en = (upd (upd (upd env1 0 v) 1 (.int .i64 q)) 5 (.int .i64 (j : Int))) ∧ k = ns.length - j ∧ Ext noS G w G W ∧ (j ≤ ns.length) ∧ (W = w) ∧ (0 ≤ q ∧ q ≤ kz + 2097152 * (j : Int)) ∧ (kz + totN ns = q + totN (ns.drop j)) ∧ (markN kz ns).drop j = markN q (ns.drop j)) _ ⟨_, 0, kz, (packS (x := 5) (packS (x := 1) (pack1 (x := 0) rfl) rfl) rfl), rfl, hX0, Nat.zero_le _, rfl, (by omega), rfl, rfl⟩ ?_
 rintro k1 _ w2 ⟨env1, j, q, rfl, hk3, hX4, hj, hw, hq, hqt, hA⟩
 subst hw
 refine s_seq (s_seq (c_reg ?_))
 refine qd rfl rfl rfl (r_move (v := (.int .i64 (j : Int))) rfl) ?_
 refine qd rfl rfl rfl (r_move (v := v) rfl) ?_
 refine qd rfl rfl rfl (run_len Tryz.underlying30 (v := v) rfl hv) ?_
 refine qd rfl rfl rfl (r_lss rfl rfl) ?_
 refine qe (s_then ?_)
 refine c_ifd (p := ((j : Int) : Int) < ((markN kz ns).length : Int)) rfl rfl (fun h5 => ?_) (fun h5 => ?_)
 ·skip
  have hso := hsm.opts j (by omega)
  have hAj := markN_at (show j < ns.length by omega) hA
  refine wp_skip ?_
  refine s_then (s_seq ?_)
  refine s_blk ?_
  refine s_seq (c_reg ?_)
  refine qd rfl rfl rfl (r_move (v := v) rfl) ?_
  refine qd rfl rfl rfl (r_move (v := (.int .i64 (j : Int))) rfl) ?_
  refine qd rfl rfl rfl (run_idx Tryz.underlying30 sz103 (v := v) rfl rfl hv (by omega) (by omega)) ?_
  refine qd rfl rfl rfl (run_fld (off := 0) Tryz.underlying103 rfl rfl nz67 (z := (j : Int)) (k := 0) rfl hv (by omega) (by omega)) ?_
  obtain ⟨u6, hr7, hl8⟩ := nm_nl (hv.at (z := (j : Int)) (by omega) (by omega)) (j := j) rfl
  have hm9 := hr7.max
  refine qd rfl rfl rfl (hl8 ag67 rfl hX4.pins) ?_
  refine qd rfl rfl rfl (r_move (v := (.int .i64 q)) rfl) ?_
  refine q1 rfl rfl rfl (o_call (vs := [u6, (.int .i64 q)]) Tryz.func112 nm112 rfl rfl rfl ?_)
  refine Calls.mono (heldIntS_spec (n := (ns.getD j default).l.length) hX4.pins (by rw [← hAj.1]; exact hr7) (by omega) (hso.1)) ?_
  rintro _ _ ⟨rfl, rfl⟩
  refine ⟨_, rfl, ?_⟩
  refine qd rfl rfl rfl (r_assign (v := (.int .i64 (q + (((ns.getD j default).l.length : Int) : Int)))) rfl) ?_
  refine qe (s_then (s_seq (s_seq (c_reg ?_))))
  refine qd rfl rfl rfl (r_move (v := (.int .i64 (q + (((ns.getD j default).l.length : Int) : Int)))) rfl) ?_
  refine qd rfl rfl rfl (r_lss rfl rfl) ?_
  refine qe (s_then ?_)
  refine c_ifd (p := (q + (((ns.getD j default).l.length : Int) : Int) : Int) < 0) rfl rfl (fun h10 => ?_) (fun h10 => ?_)
  ·skip
   refine s_seq (c_reg ?_)
   refine qd rfl rfl rfl (r_assign (v := (.int .i64 (-1))) rfl) ?_
   refine qe (s_then ?_)
   refine wp_ret ?_
   refine s_ret ?_
   refine c_ret1 (v := (.int .i64 (-1))) rfl rfl rfl ?_
   exact absurd h10 (by omega)
  refine wp_skip ?_
  refine s_then (s_seq (c_reg ?_))
  refine qd rfl rfl rfl (r_move (v := v) rfl) ?_
  refine qd rfl rfl rfl (r_move (v := (.int .i64 (j : Int))) rfl) ?_
  refine qd rfl rfl rfl (run_idx Tryz.underlying30 sz103 (v := v) rfl rfl hv (by omega) (by omega)) ?_
  refine qd rfl rfl rfl (run_fld (off := 1) Tryz.underlying103 rfl rfl nz67 (z := (j : Int)) (k := 0) rfl hv (by omega) (by omega)) ?_
  obtain ⟨u11, hr12, hl13⟩ := nm_nr (hv.at (z := (j : Int)) (by omega) (by omega)) (j := j) rfl
  have hm14 := hr12.max
  refine qd rfl rfl rfl (hl13 ag67 rfl hX4.pins) ?_
  refine qd rfl rfl rfl (r_move (v := (.int .i64 (q + (((ns.getD j default).l.length : Int) : Int)))) rfl) ?_
  refine q1 rfl rfl rfl (o_call (vs := [u11, (.int .i64 (q + (((ns.getD j default).l.length : Int) : Int)))]) Tryz.func112 nm112 rfl rfl rfl ?_)
  refine Calls.mono (heldIntS_spec (n := (ns.getD j default).r.length) hX4.pins (by rw [← hAj.2.1]; exact hr12) (by omega) (hso.2)) ?_
  rintro _ _ ⟨rfl, rfl⟩
  refine ⟨_, rfl, ?_⟩
  refine qd rfl rfl rfl (r_assign (v := (.int .i64 ((q + (((ns.getD j default).l.length : Int) : Int)) + (((ns.getD j default).r.length : Int) : Int)))) rfl) ?_
  refine qe (s_then (s_seq (c_reg ?_)))
  refine qd rfl rfl rfl (r_move (v := (.int .i64 ((q + (((ns.getD j default).l.length : Int) : Int)) + (((ns.getD j default).r.length : Int) : Int)))) rfl) ?_
  refine qd rfl rfl rfl (r_lss rfl rfl) ?_
  refine qe (s_then ?_)
  refine c_ifd (p := ((q + (((ns.getD j default).l.length : Int) : Int)) + (((ns.getD j default).r.length : Int) : Int) : Int) < 0) rfl rfl (fun h15 => ?_) (fun h15 => ?_)
  ·skip
   refine s_seq (c_reg ?_)
   refine qd rfl rfl rfl (r_assign (v := (.int .i64 (-1))) rfl) ?_
   refine qe (s_then ?_)
   refine wp_ret ?_
   refine s_ret ?_
   refine c_ret1 (v := (.int .i64 (-1))) rfl rfl rfl ?_
   exact absurd h15 (by omega)
  refine wp_skip ?_
  refine s_blkN ?_
  refine s_then (c_reg ?_)
  refine qd rfl rfl rfl (r_move (v := (.int .i64 (j : Int))) rfl) ?_
  refine qd rfl rfl rfl (r_add rfl rfl (by omega)) ?_
  refine qd rfl rfl rfl (r_assign (v := (.int .i64 ((j : Int) + 1))) rfl) ?_
  refine qe ?_
  refine s_lopN ?_
  refine ⟨_, ?_, _, rfl, _, j + 1, (q + (((ns.getD j default).l.length : Int) : Int)) + (((ns.getD j default).r.length : Int) : Int), (packS (x := 5) (packS (x := 1) (pack1 (x := 0) rfl) rfl) rfl), rfl, hX4, (by omega), rfl, (by omega), (hqt.trans (by rw [totN_next (by omega)]; omega)), hAj.2.2⟩
  omega
 refine wp_exit ?_
 refine s_thenE ?_
 refine s_lopE ?_
 refine s_blkE ?_
 refine s_then (s_seq (c_reg ?_))
 refine qd rfl rfl rfl (r_move (v := (.int .i64 q)) rfl) ?_
 refine qd rfl rfl rfl (r_assign (v := (.int .i64 q)) rfl) ?_
 refine qe (s_then ?_)
 refine wp_ret ?_
 refine s_ret ?_
 refine c_ret1 (v := (.int .i64 q)) rfl rfl rfl ?_
 exact ⟨congrArg (fun z => Ending.returned (Value.int .i64 z)) (by rw [hqt, totN_end (by omega)]; omega), rfl⟩

theorem heldFormX_spec {w : World} {G : Pin} {v : Value} {ns : List Nd} {kz : Int} (hP : Pins G w) (hv : RSl eNode G v (markN kz ns)) (hsm : Small ns) (hk : 0 ≤ kz ∧ kz ≤ 1099511627776) :
  Calls Tryz.prog 26 [(.agg [v].toArray), (.int .i64 kz)].toArray w fun e w' => ∃ G', e = .returned (.int .i64 (kz + totN ns)) ∧ Ext noS G w G' w' := by
 refine s_enter (n := 12) Tryz.func26 Tryz.ntmps26 rfl rfl ?_
 have hX0 : Ext noS G w G w := Ext.refl hP
 have htn := totN_nonneg ns
 refine s_seq (c_reg ?_)
 refine q1 rfl rfl rfl (o_box [v] (v := (.agg [v].toArray)) rfl rfl hX0.pins (fun b1 w2 hk3 hb4 hp5 hl6 => ?_))
 have hX7 := hX0.step hp5 hl6
 have hlo8 : w.heap.size ≤ b1 := by have := hX0.size; omega
 obtain ⟨G9, hle10, hX11, hbp12, hf13⟩ := hb4.shut hX7 hlo8
 refine qd rfl rfl rfl (r_assign (v := (.int .i64 0)) rfl) ?_
 refine qe (s_then (s_seq (c_reg ?_)))
 refine qd rfl rfl rfl (r_fldp (k := 0) rfl Tryz.underlying32 rfl nz30 rfl) ?_
 refine qd rfl rfl rfl (r_ldp1 (u := v) ag30 rfl (hX11.pins _ _ _ (hbp12 0 _ rfl))) ?_
 refine qd rfl rfl rfl (r_move (v := (.int .i64 kz)) rfl) ?_
 refine q1 rfl rfl rfl (o_call (vs := [v, (.int .i64 kz)]) Tryz.func69 nm69 rfl rfl rfl ?_)
 refine Calls.mono (heldNodeS_spec hX11.pins (hv.mono hle10) hsm hk) ?_
 rintro _ _ ⟨rfl, rfl⟩
 refine ⟨_, rfl, ?_⟩
 refine qd rfl rfl rfl (r_assign (v := (.int .i64 (kz + totN ns))) rfl) ?_
 refine qe (s_then (s_seq (s_seq (c_reg ?_))))
 refine qd rfl rfl rfl (r_move (v := (.int .i64 (kz + totN ns))) rfl) ?_
 refine qd rfl rfl rfl (r_lss rfl rfl) ?_
 refine qe (s_then ?_)
 refine c_ifd (p := (kz + totN ns : Int) < 0) rfl rfl (fun h14 => ?_) (fun h14 => ?_)
 ·skip
  refine s_seq (c_reg ?_)
  refine qd rfl rfl rfl (r_assign (v := (.int .i64 (-1))) rfl) ?_
  refine qe (s_then ?_)
  refine wp_ret ?_
  refine s_ret ?_
  refine c_ret1 (v := (.int .i64 (-1))) rfl rfl rfl ?_
  exact absurd h14 (by omega)
 refine wp_skip ?_
 refine s_then (s_seq (c_reg ?_))
 refine qd rfl rfl rfl (r_move (v := (.int .i64 (kz + totN ns))) rfl) ?_
 refine qd rfl rfl rfl (r_assign (v := (.int .i64 (kz + totN ns))) rfl) ?_
 refine qe (s_then ?_)
 refine wp_ret ?_
 refine s_ret ?_
 refine c_ret1 (v := (.int .i64 (kz + totN ns))) rfl rfl rfl ?_
 exact ⟨_, rfl, hX11⟩

theorem eqForm_same {w : World} {G : Pin} {u v : Value} {xs : List Nd} (hP : Pins G w) (hu : RSl eNode G u xs) (hv : RSl eNode G v xs) :
  Calls Tryz.prog 20 [(.agg [u].toArray), (.agg [v].toArray)].toArray w fun e w' => ∃ G', e = .returned (.bool true) ∧ Ext noS G w G' w' := by
 refine (eqForm_spec hP hu hv).mono ?_
 rintro e w' ⟨G', rfl, hx⟩
 exact ⟨G', by simp, hx⟩

theorem neg_book {fs : List Nd} (hf : FormOk fs) (h1 : fs.length ≤ 524288) : ∀ k, k ≤ fs.length → ∃ ns bs ats, PoolOk (bkq ns bs) ∧ NkOk (bkq ns bs) ats k (fun i => negG (den fs i)) ∧ ns.length ≤ k := by
 intro k
 induction k with
 | zero => intro _; exact ⟨[], [], [], bkq_ok Ar.empty, NkOk.start, Nat.le_refl 0⟩
 | succ k ih =>
  intro hk
  obtain ⟨ns, bs, ats, hok, hnk, hl⟩ := ih (by omega)
  have oo := optsAt hf.opts (show k < fs.length by omega)
  have hfe := hf.lens k (by omega)
  have hol := hnk.opts oo.1
  have hor := hnk.opts oo.2
  have hpt := bk_put (xs := atL ats (fs.getD k default).r) (ys := atL ats (fs.getD k default).l) hok (by omega) ⟨by rw [at_length]; omega, by rw [at_length]; omega⟩ hor.1 hol.1
  exact ⟨_, _, _, hpt.ok, hnk.snoc hpt.px hok hpt.ok hpt.pl (hpt.pd.trans (by rw [hor.2, hol.2]; exact neg_den hf.opts (by omega))), by have := hpt.len; omega⟩
theorem ng_frm {fs : List Nd} (h : goodB fs = true) : ngF fs = frmG (negG (gOf fs)) := by
 have hg := goodB_true.1 h
 have hlo := hg.lo
 have hhi := hg.hi
 obtain ⟨ns, bs, ats, hok, hnk, hl⟩ := neg_book (good_form hg) (by omega) fs.length (Nat.le_refl _)
 have hrt := hnk.at_ (i := fs.length - 1) (by omega)
 have hif := form_is hok hrt.1
 rw [hrt.2] at hif
 rw [ngF_good h]
 exact (frm_yes hif (neg_fits hg hif)).symm
theorem ng_small (fs : List Nd) : Small (ngF fs) := by
 by_cases hg : goodB fs = true
 ·rw [ng_frm hg]; exact frm_small _
 ·rw [ngF_bad (by simpa using hg)]; exact ⟨by simp, fun i hi => by simp at hi⟩

theorem iNegForm_spec {w : World} {G : Pin} {u : Value} {ns : List Nd} (hP : Pins G w) (hu : RSl eNode G u ns) :
  Calls Tryz.prog 37 [(.agg [u].toArray)].toArray w fun e w' => ∃ (u : Value) (G' : Pin), e = .returned (.tuple #[.agg [u].toArray, .bool (goodB ns)]) ∧ RSl eNode G' u (ngF ns) ∧ Ext noS G w G' w' := by
 refine (iNegForm_dspec hP hu).mono ?_
 rintro e w' ⟨u, G', rfl, hd, hx⟩
 obtain ⟨G'', h1, h2⟩ := hd.give hx
 exact ⟨u, G'', rfl, h1, h2⟩

theorem law {w : World} {G : Pin} {u : Value} {ns : List Nd} (hP : Pins G w) (hu : RSl eNode G u ns) :
  Calls Tryz.prog 10 [(.agg [u].toArray)].toArray w fun e w' => ∃ G', e = .returned (.bool true) ∧ Ext noS G w G' w' := by
 refine s_enter (n := 96) Tryz.func10 Tryz.ntmps10 rfl rfl ?_
 have hX0 : Ext noS G w G w := Ext.refl hP
 refine s_seq (c_reg ?_)
 refine q1 rfl rfl rfl (o_box [u] (v := (.agg [u].toArray)) rfl rfl hX0.pins (fun b1 w2 hk3 hb4 hp5 hl6 => ?_))
 have hX7 := hX0.step hp5 hl6
 have hlo8 : w.heap.size ≤ b1 := by have := hX0.size; omega
 obtain ⟨G9, hle10, hX11, hbp12, hf13⟩ := hb4.shut hX7 hlo8
 refine qd rfl rfl rfl (r_assign (v := (.bool false)) rfl) ?_
 refine qe (s_then (s_seq (c_reg ?_)))
 refine qd rfl rfl rfl (r_assign (v := (.int .i64 1048576)) rfl) ?_
 refine qe (s_then (s_seq (c_reg ?_)))
 refine qd rfl rfl rfl (r_ldpA (cs := [u]) ag24 sz24 rfl (fun j u hj => hX11.pins _ _ _ (hbp12 _ _ (by simpa using hj)))) ?_
 refine qd rfl rfl rfl (r_move (v := (.int .i64 1048576)) rfl) ?_
 refine q1 rfl rfl rfl (o_call (vs := [(.agg [u].toArray), (.int .i64 1048576)]) Tryz.func15 nm15 rfl rfl rfl ?_)
 refine Calls.mono (szFormT_spec hX11.pins (hu.mono hle10) (by omega)) ?_
 rintro _ w16 ⟨z14, G15, rfl, hz17, hx18⟩
 refine ⟨_, rfl, ?_⟩
 have hX19 := hX11.tr hx18
 refine qd rfl rfl rfl (r_assign (v := (.int .i64 z14)) rfl) ?_
 refine qe (s_then (s_seq (s_seq (c_reg ?_))))
 refine qd rfl rfl rfl (r_move (v := (.int .i64 z14)) rfl) ?_
 refine qd rfl rfl rfl (r_lss rfl rfl) ?_
 refine qe (s_then ?_)
 refine c_ifd (p := (z14 : Int) < 0) rfl rfl (fun h20 => ?_) (fun h20 => ?_)
 ·skip
  refine s_seq (c_reg ?_)
  refine qd rfl rfl rfl (r_assign (v := (.bool true)) rfl) ?_
  refine qe (s_then ?_)
  refine wp_ret ?_
  refine s_ret ?_
  refine c_ret1 (v := (.bool true)) rfl rfl rfl ?_
  exact ⟨_, rfl, hX19⟩
 refine wp_skip ?_
 refine s_then (s_seq (c_reg ?_))
 refine qd rfl rfl rfl (r_ldpA (cs := [u]) ag24 sz24 rfl (fun j u hj => (Pins.of_le hX19.pins hx18.le) _ _ _ (hbp12 _ _ (by simpa using hj)))) ?_
 have hsnx : Small ns ∧ totN ns ≤ 1048576 ∧ 0 ≤ totN ns := ⟨by rcases hz17 with h | h <;> first | omega | exact h.2.2, by rcases hz17 with h | h <;> omega, totN_nonneg _⟩
 have hsn := hsnx.1
 have htxns := hsnx.2
 have htf := totN_nonneg (ngF ns)
 refine q1 rfl rfl rfl (o_call (vs := [(.agg [u].toArray)]) Tryz.func17 nm17 rfl rfl rfl ?_)
 refine Calls.mono (toForm_spec hX19.pins (hu.mono (Pin.le_trans hle10 hx18.le)) hsn) ?_
 rintro _ w23 ⟨u21, G22, rfl, hr24, hx25⟩
 refine ⟨_, rfl, ?_⟩
 have hX26 := hX19.tr hx25
 refine q1 rfl rfl rfl (o_call (vs := [(.agg [u21].toArray)]) Tryz.func36 nm36 rfl rfl rfl ?_)
 refine Calls.mono (sNegForm_spec hX26.pins hr24) ?_
 rintro _ w29 ⟨u27, G28, rfl, hr30, hx31⟩
 refine ⟨_, rfl, ?_⟩
 have hX32 := hX26.tr hx31
 refine qd rfl rfl rfl (r_move (v := (.tuple #[(.agg [u27].toArray), (.bool (goodB ns))])) rfl) ?_
 refine qd rfl rfl rfl (r_extract (v := (.agg [u27].toArray)) rfl rfl) ?_
 refine qd rfl rfl rfl (r_extract (v := (.bool (goodB ns))) rfl rfl) ?_
 refine q1 rfl rfl rfl (o_alloc [(.slice none 0 0)] zr32 rfl hX32.pins (fun b33 w34 hk35 hb36 hp37 hl38 => ?_))
 have hX39 := hX32.step hp37 hl38
 have hlo40 : w.heap.size ≤ b33 := by have := hX32.size; omega
 refine q0 rfl rfl rfl (o_stp (cs' := [u27]) (us := [u27]) (v := (.agg [u27].toArray)) sz32 rfl rfl rfl (ones1 hr30.one) hX39.pins hb36 (Nat.le_of_ble_eq_true rfl) rfl (fun w41 hb42 hp43 hg44 hz45 => ?_))
 have hX46 := hX39.write hp43 hg44 ((lo_box hlo40))
 obtain ⟨G47, hle48, hX49, hbp50, hf51⟩ := hb42.shut hX46 hlo40
 refine qd rfl rfl rfl (r_assign (v := (.bool (goodB ns))) rfl) ?_
 refine qe (s_then (s_seq (c_reg ?_)))
 refine qd rfl rfl rfl (r_ldpA (cs := [u]) ag24 sz24 rfl (fun j u hj => (Pins.of_le hX49.pins (Pin.le_trans (Pin.le_trans (Pin.le_trans hx18.le hx25.le) hx31.le) hle48)) _ _ _ (hbp12 _ _ (by simpa using hj)))) ?_
 refine q1 rfl rfl rfl (o_call (vs := [(.agg [u].toArray)]) Tryz.func17 nm17 rfl rfl rfl ?_)
 refine Calls.mono (toForm_dspec hX49.pins (hu.mono (Pin.le_trans (Pin.le_trans (Pin.le_trans (Pin.le_trans hle10 hx18.le) hx25.le) hx31.le) hle48)) hsn) ?_
 rintro _ w54 ⟨u52, G53, rfl, hd55, hx56⟩
 refine ⟨_, rfl, ?_⟩
 have hX57 := hX49.tr hx56
 have hone58 := hd55.one
 refine q1 rfl rfl rfl (o_alloc [(.slice none 0 0)] zr32 rfl hX57.pins (fun b59 w60 hk61 hb62 hp63 hl64 => ?_))
 have hX65 := hX57.step hp63 hl64
 have hd66 := hd55.below hl64
 have hs67 := Nat.le_trans (Nat.le_refl w54.heap.size) hl64.size
 have ha68 : w54.heap.size ≤ b59 ∨ b59 < w41.heap.size := Or.inl (by have e := Option.some.inj (congrArg some hk61); have := (Nat.le_refl w54.heap.size); omega)
 have hlo69 : w.heap.size ≤ b59 := by have := hX57.size; omega
 refine q0 rfl rfl rfl (o_stp (cs' := [u52]) (us := [u52]) (v := (.agg [u52].toArray)) sz32 rfl rfl rfl (ones1 hone58) hX65.pins hb62 (Nat.le_of_ble_eq_true rfl) rfl (fun w70 hb71 hp72 hg73 hz74 => ?_))
 have hX75 := hX65.write hp72 hg73 ((lo_box hlo69))
 have hd76 := hd66.kept hg73 ha68
 have hs77 := Nat.le_trans hs67 hg73.size
 obtain ⟨G78, hle79, hX80, hbp81, hf82⟩ := hb71.shut hX75 hlo69
 have hd83 := hd76.more hle79 hf82 ha68
 refine qe (s_then (s_seq (c_reg ?_)))
 refine qd rfl rfl rfl (r_ldpA (cs := [u52]) ag32 sz32 rfl (fun j u hj => hX80.pins _ _ _ (hbp81 _ _ (by simpa using hj)))) ?_
 obtain ⟨G84, hle85, hp86, hr87, hf88⟩ := hd83.read hX80.pins
 refine q1 rfl rfl rfl (o_call (vs := [(.agg [u52].toArray)]) Tryz.func37 nm37 rfl rfl rfl ?_)
 refine Calls.mono (iNegForm_dspec hp86 hr87) ?_
 rintro _ w91 ⟨u89, G90, rfl, hd92, hx93⟩
 refine ⟨_, rfl, ?_⟩
 have hgxu52 := hs77
 have hx94 := deep_back hX80.pins hx93
 have hX95 := hX80.step hx94.pins hx94.below
 have hd96 := hd83.below hx94.below
 have hs97 := Nat.le_trans hs77 hx94.below.size
 have hd98 := hd92.anti (Pin.le_trans hle85 hx93.le)
 have hone99 := hd98.one
 refine qd rfl rfl rfl (r_move (v := (.tuple #[(.agg [u89].toArray), (.bool (goodB ns))])) rfl) ?_
 refine qd rfl rfl rfl (r_extract (v := (.agg [u89].toArray)) rfl rfl) ?_
 refine qd rfl rfl rfl (r_extract (v := (.bool (goodB ns))) rfl rfl) ?_
 refine q1 rfl rfl rfl (o_alloc [(.slice none 0 0)] zr32 rfl hX95.pins (fun b100 w101 hk102 hb103 hp104 hl105 => ?_))
 have hX106 := hX95.step hp104 hl105
 have hd107 := hd96.below hl105
 have hs108 := Nat.le_trans hs97 hl105.size
 have hd109 := hd98.below hl105
 have hs110 := Nat.le_trans (Nat.le_refl w91.heap.size) hl105.size
 have ha111 : w54.heap.size ≤ b100 ∨ b100 < w41.heap.size := Or.inl (by have e := Option.some.inj (congrArg some hk102); have := hs97; omega)
 have ha112 : w91.heap.size ≤ b100 ∨ b100 < w70.heap.size := Or.inl (by have e := Option.some.inj (congrArg some hk102); have := (Nat.le_refl w91.heap.size); omega)
 have hlo113 : w.heap.size ≤ b100 := by have := hX95.size; omega
 refine q0 rfl rfl rfl (o_stp (cs' := [u89]) (us := [u89]) (v := (.agg [u89].toArray)) sz32 rfl rfl rfl (ones1 hone99) hX106.pins hb103 (Nat.le_of_ble_eq_true rfl) rfl (fun w114 hb115 hp116 hg117 hz118 => ?_))
 have hX119 := hX106.write hp116 hg117 ((lo_box hlo113))
 have hd120 := hd107.kept hg117 ha111
 have hs121 := Nat.le_trans hs108 hg117.size
 have hd122 := hd109.kept hg117 ha112
 have hs123 := Nat.le_trans hs110 hg117.size
 obtain ⟨G124, hle125, hX126, hbp127, hf128⟩ := hb115.shut hX119 hlo113
 have hd129 := hd120.more hle125 hf128 ha111
 have hd130 := hd122.more hle125 hf128 ha112
 refine qd rfl rfl rfl (r_assign (v := (.bool (goodB ns))) rfl) ?_
 refine qe (s_then (s_seq (s_seq (c_reg ?_))))
 refine qd rfl rfl rfl (r_ldpA (cs := [u89]) ag32 sz32 rfl (fun j u hj => hX126.pins _ _ _ (hbp127 _ _ (by simpa using hj)))) ?_
 refine qd rfl rfl rfl (r_ldpA (cs := [u27]) ag32 sz32 rfl (fun j u hj => (Pins.of_le hX126.pins (Pin.le_trans (Pin.le_trans hx56.le hle79) hle125)) _ _ _ (hbp50 _ _ (by simpa using hj)))) ?_
 obtain ⟨G134, hle135, hp136, hr137, _⟩ := hd130.read hX126.pins
 refine q1 rfl rfl rfl (o_call (vs := [(.agg [u89].toArray), (.agg [u27].toArray)]) Tryz.func20 nm20 rfl rfl rfl ?_)
 refine Calls.mono (eqForm_same hp136 hr137 ((hr30.mono (Pin.le_trans (Pin.le_trans (Pin.le_trans hle48 hx56.le) hle79) hle125)).mono hle135)) ?_
 rintro _ w132 ⟨G131, rfl, hx133⟩
 refine ⟨_, rfl, ?_⟩
 have hx138 := deep_back hX126.pins hx133
 have hX139 := hX126.step hx138.pins hx138.below
 have hd140 := hd129.below hx138.below
 have hs141 := Nat.le_trans hs121 hx138.below.size
 have hd142 := hd130.below hx138.below
 have hs143 := Nat.le_trans hs123 hx138.below.size
 refine qd rfl rfl rfl (r_not rfl) ?_
 refine qd rfl rfl rfl (r_move (v := (.bool false)) rfl) ?_
 refine qdg rfl rfl rfl rfl rfl rfl (r_move (v := (.bool (goodB ns))) rfl) ?_
 refine qdg rfl rfl rfl rfl rfl rfl (r_move (v := (.bool (goodB ns))) rfl) ?_
 refine qdg rfl rfl rfl rfl rfl rfl (r_neqB_same Tryz.underlying4 rfl rfl) ?_
 refine qd rfl rfl rfl (r_pickF (v := (.bool false)) rfl rfl) ?_
 refine qe (s_then ?_)
 refine c_ifF rfl rfl ?_
 refine wp_skip ?_
 refine s_then (s_seq (s_seq ?_))
 refine c_draw (S := fun wz => Pins G124 wz) (last := 5) (by kernel_rfl) rfl ?_
 have hl144 : Below w132.heap.size w132 w132.drew := (Below.refl _ _).drew
 have hp145 := hX139.pins.below hl144
 have hX146 := hX139.step hp145 hl144
 have hd147 := hd140.below hl144
 have hs148 := Nat.le_trans hs141 hl144.size
 have hd149 := hd142.below hl144
 have hs150 := Nat.le_trans hs143 hl144.size
 refine dr_take (i := 0) rfl rfl rfl (want_none rfl _) (by kernel_rfl) (fun _ hS => r_ldpA (cs := [u52]) ag32 sz32 rfl (fun j u hj => (Pins.of_le hS hle125) _ _ _ (hbp81 _ _ (by simpa using hj)))) hX146.pins ?_
 refine dr_take (i := 1) rfl rfl rfl (want_none rfl _) (by kernel_rfl) (fun _ hS => r_ldpA (cs := [u]) ag24 sz24 rfl (fun j u hj => (Pins.of_le hS (Pin.le_trans (Pin.le_trans (Pin.le_trans (Pin.le_trans (Pin.le_trans (Pin.le_trans hx18.le hx25.le) hx31.le) hle48) hx56.le) hle79) hle125)) _ _ _ (hbp12 _ _ (by simpa using hj)))) hX146.pins ?_
 refine dr_one (i := 2) (by kernel_rfl) (drOp1 (i := 2) rfl rfl rfl (want_none rfl _) (o_call (vs := [(.agg [u].toArray)]) Tryz.func17 nm17 rfl rfl rfl ?_))
 refine Calls.mono (toForm_spec hX146.pins (hu.mono (Pin.le_trans (Pin.le_trans (Pin.le_trans (Pin.le_trans (Pin.le_trans (Pin.le_trans (Pin.le_trans hle10 hx18.le) hx25.le) hx31.le) hle48) hx56.le) hle79) hle125)) hsn) ?_
 rintro _ w153 ⟨u151, G152, rfl, hr154, hx155⟩
 refine ⟨_, rfl, ?_⟩
 have hX156 := hX146.tr hx155
 have hd157 := hd147.ext hx155
 have hs158 := Nat.le_trans hs148 hx155.size
 have hd159 := hd149.ext hx155
 have hs160 := Nat.le_trans hs150 hx155.size
 refine ⟨fun _ => (Pins.of_le hX156.pins hx155.le), ?_⟩
 obtain ⟨G164, hle165, hp166, hr167, _⟩ := hd157.read hX156.pins
 refine dr_one (i := 3) (by kernel_rfl) (drOp1 (i := 3) rfl rfl rfl (want_none rfl _) (o_call (vs := [(.agg [u52].toArray), (.agg [u151].toArray)]) Tryz.func20 nm20 rfl rfl rfl ?_))
 refine Calls.mono (eqForm_same hp166 hr167 (hr154.mono hle165)) ?_
 rintro _ w162 ⟨G161, rfl, hx163⟩
 refine ⟨_, rfl, ?_⟩
 have hx168 := deep_back hX156.pins hx163
 have hX169 := hX156.step hx168.pins hx168.below
 have hd170 := hd157.below hx168.below
 have hs171 := Nat.le_trans hs158 hx168.below.size
 have hd172 := hd159.below hx168.below
 have hs173 := Nat.le_trans hs160 hx168.below.size
 refine ⟨fun _ => (Pins.of_le hX169.pins hx155.le), ?_⟩
 refine dr_take (i := 4) rfl rfl rfl (want_none rfl _) (by kernel_rfl) (fun _ _ => r_not rfl) (Pins.of_le hX169.pins hx155.le) ?_
 refine dr_end (by kernel_rfl) ?_
 refine s_then ?_
 refine c_ifF rfl rfl ?_
 refine wp_skip ?_
 refine s_then (s_seq (c_reg ?_))
 refine qd rfl rfl rfl (r_assign (v := (.int .i64 1)) rfl) ?_
 refine qe (s_then (s_seq (c_reg ?_)))
 refine qd rfl rfl rfl (r_ldpA (cs := [u52]) ag32 sz32 rfl (fun j u hj => (Pins.of_le hX169.pins (Pin.le_trans hle125 hx155.le)) _ _ _ (hbp81 _ _ (by simpa using hj)))) ?_
 refine qd rfl rfl rfl (r_move (v := (.int .i64 1)) rfl) ?_
 refine q1 rfl rfl rfl (o_call (vs := [(.agg [u52].toArray), (.int .i64 1)]) Tryz.func25 nm25 rfl rfl rfl ?_)
 refine Calls.mono (markFormX_spec (kz := 1) hX169.pins hd170 hs171 hsn (by omega)) ?_
 rintro _ w174 ⟨rfl, hd175, hx176⟩
 refine ⟨_, rfl, ?_⟩
 have hX177 := hX169.trans hx176 (fun i hi => Or.inl (Nat.le_trans hX49.size hi.1))
 have hd178 := hd172.extS hx176 (fun k h1 h2 h3 => by have := h3.1; have := h3.2; omega)
 have hs179 := Nat.le_trans hs173 hx176.size
 refine qd rfl rfl rfl (r_assign (v := (.int .i64 (1 + totN ns))) rfl) ?_
 refine qe (s_then (s_seq (s_seq (c_reg ?_))))
 refine qd rfl rfl rfl (r_move (v := (.int .i64 (1 + totN ns))) rfl) ?_
 refine qd rfl rfl rfl (r_lss rfl rfl) ?_
 refine qd rfl rfl rfl (r_move (v := (.bool (decide ((1 + totN ns : Int) < 0)))) rfl) ?_
 refine qbd (p := (1 + totN ns : Int) < 0) (t := 51) rfl (fun h180 => ?_) (fun h180 => ?_)
 ·skip
  refine qs rfl rfl rfl rfl rfl rfl ?_
  refine qs rfl rfl rfl rfl rfl rfl ?_
  refine qs rfl rfl rfl rfl rfl rfl ?_
  refine qs rfl rfl rfl rfl rfl rfl ?_
  refine qd rfl rfl rfl (r_pickT (v := (.bool true)) rfl rfl) ?_
  refine qd rfl rfl rfl (r_move (v := (.bool true)) rfl) ?_
  refine qs rfl rfl rfl rfl rfl rfl ?_
  refine qs rfl rfl rfl rfl rfl rfl ?_
  refine qs rfl rfl rfl rfl rfl rfl ?_
  refine qd rfl rfl rfl (r_pickT (v := (.bool true)) rfl rfl) ?_
  refine qe (s_then ?_)
  refine c_ifT rfl rfl ?_
  refine s_seq (c_reg ?_)
  refine qd rfl rfl rfl (r_assign (v := (.bool false)) rfl) ?_
  refine qe (s_then ?_)
  refine wp_ret ?_
  refine s_ret ?_
  refine c_ret1 (v := (.bool false)) rfl rfl rfl ?_
  exfalso; omega
 refine qdg rfl rfl rfl rfl rfl rfl (r_ldpA (cs := [u89]) ag32 sz32 rfl (fun j u hj => (Pins.of_le hX177.pins hx155.le) _ _ _ (hbp127 _ _ (by simpa using hj)))) ?_
 refine qdg rfl rfl rfl rfl rfl rfl (r_ldpA (cs := [u27]) ag32 sz32 rfl (fun j u hj => (Pins.of_le hX177.pins (Pin.le_trans (Pin.le_trans (Pin.le_trans hx56.le hle79) hle125) hx155.le)) _ _ _ (hbp50 _ _ (by simpa using hj)))) ?_
 obtain ⟨G184, hle185, hp186, hr187, _⟩ := hd178.read hX177.pins
 refine q1g rfl rfl rfl rfl rfl rfl (o_call (vs := [(.agg [u89].toArray), (.agg [u27].toArray)]) Tryz.func20 nm20 rfl rfl rfl ?_)
 refine Calls.mono (eqForm_same hp186 hr187 ((hr30.mono (Pin.le_trans (Pin.le_trans (Pin.le_trans (Pin.le_trans hle48 hx56.le) hle79) hle125) hx155.le)).mono hle185)) ?_
 rintro _ w182 ⟨G181, rfl, hx183⟩
 refine ⟨_, rfl, ?_⟩
 have hx188 := deep_back hX177.pins hx183
 have hX189 := hX177.step hx188.pins hx188.below
 have hd190 := hd178.below hx188.below
 have hs191 := Nat.le_trans hs179 hx188.below.size
 refine qdg rfl rfl rfl rfl rfl rfl (r_not rfl) ?_
 refine qd rfl rfl rfl (r_pickF (v := (.bool false)) rfl rfl) ?_
 refine qd rfl rfl rfl (r_move (v := (.bool false)) rfl) ?_
 refine qdg rfl rfl rfl rfl rfl rfl (r_move (v := (.bool (goodB ns))) rfl) ?_
 refine qdg rfl rfl rfl rfl rfl rfl (r_move (v := (.bool (goodB ns))) rfl) ?_
 refine qdg rfl rfl rfl rfl rfl rfl (r_neqB_same Tryz.underlying4 rfl rfl) ?_
 refine qd rfl rfl rfl (r_pickF (v := (.bool false)) rfl rfl) ?_
 refine qe (s_then ?_)
 refine c_ifF rfl rfl ?_
 refine wp_skip ?_
 refine s_then (s_seq (c_reg ?_))
 refine qd rfl rfl rfl (r_assign (v := (.int .i64 1)) rfl) ?_
 refine qe (s_then (s_seq (c_reg ?_)))
 refine qd rfl rfl rfl (r_ldpA (cs := [u89]) ag32 sz32 rfl (fun j u hj => (Pins.of_le hX189.pins hx155.le) _ _ _ (hbp127 _ _ (by simpa using hj)))) ?_
 refine qd rfl rfl rfl (r_move (v := (.int .i64 1)) rfl) ?_
 refine q1 rfl rfl rfl (o_call (vs := [(.agg [u89].toArray), (.int .i64 1)]) Tryz.func25 nm25 rfl rfl rfl ?_)
 refine Calls.mono (markFormX_spec (kz := 1) hX189.pins hd190 hs191 (ng_small _) (by omega)) ?_
 rintro _ w192 ⟨rfl, hd193, hx194⟩
 refine ⟨_, rfl, ?_⟩
 have hX195 := hX189.trans hx194 (fun i hi => Or.inl (Nat.le_trans hX80.size hi.1))
 obtain ⟨G196, hle197, hp198, hr199, hf200⟩ := hd193.read hX195.pins
 have hX201 := hX195.promise hle197 hp198 hf200 hX80.size
 refine qd rfl rfl rfl (r_assign (v := (.int .i64 (1 + totN (ngF ns)))) rfl) ?_
 refine qe (s_then (s_seq (c_reg ?_)))
 refine qd rfl rfl rfl (r_assign (v := (.int .i64 1)) rfl) ?_
 refine qe (s_then (s_seq (c_reg ?_)))
 refine qd rfl rfl rfl (r_ldpA (cs := [u89]) ag32 sz32 rfl (fun j u hj => (Pins.of_le hX201.pins (Pin.le_trans hx155.le hle197)) _ _ _ (hbp127 _ _ (by simpa using hj)))) ?_
 refine qd rfl rfl rfl (r_move (v := (.int .i64 1)) rfl) ?_
 refine q1 rfl rfl rfl (o_call (vs := [(.agg [u89].toArray), (.int .i64 1)]) Tryz.func26 nm26 rfl rfl rfl ?_)
 refine Calls.mono (heldFormX_spec (kz := 1) (ns := ngF ns) hX201.pins hr199 (ng_small _) (by omega)) ?_
 rintro _ w203 ⟨G202, rfl, hx204⟩
 refine ⟨_, rfl, ?_⟩
 have hX205 := hX201.tr hx204
 refine qd rfl rfl rfl (r_assign (v := (.int .i64 (1 + totN (ngF ns)))) rfl) ?_
 refine qe (s_then (s_seq (s_seq (c_reg ?_))))
 refine qd rfl rfl rfl (r_move (v := (.int .i64 (1 + totN (ngF ns)))) rfl) ?_
 refine qd rfl rfl rfl (r_lss rfl rfl) ?_
 refine qe (s_then ?_)
 refine c_ifd (p := (1 + totN (ngF ns) : Int) < 0) rfl rfl (fun h206 => ?_) (fun h206 => ?_)
 ·skip
  refine s_seq (c_reg ?_)
  refine qd rfl rfl rfl (r_assign (v := (.bool false)) rfl) ?_
  refine qe (s_then ?_)
  refine wp_ret ?_
  refine s_ret ?_
  refine c_ret1 (v := (.bool false)) rfl rfl rfl ?_
  exfalso; omega
 refine wp_skip ?_
 refine s_then (s_seq (s_seq (c_reg ?_)))
 refine qd rfl rfl rfl (r_move (v := (.int .i64 (1 + totN (ngF ns)))) rfl) ?_
 refine qd rfl rfl rfl (r_move (v := (.int .i64 (1 + totN (ngF ns)))) rfl) ?_
 refine qd rfl rfl rfl (r_neq rfl rfl) ?_
 refine qe (s_then ?_)
 refine c_ifd (p := (1 + totN (ngF ns) : Int) ≠ (1 + totN (ngF ns))) rfl rfl (fun h207 => ?_) (fun h207 => ?_)
 ·skip
  refine s_seq (c_reg ?_)
  refine qd rfl rfl rfl (r_assign (v := (.bool false)) rfl) ?_
  refine qe (s_then ?_)
  refine wp_ret ?_
  refine s_ret ?_
  refine c_ret1 (v := (.bool false)) rfl rfl rfl ?_
  exfalso; omega
 refine wp_skip ?_
 refine s_then (s_seq (c_reg ?_))
 refine qd rfl rfl rfl (r_ldpA (cs := [u]) ag24 sz24 rfl (fun j u hj => (Pins.of_le hX205.pins (Pin.le_trans (Pin.le_trans (Pin.le_trans (Pin.le_trans (Pin.le_trans (Pin.le_trans (Pin.le_trans (Pin.le_trans (Pin.le_trans hx18.le hx25.le) hx31.le) hle48) hx56.le) hle79) hle125) hx155.le) hle197) hx204.le)) _ _ _ (hbp12 _ _ (by simpa using hj)))) ?_
 refine q1 rfl rfl rfl (o_call (vs := [(.agg [u].toArray)]) Tryz.func17 nm17 rfl rfl rfl ?_)
 refine Calls.mono (toForm_spec hX205.pins (hu.mono (Pin.le_trans (Pin.le_trans (Pin.le_trans (Pin.le_trans (Pin.le_trans (Pin.le_trans (Pin.le_trans (Pin.le_trans (Pin.le_trans (Pin.le_trans hle10 hx18.le) hx25.le) hx31.le) hle48) hx56.le) hle79) hle125) hx155.le) hle197) hx204.le)) hsn) ?_
 rintro _ w210 ⟨u208, G209, rfl, hr211, hx212⟩
 refine ⟨_, rfl, ?_⟩
 have hX213 := hX205.tr hx212
 refine q1 rfl rfl rfl (o_call (vs := [(.agg [u208].toArray)]) Tryz.func37 nm37 rfl rfl rfl ?_)
 refine Calls.mono (iNegForm_spec hX213.pins hr211) ?_
 rintro _ w216 ⟨u214, G215, rfl, hr217, hx218⟩
 refine ⟨_, rfl, ?_⟩
 have hX219 := hX213.tr hx218
 refine qd rfl rfl rfl (r_move (v := (.tuple #[(.agg [u214].toArray), (.bool (goodB ns))])) rfl) ?_
 refine qd rfl rfl rfl (r_extract (v := (.agg [u214].toArray)) rfl rfl) ?_
 refine qd rfl rfl rfl (r_extract (v := (.bool (goodB ns))) rfl rfl) ?_
 refine q1 rfl rfl rfl (o_alloc [(.slice none 0 0)] zr32 rfl hX219.pins (fun b220 w221 hk222 hb223 hp224 hl225 => ?_))
 have hX226 := hX219.step hp224 hl225
 have hlo227 : w.heap.size ≤ b220 := by have := hX219.size; omega
 refine q0 rfl rfl rfl (o_stp (cs' := [u214]) (us := [u214]) (v := (.agg [u214].toArray)) sz32 rfl rfl rfl (ones1 hr217.one) hX226.pins hb223 (Nat.le_of_ble_eq_true rfl) rfl (fun w228 hb229 hp230 hg231 hz232 => ?_))
 have hX233 := hX226.write hp230 hg231 ((lo_box hlo227))
 obtain ⟨G234, hle235, hX236, hbp237, hf238⟩ := hb229.shut hX233 hlo227
 refine qd rfl rfl rfl (r_assign (v := (.bool (goodB ns))) rfl) ?_
 refine qe (s_then (s_seq (s_seq (c_reg ?_))))
 refine qd rfl rfl rfl (r_ldpA (cs := [u214]) ag32 sz32 rfl (fun j u hj => hX236.pins _ _ _ (hbp237 _ _ (by simpa using hj)))) ?_
 refine qd rfl rfl rfl (r_ldpA (cs := [u27]) ag32 sz32 rfl (fun j u hj => (Pins.of_le hX236.pins (Pin.le_trans (Pin.le_trans (Pin.le_trans (Pin.le_trans (Pin.le_trans (Pin.le_trans (Pin.le_trans (Pin.le_trans hx56.le hle79) hle125) hx155.le) hle197) hx204.le) hx212.le) hx218.le) hle235)) _ _ _ (hbp50 _ _ (by simpa using hj)))) ?_
 refine q1 rfl rfl rfl (o_call (vs := [(.agg [u214].toArray), (.agg [u27].toArray)]) Tryz.func20 nm20 rfl rfl rfl ?_)
 refine Calls.mono (eqForm_same hX236.pins (hr217.mono hle235) (hr30.mono (Pin.le_trans (Pin.le_trans (Pin.le_trans (Pin.le_trans (Pin.le_trans (Pin.le_trans (Pin.le_trans (Pin.le_trans (Pin.le_trans hle48 hx56.le) hle79) hle125) hx155.le) hle197) hx204.le) hx212.le) hx218.le) hle235))) ?_
 rintro _ w240 ⟨G239, rfl, hx241⟩
 refine ⟨_, rfl, ?_⟩
 have hX242 := hX236.tr hx241
 refine qd rfl rfl rfl (r_not rfl) ?_
 refine qd rfl rfl rfl (r_move (v := (.bool false)) rfl) ?_
 refine qdg rfl rfl rfl rfl rfl rfl (r_move (v := (.bool (goodB ns))) rfl) ?_
 refine qdg rfl rfl rfl rfl rfl rfl (r_move (v := (.bool (goodB ns))) rfl) ?_
 refine qdg rfl rfl rfl rfl rfl rfl (r_neqB_same Tryz.underlying4 rfl rfl) ?_
 refine qd rfl rfl rfl (r_pickF (v := (.bool false)) rfl rfl) ?_
 refine qe (s_then ?_)
 refine c_ifF rfl rfl ?_
 refine wp_skip ?_
 refine s_then (s_seq (c_reg ?_))
 refine qd rfl rfl rfl (r_assign (v := (.int .i64 1)) rfl) ?_
 refine qe (s_then (s_seq (c_reg ?_)))
 refine qd rfl rfl rfl (r_ldpA (cs := [u89]) ag32 sz32 rfl (fun j u hj => (Pins.of_le hX242.pins (Pin.le_trans (Pin.le_trans (Pin.le_trans (Pin.le_trans (Pin.le_trans (Pin.le_trans hx155.le hle197) hx204.le) hx212.le) hx218.le) hle235) hx241.le)) _ _ _ (hbp127 _ _ (by simpa using hj)))) ?_
 refine qd rfl rfl rfl (r_move (v := (.int .i64 1)) rfl) ?_
 refine q1 rfl rfl rfl (o_call (vs := [(.agg [u89].toArray), (.int .i64 1)]) Tryz.func26 nm26 rfl rfl rfl ?_)
 refine Calls.mono (heldFormX_spec (kz := 1) (ns := ngF ns) hX242.pins (hr199.mono (Pin.le_trans (Pin.le_trans (Pin.le_trans (Pin.le_trans hx204.le hx212.le) hx218.le) hle235) hx241.le)) (ng_small _) (by omega)) ?_
 rintro _ w244 ⟨G243, rfl, hx245⟩
 refine ⟨_, rfl, ?_⟩
 have hX246 := hX242.tr hx245
 refine qd rfl rfl rfl (r_assign (v := (.int .i64 (1 + totN (ngF ns)))) rfl) ?_
 refine qe (s_then (s_seq (s_seq (c_reg ?_))))
 refine qd rfl rfl rfl (r_move (v := (.int .i64 (1 + totN (ngF ns)))) rfl) ?_
 refine qd rfl rfl rfl (r_lss rfl rfl) ?_
 refine qe (s_then ?_)
 refine c_ifd (p := (1 + totN (ngF ns) : Int) < 0) rfl rfl (fun h => absurd h h206) (fun _ => ?_)
 refine wp_skip ?_
 refine s_then (s_seq (s_seq (c_reg ?_)))
 refine qd rfl rfl rfl (r_move (v := (.int .i64 (1 + totN (ngF ns)))) rfl) ?_
 refine qd rfl rfl rfl (r_move (v := (.int .i64 (1 + totN (ngF ns)))) rfl) ?_
 refine qd rfl rfl rfl (r_neq rfl rfl) ?_
 refine qe (s_then ?_)
 refine c_ifd (p := (1 + totN (ngF ns) : Int) ≠ (1 + totN (ngF ns))) rfl rfl (fun h => absurd h h207) (fun _ => ?_)
 refine wp_skip ?_
 refine s_then (s_seq (c_reg ?_))
 refine qd rfl rfl rfl (r_assign (v := (.bool true)) rfl) ?_
 refine qe (s_then ?_)
 refine wp_ret ?_
 refine s_ret ?_
 refine c_ret1 (v := (.bool true)) rfl rfl rfl ?_
 exact ⟨_, rfl, hX246⟩

end LN1
end Go.Proofs.YtpknebplcmgnkaaGreatDoor
