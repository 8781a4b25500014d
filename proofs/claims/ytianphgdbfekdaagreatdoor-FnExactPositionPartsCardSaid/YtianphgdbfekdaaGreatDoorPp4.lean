/- Texts of this claim in one file: PTB, PW1, PW2, RM1, RM5, PW3, RM2, RM3, PW4, PS1, PS2, PS3. -/
import Derived.Test.YtianphgdbfekdaaGreatDoorPp3
import Derived.Test.YtianphgdbfekdaaGreatDoorChecked
set_option maxRecDepth 20000
set_option maxHeartbeats 2000000
namespace Go.Proofs.YtianphgdbfekdaaGreatDoor
namespace PTB
open Go.RowKit Go.GL Go.Proofs
open PT3



theorem l1Split_spec {w : World} {G : Pin} {s : ByteArray} {c : UInt8} (hP : Pins G w) (hs : s.size ≤ 100000) :
  Calls Tryz.prog 62 [(.string s), (.int .u8 (c.toNat : Int))].toArray w fun e w' => ∃ (u : Value) (G' : Pin), e = .returned u ∧ Own eStr 9 G' w' w.heap.size u (partsB c s) ∧ Ext noS G w G' w' := by
 refine s_enter (n := 35) Tryz.func62 Tryz.ntmps62 rfl rfl ?_
 have hX0 : Ext noS G w G w := Ext.refl hP
 refine s_seq (c_reg ?_)
 refine qd rfl rfl rfl (r_assign (v := (.slice none 0 0)) rfl) (qe (s_then (s_seq (c_reg ?_))))
 refine q1 rfl rfl rfl (o_build0 (E := eStr) (e := 9) Tryz.underlying22 sz9 hX0.pins (fun u1 w2 ho3 hp4 hl5 hk6 => ?_))
 have hX7 := hX0.step hp4 hl5
 have ho8 : Own eStr 9 G w2 w.heap.size u1 ([]) := ho3.weaken hX0.size
 refine qd rfl rfl rfl (r_assign (v := u1) rfl) (qe (s_then (s_seq (c_reg ?_))))
 refine qd rfl rfl rfl (r_assign (v := (.int .i64 0)) rfl) (qe (s_then (s_seq (s_seq (c_reg ?_)))))
 refine qd rfl rfl rfl (r_assign (v := (.int .i64 0)) rfl) (qe (s_then ?_))
 refine s_blk (s_loop (fun (k : Nat) (en : Nat → Value) (W : World) => ∃ (env1 : Nat → Value) (i9 : Nat) (f9 : Nat) (ov : Value) (os : List ByteArray) (GL1 : Pin), en = (upd (upd (upd (upd (upd (upd env1 0 (.string s)) 1 (.int .u8 (c.toNat : Int))) 4 (.slice none 0 0)) 5 ov) 6 (.int .i64 (f9 : Int))) 7 (.int .i64 (i9 : Int))) ∧ k = s.size - i9 ∧ Ext noS G w GL1 W ∧ Pin.le G GL1 ∧ (i9 ≤ s.size) ∧ (SpI s c i9 f9 os) ∧ (Own eStr 9 GL1 W w.heap.size ov (os))) _ ⟨_, 0, 0, u1, [], G, (packS (x := 7) (packS (x := 6) (packS (x := 5) (packS (x := 4) (packS (x := 1) (pack1 (x := 0) rfl) rfl) rfl) rfl) rfl) rfl), rfl, hX7, Pin.le_refl _, Nat.zero_le _, spI_zero, ho8⟩ ?_)
 rintro k9 _ w10 ⟨env1, i9, f9, ov, os, GL1, rfl, hk11, hX12, hlek9, hi, hsp, hw13⟩
 have hfi := hsp.le
 have hol := hsp.len
 refine s_seq (s_seq (c_reg ?_))
 refine qd rfl rfl rfl (r_move (v := (.int .i64 (i9 : Int))) rfl) (qd rfl rfl rfl (r_move (v := (.string s)) rfl) (qd rfl rfl rfl (r_lenS Tryz.underlying9 rfl) (qd rfl rfl rfl (r_lss rfl rfl) (qe (s_then ?_)))))
 refine c_ifd (p := ((i9 : Int) : Int) < (s.size : Int)) rfl rfl (fun h14 => ?_) (fun h14 => ?_)
 refine wp_skip (s_then (s_seq ?_))
 refine s_blk (s_seq (c_reg ?_))
 refine qd rfl rfl rfl (r_move (v := (.string s)) rfl) (qd rfl rfl rfl (r_move (v := (.int .i64 (i9 : Int))) rfl) (qd rfl rfl rfl (r_idxB Tryz.underlying9 rfl rfl (by omega) (by omega)) (qd rfl rfl rfl (r_move (v := (.int .u8 (c.toNat : Int))) rfl) (qd rfl rfl rfl (r_eql rfl rfl) (qe (s_then ?_))))))
 refine c_ifd (p := (((sB s i9).toNat : Int) : Int) = (c.toNat : Int)) rfl rfl (fun h15 => ?_) (fun h15 => ?_)
 refine s_seq (c_reg ?_)
 refine qd rfl rfl rfl (r_move (v := ov) rfl) (qd rfl rfl rfl (r_move (v := (.string s)) rfl) (qd rfl rfl rfl (r_move (v := (.int .i64 (f9 : Int))) rfl) (qd rfl rfl rfl (r_move (v := (.int .i64 (i9 : Int))) rfl) ?_)))
 have hm16 : (s.extract f9 i9).size = min i9 s.size - f9 := ByteArray.size_extract
 refine qd rfl rfl rfl (r_cutB Tryz.underlying9 rfl rfl rfl (by omega) (by omega) (by omega)) (q1 rfl rfl rfl (o_buildF (E := eStr) (e := 9) [(.string (s.extract f9 i9))] [s.extract f9 i9] Tryz.underlying22 sz9 zr9 (by exact reps1 (by rfl)) (ones1 (by rfl)) rfl rfl rfl rfl (by decide) hX12.pins (fun u17 w18 ho19 hp20 hl21 hk22 => ?_)))
 have hX23 := hX12.step hp20 hl21
 have ho24 := hw13.below hl21
 have ho26 : Own eStr 9 GL1 w18 w.heap.size u17 ([s.extract f9 i9]) := ho19.weaken hX12.size
 refine q1 rfl rfl rfl (o_append (E := eStr) (v := ov) (u := u17) 16 Tryz.underlying22 ap9 (by decide) rfl rfl hX23.pins ho24 ho26.src (by first | omega | (rw [List.nil_append]; omega) | (rw [List.length_nil]; omega) | (rw [List.length_append]; omega) | (simp; done) | (simp; omega) | (simp only [List.length_cons, List.length_nil]; omega) | (simp only [List.length_append, List.length_cons, List.length_nil]; omega)) (by first | omega | (rw [List.nil_append]; omega) | (rw [List.length_nil]; omega) | (rw [List.length_append]; omega) | (simp; done) | (simp; omega) | (simp only [List.length_cons, List.length_nil]; omega) | (simp only [List.length_append, List.length_cons, List.length_nil]; omega)) (hX23.size) (fun u27 w28 ho29 hp30 hg31 hw32 => ?_))
 have hX33 := hX23.write hp30 hg31 ((lo_own ho24))
 have hm36 : (os ++ ([s.extract f9 i9])).length = os.length + 1 := List.length_append
 refine qd rfl rfl rfl (r_assign (v := u27) rfl) (qe (s_then (c_reg ?_)))
 refine qd rfl rfl rfl (r_move (v := (.int .i64 (i9 : Int))) rfl) (qd rfl rfl rfl (r_add rfl rfl (by omega)) (qd rfl rfl rfl (r_assign (v := (.int .i64 ((i9 : Int) + 1))) rfl) (qe (s_blkN (s_then (c_reg ?_))))))
 refine qd rfl rfl rfl (r_move (v := (.int .i64 (i9 : Int))) rfl) (qd rfl rfl rfl (r_add rfl rfl (by omega)) (qd rfl rfl rfl (r_assign (v := (.int .i64 ((i9 : Int) + 1))) rfl) (qe (s_lopN (⟨_, ?_, _, rfl, _, i9 + 1, i9 + 1, u27, os ++ ([s.extract f9 i9]), GL1, (packS (x := 7) (packS (x := 6) (packS (x := 5) (packS (x := 4) (packS (x := 1) (pack1 (x := 0) rfl) rfl) rfl) rfl) rfl) rfl), rfl, hX33, hlek9, (by omega), (spI_yes hsp (by omega) h15), ho29⟩)))))
 omega
 refine wp_skip (s_blkN (s_then (c_reg ?_)))
 refine qd rfl rfl rfl (r_move (v := (.int .i64 (i9 : Int))) rfl) (qd rfl rfl rfl (r_add rfl rfl (by omega)) (qd rfl rfl rfl (r_assign (v := (.int .i64 ((i9 : Int) + 1))) rfl) (qe (s_lopN (⟨_, ?_, _, rfl, _, i9 + 1, f9, ov, os, GL1, (packS (x := 7) (packS (x := 6) (packS (x := 5) (packS (x := 4) (packS (x := 1) (pack1 (x := 0) rfl) rfl) rfl) rfl) rfl) rfl), rfl, hX12, hlek9, (by omega), (spI_no hsp (by omega) h15), hw13⟩)))))
 omega
 refine wp_exit (s_thenE (s_lopE (s_blkE (s_then (s_seq (c_reg ?_))))))
 refine qd rfl rfl rfl (r_move (v := ov) rfl) (qd rfl rfl rfl (r_move (v := (.string s)) rfl) (qd rfl rfl rfl (r_move (v := (.int .i64 (f9 : Int))) rfl) ?_))
 have hm37 : (s.extract f9 s.size).size = min s.size s.size - f9 := ByteArray.size_extract
 refine qd rfl rfl rfl (r_cutL Tryz.underlying9 rfl rfl (by omega) (by omega)) (q1 rfl rfl rfl (o_buildF (E := eStr) (e := 9) [(.string (s.extract f9 s.size))] [s.extract f9 s.size] Tryz.underlying22 sz9 zr9 (by exact reps1 (by rfl)) (ones1 (by rfl)) rfl rfl rfl rfl (by decide) hX12.pins (fun u38 w39 ho40 hp41 hl42 hk43 => ?_)))
 have hX44 := hX12.step hp41 hl42
 have ho45 := hw13.below hl42
 have ho47 : Own eStr 9 GL1 w39 w.heap.size u38 ([s.extract f9 s.size]) := ho40.weaken hX12.size
 refine q1 rfl rfl rfl (o_append (E := eStr) (v := ov) (u := u38) 16 Tryz.underlying22 ap9 (by decide) rfl rfl hX44.pins ho45 ho47.src (by first | omega | (rw [List.nil_append]; omega) | (rw [List.length_nil]; omega) | (rw [List.length_append]; omega) | (simp; done) | (simp; omega) | (simp only [List.length_cons, List.length_nil]; omega) | (simp only [List.length_append, List.length_cons, List.length_nil]; omega)) (by first | omega | (rw [List.nil_append]; omega) | (rw [List.length_nil]; omega) | (rw [List.length_append]; omega) | (simp; done) | (simp; omega) | (simp only [List.length_cons, List.length_nil]; omega) | (simp only [List.length_append, List.length_cons, List.length_nil]; omega)) (hX44.size) (fun u48 w49 ho50 hp51 hg52 hw53 => ?_))
 have hX54 := hX44.write hp51 hg52 ((lo_own ho45))
 have hm57 : (os ++ ([s.extract f9 s.size])).length = os.length + 1 := List.length_append
 refine qd rfl rfl rfl (r_assign (v := u48) rfl) (qe (s_then ?_))
 exact wp_ret (s_ret (c_ret1 (v := u48) rfl rfl rfl (⟨_, _, rfl, (by rw [← spI_done hsp (by omega)]; exact ho50), hX54⟩)))

theorem l1InQ_spec {w : World} {G : Pin} {x a b : Int} (hP : Pins G w) : Calls Tryz.prog 36 [.int .i64 x, .int .i64 a, .int .i64 b].toArray w fun e w' => ∃ G', e = .returned (.bool (decide (a ≤ x ∧ x ≤ b))) ∧ Ext noS G w G' w' := by
 refine (l1In_spec hP).mono ?_
 rintro e w' ⟨rfl, rfl⟩
 exact ⟨G, rfl, Ext.refl hP⟩

end PTB
end Go.Proofs.YtianphgdbfekdaaGreatDoor

set_option maxRecDepth 20000
set_option maxHeartbeats 2000000
namespace Go.Proofs.YtianphgdbfekdaaGreatDoor
namespace PW1
open Go.RowKit Go.GL Go.Proofs
open PT3 PTB

theorem trimX_spec {w : World} {G : Pin} {s : ByteArray} {cs : List UInt8} (hP : Pins G w) (hs : s.size ≤ 1048576) (hc : cs.length ≤ 100) (ha : ∀ b ∈ cs, b.toNat < 128) :
  Calls Tryz.prog 77 [.string s, .string (⟨cs.toArray⟩ : ByteArray)].toArray w fun e w' => ∃ G', e = .returned (.string (trimM s cs)) ∧ Ext noS G w G' w' := by
 refine (Tryz.strings_Trim s _ w (by omega) (by show cs.toArray.size < _; simp; omega) (fun j b hb => ha b (by simpa using List.mem_of_getElem? hb))).mono ?_
 rintro e w' ⟨rfl, hb⟩
 exact ⟨G, by simp [trimM], (Ext.refl hP).step (hP.below hb) hb⟩

theorem splitX_spec {w : World} {G : Pin} {s p : ByteArray} (hP : Pins G w) (hM : MxG 0 G) (hs : s.size ≤ 1048576) (hp : 1 ≤ p.size) :
  Calls Tryz.prog 22 [.string s, .string p].toArray w fun e w' => ∃ (u : Value) (G' : Pin), e = .returned u ∧ Own eStr 9 G' w' w.heap.size u (Lib.splitB p 0 (Lib.countB s p) s) ∧ Ext noS G w G' w' := by
 obtain ⟨m, hm⟩ := hM
 refine (Tryz.strings_Split s p m w (by omega) (hP _ _ _ hm) hp).mono ?_
 rintro e w' ⟨rfl, rfl⟩
 have hl : (Lib.splitB p 0 (Lib.countB s p) s).length = Lib.countB s p + 1 := Lib.splitB_all p hp 0 _ s rfl
 have hcl := Lib.countB_le p hp s.size s (Nat.le_refl _)
 obtain ⟨a1, a2, a3⟩ := own_strs (e := 9) (Lib.splitB p 0 (Lib.countB s p) s) hP (by omega)
 rw [hl] at a1
 exact ⟨_, G, rfl, a1, (Ext.refl hP).step a2 a3⟩
theorem splitP_spec {w : World} {G : Pin} {s : ByteArray} {c : UInt8} (hP : Pins G w) (hM : MxG 0 G) (hs : s.size ≤ 1048576) :
  Calls Tryz.prog 22 [.string s, .string (⟨#[c]⟩ : ByteArray)].toArray w fun e w' => ∃ (u : Value) (G' : Pin), e = .returned u ∧ Own eStr 9 G' w' w.heap.size u (partsB c s) ∧ Ext noS G w G' w' := splitX_spec hP hM hs (by show 1 ≤ 1; omega)
theorem splitW_spec {w : World} {G : Pin} {s : ByteArray} (hP : Pins G w) (hM : MxG 0 G) (hs : s.size ≤ 1048576) :
  Calls Tryz.prog 22 [.string s, .string psB3].toArray w fun e w' => ∃ (u : Value) (G' : Pin), e = .returned u ∧ Own eStr 9 G' w' w.heap.size u (wordsP s) ∧ Ext noS G w G' w' := splitX_spec hP hM hs (by decide)

theorem joinX_spec {w : World} {G : Pin} {v : Value} {xs : List ByteArray} {p : ByteArray} (hP : Pins G w) (hv : RSl eStr G v xs) (hs : (Lib.join (xs.map (·.data.toList)) p.data.toList).length ≤ 140737488355328 ∧ xs.length ≤ 1048576) :
  Calls Tryz.prog 61 [v, .string p].toArray w fun e w' => e = .returned (.string (⟨(Lib.join (xs.map (·.data.toList)) p.data.toList).toArray⟩ : ByteArray)) ∧ Ext noS G w G w' := by
 have hX : Ext noS G w G w := Ext.refl hP
 match xs, hv, hs with
 | [], hv, _ =>
  obtain ⟨a, k, rfl, _⟩ := hv.sl
  refine (Tryz.strings_Join_none a k _ w).mono ?_
  rintro e w' ⟨rfl, rfl⟩
  exact ⟨rfl, hX⟩
 | x :: r, hv, hs =>
  obtain ⟨b, o, k, rfl, hc, hb, hcells⟩ := hv.strs hP (by simp)
  refine (Tryz.strings_Join b o k (x :: r) _ w hcells hb (by omega) hc hs.1).mono ?_
  rintro e w' ⟨rfl, hbl⟩
  exact ⟨rfl, hX.step (hP.below hbl) hbl⟩
theorem joinC_spec {w : World} {G : Pin} {v : Value} {xs : List ByteArray} {c : UInt8} (hP : Pins G w) (hv : RSl eStr G v xs) (hs : (joinC c xs).size ≤ 100000 ∧ xs.length ≤ 1048576) :
  Calls Tryz.prog 61 [v, .string (⟨#[c]⟩ : ByteArray)].toArray w fun e w' => e = .returned (.string (joinC c xs)) ∧ Ext noS G w G w' :=
 joinX_spec hP hv ⟨by have h : (Lib.join (xs.map (·.data.toList)) [c]).length = _ := ba_size (joinC c xs); have := hs.1; exact Nat.le_trans (Nat.le_of_eq h) (by omega), hs.2⟩
theorem countX_spec {w : World} {G : Pin} {t : ByteArray} (hP : Pins G w) :
  Calls Tryz.prog 45 [.string t, .string (⟨#[46]⟩ : ByteArray)].toArray w fun e w' => e = .returned (.int .i64 (dotN t)) ∧ w' = w := by
 refine (Tryz.strings_Count_one t 46 w).mono ?_
 rintro e w' ⟨rfl, rfl⟩
 exact ⟨rfl, rfl⟩
theorem cutX_spec {w : World} {G : Pin} {s : ByteArray} (hP : Pins G w) (hM : MxG 0 G) (hs : s.size ≤ 1048576) :
  Calls Tryz.prog 23 [.string s, .string spB].toArray w fun e w' => ∃ G', e = .returned (.tuple #[.string (cutA 32 s), .string (cutZ 32 s), .bool (cutY 32 s)]) ∧ Ext noS G w G' w' := by
 obtain ⟨m, hm⟩ := hM
 refine (Tryz.strings_Cut s _ m w (by omega) (hP _ _ _ hm)).mono ?_
 rintro e w' ⟨rfl, n, rfl⟩
 exact ⟨G, rfl, (Ext.refl hP).step (hP.below (drewN_bel w n)) (drewN_bel w n)⟩
end PW1
end Go.Proofs.YtianphgdbfekdaaGreatDoor

set_option maxRecDepth 20000
set_option maxHeartbeats 2000000
namespace Go.Proofs.YtianphgdbfekdaaGreatDoor
namespace PW2
open Go.RowKit Go.GL Go.Proofs
open PT3 PTB PW1




theorem iGoodStrip_spec {w : World} {G : Pin} {kd : Int} {s : ByteArray} (hP : Pins G w) :
  Calls Tryz.prog 49 [(.int .i64 kd), (.string s)].toArray w fun e w' => ∃ G', e = .returned (.bool (gsB kd s)) ∧ Ext noS G w G' w' := by
 refine s_enter (n := 24) Tryz.func49 Tryz.ntmps49 rfl rfl ?_
 have hX0 : Ext noS G w G w := Ext.refl hP
 refine s_seq (c_reg ?_)
 refine qd rfl rfl rfl (r_assign (v := (.bool false)) rfl) (qe (s_then (s_seq (s_seq (c_reg ?_)))))
 refine qd rfl rfl rfl (r_move (v := (.int .i64 kd)) rfl) (qd rfl rfl rfl (r_lss rfl rfl) (qd rfl rfl rfl (r_move (v := (.bool (decide ((kd : Int) < 0)))) rfl) (qbd (p := (kd : Int) < 0) (t := 7) rfl (fun h1 => ?_) (fun h1 => ?_))))
 refine qs rfl rfl rfl rfl rfl rfl (qs rfl rfl rfl rfl rfl rfl (qd rfl rfl rfl (r_pickT (v := (.bool true)) rfl rfl) (qd rfl rfl rfl (r_move (v := (.bool true)) rfl) (qs rfl rfl rfl rfl rfl rfl (qs rfl rfl rfl rfl rfl rfl (qs rfl rfl rfl rfl rfl rfl (qd rfl rfl rfl (r_pickT (v := (.bool true)) rfl rfl) (qe (s_then ?_)))))))))
 refine c_ifT rfl rfl (s_seq (c_reg ?_))
 refine qd rfl rfl rfl (r_assign (v := (.bool false)) rfl) (qe (s_then ?_))
 exact wp_ret (s_ret (c_ret1 (v := (.bool false)) rfl rfl rfl (⟨_, congrArg (fun z => Ending.returned (Value.bool z)) (gs_no (fun g => by have := g.kd; have := g.sz; omega)), hX0⟩)))
 refine qdg rfl rfl rfl rfl rfl rfl (r_move (v := (.int .i64 kd)) rfl) (qdg rfl rfl rfl rfl rfl rfl (r_gtr rfl rfl) (qd rfl rfl rfl (r_pickF (v := (.bool (decide ((3 : Int) < kd)))) rfl rfl) (qd rfl rfl rfl (r_move (v := (.bool (decide ((3 : Int) < kd)))) rfl) (qbd (p := (3 : Int) < kd) (t := 11) rfl (fun h2 => ?_) (fun h2 => ?_)))))
 refine qs rfl rfl rfl rfl rfl rfl (qs rfl rfl rfl rfl rfl rfl (qs rfl rfl rfl rfl rfl rfl (qd rfl rfl rfl (r_pickT (v := (.bool true)) rfl rfl) (qe (s_then ?_)))))
 refine c_ifT rfl rfl (s_seq (c_reg ?_))
 refine qd rfl rfl rfl (r_assign (v := (.bool false)) rfl) (qe (s_then ?_))
 exact wp_ret (s_ret (c_ret1 (v := (.bool false)) rfl rfl rfl (⟨_, congrArg (fun z => Ending.returned (Value.bool z)) (gs_no (fun g => by have := g.kd; have := g.sz; omega)), hX0⟩)))
 refine qdg rfl rfl rfl rfl rfl rfl (r_move (v := (.string s)) rfl) (qdg rfl rfl rfl rfl rfl rfl (r_lenS Tryz.underlying9 rfl) (qdg rfl rfl rfl rfl rfl rfl (r_gtr rfl rfl) (qd rfl rfl rfl (r_pickF (v := (.bool (decide ((12 : Int) < (s.size : Int))))) rfl rfl) (qe (s_then ?_)))))
 refine c_ifd (p := (12 : Int) < (s.size : Int)) rfl rfl (fun h3 => ?_) (fun h3 => ?_)
 refine s_seq (c_reg ?_)
 refine qd rfl rfl rfl (r_assign (v := (.bool false)) rfl) (qe (s_then ?_))
 exact wp_ret (s_ret (c_ret1 (v := (.bool false)) rfl rfl rfl (⟨_, congrArg (fun z => Ending.returned (Value.bool z)) (gs_no (fun g => by have := g.kd; have := g.sz; omega)), hX0⟩)))
 refine wp_skip (s_then (s_seq (s_seq (c_reg ?_))))
 refine qd rfl rfl rfl (r_move (v := (.int .i64 kd)) rfl) (qd rfl rfl rfl (r_eql rfl rfl) (qe (s_then ?_)))
 refine c_ifd (p := (kd : Int) = 0) rfl rfl (fun h4 => ?_) (fun h4 => ?_)
 refine s_seq (c_reg ?_)
 refine qd rfl rfl rfl (r_move (v := (.string s)) rfl) (q1 rfl rfl rfl (o_call (vs := [(.string s), (.string (⟨#[84, 70, 46]⟩ : ByteArray))]) Tryz.func77 nm77 rfl rfl rfl ?_))
 refine Calls.mono (trimX_spec (s := s) (cs := [84, 70, 46]) hX0.pins (by omega) (by decide) (by decide)) ?_
 rintro _ w6 ⟨G5, rfl, hx7⟩
 refine ⟨_, rfl, ?_⟩
 have hX8 := hX0.tr hx7
 refine qd rfl rfl rfl (r_eqlS rfl rfl) (qd rfl rfl rfl (r_assign (v := (.bool ((trimM s [84, 70, 46]).toList == (⟨#[]⟩ : ByteArray).toList))) rfl) (qe (s_then ?_)))
 exact wp_ret (s_ret (c_ret1 (v := (.bool ((trimM s [84, 70, 46]).toList == (⟨#[]⟩ : ByteArray).toList))) rfl rfl rfl (⟨_, congrArg (fun z => Ending.returned (Value.bool z)) (gs_trim (by omega) (by omega) (stpC_T h4)), hX8⟩)))
 refine wp_skip (s_then (s_seq (c_reg ?_)))
 refine qd rfl rfl rfl (r_move (v := (.string s)) rfl) (q1 rfl rfl rfl (o_call (vs := [(.string s), (.string (⟨#[76, 82, 46]⟩ : ByteArray))]) Tryz.func77 nm77 rfl rfl rfl ?_))
 refine Calls.mono (trimX_spec (s := s) (cs := [76, 82, 46]) hX0.pins (by omega) (by decide) (by decide)) ?_
 rintro _ w10 ⟨G9, rfl, hx11⟩
 refine ⟨_, rfl, ?_⟩
 have hX12 := hX0.tr hx11
 refine qd rfl rfl rfl (r_eqlS rfl rfl) (qd rfl rfl rfl (r_assign (v := (.bool ((trimM s [76, 82, 46]).toList == (⟨#[]⟩ : ByteArray).toList))) rfl) (qe (s_then ?_)))
 exact wp_ret (s_ret (c_ret1 (v := (.bool ((trimM s [76, 82, 46]).toList == (⟨#[]⟩ : ByteArray).toList))) rfl rfl rfl (⟨_, congrArg (fun z => Ending.returned (Value.bool z)) (gs_trim (by omega) (by omega) (stpC_L h4)), hX12⟩)))

theorem sGoodStrip_spec {w : World} {G : Pin} {kd : Int} {s : ByteArray} (hP : Pins G w) :
  Calls Tryz.prog 31 [(.int .i64 kd), (.string s)].toArray w fun e w' => ∃ G', e = .returned (.bool (gsB kd s)) ∧ Ext noS G w G' w' := by
 refine s_enter (n := 55) Tryz.func31 Tryz.ntmps31 rfl rfl ?_
 have hX0 : Ext noS G w G w := Ext.refl hP
 refine s_seq (c_reg ?_)
 refine qd rfl rfl rfl (r_assign (v := (.bool false)) rfl) (qe (s_then (s_seq (s_seq (c_reg ?_)))))
 refine qd rfl rfl rfl (r_move (v := (.int .i64 kd)) rfl) (q1 rfl rfl rfl (o_call (vs := [(.int .i64 kd), (.int .i64 0), (.int .i64 3)]) Tryz.func36 nm36 rfl rfl rfl ?_))
 refine Calls.mono (l1InQ_spec hX0.pins) ?_
 rintro _ w2 ⟨G1, rfl, hx3⟩
 refine ⟨_, rfl, ?_⟩
 have hX4 := hX0.tr hx3
 refine qd rfl rfl rfl (r_not rfl) (qd rfl rfl rfl (r_move (v := (.bool (!(decide ((0 : Int) ≤ kd ∧ (kd : Int) ≤ 3))))) rfl) (qbn (t := 10) rfl (fun h5 => ?_) (fun h5 => ?_)))
 replace h5 := of_decide_eq_true h5
 refine qdg rfl rfl rfl rfl rfl rfl (r_move (v := (.string s)) rfl) (qdg rfl rfl rfl rfl rfl rfl (r_lenS Tryz.underlying9 rfl) (qdg rfl rfl rfl rfl rfl rfl (r_gtr rfl rfl) (qd rfl rfl rfl (r_pickF (v := (.bool (decide ((12 : Int) < (s.size : Int))))) rfl rfl) (qe (s_then ?_)))))
 refine c_ifd (p := (12 : Int) < (s.size : Int)) rfl rfl (fun h6 => ?_) (fun h6 => ?_)
 refine s_seq (c_reg ?_)
 refine qd rfl rfl rfl (r_assign (v := (.bool false)) rfl) (qe (s_then ?_))
 exact wp_ret (s_ret (c_ret1 (v := (.bool false)) rfl rfl rfl (⟨_, congrArg (fun z => Ending.returned (Value.bool z)) (gs_no (fun g => by have := g.kd; have := g.sz; omega)), hX4⟩)))
 refine wp_skip (s_then (s_seq (s_seq (c_reg ?_))))
 refine qd rfl rfl rfl (r_assign (v := (.int .i64 0)) rfl) (qe (s_then ?_))
 refine s_blk (s_loop (fun (k : Nat) (en : Nat → Value) (W : World) => ∃ (env1 : Nat → Value) (i9 : Nat) (GL1 : Pin), en = (upd (upd (upd env1 0 (.int .i64 kd)) 1 (.string s)) 5 (.int .i64 (i9 : Int))) ∧ k = s.size - i9 ∧ Ext noS G w GL1 W ∧ Pin.le G1 GL1 ∧ (i9 ≤ s.size) ∧ (∀ i, i < i9 → sB s i ∈ stpC kd)) _ ⟨_, 0, G1, (packS (x := 5) (packS (x := 1) (pack1 (x := 0) rfl) rfl) rfl), rfl, hX4, Pin.le_refl _, Nat.zero_le _, all_none⟩ ?_)
 rintro k7 _ w8 ⟨env1, i9, GL1, rfl, hk9, hX10, hlek7, hi, hst⟩
 refine s_seq (s_seq (c_reg ?_))
 refine qd rfl rfl rfl (r_move (v := (.int .i64 (i9 : Int))) rfl) (qd rfl rfl rfl (r_move (v := (.string s)) rfl) (qd rfl rfl rfl (r_lenS Tryz.underlying9 rfl) (qd rfl rfl rfl (r_lss rfl rfl) (qe (s_then ?_)))))
 refine c_ifd (p := ((i9 : Int) : Int) < (s.size : Int)) rfl rfl (fun h11 => ?_) (fun h11 => ?_)
 refine wp_skip (s_then (s_seq ?_))
 refine s_blk (s_seq (c_reg ?_))
 refine qd rfl rfl rfl (r_move (v := (.string s)) rfl) (qd rfl rfl rfl (r_move (v := (.int .i64 (i9 : Int))) rfl) (qd rfl rfl rfl (r_idxB Tryz.underlying9 rfl rfl (by omega) (by omega)) (qd rfl rfl rfl (r_eql rfl rfl) (qd rfl rfl rfl (r_assign (v := (.bool (decide ((((sB s i9).toNat : Int) : Int) = 46)))) rfl) (qe (s_then (s_seq (s_seq (c_reg ?_)))))))))
 refine qd rfl rfl rfl (r_move (v := (.int .i64 kd)) rfl) (qd rfl rfl rfl (r_eql rfl rfl) (qe (s_then ?_)))
 refine c_ifd (p := (kd : Int) = 0) rfl rfl (fun h12 => ?_) (fun h12 => ?_)
 refine c_reg (qd rfl rfl rfl (r_move (v := (.bool (decide ((((sB s i9).toNat : Int) : Int) = 46)))) rfl) (qd rfl rfl rfl (r_move (v := (.bool (decide ((((sB s i9).toNat : Int) : Int) = 46)))) rfl) (qbd (p := (((sB s i9).toNat : Int) : Int) = 46) (t := 28) rfl (fun h13 => ?_) (fun h13 => ?_))))
 refine qs rfl rfl rfl rfl rfl rfl (qs rfl rfl rfl rfl rfl rfl (qs rfl rfl rfl rfl rfl rfl (qs rfl rfl rfl rfl rfl rfl (qd rfl rfl rfl (r_pickT (v := (.bool true)) rfl rfl) (qd rfl rfl rfl (r_move (v := (.bool true)) rfl) (qs rfl rfl rfl rfl rfl rfl (qs rfl rfl rfl rfl rfl rfl (qs rfl rfl rfl rfl rfl rfl (qs rfl rfl rfl rfl rfl rfl (qd rfl rfl rfl (r_pickT (v := (.bool true)) rfl rfl) (qd rfl rfl rfl (r_assign (v := (.bool true)) rfl) (qe (s_then (s_seq (c_reg ?_)))))))))))))))
 refine qd rfl rfl rfl (r_move (v := (.bool true)) rfl) (qd rfl rfl rfl (r_not rfl) (qe (s_then ?_)))
 refine c_ifF rfl rfl (wp_skip (s_blkN (s_then (c_reg ?_))))
 refine qd rfl rfl rfl (r_move (v := (.int .i64 (i9 : Int))) rfl) (qd rfl rfl rfl (r_add rfl rfl (by omega)) (qd rfl rfl rfl (r_assign (v := (.int .i64 ((i9 : Int) + 1))) rfl) (qe (s_lopN (⟨_, ?_, _, rfl, _, i9 + 1, GL1, (packS (x := 5) (packS (x := 1) (pack1 (x := 0) rfl) rfl) rfl), rfl, hX10, hlek7, (by omega), (all_next hst ((stp_T h12).2 (by omega)))⟩)))))
 omega
 refine qdg rfl rfl rfl rfl rfl rfl (r_move (v := (.string s)) rfl) (qdg rfl rfl rfl rfl rfl rfl (r_move (v := (.int .i64 (i9 : Int))) rfl) (qdg rfl rfl rfl rfl rfl rfl (r_idxB Tryz.underlying9 rfl rfl (by omega) (by omega)) (qdg rfl rfl rfl rfl rfl rfl (r_eql rfl rfl) (qd rfl rfl rfl (r_pickF (v := (.bool (decide ((((sB s i9).toNat : Int) : Int) = 84)))) rfl rfl) (qd rfl rfl rfl (r_move (v := (.bool (decide ((((sB s i9).toNat : Int) : Int) = 84)))) rfl) (qbd (p := (((sB s i9).toNat : Int) : Int) = 84) (t := 34) rfl (fun h14 => ?_) (fun h14 => ?_)))))))
 refine qs rfl rfl rfl rfl rfl rfl (qs rfl rfl rfl rfl rfl rfl (qs rfl rfl rfl rfl rfl rfl (qs rfl rfl rfl rfl rfl rfl (qd rfl rfl rfl (r_pickT (v := (.bool true)) rfl rfl) (qd rfl rfl rfl (r_assign (v := (.bool true)) rfl) (qe (s_then (s_seq (c_reg ?_)))))))))
 refine qd rfl rfl rfl (r_move (v := (.bool true)) rfl) (qd rfl rfl rfl (r_not rfl) (qe (s_then ?_)))
 refine c_ifF rfl rfl (wp_skip (s_blkN (s_then (c_reg ?_))))
 refine qd rfl rfl rfl (r_move (v := (.int .i64 (i9 : Int))) rfl) (qd rfl rfl rfl (r_add rfl rfl (by omega)) (qd rfl rfl rfl (r_assign (v := (.int .i64 ((i9 : Int) + 1))) rfl) (qe (s_lopN (⟨_, ?_, _, rfl, _, i9 + 1, GL1, (packS (x := 5) (packS (x := 1) (pack1 (x := 0) rfl) rfl) rfl), rfl, hX10, hlek7, (by omega), (all_next hst ((stp_T h12).2 (by omega)))⟩)))))
 omega
 refine qdg rfl rfl rfl rfl rfl rfl (r_move (v := (.string s)) rfl) (qdg rfl rfl rfl rfl rfl rfl (r_move (v := (.int .i64 (i9 : Int))) rfl) (qdg rfl rfl rfl rfl rfl rfl (r_idxB Tryz.underlying9 rfl rfl (by omega) (by omega)) (qdg rfl rfl rfl rfl rfl rfl (r_eql rfl rfl) (qd rfl rfl rfl (r_pickF (v := (.bool (decide ((((sB s i9).toNat : Int) : Int) = 70)))) rfl rfl) (qd rfl rfl rfl (r_assign (v := (.bool (decide ((((sB s i9).toNat : Int) : Int) = 70)))) rfl) (qe (s_then (s_seq (c_reg ?_)))))))))
 refine qd rfl rfl rfl (r_move (v := (.bool (decide ((((sB s i9).toNat : Int) : Int) = 70)))) rfl) (qd rfl rfl rfl (r_not rfl) (qe (s_then ?_)))
 refine c_ifn rfl rfl (fun h15 => ?_) (fun h15 => ?_)
 replace h15 := of_decide_eq_true h15
 refine wp_skip (s_blkN (s_then (c_reg ?_)))
 refine qd rfl rfl rfl (r_move (v := (.int .i64 (i9 : Int))) rfl) (qd rfl rfl rfl (r_add rfl rfl (by omega)) (qd rfl rfl rfl (r_assign (v := (.int .i64 ((i9 : Int) + 1))) rfl) (qe (s_lopN (⟨_, ?_, _, rfl, _, i9 + 1, GL1, (packS (x := 5) (packS (x := 1) (pack1 (x := 0) rfl) rfl) rfl), rfl, hX10, hlek7, (by omega), (all_next hst ((stp_T h12).2 (by omega)))⟩)))))
 omega
 replace h15 := of_decide_eq_false h15
 refine s_seq (c_reg ?_)
 refine qd rfl rfl rfl (r_assign (v := (.bool false)) rfl) (qe (s_then ?_))
 exact wp_ret (s_ret (c_ret1 (v := (.bool false)) rfl rfl rfl (⟨_, congrArg (fun z => Ending.returned (Value.bool z)) (gs_no (fun g => by have h9 := (stp_T h12).1 (g.ch i9 (by omega)); omega)), hX10⟩)))
 refine c_reg (qd rfl rfl rfl (r_move (v := (.bool (decide ((((sB s i9).toNat : Int) : Int) = 46)))) rfl) (qd rfl rfl rfl (r_move (v := (.bool (decide ((((sB s i9).toNat : Int) : Int) = 46)))) rfl) (qbd (p := (((sB s i9).toNat : Int) : Int) = 46) (t := 41) rfl (fun h16 => ?_) (fun h16 => ?_))))
 refine qs rfl rfl rfl rfl rfl rfl (qs rfl rfl rfl rfl rfl rfl (qs rfl rfl rfl rfl rfl rfl (qs rfl rfl rfl rfl rfl rfl (qd rfl rfl rfl (r_pickT (v := (.bool true)) rfl rfl) (qd rfl rfl rfl (r_move (v := (.bool true)) rfl) (qs rfl rfl rfl rfl rfl rfl (qs rfl rfl rfl rfl rfl rfl (qs rfl rfl rfl rfl rfl rfl (qs rfl rfl rfl rfl rfl rfl (qd rfl rfl rfl (r_pickT (v := (.bool true)) rfl rfl) (qd rfl rfl rfl (r_assign (v := (.bool true)) rfl) (qe (s_then (s_seq (c_reg ?_)))))))))))))))
 refine qd rfl rfl rfl (r_move (v := (.bool true)) rfl) (qd rfl rfl rfl (r_not rfl) (qe (s_then ?_)))
 refine c_ifF rfl rfl (wp_skip (s_blkN (s_then (c_reg ?_))))
 refine qd rfl rfl rfl (r_move (v := (.int .i64 (i9 : Int))) rfl) (qd rfl rfl rfl (r_add rfl rfl (by omega)) (qd rfl rfl rfl (r_assign (v := (.int .i64 ((i9 : Int) + 1))) rfl) (qe (s_lopN (⟨_, ?_, _, rfl, _, i9 + 1, GL1, (packS (x := 5) (packS (x := 1) (pack1 (x := 0) rfl) rfl) rfl), rfl, hX10, hlek7, (by omega), (all_next hst ((stp_L h12).2 (by omega)))⟩)))))
 omega
 refine qdg rfl rfl rfl rfl rfl rfl (r_move (v := (.string s)) rfl) (qdg rfl rfl rfl rfl rfl rfl (r_move (v := (.int .i64 (i9 : Int))) rfl) (qdg rfl rfl rfl rfl rfl rfl (r_idxB Tryz.underlying9 rfl rfl (by omega) (by omega)) (qdg rfl rfl rfl rfl rfl rfl (r_eql rfl rfl) (qd rfl rfl rfl (r_pickF (v := (.bool (decide ((((sB s i9).toNat : Int) : Int) = 76)))) rfl rfl) (qd rfl rfl rfl (r_move (v := (.bool (decide ((((sB s i9).toNat : Int) : Int) = 76)))) rfl) (qbd (p := (((sB s i9).toNat : Int) : Int) = 76) (t := 47) rfl (fun h17 => ?_) (fun h17 => ?_)))))))
 refine qs rfl rfl rfl rfl rfl rfl (qs rfl rfl rfl rfl rfl rfl (qs rfl rfl rfl rfl rfl rfl (qs rfl rfl rfl rfl rfl rfl (qd rfl rfl rfl (r_pickT (v := (.bool true)) rfl rfl) (qd rfl rfl rfl (r_assign (v := (.bool true)) rfl) (qe (s_then (s_seq (c_reg ?_)))))))))
 refine qd rfl rfl rfl (r_move (v := (.bool true)) rfl) (qd rfl rfl rfl (r_not rfl) (qe (s_then ?_)))
 refine c_ifF rfl rfl (wp_skip (s_blkN (s_then (c_reg ?_))))
 refine qd rfl rfl rfl (r_move (v := (.int .i64 (i9 : Int))) rfl) (qd rfl rfl rfl (r_add rfl rfl (by omega)) (qd rfl rfl rfl (r_assign (v := (.int .i64 ((i9 : Int) + 1))) rfl) (qe (s_lopN (⟨_, ?_, _, rfl, _, i9 + 1, GL1, (packS (x := 5) (packS (x := 1) (pack1 (x := 0) rfl) rfl) rfl), rfl, hX10, hlek7, (by omega), (all_next hst ((stp_L h12).2 (by omega)))⟩)))))
 omega
 refine qdg rfl rfl rfl rfl rfl rfl (r_move (v := (.string s)) rfl) (qdg rfl rfl rfl rfl rfl rfl (r_move (v := (.int .i64 (i9 : Int))) rfl) (qdg rfl rfl rfl rfl rfl rfl (r_idxB Tryz.underlying9 rfl rfl (by omega) (by omega)) (qdg rfl rfl rfl rfl rfl rfl (r_eql rfl rfl) (qd rfl rfl rfl (r_pickF (v := (.bool (decide ((((sB s i9).toNat : Int) : Int) = 82)))) rfl rfl) (qd rfl rfl rfl (r_assign (v := (.bool (decide ((((sB s i9).toNat : Int) : Int) = 82)))) rfl) (qe (s_then (s_seq (c_reg ?_)))))))))
 refine qd rfl rfl rfl (r_move (v := (.bool (decide ((((sB s i9).toNat : Int) : Int) = 82)))) rfl) (qd rfl rfl rfl (r_not rfl) (qe (s_then ?_)))
 refine c_ifn rfl rfl (fun h18 => ?_) (fun h18 => ?_)
 replace h18 := of_decide_eq_true h18
 refine wp_skip (s_blkN (s_then (c_reg ?_)))
 refine qd rfl rfl rfl (r_move (v := (.int .i64 (i9 : Int))) rfl) (qd rfl rfl rfl (r_add rfl rfl (by omega)) (qd rfl rfl rfl (r_assign (v := (.int .i64 ((i9 : Int) + 1))) rfl) (qe (s_lopN (⟨_, ?_, _, rfl, _, i9 + 1, GL1, (packS (x := 5) (packS (x := 1) (pack1 (x := 0) rfl) rfl) rfl), rfl, hX10, hlek7, (by omega), (all_next hst ((stp_L h12).2 (by omega)))⟩)))))
 omega
 replace h18 := of_decide_eq_false h18
 refine s_seq (c_reg ?_)
 refine qd rfl rfl rfl (r_assign (v := (.bool false)) rfl) (qe (s_then ?_))
 exact wp_ret (s_ret (c_ret1 (v := (.bool false)) rfl rfl rfl (⟨_, congrArg (fun z => Ending.returned (Value.bool z)) (gs_no (fun g => by have h9 := (stp_L h12).1 (g.ch i9 (by omega)); omega)), hX10⟩)))
 refine wp_exit (s_thenE (s_lopE (s_blkE (s_then (s_seq (c_reg ?_))))))
 refine qd rfl rfl rfl (r_assign (v := (.bool true)) rfl) (qe (s_then ?_))
 exact wp_ret (s_ret (c_ret1 (v := (.bool true)) rfl rfl rfl (⟨_, congrArg (fun z => Ending.returned (Value.bool z)) (gs_yes ⟨by omega, by omega, fun i hi => hst i (by omega)⟩), hX10⟩)))
 replace h5 := of_decide_eq_false h5
 refine qs rfl rfl rfl rfl rfl rfl (qs rfl rfl rfl rfl rfl rfl (qs rfl rfl rfl rfl rfl rfl (qd rfl rfl rfl (r_pickT (v := (.bool true)) rfl rfl) (qe (s_then ?_)))))
 refine c_ifT rfl rfl (s_seq (c_reg ?_))
 refine qd rfl rfl rfl (r_assign (v := (.bool false)) rfl) (qe (s_then ?_))
 exact wp_ret (s_ret (c_ret1 (v := (.bool false)) rfl rfl rfl (⟨_, congrArg (fun z => Ending.returned (Value.bool z)) (gs_no (fun g => by have := g.kd; have := g.sz; omega)), hX4⟩)))

theorem areMarks_spec {w : World} {G : Pin} {s : ByteArray} (hP : Pins G w) (hs : s.size ≤ 1048576) :
  Calls Tryz.prog 46 [(.string s)].toArray w fun e w' => ∃ G', e = .returned (.bool (mkB s)) ∧ Ext noS G w G' w' := by
 refine s_enter (n := 6) Tryz.func46 Tryz.ntmps46 rfl rfl ?_
 have hX0 : Ext noS G w G w := Ext.refl hP
 refine s_seq (c_reg ?_)
 refine qd rfl rfl rfl (r_assign (v := (.bool false)) rfl) (qe (s_then (s_seq (c_reg ?_))))
 refine qd rfl rfl rfl (r_move (v := (.string s)) rfl) (q1 rfl rfl rfl (o_call (vs := [(.string s), (.string (⟨#[76, 82]⟩ : ByteArray))]) Tryz.func77 nm77 rfl rfl rfl ?_))
 refine Calls.mono (trimX_spec (s := s) (cs := [76, 82]) hX0.pins (by omega) (by decide) (by decide)) ?_
 rintro _ w2 ⟨G1, rfl, hx3⟩
 refine ⟨_, rfl, ?_⟩
 have hX4 := hX0.tr hx3
 refine qd rfl rfl rfl (r_eqlS rfl rfl) (qd rfl rfl rfl (r_assign (v := (.bool ((trimM s [76, 82]).toList == (⟨#[]⟩ : ByteArray).toList))) rfl) (qe (s_then ?_)))
 exact wp_ret (s_ret (c_ret1 (v := (.bool ((trimM s [76, 82]).toList == (⟨#[]⟩ : ByteArray).toList))) rfl rfl rfl (⟨_, congrArg (fun z => Ending.returned (Value.bool z)) mk_trim, hX4⟩)))

theorem l22Signs_spec {w : World} {G : Pin} {s : ByteArray} {m : Int} (hP : Pins G w) (hs : s.size ≤ 1048576) :
  Calls Tryz.prog 34 [(.string s), (.int .i64 m)].toArray w fun e w' => ∃ G', e = .returned (.bool (decP (SmP s m))) ∧ Ext noS G w G' w' := by
 refine s_enter (n := 26) Tryz.func34 Tryz.ntmps34 rfl rfl ?_
 have hX0 : Ext noS G w G w := Ext.refl hP
 refine s_seq (c_reg ?_)
 refine qd rfl rfl rfl (r_assign (v := (.bool false)) rfl) (qe (s_then (s_seq (s_seq (c_reg ?_)))))
 refine qd rfl rfl rfl (r_assign (v := (.int .i64 0)) rfl) (qe (s_then ?_))
 refine s_blk (s_loop (fun (k : Nat) (en : Nat → Value) (W : World) => ∃ (env1 : Nat → Value) (i9 : Nat) (GL1 : Pin), en = (upd (upd (upd env1 0 (.string s)) 1 (.int .i64 m)) 5 (.int .i64 (i9 : Int))) ∧ k = s.size - i9 ∧ Ext noS G w GL1 W ∧ Pin.le G GL1 ∧ (i9 ≤ s.size) ∧ (∀ i, i < i9 → sB s i ∈ ([76, 82] : List UInt8))) _ ⟨_, 0, G, (packS (x := 5) (packS (x := 1) (pack1 (x := 0) rfl) rfl) rfl), rfl, hX0, Pin.le_refl _, Nat.zero_le _, all_none⟩ ?_)
 rintro k1 _ w2 ⟨env1, i9, GL1, rfl, hk3, hX4, hlek1, hi, hst⟩
 refine s_seq (s_seq (c_reg ?_))
 refine qd rfl rfl rfl (r_move (v := (.int .i64 (i9 : Int))) rfl) (qd rfl rfl rfl (r_move (v := (.string s)) rfl) (qd rfl rfl rfl (r_lenS Tryz.underlying9 rfl) (qd rfl rfl rfl (r_lss rfl rfl) (qe (s_then ?_)))))
 refine c_ifd (p := ((i9 : Int) : Int) < (s.size : Int)) rfl rfl (fun h5 => ?_) (fun h5 => ?_)
 refine wp_skip (s_then (s_seq ?_))
 refine s_blk (s_seq (c_reg ?_))
 refine qd rfl rfl rfl (r_move (v := (.string s)) rfl) (qd rfl rfl rfl (r_move (v := (.int .i64 (i9 : Int))) rfl) (qd rfl rfl rfl (r_idxB Tryz.underlying9 rfl rfl (by omega) (by omega)) (qd rfl rfl rfl (r_neq rfl rfl) (qd rfl rfl rfl (r_move (v := (.bool (decide ((((sB s i9).toNat : Int) : Int) ≠ 76)))) rfl) (qbd (p := (((sB s i9).toNat : Int) : Int) ≠ 76) (t := 16) rfl (fun h6 => ?_) (fun h6 => ?_))))))
 refine qdg rfl rfl rfl rfl rfl rfl (r_move (v := (.string s)) rfl) (qdg rfl rfl rfl rfl rfl rfl (r_move (v := (.int .i64 (i9 : Int))) rfl) (qdg rfl rfl rfl rfl rfl rfl (r_idxB Tryz.underlying9 rfl rfl (by omega) (by omega)) (qdg rfl rfl rfl rfl rfl rfl (r_neq rfl rfl) (qd rfl rfl rfl (r_pickT (v := (.bool (decide ((((sB s i9).toNat : Int) : Int) ≠ 82)))) rfl rfl) (qe (s_then ?_))))))
 refine c_ifd (p := (((sB s i9).toNat : Int) : Int) ≠ 82) rfl rfl (fun h7 => ?_) (fun h7 => ?_)
 refine s_seq (c_reg ?_)
 refine qd rfl rfl rfl (r_assign (v := (.bool false)) rfl) (qe (s_then ?_))
 exact wp_ret (s_ret (c_ret1 (v := (.bool false)) rfl rfl rfl (⟨_, congrArg (fun z => Ending.returned (Value.bool z)) (decP_false.2 (fun g => by have h9 := mk_in.1 (g.1 i9 (by omega)); omega)).symm, hX4⟩)))
 refine wp_skip (s_blkN (s_then (c_reg ?_)))
 refine qd rfl rfl rfl (r_move (v := (.int .i64 (i9 : Int))) rfl) (qd rfl rfl rfl (r_add rfl rfl (by omega)) (qd rfl rfl rfl (r_assign (v := (.int .i64 ((i9 : Int) + 1))) rfl) (qe (s_lopN (⟨_, ?_, _, rfl, _, i9 + 1, GL1, (packS (x := 5) (packS (x := 1) (pack1 (x := 0) rfl) rfl) rfl), rfl, hX4, hlek1, (by omega), (all_next hst (mk_in.2 (by omega)))⟩)))))
 omega
 refine qs rfl rfl rfl rfl rfl rfl (qs rfl rfl rfl rfl rfl rfl (qs rfl rfl rfl rfl rfl rfl (qs rfl rfl rfl rfl rfl rfl (qd rfl rfl rfl (r_pickF (v := (.bool false)) rfl rfl) (qe (s_then ?_))))))
 refine c_ifF rfl rfl (wp_skip (s_blkN (s_then (c_reg ?_))))
 refine qd rfl rfl rfl (r_move (v := (.int .i64 (i9 : Int))) rfl) (qd rfl rfl rfl (r_add rfl rfl (by omega)) (qd rfl rfl rfl (r_assign (v := (.int .i64 ((i9 : Int) + 1))) rfl) (qe (s_lopN (⟨_, ?_, _, rfl, _, i9 + 1, GL1, (packS (x := 5) (packS (x := 1) (pack1 (x := 0) rfl) rfl) rfl), rfl, hX4, hlek1, (by omega), (all_next hst (mk_in.2 (by omega)))⟩)))))
 omega
 refine wp_exit (s_thenE (s_lopE (s_blkE (s_then (s_seq (c_reg ?_))))))
 refine qd rfl rfl rfl (r_move (v := (.string s)) rfl) (qd rfl rfl rfl (r_lenS Tryz.underlying9 rfl) (qd rfl rfl rfl (r_move (v := (.int .i64 m)) rfl) (qd rfl rfl rfl (r_leq rfl rfl) (qd rfl rfl rfl (r_assign (v := (.bool (decide (((s.size : Int) : Int) ≤ m)))) rfl) (qe (s_then ?_))))))
 exact wp_ret (s_ret (c_ret1 (v := (.bool (decide (((s.size : Int) : Int) ≤ m)))) rfl rfl rfl (⟨_, congrArg (fun z => Ending.returned (Value.bool z)) (sm_done (fun i hi => hst i (by omega))), hX4⟩)))

theorem heap_spec {w : World} {G : Pin} {a t : ByteArray} (hP : Pins G w) :
  Calls Tryz.prog 47 [(.agg [(.string a), (.string t)].toArray)].toArray w fun e w' => ∃ G', e = .returned (.int .i64 (hpI t)) ∧ Ext noS G w G' w' := by
 refine s_enter (n := 24) Tryz.func47 Tryz.ntmps47 rfl rfl ?_
 have hX0 : Ext noS G w G w := Ext.refl hP
 refine s_seq (c_reg ?_)
 refine q1 rfl rfl rfl (o_box [(.string a), (.string t)] (v := (.agg [(.string a), (.string t)].toArray)) rfl rfl hX0.pins (fun b1 w2 hk3 hb4 hp5 hl6 => ?_))
 have hX7 := hX0.step hp5 hl6
 have hlo8 : w.heap.size ≤ b1 := by have := hX0.size; omega
 obtain ⟨G9, hle10, hX11, hbp12, hf13⟩ := hb4.shut hX7 hlo8
 refine qd rfl rfl rfl (r_assign (v := (.int .i64 0)) rfl) (qe (s_then (s_seq (s_seq (c_reg ?_)))))
 refine qd rfl rfl rfl (r_fldp (k := 1) rfl Tryz.underlying36 rfl nz9 rfl) (qd rfl rfl rfl (r_ldp1 (u := (.string t)) ag9 rfl (hX11.pins _ _ _ (hbp12 1 _ rfl))) (qd rfl rfl rfl (r_lenS Tryz.underlying9 rfl) (qd rfl rfl rfl (r_neq rfl rfl) (qd rfl rfl rfl (r_move (v := (.bool (decide (((t.size : Int) : Int) ≠ 1)))) rfl) (qbd (p := ((t.size : Int) : Int) ≠ 1) (t := 7) rfl (fun h14 => ?_) (fun h14 => ?_))))))
 refine qs rfl rfl rfl rfl rfl rfl (qs rfl rfl rfl rfl rfl rfl (qs rfl rfl rfl rfl rfl rfl (qs rfl rfl rfl rfl rfl rfl (qd rfl rfl rfl (r_pickT (v := (.bool true)) rfl rfl) (qd rfl rfl rfl (r_move (v := (.bool true)) rfl) (qs rfl rfl rfl rfl rfl rfl (qs rfl rfl rfl rfl rfl rfl (qs rfl rfl rfl rfl rfl rfl (qs rfl rfl rfl rfl rfl rfl (qd rfl rfl rfl (r_pickT (v := (.bool true)) rfl rfl) (qe (s_then ?_))))))))))))
 refine c_ifT rfl rfl (s_seq (c_reg ?_))
 refine qd rfl rfl rfl (r_assign (v := (.int .i64 (-1))) rfl) (qe (s_then ?_))
 exact wp_ret (s_ret (c_ret1 (v := (.int .i64 (-1))) rfl rfl rfl (⟨_, congrArg (fun z => Ending.returned (Value.int .i64 z)) (hp_no (fun g => by have := g.sz; have := g.d; omega)), hX11⟩)))
 refine qdg rfl rfl rfl rfl rfl rfl (r_fldp (k := 1) rfl Tryz.underlying36 rfl nz9 rfl) (qdg rfl rfl rfl rfl rfl rfl (r_ldp1 (u := (.string t)) ag9 rfl (hX11.pins _ _ _ (hbp12 1 _ rfl))) (qdg rfl rfl rfl rfl rfl rfl (r_idxB Tryz.underlying9 rfl rfl (by omega) (by omega)) (qdg rfl rfl rfl rfl rfl rfl (r_lss rfl rfl) (qd rfl rfl rfl (r_pickF (v := (.bool (decide ((((sB t 0).toNat : Int) : Int) < 48)))) rfl rfl) (qd rfl rfl rfl (r_move (v := (.bool (decide ((((sB t 0).toNat : Int) : Int) < 48)))) rfl) (qbd (p := (((sB t 0).toNat : Int) : Int) < 48) (t := 13) rfl (fun h15 => ?_) (fun h15 => ?_)))))))
 refine qs rfl rfl rfl rfl rfl rfl (qs rfl rfl rfl rfl rfl rfl (qs rfl rfl rfl rfl rfl rfl (qs rfl rfl rfl rfl rfl rfl (qd rfl rfl rfl (r_pickT (v := (.bool true)) rfl rfl) (qe (s_then ?_))))))
 refine c_ifT rfl rfl (s_seq (c_reg ?_))
 refine qd rfl rfl rfl (r_assign (v := (.int .i64 (-1))) rfl) (qe (s_then ?_))
 exact wp_ret (s_ret (c_ret1 (v := (.int .i64 (-1))) rfl rfl rfl (⟨_, congrArg (fun z => Ending.returned (Value.int .i64 z)) (hp_no (fun g => by have := g.sz; have := g.d; omega)), hX11⟩)))
 refine qdg rfl rfl rfl rfl rfl rfl (r_fldp (k := 1) rfl Tryz.underlying36 rfl nz9 rfl) (qdg rfl rfl rfl rfl rfl rfl (r_ldp1 (u := (.string t)) ag9 rfl (hX11.pins _ _ _ (hbp12 1 _ rfl))) (qdg rfl rfl rfl rfl rfl rfl (r_idxB Tryz.underlying9 rfl rfl (by omega) (by omega)) (qdg rfl rfl rfl rfl rfl rfl (r_gtr rfl rfl) (qd rfl rfl rfl (r_pickF (v := (.bool (decide ((55 : Int) < ((sB t 0).toNat : Int))))) rfl rfl) (qe (s_then ?_))))))
 refine c_ifd (p := (55 : Int) < ((sB t 0).toNat : Int)) rfl rfl (fun h16 => ?_) (fun h16 => ?_)
 refine s_seq (c_reg ?_)
 refine qd rfl rfl rfl (r_assign (v := (.int .i64 (-1))) rfl) (qe (s_then ?_))
 exact wp_ret (s_ret (c_ret1 (v := (.int .i64 (-1))) rfl rfl rfl (⟨_, congrArg (fun z => Ending.returned (Value.int .i64 z)) (hp_no (fun g => by have := g.sz; have := g.d; omega)), hX11⟩)))
 refine wp_skip (s_then (s_seq (c_reg ?_)))
 refine qd rfl rfl rfl (r_fldp (k := 1) rfl Tryz.underlying36 rfl nz9 rfl) (qd rfl rfl rfl (r_ldp1 (u := (.string t)) ag9 rfl (hX11.pins _ _ _ (hbp12 1 _ rfl))) (qd rfl rfl rfl (r_idxB Tryz.underlying9 rfl rfl (by omega) (by omega)) (qd rfl rfl rfl (r_sub8 (i := ((sB t 0).toNat : Int)) (j := 48) rfl rfl (by omega)) (qd rfl rfl rfl (r_conv (j := ((sB t 0).toNat : Int) - 48) Tryz.underlying5 Tryz.underlying3 rfl (wrapI (by omega))) (qd rfl rfl rfl (r_assign (v := (.int .i64 (((sB t 0).toNat : Int) - 48))) rfl) (qe (s_then ?_)))))))
 exact wp_ret (s_ret (c_ret1 (v := (.int .i64 (((sB t 0).toNat : Int) - 48))) rfl rfl rfl (⟨_, congrArg (fun z => Ending.returned (Value.int .i64 z)) (hp_yes ⟨by omega, by omega⟩), hX11⟩)))

theorem stripKind_spec {w : World} {G : Pin} {a t : ByteArray} (hP : Pins G w) :
  Calls Tryz.prog 48 [(.agg [(.string a), (.string t)].toArray)].toArray w fun e w' => ∃ G', e = .returned (.int .i64 (skI a)) ∧ Ext noS G w G' w' := by
 refine s_enter (n := 13) Tryz.func48 Tryz.ntmps48 rfl rfl ?_
 have hX0 : Ext noS G w G w := Ext.refl hP
 refine s_seq (c_reg ?_)
 refine q1 rfl rfl rfl (o_box [(.string a), (.string t)] (v := (.agg [(.string a), (.string t)].toArray)) rfl rfl hX0.pins (fun b1 w2 hk3 hb4 hp5 hl6 => ?_))
 have hX7 := hX0.step hp5 hl6
 have hlo8 : w.heap.size ≤ b1 := by have := hX0.size; omega
 obtain ⟨G9, hle10, hX11, hbp12, hf13⟩ := hb4.shut hX7 hlo8
 refine qd rfl rfl rfl (r_assign (v := (.int .i64 0)) rfl) (qe (s_then (s_seq (s_seq (c_reg ?_)))))
 refine qd rfl rfl rfl (r_fldp (k := 0) rfl Tryz.underlying36 rfl nz9 rfl) (qd rfl rfl rfl (r_ldp1 (u := (.string a)) ag9 rfl (hX11.pins _ _ _ (hbp12 0 _ rfl))) (qe (s_then ?_)))
 refine s_blk (s_seq (c_reg ?_))
 refine qd rfl rfl rfl (r_eqlS rfl rfl) (qd rfl rfl rfl (r_assign (v := (.bool (a.toList == (⟨#[116, 111, 97, 100, 115]⟩ : ByteArray).toList))) rfl) (qe (s_then ?_)))
 refine c_if rfl rfl (fun h14 => ?_) (fun h14 => ?_)
 refine s_seq (c_reg ?_)
 refine qd rfl rfl rfl (r_assign (v := (.int .i64 0)) rfl) (qe (s_then ?_))
 exact wp_ret (s_ret (c_ret1 (v := (.int .i64 0)) rfl rfl rfl (⟨_, congrArg (fun z => Ending.returned (Value.int .i64 z)) (by have h9 := vb_y 0 (by omega) h14; rw [sk_of (by omega), h9]; rfl), hX11⟩)))
 refine s_seq (c_reg ?_)
 refine qd rfl rfl rfl (r_eqlS rfl rfl) (qd rfl rfl rfl (r_assign (v := (.bool (a.toList == (⟨#[99, 108, 111, 98]⟩ : ByteArray).toList))) rfl) (qe (s_then ?_)))
 refine c_if rfl rfl (fun h15 => ?_) (fun h15 => ?_)
 refine s_seq (c_reg ?_)
 refine qd rfl rfl rfl (r_assign (v := (.int .i64 1)) rfl) (qe (s_then ?_))
 exact wp_ret (s_ret (c_ret1 (v := (.int .i64 1)) rfl rfl rfl (⟨_, congrArg (fun z => Ending.returned (Value.int .i64 z)) (by have h9 := vb_y 1 (by omega) h15; rw [sk_of (by omega), h9]; rfl), hX11⟩)))
 refine s_seq (c_reg ?_)
 refine qd rfl rfl rfl (r_eqlS rfl rfl) (qd rfl rfl rfl (r_assign (v := (.bool (a.toList == (⟨#[117, 110, 108, 105, 107, 101]⟩ : ByteArray).toList))) rfl) (qe (s_then ?_)))
 refine c_if rfl rfl (fun h16 => ?_) (fun h16 => ?_)
 refine s_seq (c_reg ?_)
 refine qd rfl rfl rfl (r_assign (v := (.int .i64 2)) rfl) (qe (s_then ?_))
 exact wp_ret (s_ret (c_ret1 (v := (.int .i64 2)) rfl rfl rfl (⟨_, congrArg (fun z => Ending.returned (Value.int .i64 z)) (by have h9 := vb_y 2 (by omega) h16; rw [sk_of (by omega), h9]; rfl), hX11⟩)))
 refine s_seq (c_reg ?_)
 refine qd rfl rfl rfl (r_eqlS rfl rfl) (qd rfl rfl rfl (r_assign (v := (.bool (a.toList == (⟨#[97, 108, 105, 107, 101]⟩ : ByteArray).toList))) rfl) (qe (s_then ?_)))
 refine c_if rfl rfl (fun h17 => ?_) (fun h17 => ?_)
 refine s_seq (c_reg ?_)
 refine qd rfl rfl rfl (r_assign (v := (.int .i64 3)) rfl) (qe (s_then ?_))
 exact wp_ret (s_ret (c_ret1 (v := (.int .i64 3)) rfl rfl rfl (⟨_, congrArg (fun z => Ending.returned (Value.int .i64 z)) (by have h9 := vb_y 3 (by omega) h17; rw [sk_of (by omega), h9]; rfl), hX11⟩)))
 refine wp_skip (s_blkN (s_then (s_seq (c_reg ?_))))
 refine qd rfl rfl rfl (r_assign (v := (.int .i64 (-1))) rfl) (qe (s_then ?_))
 exact wp_ret (s_ret (c_ret1 (v := (.int .i64 (-1))) rfl rfl rfl (⟨_, congrArg (fun z => Ending.returned (Value.int .i64 z)) (by have h0 := vb_n 0 (by omega) h14; have h1 := vb_n 1 (by omega) h15; have h2 := vb_n 2 (by omega) h16; have h3 := vb_n 3 (by omega) h17; have h9 := vb_rng (a := a); unfold skI; split <;> omega), hX11⟩)))

end PW2
end Go.Proofs.YtianphgdbfekdaaGreatDoor

set_option maxRecDepth 20000
set_option maxHeartbeats 2000000
namespace Go.Proofs.YtianphgdbfekdaaGreatDoor
namespace RM1
open Go.RowKit Go.GL Go.Proofs





theorem trim_spec {w : World} {G : Pin} {s : ByteArray} (hP : Pins G w) (hs : s.size ≤ 1048576) :
  Calls Tryz.prog 77 [.string s, .string (⟨#[46, 35]⟩ : ByteArray)].toArray w fun e w' => ∃ G', e = .returned (.string (trimM s [46, 35])) ∧ Ext noS G w G' w' := by
 refine (Tryz.strings_Trim s _ w (by omega) (by decide) (ascii_of_all (by decide))).mono ?_
 rintro e w' ⟨rfl, hb⟩
 exact ⟨G, rfl, (Ext.refl hP).step (hP.below hb) hb⟩

theorem iGoodBoard_spec {w : World} {G : Pin} {v : Value} {rows : List ByteArray} (hP : Pins G w) (hv : RSl eStr G v rows) (hz : ∀ i, i < rows.length → (rows.getD i ByteArray.empty).size ≤ 1048576) :
  Calls Tryz.prog 74 [(.agg [v].toArray)].toArray w fun e w' => ∃ G', e = .returned (.bool (gbB rows)) ∧ Ext noS G w G' w' := by
 refine s_enter (n := 52) Tryz.func74 Tryz.ntmps74 rfl rfl ?_
 have hX0 : Ext noS G w G w := Ext.refl hP
 have hm := hv.max
 refine s_seq (c_reg ?_)
 refine q1 rfl rfl rfl (o_box [v] (v := (.agg [v].toArray)) rfl rfl hX0.pins (fun b1 w2 hk3 hb4 hp5 hl6 => ?_))
 have hX7 := hX0.step hp5 hl6
 have hlo8 : w.heap.size ≤ b1 := by have := hX0.size; omega
 obtain ⟨G9, hle10, hX11, hbp12, hf13⟩ := hb4.shut hX7 hlo8
 refine qd rfl rfl rfl (r_assign (v := (.bool false)) rfl) (qe (s_then (s_seq (s_seq (c_reg ?_)))))
 refine qd rfl rfl rfl (r_fldp (k := 0) rfl Tryz.underlying56 rfl nz22 rfl) (qd rfl rfl rfl (r_ldp1 (u := v) ag22 rfl (hX11.pins _ _ _ (hbp12 0 _ rfl))) (qd rfl rfl rfl (run_len Tryz.underlying22 (v := v) rfl hv) (qd rfl rfl rfl (r_lss rfl rfl) (qd rfl rfl rfl (r_move (v := (.bool (decide (((rows.length : Int) : Int) < 1)))) rfl) (qbd (p := ((rows.length : Int) : Int) < 1) (t := 9) rfl (fun h14 => ?_) (fun h14 => ?_))))))
 refine qs rfl rfl rfl rfl rfl rfl (qs rfl rfl rfl rfl rfl rfl (qs rfl rfl rfl rfl rfl rfl (qs rfl rfl rfl rfl rfl rfl (qd rfl rfl rfl (r_pickT (v := (.bool true)) rfl rfl) (qd rfl rfl rfl (r_move (v := (.bool true)) rfl) (qs rfl rfl rfl rfl rfl rfl (qs rfl rfl rfl rfl rfl rfl (qs rfl rfl rfl rfl rfl rfl (qs rfl rfl rfl rfl rfl rfl (qs rfl rfl rfl rfl rfl rfl (qs rfl rfl rfl rfl rfl rfl (qd rfl rfl rfl (r_pickT (v := (.bool true)) rfl rfl) (qd rfl rfl rfl (r_move (v := (.bool true)) rfl) (qs rfl rfl rfl rfl rfl rfl (qs rfl rfl rfl rfl rfl rfl (qs rfl rfl rfl rfl rfl rfl (qs rfl rfl rfl rfl rfl rfl (qs rfl rfl rfl rfl rfl rfl (qs rfl rfl rfl rfl rfl rfl (qd rfl rfl rfl (r_pickT (v := (.bool true)) rfl rfl) (qe (s_then ?_))))))))))))))))))))))
 refine c_ifT rfl rfl (s_seq (c_reg ?_))
 refine qd rfl rfl rfl (r_assign (v := (.bool false)) rfl) (qe (s_then ?_))
 exact wp_ret (s_ret (c_ret1 (v := (.bool false)) rfl rfl rfl (⟨_, congrArg (fun z => Ending.returned (Value.bool z)) (by first | exact (gb_hi (by omega)).symm | exact (gb_wd (by show ¬ (1 ≤ (rows.getD 0 ByteArray.empty).size ∧ (rows.getD 0 ByteArray.empty).size ≤ 8); omega)).symm), hX11⟩)))
 refine qdg rfl rfl rfl rfl rfl rfl (r_fldp (k := 0) rfl Tryz.underlying56 rfl nz22 rfl) (qdg rfl rfl rfl rfl rfl rfl (r_ldp1 (u := v) ag22 rfl (hX11.pins _ _ _ (hbp12 0 _ rfl))) (qdg rfl rfl rfl rfl rfl rfl (run_len Tryz.underlying22 (v := v) rfl hv) (qdg rfl rfl rfl rfl rfl rfl (r_gtr rfl rfl) (qd rfl rfl rfl (r_pickF (v := (.bool (decide ((8 : Int) < (rows.length : Int))))) rfl rfl) (qd rfl rfl rfl (r_move (v := (.bool (decide ((8 : Int) < (rows.length : Int))))) rfl) (qbd (p := (8 : Int) < (rows.length : Int)) (t := 15) rfl (fun h15 => ?_) (fun h15 => ?_)))))))
 refine qs rfl rfl rfl rfl rfl rfl (qs rfl rfl rfl rfl rfl rfl (qs rfl rfl rfl rfl rfl rfl (qs rfl rfl rfl rfl rfl rfl (qs rfl rfl rfl rfl rfl rfl (qs rfl rfl rfl rfl rfl rfl (qd rfl rfl rfl (r_pickT (v := (.bool true)) rfl rfl) (qd rfl rfl rfl (r_move (v := (.bool true)) rfl) (qs rfl rfl rfl rfl rfl rfl (qs rfl rfl rfl rfl rfl rfl (qs rfl rfl rfl rfl rfl rfl (qs rfl rfl rfl rfl rfl rfl (qs rfl rfl rfl rfl rfl rfl (qs rfl rfl rfl rfl rfl rfl (qd rfl rfl rfl (r_pickT (v := (.bool true)) rfl rfl) (qe (s_then ?_))))))))))))))))
 refine c_ifT rfl rfl (s_seq (c_reg ?_))
 refine qd rfl rfl rfl (r_assign (v := (.bool false)) rfl) (qe (s_then ?_))
 exact wp_ret (s_ret (c_ret1 (v := (.bool false)) rfl rfl rfl (⟨_, congrArg (fun z => Ending.returned (Value.bool z)) (by first | exact (gb_hi (by omega)).symm | exact (gb_wd (by show ¬ (1 ≤ (rows.getD 0 ByteArray.empty).size ∧ (rows.getD 0 ByteArray.empty).size ≤ 8); omega)).symm), hX11⟩)))
 refine qdg rfl rfl rfl rfl rfl rfl (r_fldp (k := 0) rfl Tryz.underlying56 rfl nz22 rfl) (qdg rfl rfl rfl rfl rfl rfl (r_ldp1 (u := v) ag22 rfl (hX11.pins _ _ _ (hbp12 0 _ rfl))) (qdg rfl rfl rfl rfl rfl rfl (run_idx Tryz.underlying22 sz9 (v := v) rfl rfl hv (by omega) (by omega)) (qdg rfl rfl rfl rfl rfl rfl (run_load_str (r := rows.getD 0 ByteArray.empty) rfl ag9 (z := 0) rfl hv (Pins.of_le hX11.pins hle10) (by omega) (by omega)) (qdg rfl rfl rfl rfl rfl rfl (r_lenS Tryz.underlying9 rfl) (qdg rfl rfl rfl rfl rfl rfl (r_lss rfl rfl) (qd rfl rfl rfl (r_pickF (v := (.bool (decide ((((rows.getD 0 ByteArray.empty).size : Int) : Int) < 1)))) rfl rfl) (qd rfl rfl rfl (r_move (v := (.bool (decide ((((rows.getD 0 ByteArray.empty).size : Int) : Int) < 1)))) rfl) (qbd (p := (((rows.getD 0 ByteArray.empty).size : Int) : Int) < 1) (t := 23) rfl (fun h16 => ?_) (fun h16 => ?_)))))))))
 refine qs rfl rfl rfl rfl rfl rfl (qs rfl rfl rfl rfl rfl rfl (qs rfl rfl rfl rfl rfl rfl (qs rfl rfl rfl rfl rfl rfl (qs rfl rfl rfl rfl rfl rfl (qs rfl rfl rfl rfl rfl rfl (qd rfl rfl rfl (r_pickT (v := (.bool true)) rfl rfl) (qe (s_then ?_))))))))
 refine c_ifT rfl rfl (s_seq (c_reg ?_))
 refine qd rfl rfl rfl (r_assign (v := (.bool false)) rfl) (qe (s_then ?_))
 exact wp_ret (s_ret (c_ret1 (v := (.bool false)) rfl rfl rfl (⟨_, congrArg (fun z => Ending.returned (Value.bool z)) (by first | exact (gb_hi (by omega)).symm | exact (gb_wd (by show ¬ (1 ≤ (rows.getD 0 ByteArray.empty).size ∧ (rows.getD 0 ByteArray.empty).size ≤ 8); omega)).symm), hX11⟩)))
 refine qdg rfl rfl rfl rfl rfl rfl (r_fldp (k := 0) rfl Tryz.underlying56 rfl nz22 rfl) (qdg rfl rfl rfl rfl rfl rfl (r_ldp1 (u := v) ag22 rfl (hX11.pins _ _ _ (hbp12 0 _ rfl))) (qdg rfl rfl rfl rfl rfl rfl (run_idx Tryz.underlying22 sz9 (v := v) rfl rfl hv (by omega) (by omega)) (qdg rfl rfl rfl rfl rfl rfl (run_load_str (r := rows.getD 0 ByteArray.empty) rfl ag9 (z := 0) rfl hv (Pins.of_le hX11.pins hle10) (by omega) (by omega)) (qdg rfl rfl rfl rfl rfl rfl (r_lenS Tryz.underlying9 rfl) (qdg rfl rfl rfl rfl rfl rfl (r_gtr rfl rfl) (qd rfl rfl rfl (r_pickF (v := (.bool (decide ((8 : Int) < ((rows.getD 0 ByteArray.empty).size : Int))))) rfl rfl) (qe (s_then ?_))))))))
 refine c_ifd (p := (8 : Int) < ((rows.getD 0 ByteArray.empty).size : Int)) rfl rfl (fun h17 => ?_) (fun h17 => ?_)
 refine s_seq (c_reg ?_)
 refine qd rfl rfl rfl (r_assign (v := (.bool false)) rfl) (qe (s_then ?_))
 exact wp_ret (s_ret (c_ret1 (v := (.bool false)) rfl rfl rfl (⟨_, congrArg (fun z => Ending.returned (Value.bool z)) (by first | exact (gb_hi (by omega)).symm | exact (gb_wd (by show ¬ (1 ≤ (rows.getD 0 ByteArray.empty).size ∧ (rows.getD 0 ByteArray.empty).size ≤ 8); omega)).symm), hX11⟩)))
 refine wp_skip (s_then (s_seq (s_seq (c_reg ?_))))
 refine qd rfl rfl rfl (r_fldp (k := 0) rfl Tryz.underlying56 rfl nz22 rfl) (qd rfl rfl rfl (r_ldp1 (u := v) ag22 rfl (hX11.pins _ _ _ (hbp12 0 _ rfl))) (qd rfl rfl rfl (run_len Tryz.underlying22 (v := v) rfl hv) (qd rfl rfl rfl (r_move (v := (.int .i64 0)) rfl) (qe (s_then ?_)))))
 refine s_blk (s_loop (fun (k : Nat) (en : Nat → Value) (W : World) => ∃ (env1 : Nat → Value) (j : Nat) (GL1 : Pin), en = (upd (upd (upd (upd env1 1 (.pointer (some ⟨b1, 0, none⟩))) 32 v) 33 (.int .i64 (rows.length : Int))) 34 (.int .i64 (j : Int))) ∧ k = rows.length - j ∧ Ext noS G w GL1 W ∧ Pin.le G9 GL1 ∧ (j ≤ rows.length) ∧ (∀ i, i < j → RowOk (rows.getD i ByteArray.empty) (rows.getD 0 ByteArray.empty).size)) _ ⟨_, 0, G9, (packS (x := 34) (packS (x := 33) (packS (x := 32) (pack1 (x := 1) rfl) rfl) rfl) rfl), rfl, hX11, Pin.le_refl _, Nat.zero_le _, (fun i hi => absurd hi (Nat.not_lt_zero i))⟩ ?_)
 rintro k18 _ w19 ⟨env1, j, GL1, rfl, hk20, hX21, hlek18, hj, hr⟩
 refine s_seq (c_reg ?_)
 refine qd rfl rfl rfl (r_lss rfl rfl) (qe (s_then (s_seq ?_)))
 refine c_ifd (p := ((j : Int) : Int) < (rows.length : Int)) rfl rfl (fun h22 => ?_) (fun h22 => ?_)
 refine wp_skip (s_then (s_seq ?_))
 refine s_blk (s_seq (c_reg ?_))
 refine qd rfl rfl rfl (run_idx Tryz.underlying22 sz9 (v := v) rfl rfl hv (by omega) (by omega)) (qd rfl rfl rfl (run_load_str (r := rows.getD j ByteArray.empty) rfl ag9 (z := (j : Int)) rfl hv (Pins.of_le hX21.pins (Pin.le_trans hle10 hlek18)) (by omega) (by omega)) (qd rfl rfl rfl (r_assign (v := (.string (rows.getD j ByteArray.empty))) rfl) (qe (s_then (s_seq (c_reg ?_))))))
 refine qd rfl rfl rfl (r_move (v := (.string (rows.getD j ByteArray.empty))) rfl) (qd rfl rfl rfl (r_lenS Tryz.underlying9 rfl) (qd rfl rfl rfl (r_fldp (k := 0) rfl Tryz.underlying56 rfl nz22 rfl) (qd rfl rfl rfl (r_ldp1 (u := v) ag22 rfl ((Pins.of_le hX21.pins hlek18) _ _ _ (hbp12 0 _ rfl))) (qd rfl rfl rfl (run_idx Tryz.underlying22 sz9 (v := v) rfl rfl hv (by omega) (by omega)) (qd rfl rfl rfl (run_load_str (r := rows.getD 0 ByteArray.empty) rfl ag9 (z := 0) rfl hv (Pins.of_le hX21.pins (Pin.le_trans hle10 hlek18)) (by omega) (by omega)) (qd rfl rfl rfl (r_lenS Tryz.underlying9 rfl) (qd rfl rfl rfl (r_neq rfl rfl) (qd rfl rfl rfl (r_move (v := (.bool (decide ((((rows.getD j ByteArray.empty).size : Int) : Int) ≠ ((rows.getD 0 ByteArray.empty).size : Int))))) rfl) (qbd (p := (((rows.getD j ByteArray.empty).size : Int) : Int) ≠ ((rows.getD 0 ByteArray.empty).size : Int)) (t := 46) rfl (fun h23 => ?_) (fun h23 => ?_))))))))))
 refine qs rfl rfl rfl rfl rfl rfl (qs rfl rfl rfl rfl rfl rfl (qs rfl rfl rfl rfl rfl rfl (qd rfl rfl rfl (r_pickT (v := (.bool true)) rfl rfl) (qe (s_then ?_)))))
 refine c_ifT rfl rfl (s_seq (c_reg ?_))
 refine qd rfl rfl rfl (r_assign (v := (.bool false)) rfl) (qe (s_then ?_))
 exact wp_ret (s_ret (c_ret1 (v := (.bool false)) rfl rfl rfl (⟨_, congrArg (fun z => Ending.returned (Value.bool z)) (gb_row (i := j) (by omega) (fun k => by have := k.1; exact absurd (show (((rows.getD j ByteArray.empty).size : Nat) : Int) = ((rows.getD 0 ByteArray.empty).size : Int) from by exact_mod_cast this) (by omega))).symm, hX21⟩)))
 refine qdg rfl rfl rfl rfl rfl rfl (r_move (v := (.string (rows.getD j ByteArray.empty))) rfl) (q1g rfl rfl rfl rfl rfl rfl (o_call (vs := [(.string (rows.getD j ByteArray.empty)), (.string (⟨#[46, 35]⟩ : ByteArray))]) Tryz.func77 nm77 rfl rfl rfl ?_))
 refine Calls.mono (trim_spec (s := (rows.getD j ByteArray.empty)) hX21.pins (hz j (by omega))) ?_
 rintro _ w25 ⟨G24, rfl, hx26⟩
 refine ⟨_, rfl, ?_⟩
 have hX27 := hX21.tr hx26
 refine qdg rfl rfl rfl rfl rfl rfl (r_neqS rfl rfl) (qd rfl rfl rfl (r_pickF (v := (.bool (!((trimM (rows.getD j ByteArray.empty) [46, 35]).toList == (⟨#[]⟩ : ByteArray).toList)))) rfl rfl) (qe (s_then ?_)))
 refine c_ifn rfl rfl (fun h28 => ?_) (fun h28 => ?_)
 refine wp_skip (s_blkN (s_then (c_reg ?_)))
 refine qd rfl rfl rfl (r_add rfl rfl (by omega)) (qd rfl rfl rfl (r_move (v := (.int .i64 ((j : Int) + 1))) rfl) (qe (s_lopN (⟨_, ?_, _, rfl, _, j + 1, G24, (packS (x := 34) (packS (x := 33) (packS (x := 32) (pack1 (x := 1) rfl) rfl) rfl) rfl), rfl, hX27, (Pin.le_trans hlek18 hx26.le), (by omega), (fun i hi => if e : i = j then e ▸ row_trim (by omega) h28 else hr i (by omega))⟩))))
 omega
 refine s_seq (c_reg ?_)
 refine qd rfl rfl rfl (r_assign (v := (.bool false)) rfl) (qe (s_then ?_))
 exact wp_ret (s_ret (c_ret1 (v := (.bool false)) rfl rfl rfl (⟨_, congrArg (fun z => Ending.returned (Value.bool z)) (gb_row (i := j) (by omega) (row_not h28)).symm, hX27⟩)))
 refine wp_exit (s_thenE (s_lopE (s_blkE (s_then (s_seq (c_reg ?_))))))
 refine qd rfl rfl rfl (r_assign (v := (.bool true)) rfl) (qe (s_then ?_))
 exact wp_ret (s_ret (c_ret1 (v := (.bool true)) rfl rfl rfl (⟨_, congrArg (fun z => Ending.returned (Value.bool z)) (gb_done (by omega) (by show 1 ≤ (rows.getD 0 ByteArray.empty).size ∧ (rows.getD 0 ByteArray.empty).size ≤ 8; omega) (fun i hi => hr i (by omega))).symm, hX21⟩)))

end RM1
end Go.Proofs.YtianphgdbfekdaaGreatDoor

set_option maxRecDepth 20000
set_option maxHeartbeats 2000000
namespace Go.Proofs.YtianphgdbfekdaaGreatDoor
namespace RM5
open Go.RowKit Go.GL Go.Proofs










theorem pl56 : (Tryz.prog.underlying 56).bind (placesD Tryz.prog) = some [(0, 1)] := by kernel_rfl









theorem l1In_spec {w : World} {G : Pin} {x a b : Int} (hP : Pins G w) :
  Calls Tryz.prog 36 [(.int .i64 x), (.int .i64 a), (.int .i64 b)].toArray w fun e w' => e = .returned (.bool (decide (a ≤ x ∧ x ≤ b))) ∧ w' = w := by
 refine s_enter (n := 15) Tryz.func36 Tryz.ntmps36 rfl rfl ?_
 have hX0 : Ext noS G w G w := Ext.refl hP
 refine s_seq (c_reg ?_)
 refine qd rfl rfl rfl (r_assign (v := (.bool false)) rfl) (qe (s_then (s_seq (c_reg ?_))))
 refine qd rfl rfl rfl (r_move (v := (.int .i64 x)) rfl) (qd rfl rfl rfl (r_move (v := (.int .i64 a)) rfl) (qd rfl rfl rfl (r_geq rfl rfl) (qd rfl rfl rfl (r_move (v := (.bool (decide ((a : Int) ≤ x)))) rfl) (qbd (p := (a : Int) ≤ x) (t := 10) rfl (fun h1 => ?_) (fun h1 => ?_)))))
 refine qdg rfl rfl rfl rfl rfl rfl (r_move (v := (.int .i64 x)) rfl) (qdg rfl rfl rfl rfl rfl rfl (r_move (v := (.int .i64 b)) rfl) (qdg rfl rfl rfl rfl rfl rfl (r_leq rfl rfl) (qd rfl rfl rfl (r_pickT (v := (.bool (decide ((x : Int) ≤ b)))) rfl rfl) (qd rfl rfl rfl (r_assign (v := (.bool (decide ((x : Int) ≤ b)))) rfl) (qe (s_then ?_))))))
 exact wp_ret (s_ret (c_ret1 (v := (.bool (decide ((x : Int) ≤ b)))) rfl rfl rfl (⟨congrArg (fun z => Ending.returned (Value.bool z)) (decide_eq_decide.2 (by omega)), rfl⟩)))
 refine qs rfl rfl rfl rfl rfl rfl (qs rfl rfl rfl rfl rfl rfl (qs rfl rfl rfl rfl rfl rfl (qd rfl rfl rfl (r_pickF (v := (.bool false)) rfl rfl) (qd rfl rfl rfl (r_assign (v := (.bool false)) rfl) (qe (s_then ?_))))))
 exact wp_ret (s_ret (c_ret1 (v := (.bool false)) rfl rfl rfl (⟨congrArg (fun z => Ending.returned (Value.bool z)) ((decide_eq_false (by omega)).symm), rfl⟩)))

theorem sGoodBoard_spec {w : World} {G : Pin} {v : Value} {rows : List ByteArray} (hP : Pins G w) (hv : RSl eStr G v rows) :
  Calls Tryz.prog 63 [(.agg [v].toArray)].toArray w fun e w' => ∃ G', e = .returned (.bool (gbB rows)) ∧ Ext noS G w G' w' := by
 refine s_enter (n := 67) Tryz.func63 Tryz.ntmps63 rfl rfl ?_
 have hX0 : Ext noS G w G w := Ext.refl hP
 have hm := hv.max
 refine s_seq (c_reg ?_)
 refine q1 rfl rfl rfl (o_box [v] (v := (.agg [v].toArray)) rfl rfl hX0.pins (fun b1 w2 hk3 hb4 hp5 hl6 => ?_))
 have hX7 := hX0.step hp5 hl6
 have hlo8 : w.heap.size ≤ b1 := by have := hX0.size; omega
 obtain ⟨G9, hle10, hX11, hbp12, hf13⟩ := hb4.shut hX7 hlo8
 refine qd rfl rfl rfl (r_assign (v := (.bool false)) rfl) (qe (s_then (s_seq (s_seq (c_reg ?_)))))
 refine qd rfl rfl rfl (r_fldp (k := 0) rfl Tryz.underlying56 rfl nz22 rfl) (qd rfl rfl rfl (r_ldp1 (u := v) ag22 rfl (hX11.pins _ _ _ (hbp12 0 _ rfl))) (qd rfl rfl rfl (run_len Tryz.underlying22 (v := v) rfl hv) (q1 rfl rfl rfl (o_call (vs := [(.int .i64 (rows.length : Int)), (.int .i64 1), (.int .i64 8)]) Tryz.func36 nm36 rfl rfl rfl ?_))))
 refine Calls.mono (l1In_spec hX11.pins) ?_
 rintro _ _ ⟨rfl, rfl⟩
 refine ⟨_, rfl, ?_⟩
 refine qd rfl rfl rfl (r_not rfl) (qe (s_then ?_))
 refine c_ifn rfl rfl (fun h14 => ?_) (fun h14 => ?_)
 replace h14 := of_decide_eq_true h14
 refine wp_skip (s_then (s_seq (s_seq (c_reg ?_))))
 refine qd rfl rfl rfl (r_assign (v := (.int .i64 0)) rfl) (qe (s_then ?_))
 refine s_blk (s_loop (fun (k : Nat) (en : Nat → Value) (W : World) => ∃ (env1 : Nat → Value) (p : Nat) (GL1 : Pin), en = (upd (upd env1 1 (.pointer (some ⟨b1, 0, none⟩))) 3 (.int .i64 (p : Int))) ∧ k = rows.length - p ∧ Ext noS G w GL1 W ∧ Pin.le G9 GL1 ∧ (p ≤ rows.length) ∧ (∀ i, i < p → RowOk (rows.getD i ByteArray.empty) (rows.getD 0 ByteArray.empty).size) ∧ (p = 0 ∨ 1 ≤ (rows.getD 0 ByteArray.empty).size ∧ (rows.getD 0 ByteArray.empty).size ≤ 8)) _ ⟨_, 0, G9, (packS (x := 3) (pack1 (x := 1) rfl) rfl), rfl, hX11, Pin.le_refl _, Nat.zero_le _, (fun i hi => absurd hi (Nat.not_lt_zero i)), (Or.inl rfl)⟩ ?_)
 rintro k15 _ w16 ⟨env1, p, GL1, rfl, hk17, hX18, hlek15, hi, hr, hw⟩
 refine s_seq (s_seq (c_reg ?_))
 refine qd rfl rfl rfl (r_move (v := (.int .i64 (p : Int))) rfl) (qd rfl rfl rfl (r_fldp (k := 0) rfl Tryz.underlying56 rfl nz22 rfl) (qd rfl rfl rfl (r_ldp1 (u := v) ag22 rfl ((Pins.of_le hX18.pins hlek15) _ _ _ (hbp12 0 _ rfl))) (qd rfl rfl rfl (run_len Tryz.underlying22 (v := v) rfl hv) (qd rfl rfl rfl (r_lss rfl rfl) (qe (s_then ?_))))))
 refine c_ifd (p := ((p : Int) : Int) < (rows.length : Int)) rfl rfl (fun h19 => ?_) (fun h19 => ?_)
 refine wp_skip (s_then (s_seq ?_))
 refine s_blk (s_seq (s_seq ?_))
 refine c_draw (S := fun wz => Pins GL1 wz) (last := 22) (by kernel_rfl) rfl ?_
 have hl20 : Below w16.heap.size w16 w16.drew := (Below.refl _ _).drew
 have hp21 := hX18.pins.below hl20
 have hX22 := hX18.step hp21 hl20
 refine dr_take (i := 0) rfl rfl rfl (want_none rfl _) (by kernel_rfl) (fun _ _ => r_fldp (k := 0) rfl Tryz.underlying56 rfl nz22 rfl) hX22.pins (dr_take (i := 1) rfl rfl rfl (want_none rfl _) (by kernel_rfl) (fun _ hS => r_ldp1 (u := v) ag22 rfl ((Pins.of_le hS hlek15) _ _ _ (hbp12 0 _ rfl))) hX22.pins (dr_take (i := 2) rfl rfl rfl (want_none rfl _) (by kernel_rfl) (fun _ _ => r_move (v := (.int .i64 (p : Int))) rfl) hX22.pins (dr_take (i := 3) rfl rfl rfl (want_none rfl _) (by kernel_rfl) (fun _ _ => run_idx Tryz.underlying22 sz9 (v := v) rfl rfl hv (by omega) (by omega)) hX22.pins (dr_take (i := 4) rfl rfl rfl (want_none rfl _) (by kernel_rfl) (fun _ hS => run_load_str (r := rows.getD p ByteArray.empty) rfl ag9 (z := (p : Int)) rfl hv (Pins.of_le hS (Pin.le_trans hle10 hlek15)) (by omega) (by omega)) hX22.pins (dr_take (i := 5) rfl rfl rfl (want_none rfl _) (by kernel_rfl) (fun _ _ => r_lenS Tryz.underlying9 rfl) hX22.pins (dr_one (i := 6) (by kernel_rfl) (drOp1 (i := 6) rfl rfl rfl (want_none rfl _) (o_call (vs := [(.int .i64 ((rows.getD p ByteArray.empty).size : Int)), (.int .i64 1), (.int .i64 8)]) Tryz.func36 nm36 rfl rfl rfl ?_))))))))
 refine Calls.mono (l1In_spec hX22.pins) ?_
 rintro _ _ ⟨rfl, rfl⟩
 refine ⟨_, rfl, ?_⟩
 refine ⟨fun _ => hX22.pins, ?_⟩
 refine dr_take (i := 7) rfl rfl rfl (want_none rfl _) (by kernel_rfl) (fun _ _ => r_not rfl) hX22.pins (dr_take (i := 8) rfl rfl rfl (want_none rfl _) (by kernel_rfl) (fun _ _ => r_move (v := (.bool (!(decide ((1 : Int) ≤ ((rows.getD p ByteArray.empty).size : Int) ∧ (((rows.getD p ByteArray.empty).size : Int) : Int) ≤ 8))))) rfl) hX22.pins (drbn (t := 25) rfl (fun h23 => ?_) (fun h23 => ?_)))
 replace h23 := of_decide_eq_true h23
 refine dr_take (i := 9) rfl rfl rfl (want_yes rfl rfl rfl rfl) (by kernel_rfl) (fun _ _ => r_fldp (k := 0) rfl Tryz.underlying56 rfl nz22 rfl) hX22.pins (dr_take (i := 10) rfl rfl rfl (want_yes rfl rfl rfl rfl) (by kernel_rfl) (fun _ hS => r_ldp1 (u := v) ag22 rfl ((Pins.of_le hS hlek15) _ _ _ (hbp12 0 _ rfl))) hX22.pins (dr_take (i := 11) rfl rfl rfl (want_yes rfl rfl rfl rfl) (by kernel_rfl) (fun _ _ => r_move (v := (.int .i64 (p : Int))) rfl) hX22.pins (dr_take (i := 12) rfl rfl rfl (want_yes rfl rfl rfl rfl) (by kernel_rfl) (fun _ _ => run_idx Tryz.underlying22 sz9 (v := v) rfl rfl hv (by omega) (by omega)) hX22.pins (dr_take (i := 13) rfl rfl rfl (want_yes rfl rfl rfl rfl) (by kernel_rfl) (fun _ hS => run_load_str (r := rows.getD p ByteArray.empty) rfl ag9 (z := (p : Int)) rfl hv (Pins.of_le hS (Pin.le_trans hle10 hlek15)) (by omega) (by omega)) hX22.pins (dr_take (i := 14) rfl rfl rfl (want_yes rfl rfl rfl rfl) (by kernel_rfl) (fun _ _ => r_lenS Tryz.underlying9 rfl) hX22.pins (dr_take (i := 15) rfl rfl rfl (want_yes rfl rfl rfl rfl) (by kernel_rfl) (fun _ _ => r_fldp (k := 0) rfl Tryz.underlying56 rfl nz22 rfl) hX22.pins (dr_take (i := 16) rfl rfl rfl (want_yes rfl rfl rfl rfl) (by kernel_rfl) (fun _ hS => r_ldp1 (u := v) ag22 rfl ((Pins.of_le hS hlek15) _ _ _ (hbp12 0 _ rfl))) hX22.pins (dr_take (i := 17) rfl rfl rfl (want_yes rfl rfl rfl rfl) (by kernel_rfl) (fun _ _ => run_idx Tryz.underlying22 sz9 (v := v) rfl rfl hv (by omega) (by omega)) hX22.pins (dr_take (i := 18) rfl rfl rfl (want_yes rfl rfl rfl rfl) (by kernel_rfl) (fun _ hS => run_load_str (r := rows.getD 0 ByteArray.empty) rfl ag9 (z := 0) rfl hv (Pins.of_le hS (Pin.le_trans hle10 hlek15)) (by omega) (by omega)) hX22.pins (dr_take (i := 19) rfl rfl rfl (want_yes rfl rfl rfl rfl) (by kernel_rfl) (fun _ _ => r_lenS Tryz.underlying9 rfl) hX22.pins (dr_take (i := 20) rfl rfl rfl (want_yes rfl rfl rfl rfl) (by kernel_rfl) (fun _ _ => r_neq rfl rfl) hX22.pins (dr_take (i := 21) rfl rfl rfl (want_none rfl _) (by kernel_rfl) (fun _ _ => r_pickF (v := (.bool (decide ((((rows.getD p ByteArray.empty).size : Int) : Int) ≠ ((rows.getD 0 ByteArray.empty).size : Int))))) rfl rfl) hX22.pins (dr_end (by kernel_rfl) (s_then (c_ifd (p := (((rows.getD p ByteArray.empty).size : Int) : Int) ≠ ((rows.getD 0 ByteArray.empty).size : Int)) rfl rfl (fun h24 => ?_) (fun h24 => ?_))))))))))))))))
 refine s_seq (c_reg ?_)
 refine qd rfl rfl rfl (r_assign (v := (.bool false)) rfl) (qe (s_then ?_))
 exact wp_ret (s_ret (c_ret1 (v := (.bool false)) rfl rfl rfl (⟨_, congrArg (fun z => Ending.returned (Value.bool z)) (by first | exact (gb_row (i := p) (by omega) (fun z => by have := z.1; have e : (rows.getD p ByteArray.empty).size = (rows.getD 0 ByteArray.empty).size := this; omega)).symm | exact (decP_false.2 (fun g => by have a := g.eq p (by omega); have b := g.wd; have a2 : (rows.getD p ByteArray.empty).size = (rows.getD 0 ByteArray.empty).size := a; have b2 : 1 ≤ (rows.getD 0 ByteArray.empty).size ∧ (rows.getD 0 ByteArray.empty).size ≤ 8 := b; omega)).symm), hX22⟩)))
 refine wp_skip (s_then (s_seq (c_reg ?_)))
 refine qd rfl rfl rfl (r_assign (v := (.int .i64 0)) rfl) (qe (s_then ?_))
 refine s_blk (s_loop (fun (k : Nat) (en : Nat → Value) (W : World) => ∃ (env1 : Nat → Value) (q9 : Nat) (GL2 : Pin), en = (upd (upd (upd env1 1 (.pointer (some ⟨b1, 0, none⟩))) 3 (.int .i64 (p : Int))) 4 (.int .i64 (q9 : Int))) ∧ k = (rows.getD p ByteArray.empty).size - q9 ∧ Ext noS G w GL2 W ∧ Pin.le GL1 GL2 ∧ (q9 ≤ (rows.getD p ByteArray.empty).size) ∧ (∀ q, q < q9 → ((sB (rows.getD p ByteArray.empty) q).toNat : Int) = 46 ∨ ((sB (rows.getD p ByteArray.empty) q).toNat : Int) = 35)) _ ⟨_, 0, GL1, (packS (x := 4) (packS (x := 3) (pack1 (x := 1) rfl) rfl) rfl), rfl, hX22, Pin.le_refl _, Nat.zero_le _, (fun i hi => absurd hi (Nat.not_lt_zero i))⟩ ?_)
 rintro k25 _ w26 ⟨env1, q9, GL2, rfl, hk27, hX28, hlek25, hkl, hk⟩
 refine s_seq (s_seq (c_reg ?_))
 refine qd rfl rfl rfl (r_move (v := (.int .i64 (q9 : Int))) rfl) (qd rfl rfl rfl (r_fldp (k := 0) rfl Tryz.underlying56 rfl nz22 rfl) (qd rfl rfl rfl (r_ldp1 (u := v) ag22 rfl ((Pins.of_le hX28.pins (Pin.le_trans hlek15 hlek25)) _ _ _ (hbp12 0 _ rfl))) (qd rfl rfl rfl (r_move (v := (.int .i64 (p : Int))) rfl) (qd rfl rfl rfl (run_idx Tryz.underlying22 sz9 (v := v) rfl rfl hv (by omega) (by omega)) (qd rfl rfl rfl (run_load_str (r := rows.getD p ByteArray.empty) rfl ag9 (z := (p : Int)) rfl hv (Pins.of_le hX28.pins (Pin.le_trans (Pin.le_trans hle10 hlek15) hlek25)) (by omega) (by omega)) (qd rfl rfl rfl (r_lenS Tryz.underlying9 rfl) (qd rfl rfl rfl (r_lss rfl rfl) (qe (s_then ?_)))))))))
 refine c_ifd (p := ((q9 : Int) : Int) < ((rows.getD p ByteArray.empty).size : Int)) rfl rfl (fun h29 => ?_) (fun h29 => ?_)
 refine wp_skip (s_then (s_seq ?_))
 refine s_blk (s_seq (c_reg ?_))
 refine qd rfl rfl rfl (r_fldp (k := 0) rfl Tryz.underlying56 rfl nz22 rfl) (qd rfl rfl rfl (r_ldp1 (u := v) ag22 rfl ((Pins.of_le hX28.pins (Pin.le_trans hlek15 hlek25)) _ _ _ (hbp12 0 _ rfl))) (qd rfl rfl rfl (r_move (v := (.int .i64 (p : Int))) rfl) (qd rfl rfl rfl (run_idx Tryz.underlying22 sz9 (v := v) rfl rfl hv (by omega) (by omega)) (qd rfl rfl rfl (run_load_str (r := rows.getD p ByteArray.empty) rfl ag9 (z := (p : Int)) rfl hv (Pins.of_le hX28.pins (Pin.le_trans (Pin.le_trans hle10 hlek15) hlek25)) (by omega) (by omega)) (qd rfl rfl rfl (r_move (v := (.int .i64 (q9 : Int))) rfl) (qd rfl rfl rfl (r_idxB Tryz.underlying9 rfl rfl (by omega) (by omega)) (qd rfl rfl rfl (r_neq rfl rfl) (qd rfl rfl rfl (r_move (v := (.bool (decide ((((sB (rows.getD p ByteArray.empty) q9).toNat : Int) : Int) ≠ 46)))) rfl) (qbd (p := (((sB (rows.getD p ByteArray.empty) q9).toNat : Int) : Int) ≠ 46) (t := 57) rfl (fun h30 => ?_) (fun h30 => ?_))))))))))
 refine qdg rfl rfl rfl rfl rfl rfl (r_fldp (k := 0) rfl Tryz.underlying56 rfl nz22 rfl) (qdg rfl rfl rfl rfl rfl rfl (r_ldp1 (u := v) ag22 rfl ((Pins.of_le hX28.pins (Pin.le_trans hlek15 hlek25)) _ _ _ (hbp12 0 _ rfl))) (qdg rfl rfl rfl rfl rfl rfl (r_move (v := (.int .i64 (p : Int))) rfl) (qdg rfl rfl rfl rfl rfl rfl (run_idx Tryz.underlying22 sz9 (v := v) rfl rfl hv (by omega) (by omega)) (qdg rfl rfl rfl rfl rfl rfl (run_load_str (r := rows.getD p ByteArray.empty) rfl ag9 (z := (p : Int)) rfl hv (Pins.of_le hX28.pins (Pin.le_trans (Pin.le_trans hle10 hlek15) hlek25)) (by omega) (by omega)) (qdg rfl rfl rfl rfl rfl rfl (r_move (v := (.int .i64 (q9 : Int))) rfl) (qdg rfl rfl rfl rfl rfl rfl (r_idxB Tryz.underlying9 rfl rfl (by omega) (by omega)) (qdg rfl rfl rfl rfl rfl rfl (r_neq rfl rfl) (qd rfl rfl rfl (r_pickT (v := (.bool (decide ((((sB (rows.getD p ByteArray.empty) q9).toNat : Int) : Int) ≠ 35)))) rfl rfl) (qe (s_then ?_))))))))))
 refine c_ifd (p := (((sB (rows.getD p ByteArray.empty) q9).toNat : Int) : Int) ≠ 35) rfl rfl (fun h31 => ?_) (fun h31 => ?_)
 refine s_seq (c_reg ?_)
 refine qd rfl rfl rfl (r_assign (v := (.bool false)) rfl) (qe (s_then ?_))
 exact wp_ret (s_ret (c_ret1 (v := (.bool false)) rfl rfl rfl (⟨_, congrArg (fun z => Ending.returned (Value.bool z)) (gb_row (i := p) (by omega) (fun z => by have := z.2 q9 (by show q9 < (rows.getD p ByteArray.empty).size; omega); unfold rwS at this; omega)).symm, hX28⟩)))
 refine wp_skip (s_blkN (s_then (c_reg ?_)))
 refine qd rfl rfl rfl (r_move (v := (.int .i64 (q9 : Int))) rfl) (qd rfl rfl rfl (r_add rfl rfl (by omega)) (qd rfl rfl rfl (r_assign (v := (.int .i64 ((q9 : Int) + 1))) rfl) (qe (s_lopN (⟨_, ?_, _, rfl, _, q9 + 1, GL2, (packS (x := 4) (packS (x := 3) (pack1 (x := 1) rfl) rfl) rfl), rfl, hX28, hlek25, (by omega), (fun q hq => if e : q = q9 then e ▸ (Or.inr (by omega)) else hk q (by omega))⟩)))))
 omega
 refine qs rfl rfl rfl rfl rfl rfl (qs rfl rfl rfl rfl rfl rfl (qs rfl rfl rfl rfl rfl rfl (qs rfl rfl rfl rfl rfl rfl (qs rfl rfl rfl rfl rfl rfl (qs rfl rfl rfl rfl rfl rfl (qs rfl rfl rfl rfl rfl rfl (qs rfl rfl rfl rfl rfl rfl (qd rfl rfl rfl (r_pickF (v := (.bool false)) rfl rfl) (qe (s_then ?_))))))))))
 refine c_ifF rfl rfl (wp_skip (s_blkN (s_then (c_reg ?_))))
 refine qd rfl rfl rfl (r_move (v := (.int .i64 (q9 : Int))) rfl) (qd rfl rfl rfl (r_add rfl rfl (by omega)) (qd rfl rfl rfl (r_assign (v := (.int .i64 ((q9 : Int) + 1))) rfl) (qe (s_lopN (⟨_, ?_, _, rfl, _, q9 + 1, GL2, (packS (x := 4) (packS (x := 3) (pack1 (x := 1) rfl) rfl) rfl), rfl, hX28, hlek25, (by omega), (fun q hq => if e : q = q9 then e ▸ (Or.inl (by omega)) else hk q (by omega))⟩)))))
 omega
 refine wp_exit (s_thenE (s_lopE (s_blkE (s_blkN (s_then (c_reg ?_))))))
 have hk2 : ∀ q, q < (rows.getD p ByteArray.empty).size → ((sB (rows.getD p ByteArray.empty) q).toNat : Int) = 46 ∨ ((sB (rows.getD p ByteArray.empty) q).toNat : Int) = 35 := fun q hq => hk q (by omega)
 refine qd rfl rfl rfl (r_move (v := (.int .i64 (p : Int))) rfl) (qd rfl rfl rfl (r_add rfl rfl (by omega)) (qd rfl rfl rfl (r_assign (v := (.int .i64 ((p : Int) + 1))) rfl) (qe (s_lopN (⟨_, ?_, _, rfl, _, p + 1, GL2, (packS (x := 3) (pack1 (x := 1) rfl) rfl), rfl, hX28, (Pin.le_trans hlek15 hlek25), (by omega), (fun q hq => if e : q = p then e ▸ ⟨by omega, hk2⟩ else hr q (by omega)), (by omega)⟩)))))
 omega
 replace h23 := of_decide_eq_false h23
 refine dr_skip (i := 9) rfl rfl (want_no rfl rfl rfl rfl rfl) (by kernel_rfl) hX22.pins (dr_skip (i := 10) rfl rfl (want_no rfl rfl rfl rfl rfl) (by kernel_rfl) hX22.pins (dr_skip (i := 11) rfl rfl (want_no rfl rfl rfl rfl rfl) (by kernel_rfl) hX22.pins (dr_skip (i := 12) rfl rfl (want_no rfl rfl rfl rfl rfl) (by kernel_rfl) hX22.pins (dr_skip (i := 13) rfl rfl (want_no rfl rfl rfl rfl rfl) (by kernel_rfl) hX22.pins (dr_skip (i := 14) rfl rfl (want_no rfl rfl rfl rfl rfl) (by kernel_rfl) hX22.pins (dr_skip (i := 15) rfl rfl (want_no rfl rfl rfl rfl rfl) (by kernel_rfl) hX22.pins (dr_skip (i := 16) rfl rfl (want_no rfl rfl rfl rfl rfl) (by kernel_rfl) hX22.pins (dr_skip (i := 17) rfl rfl (want_no rfl rfl rfl rfl rfl) (by kernel_rfl) hX22.pins (dr_skip (i := 18) rfl rfl (want_no rfl rfl rfl rfl rfl) (by kernel_rfl) hX22.pins (dr_skip (i := 19) rfl rfl (want_no rfl rfl rfl rfl rfl) (by kernel_rfl) hX22.pins (dr_skip (i := 20) rfl rfl (want_no rfl rfl rfl rfl rfl) (by kernel_rfl) hX22.pins (dr_take (i := 21) rfl rfl rfl (want_none rfl _) (by kernel_rfl) (fun _ _ => r_pickT (v := (.bool true)) rfl rfl) hX22.pins (dr_end (by kernel_rfl) (s_then (c_ifT rfl rfl (s_seq (c_reg ?_)))))))))))))))))
 refine qd rfl rfl rfl (r_assign (v := (.bool false)) rfl) (qe (s_then ?_))
 exact wp_ret (s_ret (c_ret1 (v := (.bool false)) rfl rfl rfl (⟨_, congrArg (fun z => Ending.returned (Value.bool z)) (by first | exact (gb_row (i := p) (by omega) (fun z => by have := z.1; have e : (rows.getD p ByteArray.empty).size = (rows.getD 0 ByteArray.empty).size := this; omega)).symm | exact (decP_false.2 (fun g => by have a := g.eq p (by omega); have b := g.wd; have a2 : (rows.getD p ByteArray.empty).size = (rows.getD 0 ByteArray.empty).size := a; have b2 : 1 ≤ (rows.getD 0 ByteArray.empty).size ∧ (rows.getD 0 ByteArray.empty).size ≤ 8 := b; omega)).symm), hX22⟩)))
 refine wp_exit (s_thenE (s_lopE (s_blkE (s_then (s_seq (c_reg ?_))))))
 refine qd rfl rfl rfl (r_assign (v := (.bool true)) rfl) (qe (s_then ?_))
 exact wp_ret (s_ret (c_ret1 (v := (.bool true)) rfl rfl rfl (⟨_, congrArg (fun z => Ending.returned (Value.bool z)) (gb_done (by omega) (by show 1 ≤ (rows.getD 0 ByteArray.empty).size ∧ (rows.getD 0 ByteArray.empty).size ≤ 8; omega) (fun q hq => hr q (by omega))).symm, hX18⟩)))
 replace h14 := of_decide_eq_false h14
 refine s_seq (c_reg ?_)
 refine qd rfl rfl rfl (r_assign (v := (.bool false)) rfl) (qe (s_then ?_))
 exact wp_ret (s_ret (c_ret1 (v := (.bool false)) rfl rfl rfl (⟨_, congrArg (fun z => Ending.returned (Value.bool z)) (by first | exact (gb_hi (by omega)).symm | exact (gb_wd (by show ¬ (1 ≤ (rows.getD 0 ByteArray.empty).size ∧ (rows.getD 0 ByteArray.empty).size ≤ 8); omega)).symm), hX11⟩)))

theorem cells_dspec {w : World} {G : Pin} {v : Value} {rows : List ByteArray} (hP : Pins G w) (hv : RSl eStr G v rows) (g : GbP rows) :
  Calls Tryz.prog 64 [(.agg [v].toArray)].toArray w fun e w' => ∃ (u : Value) (G' : Pin), e = .returned u ∧ DGrid 82 4 G' w' w.heap.size w'.heap.size u (cellsM rows) ∧ Ext noS G w G' w' := by
 refine s_enter (n := 42) Tryz.func64 Tryz.ntmps64 rfl rfl ?_
 have hX0 : Ext noS G w G w := Ext.refl hP
 have hm := hv.max
 have ghi := g.hi
 have gwd : 1 ≤ (rows.getD 0 ByteArray.empty).size ∧ (rows.getD 0 ByteArray.empty).size ≤ 8 := g.wd
 have geq : ∀ i, i < rows.length → (rows.getD i ByteArray.empty).size = (rows.getD 0 ByteArray.empty).size := g.eq
 have hlv0 : LvsB 4 G w w.heap.size w.heap.size [] := LvsB.nil
 refine s_seq (c_reg ?_)
 refine q1 rfl rfl rfl (o_box [v] (v := (.agg [v].toArray)) rfl rfl hX0.pins (fun b1 w2 hk3 hb4 hp5 hl6 => ?_))
 have hX7 := hX0.step hp5 hl6
 have hlv8 := (hlv0.below hl6).top
 have ha9 : ApLB [] (some b1) := ApLB.fresh hlv0 (fun k hk => by rw [(congrArg some hk3)] at hk; cases hk; exact Nat.le_refl _)
 have hlo10 : w.heap.size ≤ b1 := by have := hX0.size; omega
 obtain ⟨G11, hle12, hX13, hbp14, hf15⟩ := hb4.shut hX7 hlo10
 have hlv16 := hlv8.more hle12 hf15 ha9
 refine qd rfl rfl rfl (r_assign (v := (.slice none 0 0)) rfl) (qe (s_then (s_seq (c_reg ?_))))
 refine q1 rfl rfl rfl (o_build0 (E := eVal) (e := 82) Tryz.underlying80 sz82 hX13.pins (fun u17 w18 ho19 hp20 hl21 hk22 => ?_))
 have hX23 := hX13.step hp20 hl21
 have hlv24 := (hlv16.below hl21).top
 have ha25 : ApLB [] u17.ownBlock := ApLB.fresh hlv16 (fun k hk => by rw [hk22] at hk; cases hk; exact Nat.le_refl _)
 have ho26 : Own eVal 82 G11 w18 w.heap.size u17 ([]) := ho19.weaken hX13.size
 refine qd rfl rfl rfl (r_assign (v := u17) rfl) (qe (s_then (s_seq (s_seq (c_reg ?_)))))
 refine qd rfl rfl rfl (r_assign (v := (.int .i64 0)) rfl) (qe (s_then ?_))
 refine s_blk (s_loop (fun (k : Nat) (en : Nat → Value) (W : World) => ∃ (env1 : Nat → Value) (i : Nat) (ov : Value) (us : List Value) (LV : List LeafB) (GL1 : Pin), en = (upd (upd (upd (upd env1 1 (.pointer (some ⟨b1, 0, none⟩))) 2 (.slice none 0 0)) 3 ov) 4 (.int .i64 (i : Int))) ∧ k = rows.length - i ∧ Ext noS G w GL1 W ∧ Pin.le G11 GL1 ∧ (i ≤ rows.length) ∧ (us.length = i) ∧ (LV = lvG us ((List.range i).map fun i => lineC (rwS rows i).size (frB rows i))) ∧ (Own eVal 82 GL1 W w.heap.size ov (us)) ∧ (LvsB 4 GL1 W w.heap.size W.heap.size LV) ∧ (ApLB LV ov.ownBlock)) _ ⟨_, 0, u17, [], [], G11, (packS (x := 4) (packS (x := 3) (packS (x := 2) (pack1 (x := 1) rfl) rfl) rfl) rfl), rfl, hX23, Pin.le_refl _, Nat.zero_le _, rfl, rfl, ho26, hlv24, ha25⟩ ?_)
 rintro k27 _ w28 ⟨env1, i, ov, us, LV, GL1, rfl, hk29, hX30, hlek27, hi, hul, hLV, hw31, hlv32, ha33⟩
 refine s_seq (s_seq (c_reg ?_))
 refine qd rfl rfl rfl (r_move (v := (.int .i64 (i : Int))) rfl) (qd rfl rfl rfl (r_fldp (k := 0) rfl Tryz.underlying56 rfl nz22 rfl) (qd rfl rfl rfl (r_ldp1 (u := v) ag22 rfl ((Pins.of_le hX30.pins hlek27) _ _ _ (hbp14 0 _ rfl))) (qd rfl rfl rfl (run_len Tryz.underlying22 (v := v) rfl hv) (qd rfl rfl rfl (r_lss rfl rfl) (qe (s_then ?_))))))
 refine c_ifd (p := ((i : Int) : Int) < (rows.length : Int)) rfl rfl (fun h34 => ?_) (fun h34 => ?_)
 have hri := geq i (by omega)
 refine wp_skip (s_then (s_seq ?_))
 refine s_blk (s_seq (c_reg ?_))
 refine q1 rfl rfl rfl (o_build0 (E := eBool) (e := 4) Tryz.underlying82 sz4 hX30.pins (fun u35 w36 ho37 hp38 hl39 hk40 => ?_))
 have hX41 := hX30.step hp38 hl39
 have ho42 := hw31.below hl39
 have hlv43 := (hlv32.below hl39).top
 have ha44 : Apart u35.ownBlock ov.ownBlock := new_ne_own hk40 hw31.lt
 have ha45 : ApLB LV u35.ownBlock := ApLB.fresh hlv32 (fun k hk => by rw [hk40] at hk; cases hk; exact Nat.le_refl _)
 have ho46 : Own eBool 4 GL1 w36 w.heap.size u35 ([]) := ho37.weaken hX30.size
 refine qd rfl rfl rfl (r_assign (v := u35) rfl) (qe (s_then (s_seq (s_seq (c_reg ?_)))))
 refine qd rfl rfl rfl (r_assign (v := (.int .i64 0)) rfl) (qe (s_then ?_))
 refine s_blk (s_loop (fun (k : Nat) (en : Nat → Value) (W : World) => ∃ (env1 : Nat → Value) (q9 : Nat) (rv : Value) (rs : List Bool) (GL2 : Pin), en = (upd (upd (upd (upd (upd (upd env1 1 (.pointer (some ⟨b1, 0, none⟩))) 2 (.slice none 0 0)) 3 ov) 4 (.int .i64 (i : Int))) 5 rv) 6 (.int .i64 (q9 : Int))) ∧ k = (rows.getD i ByteArray.empty).size - q9 ∧ Ext noS G w GL2 W ∧ Pin.le GL1 GL2 ∧ (q9 ≤ (rows.getD i ByteArray.empty).size) ∧ (rs = lineC q9 (frB rows i)) ∧ (rs.length = q9) ∧ (Own eBool 4 GL2 W w.heap.size rv (rs)) ∧ (Own eVal 82 GL2 W w.heap.size ov (us)) ∧ (Apart rv.ownBlock ov.ownBlock) ∧ (LvsB 4 GL2 W w.heap.size W.heap.size LV) ∧ (ApLB LV rv.ownBlock) ∧ (ApLB LV ov.ownBlock)) _ ⟨_, 0, u35, [], GL1, (packS (x := 6) (packS (x := 5) (packS (x := 4) (packS (x := 3) (packS (x := 2) (pack1 (x := 1) rfl) rfl) rfl) rfl) rfl) rfl), rfl, hX41, Pin.le_refl _, Nat.zero_le _, rfl, rfl, ho46, ho42, ha44, hlv43, ha45, ha33⟩ ?_)
 rintro k47 _ w48 ⟨env1, q9, rv, rs, GL2, rfl, hk49, hX50, hlek47, hk, hrs, hrl, hw51, hw52, ha53, hlv54, ha55, ha56⟩
 refine s_seq (s_seq (c_reg ?_))
 refine qd rfl rfl rfl (r_move (v := (.int .i64 (q9 : Int))) rfl) (qd rfl rfl rfl (r_fldp (k := 0) rfl Tryz.underlying56 rfl nz22 rfl) (qd rfl rfl rfl (r_ldp1 (u := v) ag22 rfl ((Pins.of_le hX50.pins (Pin.le_trans hlek27 hlek47)) _ _ _ (hbp14 0 _ rfl))) (qd rfl rfl rfl (r_move (v := (.int .i64 (i : Int))) rfl) (qd rfl rfl rfl (run_idx Tryz.underlying22 sz9 (v := v) rfl rfl hv (by omega) (by omega)) (qd rfl rfl rfl (run_load_str (r := rows.getD i ByteArray.empty) rfl ag9 (z := (i : Int)) rfl hv (Pins.of_le hX50.pins (Pin.le_trans (Pin.le_trans hle12 hlek27) hlek47)) (by omega) (by omega)) (qd rfl rfl rfl (r_lenS Tryz.underlying9 rfl) (qd rfl rfl rfl (r_lss rfl rfl) (qe (s_then ?_)))))))))
 refine c_ifd (p := ((q9 : Int) : Int) < ((rows.getD i ByteArray.empty).size : Int)) rfl rfl (fun h57 => ?_) (fun h57 => ?_)
 refine wp_skip (s_then (s_seq ?_))
 refine s_blk (c_reg (qd rfl rfl rfl (r_move (v := rv) rfl) (qd rfl rfl rfl (r_fldp (k := 0) rfl Tryz.underlying56 rfl nz22 rfl) (qd rfl rfl rfl (r_ldp1 (u := v) ag22 rfl ((Pins.of_le hX50.pins (Pin.le_trans hlek27 hlek47)) _ _ _ (hbp14 0 _ rfl))) (qd rfl rfl rfl (r_move (v := (.int .i64 (i : Int))) rfl) (qd rfl rfl rfl (run_idx Tryz.underlying22 sz9 (v := v) rfl rfl hv (by omega) (by omega)) (qd rfl rfl rfl (run_load_str (r := rows.getD i ByteArray.empty) rfl ag9 (z := (i : Int)) rfl hv (Pins.of_le hX50.pins (Pin.le_trans (Pin.le_trans hle12 hlek27) hlek47)) (by omega) (by omega)) (qd rfl rfl rfl (r_move (v := (.int .i64 (q9 : Int))) rfl) (qd rfl rfl rfl (r_idxB Tryz.underlying9 rfl rfl (by omega) (by omega)) (qd rfl rfl rfl (r_eql rfl rfl) (q1 rfl rfl rfl (o_buildF (E := eBool) (e := 4) [(.bool (decide ((((sB (rows.getD i ByteArray.empty) q9).toNat : Int) : Int) = 46)))] [decide ((((sB (rows.getD i ByteArray.empty) q9).toNat : Int) : Int) = 46)] Tryz.underlying82 sz4 zr4 (by exact reps1 (by rfl)) (ones1 (by rfl)) rfl rfl rfl rfl (by decide) hX50.pins (fun u58 w59 ho60 hp61 hl62 hk63 => ?_)))))))))))))
 have hX64 := hX50.step hp61 hl62
 have ho65 := hw51.below hl62
 have ho66 := hw52.below hl62
 have hlv67 := (hlv54.below hl62).top
 have ha70 : ApLB LV u58.ownBlock := ApLB.fresh hlv54 (fun k hk => by rw [hk63] at hk; cases hk; exact Nat.le_refl _)
 have ho71 : Own eBool 4 GL2 w59 w.heap.size u58 ([decide ((((sB (rows.getD i ByteArray.empty) q9).toNat : Int) : Int) = 46)]) := ho60.weaken hX50.size
 refine q1 rfl rfl rfl (o_append (E := eBool) (v := rv) (u := u58) 1 Tryz.underlying82 ap4 (by decide) rfl rfl hX64.pins ho65 ho71.src (by first | omega | (rw [List.nil_append]; omega) | (rw [List.length_nil]; omega) | (rw [List.length_append]; omega) | (simp; done) | (simp; omega) | (simp only [List.length_append, List.length_cons, List.length_nil]; omega)) (by first | omega | (rw [List.nil_append]; omega) | (rw [List.length_nil]; omega) | (rw [List.length_append]; omega) | (simp; done) | (simp; omega) | (simp only [List.length_append, List.length_cons, List.length_nil]; omega)) (hX64.size) (fun u72 w73 ho74 hp75 hg76 hw77 => ?_))
 have hX78 := hX64.write hp75 hg76 ((lo_own ho65))
 have ho79 := ho66.keptA hg76 ha53.symm
 have hlv81 := (hlv67.kept hg76 ha55).top
 have ha82 : Apart ov.ownBlock u72.ownBlock := app_ne_own ha53.symm hw77 ho66.lt
 have ha84 : ApLB LV u72.ownBlock := ApLB.app hlv67 ha55 hw77
 have hm85 : (rs ++ ([decide ((((sB (rows.getD i ByteArray.empty) q9).toNat : Int) : Int) = 46)])).length = rs.length + 1 := List.length_append
 refine qd rfl rfl rfl (r_assign (v := u72) rfl) (qe (s_blkN (s_then (c_reg ?_))))
 refine qd rfl rfl rfl (r_move (v := (.int .i64 (q9 : Int))) rfl) (qd rfl rfl rfl (r_add rfl rfl (by omega)) (qd rfl rfl rfl (r_assign (v := (.int .i64 ((q9 : Int) + 1))) rfl) (qe (s_lopN (⟨_, ?_, _, rfl, _, q9 + 1, u72, rs ++ ([decide ((((sB (rows.getD i ByteArray.empty) q9).toNat : Int) : Int) = 46)]), GL2, (packS (x := 6) (packS (x := 5) (packS (x := 4) (packS (x := 3) (packS (x := 2) (pack1 (x := 1) rfl) rfl) rfl) rfl) rfl) rfl), rfl, hX78, hlek47, (by omega), (by rw [hrs, lineC_succ]; rfl), (by simp [hrl]), ho74, ho79, ha82.symm, hlv81, ha84, ha56⟩)))))
 omega
 refine wp_exit (s_thenE (s_lopE (s_blkE (s_then (c_reg ?_)))))
 refine qd rfl rfl rfl (r_move (v := ov) rfl) (qd rfl rfl rfl (r_move (v := rv) rfl) (q1 rfl rfl rfl (o_buildF (E := eVal) (e := 82) [rv] [rv] Tryz.underlying80 sz82 zr82 (by exact reps1 (⟨rfl, hw51.one⟩)) (ones1 hw51.one) rfl rfl rfl rfl (by decide) hX50.pins (fun u86 w87 ho88 hp89 hl90 hk91 => ?_))))
 have hX92 := hX50.step hp89 hl90
 have ho93 := hw51.below hl90
 have ho94 := hw52.below hl90
 have hlv95 := (hlv54.below hl90).top
 have ha98 : ApLB LV u86.ownBlock := ApLB.fresh hlv54 (fun k hk => by rw [hk91] at hk; cases hk; exact Nat.le_refl _)
 have ho99 : Own eVal 82 GL2 w87 w.heap.size u86 ([rv]) := ho88.weaken hX50.size
 refine q1 rfl rfl rfl (o_append (E := eVal) (v := ov) (u := u86) 24 Tryz.underlying80 ap82 (by decide) rfl rfl hX92.pins ho94 ho99.src (by first | omega | (rw [List.nil_append]; omega) | (rw [List.length_nil]; omega) | (rw [List.length_append]; omega) | (simp; done) | (simp; omega) | (simp only [List.length_append, List.length_cons, List.length_nil]; omega)) (by first | omega | (rw [List.nil_append]; omega) | (rw [List.length_nil]; omega) | (rw [List.length_append]; omega) | (simp; done) | (simp; omega) | (simp only [List.length_append, List.length_cons, List.length_nil]; omega)) (hX92.size) (fun u100 w101 ho102 hp103 hg104 hw105 => ?_))
 have hX106 := hX92.write hp103 hg104 ((lo_own ho94))
 have ho107 := ho93.keptA hg104 ha53
 have hlv109 := (hlv95.kept hg104 ha56).top
 have ha110 : Apart rv.ownBlock u100.ownBlock := app_ne_own ha53 hw105 ho93.lt
 have ha112 : ApLB LV u100.ownBlock := ApLB.app hlv95 ha56 hw105
 have hm113 : (us ++ ([rv])).length = us.length + 1 := List.length_append
 refine qd rfl rfl rfl (r_assign (v := u100) rfl) (qe (s_blkN (s_then (c_reg ?_))))
 refine qd rfl rfl rfl (r_move (v := (.int .i64 (i : Int))) rfl) (qd rfl rfl rfl (r_add rfl rfl (by omega)) (qd rfl rfl rfl (r_assign (v := (.int .i64 ((i : Int) + 1))) rfl) (qe (s_lopN ?_))))
 have hlv114 := hlv109.add ho107 ha55
 have ha115 : ApLB (LV ++ [(rv, rs)]) u100.ownBlock := ha112.add ha110
 refine ⟨_, ?_, _, rfl, _, i + 1, u100, us ++ ([rv]), (LV ++ [(rv, rs)]), GL2, (packS (x := 4) (packS (x := 3) (packS (x := 2) (pack1 (x := 1) rfl) rfl) rfl) rfl), rfl, hX106, (Pin.le_trans hlek27 hlek47), (by omega), (by simp [hul]), (by rw [hLV, hrs, List.range_succ, List.map_append]; exact (lvG_snoc _ _ (by simp [hul])).symm.trans (by rw [show q9 = (rows.getD i ByteArray.empty).size by omega]; rfl)), ho102, hlv114, ha115⟩
 omega
 refine wp_exit (s_thenE (s_lopE (s_blkE (s_then (s_seq (c_reg ?_))))))
 refine qd rfl rfl rfl (r_move (v := ov) rfl) (qd rfl rfl rfl (r_assign (v := ov) rfl) (qe (s_then ?_)))
 refine wp_ret (s_ret (c_ret1 (v := ov) rfl rfl rfl ?_))
 have hin : i = rows.length := by omega
 subst hin
 exact ⟨_, _, rfl, DGrid.make (by rw [cells_len, hul]) hw31 (hLV ▸ hlv32) (hLV ▸ ha33), hX30⟩

theorem cells_spec {w : World} {G : Pin} {v : Value} {rows : List ByteArray} (hP : Pins G w) (hv : RSl eStr G v rows) (g : GbP rows) :
  Calls Tryz.prog 64 [(.agg [v].toArray)].toArray w fun e w' => ∃ (u : Value) (G' : Pin), e = .returned u ∧ RSl (eSl eBool) G' u (cellsM rows) ∧ Ext noS G w G' w' := by
 refine (cells_dspec hP hv g).mono ?_
 rintro e w' ⟨u, G', rfl, hd, hx⟩
 obtain ⟨G2, hr, hx2⟩ := hd.give hx
 exact ⟨u, G2, rfl, hr, hx2⟩

theorem is21_spec {w : World} {G : Pin} {v : Value} {rows : List ByteArray} {r c : Int} (hP : Pins G w) (hv : RSl (eSl eBool) G v (cellsM rows)) (g : GbP rows) :
  Calls Tryz.prog 70 [v, (.int .i64 r), (.int .i64 c)].toArray w fun e w' => ∃ G', e = .returned (.bool (frI rows r c)) ∧ Ext noS G w G' w' := by
 refine s_enter (n := 30) Tryz.func70 Tryz.ntmps70 rfl rfl ?_
 have hX0 : Ext noS G w G w := Ext.refl hP
 have hm := hv.max
 have hcl : (cellsM rows).length = rows.length := cells_len
 have ghi := g.hi
 have gwd : 1 ≤ (rows.getD 0 ByteArray.empty).size ∧ (rows.getD 0 ByteArray.empty).size ≤ 8 := g.wd
 have hcw : ∀ i, i < rows.length → ((cellsM rows).getD i []).length = (rows.getD 0 ByteArray.empty).size := fun i hi => cells_wd g hi
 have hc0 := hcw 0 (by omega)
 have hcr : 0 ≤ r → r < rows.length → ((cellsM rows).getD r.toNat []).length = (rows.getD 0 ByteArray.empty).size := fun h1 h2 => hcw _ (by omega)
 refine s_seq (c_reg ?_)
 refine qd rfl rfl rfl (r_assign (v := (.bool false)) rfl) (qe (s_then (s_seq (c_reg ?_))))
 refine qd rfl rfl rfl (r_move (v := (.int .i64 r)) rfl) (qd rfl rfl rfl (r_move (v := v) rfl) (qd rfl rfl rfl (run_len Tryz.underlying80 (v := v) rfl hv) (qd rfl rfl rfl (r_sub rfl rfl (by omega)) (q1 rfl rfl rfl (o_call (vs := [(.int .i64 r), (.int .i64 0), (.int .i64 (((cellsM rows).length : Int) - 1))]) Tryz.func36 nm36 rfl rfl rfl ?_)))))
 refine Calls.mono (l1In_spec hX0.pins) ?_
 rintro _ _ ⟨rfl, rfl⟩
 refine ⟨_, rfl, ?_⟩
 refine qd rfl rfl rfl (r_move (v := (.bool (decide ((0 : Int) ≤ r ∧ (r : Int) ≤ (((cellsM rows).length : Int) - 1))))) rfl) (qbd (p := ((0 : Int) ≤ r ∧ (r : Int) ≤ (((cellsM rows).length : Int) - 1))) (t := 12) rfl (fun h1 => ?_) (fun h1 => ?_))
 refine qdg rfl rfl rfl rfl rfl rfl (r_move (v := (.int .i64 c)) rfl) (qdg rfl rfl rfl rfl rfl rfl (r_move (v := v) rfl) (qdg rfl rfl rfl rfl rfl rfl (run_idx Tryz.underlying80 sz82 (v := v) rfl rfl hv (by omega) (by omega)) ?_))
 obtain ⟨u2, hr3, hl4⟩ := nm_sl (hv.at (z := 0) (by omega) (by omega)) (j := 0) rfl
 have hm5 := hr3.max
 refine qdg rfl rfl rfl rfl rfl rfl (hl4 ag82 rfl hX0.pins) (qdg rfl rfl rfl rfl rfl rfl (run_len Tryz.underlying82 (v := u2) rfl hr3) (qdg rfl rfl rfl rfl rfl rfl (r_sub rfl rfl (by omega)) (q1g rfl rfl rfl rfl rfl rfl (o_call (vs := [(.int .i64 c), (.int .i64 0), (.int .i64 ((((cellsM rows).getD 0 []).length : Int) - 1))]) Tryz.func36 nm36 rfl rfl rfl ?_))))
 refine Calls.mono (l1In_spec hX0.pins) ?_
 rintro _ _ ⟨rfl, rfl⟩
 refine ⟨_, rfl, ?_⟩
 refine qd rfl rfl rfl (r_pickT (v := (.bool (decide ((0 : Int) ≤ c ∧ (c : Int) ≤ ((((cellsM rows).getD 0 []).length : Int) - 1))))) rfl rfl) (qd rfl rfl rfl (r_move (v := (.bool (decide ((0 : Int) ≤ c ∧ (c : Int) ≤ ((((cellsM rows).getD 0 []).length : Int) - 1))))) rfl) (qbd (p := ((0 : Int) ≤ c ∧ (c : Int) ≤ ((((cellsM rows).getD 0 []).length : Int) - 1))) (t := 21) rfl (fun h6 => ?_) (fun h6 => ?_)))
 refine qdg rfl rfl rfl rfl rfl rfl (r_move (v := v) rfl) (qdg rfl rfl rfl rfl rfl rfl (r_move (v := (.int .i64 r)) rfl) ?_)
 try have hcr2 := hcr (by omega) (by omega)
 refine qdg rfl rfl rfl rfl rfl rfl (run_idx Tryz.underlying80 sz82 (v := v) rfl rfl hv (by omega) (by omega)) ?_
 obtain ⟨u7, hr8, hl9⟩ := nm_sl (hv.at (z := r) (by omega) (by omega)) (j := (r).toNat) rfl
 have hm10 := hr8.max
 refine qdg rfl rfl rfl rfl rfl rfl (hl9 ag82 rfl hX0.pins) (qdg rfl rfl rfl rfl rfl rfl (r_move (v := (.int .i64 c)) rfl) (qdg rfl rfl rfl rfl rfl rfl (run_idx Tryz.underlying82 sz4 (v := u7) rfl rfl hr8 (by omega) (by omega)) (qdg rfl rfl rfl rfl rfl rfl (run_load_bool (r := ((cellsM rows).getD (r).toNat []).getD (c).toNat false) rfl ag4 (z := c) rfl hr8 hX0.pins (by omega) (by omega)) (qd rfl rfl rfl (r_pickT (v := (.bool (((cellsM rows).getD (r).toNat []).getD (c).toNat false))) rfl rfl) (qd rfl rfl rfl (r_assign (v := (.bool (((cellsM rows).getD (r).toNat []).getD (c).toNat false))) rfl) (qe (s_then ?_)))))))
 exact wp_ret (s_ret (c_ret1 (v := (.bool (((cellsM rows).getD (r).toNat []).getD (c).toNat false))) rfl rfl rfl (⟨_, congrArg (fun z => Ending.returned (Value.bool z)) (is_in g (by omega) (by omega) (by omega) (by show c < ((rows.getD 0 ByteArray.empty).size : Int); omega)), hX0⟩)))
 refine qs rfl rfl rfl rfl rfl rfl (qs rfl rfl rfl rfl rfl rfl ?_)
 try have hcr2 := hcr (by omega) (by omega)
 refine qs rfl rfl rfl rfl rfl rfl (qs rfl rfl rfl rfl rfl rfl (qs rfl rfl rfl rfl rfl rfl (qs rfl rfl rfl rfl rfl rfl (qs rfl rfl rfl rfl rfl rfl (qd rfl rfl rfl (r_pickF (v := (.bool false)) rfl rfl) (qd rfl rfl rfl (r_assign (v := (.bool false)) rfl) (qe (s_then ?_))))))))
 exact wp_ret (s_ret (c_ret1 (v := (.bool false)) rfl rfl rfl (⟨_, congrArg (fun z => Ending.returned (Value.bool z)) (by first | exact (frI_out1 (by omega)).symm | exact (frI_out2 g (by omega) (by show ¬ ((0 : Int) ≤ c ∧ c ≤ ((rows.getD 0 ByteArray.empty).size : Int) - 1); omega)).symm), hX0⟩)))
 refine qs rfl rfl rfl rfl rfl rfl (qs rfl rfl rfl rfl rfl rfl (qs rfl rfl rfl rfl rfl rfl (qs rfl rfl rfl rfl rfl rfl (qs rfl rfl rfl rfl rfl rfl (qs rfl rfl rfl rfl rfl rfl (qs rfl rfl rfl rfl rfl rfl (qd rfl rfl rfl (r_pickF (v := (.bool false)) rfl rfl) (qd rfl rfl rfl (r_move (v := (.bool false)) rfl) (qs rfl rfl rfl rfl rfl rfl (qs rfl rfl rfl rfl rfl rfl ?_))))))))))
 try have hcr2 := hcr (by omega) (by omega)
 refine qs rfl rfl rfl rfl rfl rfl (qs rfl rfl rfl rfl rfl rfl (qs rfl rfl rfl rfl rfl rfl (qs rfl rfl rfl rfl rfl rfl (qs rfl rfl rfl rfl rfl rfl (qd rfl rfl rfl (r_pickF (v := (.bool false)) rfl rfl) (qd rfl rfl rfl (r_assign (v := (.bool false)) rfl) (qe (s_then ?_))))))))
 exact wp_ret (s_ret (c_ret1 (v := (.bool false)) rfl rfl rfl (⟨_, congrArg (fun z => Ending.returned (Value.bool z)) (by first | exact (frI_out1 (by omega)).symm | exact (frI_out2 g (by omega) (by show ¬ ((0 : Int) ≤ c ∧ c ≤ ((rows.getD 0 ByteArray.empty).size : Int) - 1); omega)).symm), hX0⟩)))

theorem board_spec {w : World} {G : Pin} {v : Value} {cells : List (List Bool)} (hP : Pins G w) (hv : RSl (eSl eBool) G v cells) (hb : cells.length ≤ 1000 ∧ ∀ i, i < cells.length → (cells.getD i []).length ≤ 1000) :
  Calls Tryz.prog 69 [v].toArray w fun e w' => ∃ (u : Value) (G' : Pin), e = .returned (.agg [u].toArray) ∧ RSl eStr G' u (bdM cells) ∧ Ext noS G w G' w' := by
 refine s_enter (n := 41) Tryz.func69 Tryz.ntmps69 rfl rfl ?_
 have hX0 : Ext noS G w G w := Ext.refl hP
 have hm := hv.max
 have hb1 := hb.1
 refine s_seq (c_reg ?_)
 refine q1 rfl rfl rfl (o_alloc [(.slice none 0 0)] zr56 rfl hX0.pins (fun b1 w2 hk3 hb4 hp5 hl6 => ?_))
 have hX7 := hX0.step hp5 hl6
 have hlo8 : w.heap.size ≤ b1 := by have := hX0.size; omega
 refine qe (s_then (s_seq (c_reg ?_)))
 refine qd rfl rfl rfl (r_build [(.slice none 0 0)] [(.slice none 0 0)] [] Tryz.underlying56 zr56 rfl pl56 rfl (fun _ h => by cases h) rfl) (q1 rfl rfl rfl (o_alloc [(.slice none 0 0)] zr56 rfl hX7.pins (fun b9 w10 hk11 hb12 hp13 hl14 => ?_)))
 have hX15 := hX7.step hp13 hl14
 have hb16 := hb4.below hl14
 have ha17 : Apart (some b9) (some b1) := new_ne_box (congrArg some hk11) hb4.lt
 have hlo18 : w.heap.size ≤ b9 := by have := hX7.size; omega
 refine q0 rfl rfl rfl (o_stp (cs' := [(.slice none 0 0)]) (us := [(.slice none 0 0)]) (v := (.agg [(.slice none 0 0)].toArray)) sz56 rfl rfl rfl (ones1 (by rfl)) hX15.pins hb12 (Nat.le_of_ble_eq_true rfl) rfl (fun w19 hb20 hp21 hg22 hz23 => ?_))
 have hX24 := hX15.write hp21 hg22 ((lo_box hlo18))
 have hb25 := hb16.keptA hg22 ha17.symm
 refine qe (s_then (s_seq (s_seq (c_reg ?_))))
 refine qd rfl rfl rfl (r_assign (v := (.int .i64 0)) rfl) (qe (s_then ?_))
 refine s_blk (s_loop (fun (k : Nat) (en : Nat → Value) (W : World) => ∃ (env1 : Nat → Value) (i : Nat) (ov : Value) (os : List ByteArray) (GL1 : Pin), en = (upd (upd (upd (upd env1 0 v) 2 (.pointer (some ⟨b1, 0, none⟩))) 3 (.pointer (some ⟨b9, 0, none⟩))) 4 (.int .i64 (i : Int))) ∧ k = cells.length - i ∧ Ext noS G w GL1 W ∧ Pin.le G GL1 ∧ (i ≤ cells.length) ∧ (os = (List.range i).map fun i => rowM (cells.getD i [])) ∧ (os.length = i) ∧ (Own eStr 9 GL1 W w.heap.size ov (os)) ∧ (Bx GL1 W b1 [(.slice none 0 0)]) ∧ (Bx GL1 W b9 [ov]) ∧ (Apart ov.ownBlock (some b1)) ∧ (Apart ov.ownBlock (some b9))) _ ⟨_, 0, (.slice none 0 0), [], G, (packS (x := 4) (packS (x := 3) (packS (x := 2) (pack1 (x := 0) rfl) rfl) rfl) rfl), rfl, hX24, Pin.le_refl _, Nat.zero_le _, rfl, rfl, (Own.nil _ _ _ _ _), hb25, hb20, apart_none, apart_none⟩ ?_)
 rintro k26 _ w27 ⟨env1, i, ov, os, GL1, rfl, hk28, hX29, hlek26, hi, hos, hol, hw30, hw31, hw32, ha33, ha34⟩
 refine s_seq (s_seq (c_reg ?_))
 refine qd rfl rfl rfl (r_move (v := (.int .i64 (i : Int))) rfl) (qd rfl rfl rfl (r_move (v := v) rfl) (qd rfl rfl rfl (run_len Tryz.underlying80 (v := v) rfl hv) (qd rfl rfl rfl (r_lss rfl rfl) (qe (s_then ?_)))))
 refine c_ifd (p := ((i : Int) : Int) < (cells.length : Int)) rfl rfl (fun h35 => ?_) (fun h35 => ?_)
 have hci := hb.2 i (by omega)
 refine wp_skip (s_then (s_seq ?_))
 refine s_blk (s_seq (c_reg ?_))
 refine qd rfl rfl rfl (r_assign (v := (.string (⟨#[]⟩ : ByteArray))) rfl) (qe (s_then (s_seq (s_seq (c_reg ?_)))))
 refine qd rfl rfl rfl (r_assign (v := (.int .i64 0)) rfl) (qe (s_then ?_))
 refine s_blk (s_loop (fun (k : Nat) (en : Nat → Value) (W : World) => ∃ (env1 : Nat → Value) (q9 : Nat) (s : ByteArray) (GL2 : Pin), en = (upd (upd (upd (upd (upd (upd env1 0 v) 2 (.pointer (some ⟨b1, 0, none⟩))) 3 (.pointer (some ⟨b9, 0, none⟩))) 4 (.int .i64 (i : Int))) 5 (.string s)) 6 (.int .i64 (q9 : Int))) ∧ k = (cells.getD i []).length - q9 ∧ Ext noS G w GL2 W ∧ Pin.le GL1 GL2 ∧ (q9 ≤ (cells.getD i []).length) ∧ (s = rowM ((cells.getD i []).take q9)) ∧ (Own eStr 9 GL2 W w.heap.size ov (os)) ∧ (Bx GL2 W b1 [(.slice none 0 0)]) ∧ (Bx GL2 W b9 [ov])) _ ⟨_, 0, (⟨#[]⟩ : ByteArray), GL1, (packS (x := 6) (packS (x := 5) (packS (x := 4) (packS (x := 3) (packS (x := 2) (pack1 (x := 0) rfl) rfl) rfl) rfl) rfl) rfl), rfl, hX29, Pin.le_refl _, Nat.zero_le _, rfl, hw30, hw31, hw32⟩ ?_)
 rintro k36 _ w37 ⟨env1, q9, s, GL2, rfl, hk38, hX39, hlek36, hq, hs, hw40, hw41, hw42⟩
 have hss : s.size = q9 := by rw [hs, row_size, List.length_take]; omega
 refine s_seq (s_seq (c_reg ?_))
 refine qd rfl rfl rfl (r_move (v := (.int .i64 (q9 : Int))) rfl) (qd rfl rfl rfl (r_move (v := v) rfl) (qd rfl rfl rfl (r_move (v := (.int .i64 (i : Int))) rfl) (qd rfl rfl rfl (run_idx Tryz.underlying80 sz82 (v := v) rfl rfl hv (by omega) (by omega)) ?_)))
 obtain ⟨u43, hr44, hl45⟩ := nm_sl (hv.at (z := (i : Int)) (by omega) (by omega)) (j := i) rfl
 have hm46 := hr44.max
 refine qd rfl rfl rfl (hl45 ag82 rfl (Pins.of_le hX39.pins (Pin.le_trans hlek26 hlek36))) (qd rfl rfl rfl (run_len Tryz.underlying82 (v := u43) rfl hr44) (qd rfl rfl rfl (r_lss rfl rfl) (qe (s_then ?_))))
 refine c_ifd (p := ((q9 : Int) : Int) < ((cells.getD i []).length : Int)) rfl rfl (fun h47 => ?_) (fun h47 => ?_)
 refine wp_skip (s_then (s_seq ?_))
 refine s_blk (s_seq (c_reg ?_))
 refine qd rfl rfl rfl (r_move (v := v) rfl) (qd rfl rfl rfl (r_move (v := (.int .i64 (i : Int))) rfl) (qd rfl rfl rfl (run_idx Tryz.underlying80 sz82 (v := v) rfl rfl hv (by omega) (by omega)) ?_))
 obtain ⟨u48, hr49, hl50⟩ := nm_sl (hv.at (z := (i : Int)) (by omega) (by omega)) (j := i) rfl
 have hm51 := hr49.max
 refine qd rfl rfl rfl (hl50 ag82 rfl (Pins.of_le hX39.pins (Pin.le_trans hlek26 hlek36))) (qd rfl rfl rfl (r_move (v := (.int .i64 (q9 : Int))) rfl) (qd rfl rfl rfl (run_idx Tryz.underlying82 sz4 (v := u48) rfl rfl hr49 (by omega) (by omega)) (qd rfl rfl rfl (run_load_bool (r := (cells.getD i []).getD q9 false) rfl ag4 (z := (q9 : Int)) rfl hr49 (Pins.of_le hX39.pins (Pin.le_trans hlek26 hlek36)) (by omega) (by omega)) (qe (s_then ?_)))))
 refine c_if rfl rfl (fun h52 => ?_) (fun h52 => ?_)
 refine c_reg (qd rfl rfl rfl (r_move (v := (.string s)) rfl) ?_)
 have hm53 : (⟨#[46]⟩ : ByteArray).size = 1 := rfl
 have hm54 : (s ++ (⟨#[46]⟩ : ByteArray)).size = s.size + (⟨#[46]⟩ : ByteArray).size := ByteArray.size_append
 refine qd rfl rfl rfl (r_addS rfl rfl (by omega)) (qd rfl rfl rfl (r_assign (v := (.string (s ++ (⟨#[46]⟩ : ByteArray)))) rfl) (qe (s_blkN (s_then (c_reg ?_)))))
 refine qd rfl rfl rfl (r_move (v := (.int .i64 (q9 : Int))) rfl) (qd rfl rfl rfl (r_add rfl rfl (by omega)) (qd rfl rfl rfl (r_assign (v := (.int .i64 ((q9 : Int) + 1))) rfl) (qe (s_lopN (⟨_, ?_, _, rfl, _, q9 + 1, s ++ (⟨#[46]⟩ : ByteArray), GL2, (packS (x := 6) (packS (x := 5) (packS (x := 4) (packS (x := 3) (packS (x := 2) (pack1 (x := 0) rfl) rfl) rfl) rfl) rfl) rfl), rfl, hX39, hlek36, (by omega), (row_step (b := true) (by omega) hs h52), hw40, hw41, hw42⟩)))))
 omega
 refine c_reg (qd rfl rfl rfl (r_move (v := (.string s)) rfl) ?_)
 have hm55 : (⟨#[35]⟩ : ByteArray).size = 1 := rfl
 have hm56 : (s ++ (⟨#[35]⟩ : ByteArray)).size = s.size + (⟨#[35]⟩ : ByteArray).size := ByteArray.size_append
 refine qd rfl rfl rfl (r_addS rfl rfl (by omega)) (qd rfl rfl rfl (r_assign (v := (.string (s ++ (⟨#[35]⟩ : ByteArray)))) rfl) (qe (s_blkN (s_then (c_reg ?_)))))
 refine qd rfl rfl rfl (r_move (v := (.int .i64 (q9 : Int))) rfl) (qd rfl rfl rfl (r_add rfl rfl (by omega)) (qd rfl rfl rfl (r_assign (v := (.int .i64 ((q9 : Int) + 1))) rfl) (qe (s_lopN (⟨_, ?_, _, rfl, _, q9 + 1, s ++ (⟨#[35]⟩ : ByteArray), GL2, (packS (x := 6) (packS (x := 5) (packS (x := 4) (packS (x := 3) (packS (x := 2) (pack1 (x := 0) rfl) rfl) rfl) rfl) rfl) rfl), rfl, hX39, hlek36, (by omega), (row_step (b := false) (by omega) hs h52), hw40, hw41, hw42⟩)))))
 omega
 refine wp_exit (s_thenE (s_lopE (s_blkE (s_then (c_reg ?_)))))
 refine qd rfl rfl rfl (r_fldp (k := 0) rfl Tryz.underlying56 rfl nz22 rfl) (qd rfl rfl rfl (r_ldp1 (u := ov) ag22 rfl (hw42.cell (o := 0) rfl)) (qd rfl rfl rfl (r_move (v := (.string s)) rfl) (q1 rfl rfl rfl (o_buildF (E := eStr) (e := 9) [(.string s)] [s] Tryz.underlying22 sz9 zr9 (by exact reps1 (by rfl)) (ones1 (by rfl)) rfl rfl rfl rfl (by decide) hX39.pins (fun u57 w58 ho59 hp60 hl61 hk62 => ?_)))))
 have hX63 := hX39.step hp60 hl61
 have ho64 := hw40.below hl61
 have hb65 := hw41.below hl61
 have hb66 := hw42.below hl61
 have ho70 : Own eStr 9 GL2 w58 w.heap.size u57 ([s]) := ho59.weaken hX39.size
 refine q1 rfl rfl rfl (o_append (E := eStr) (v := ov) (u := u57) 16 Tryz.underlying22 ap9 (by decide) rfl rfl hX63.pins ho64 ho70.src (by first | omega | (rw [List.nil_append]; omega) | (rw [List.length_nil]; omega) | (rw [List.length_append]; omega) | (simp; done) | (simp; omega) | (simp only [List.length_append, List.length_cons, List.length_nil]; omega)) (by first | omega | (rw [List.nil_append]; omega) | (rw [List.length_nil]; omega) | (rw [List.length_append]; omega) | (simp; done) | (simp; omega) | (simp only [List.length_append, List.length_cons, List.length_nil]; omega)) (hX63.size) (fun u71 w72 ho73 hp74 hg75 hw76 => ?_))
 have hX77 := hX63.write hp74 hg75 ((lo_own ho64))
 have hb79 := hb65.keptA hg75 ha33.symm
 have hb80 := hb66.keptA hg75 ha34.symm
 have ha82 : Apart (some b1) u71.ownBlock := app_ne_box ha33.symm hw76 hb65.lt
 have ha83 : Apart (some b9) u71.ownBlock := app_ne_box ha34.symm hw76 hb66.lt
 have hm84 : (os ++ ([s])).length = os.length + 1 := List.length_append
 refine qd rfl rfl rfl (r_fldp (k := 0) rfl Tryz.underlying56 rfl nz22 rfl) (q0 rfl rfl rfl (o_stp (cs' := [u71]) (us := [u71]) (v := u71) sz22 rfl rfl (cells1 ho73.one) (ones1 ho73.one) hX77.pins hb80 (Nat.le_of_ble_eq_true rfl) rfl (fun w85 hb86 hp87 hg88 hz89 => ?_)))
 have hX90 := hX77.write hp87 hg88 ((lo_box hlo18))
 have ho91 := ho73.keptA hg88 ha83.symm
 have hb92 := hb79.keptA hg88 ha17.symm
 refine qe (s_blkN (s_then (c_reg ?_)))
 refine qd rfl rfl rfl (r_move (v := (.int .i64 (i : Int))) rfl) (qd rfl rfl rfl (r_add rfl rfl (by omega)) (qd rfl rfl rfl (r_assign (v := (.int .i64 ((i : Int) + 1))) rfl) (qe (s_lopN (⟨_, ?_, _, rfl, _, i + 1, u71, os ++ ([s]), GL2, (packS (x := 4) (packS (x := 3) (packS (x := 2) (pack1 (x := 0) rfl) rfl) rfl) rfl), rfl, hX90, (Pin.le_trans hlek26 hlek36), (by omega), (by rw [hos, List.range_succ, List.map_append]; congr 1; show [_] = [rowM _]; rw [hs, List.take_of_length_le (by omega)]), (by simp [hol]), ho91, hb92, hb86, ha82.symm, ha83.symm⟩)))))
 omega
 refine wp_exit (s_thenE (s_lopE (s_blkE (s_then (s_seq (c_reg ?_))))))
 refine qd rfl rfl rfl (r_ldpA (cs := [ov]) ag56 sz56 rfl (fun j u hj => hw32.cell (by simpa using hj))) (q0 rfl rfl rfl (o_stp (cs' := [ov]) (us := [ov]) (v := (.agg [ov].toArray)) sz56 rfl rfl rfl (ones1 hw30.one) hX29.pins hw31 (Nat.le_of_ble_eq_true rfl) rfl (fun w93 hb94 hp95 hg96 hz97 => ?_)))
 have hX98 := hX29.write hp95 hg96 ((lo_box hlo8))
 have ho99 := hw30.keptA hg96 ha33
 refine qe (s_then ?_)
 refine wp_ret (s_ret (c_retc (cs := [ov]) rfl rfl rfl ag56 sz56 (fun j u hj => by rw [Nat.zero_add]; exact hb94.cell hj) ?_))
 obtain ⟨G101, hle104, hX103, hr102, hf105⟩ := ho99.sealed hX98
 have hin : i = cells.length := by omega
 subst hin
 exact ⟨_, _, rfl, (by rw [← bd_range, ← hos]; exact hr102), hX103⟩

end RM5
end Go.Proofs.YtianphgdbfekdaaGreatDoor

set_option maxRecDepth 20000
set_option maxHeartbeats 2000000
namespace Go.Proofs.YtianphgdbfekdaaGreatDoor
namespace PW3
open Go.RowKit Go.GL Go.Proofs
open PT3 PTB PW1 RM1 RM5












theorem pl56 : (Tryz.prog.underlying 56).bind (placesD Tryz.prog) = some [(0, 1)] := by kernel_rfl





theorem iReadBoard_spec {w : World} {G : Pin} {t : ByteArray} (hP : Pins G w) (hM : MxG 0 G) (hs : t.size ≤ 1048576) :
  Calls Tryz.prog 44 [(.string t)].toArray w fun e w' => ∃ (u : Value) (G' : Pin), e = .returned (.tuple #[(.agg [u].toArray), .bool (rdB9 t)]) ∧ RSl eStr G' u (rdF9 t) ∧ Ext noS G w G' w' := by
 refine s_enter (n := 17) Tryz.func44 Tryz.ntmps44 rfl rfl ?_
 have hX0 : Ext noS G w G w := Ext.refl hP
 refine s_seq (c_reg ?_)
 refine q1 rfl rfl rfl (o_alloc [(.slice none 0 0)] zr56 rfl hX0.pins (fun b1 w2 hk3 hb4 hp5 hl6 => ?_))
 have hX7 := hX0.step hp5 hl6
 have hlo8 : w.heap.size ≤ b1 := by have := hX0.size; omega
 refine qd rfl rfl rfl (r_assign (v := (.bool false)) rfl) (qe (s_then (s_seq (s_seq (c_reg ?_)))))
 refine qd rfl rfl rfl (r_move (v := (.string t)) rfl) (qd rfl rfl rfl (r_lenS Tryz.underlying9 rfl) (qd rfl rfl rfl (r_gtr rfl rfl) (qe (s_then ?_))))
 refine c_ifd (p := (72 : Int) < (t.size : Int)) rfl rfl (fun h9 => ?_) (fun h9 => ?_)
 refine s_seq (c_reg ?_)
 refine qd rfl rfl rfl (r_build [(.slice none 0 0)] [(.slice none 0 0)] [] Tryz.underlying56 zr56 rfl pl56 rfl (fun _ h => by cases h) rfl) (q0 rfl rfl rfl (o_stp (cs' := [(.slice none 0 0)]) (us := [(.slice none 0 0)]) (v := (.agg [(.slice none 0 0)].toArray)) sz56 rfl rfl rfl (ones1 (by rfl)) hX7.pins hb4 (Nat.le_of_ble_eq_true rfl) rfl (fun w10 hb11 hp12 hg13 hz14 => ?_)))
 have hX15 := hX7.write hp12 hg13 ((lo_box hlo8))
 refine qd rfl rfl rfl (r_assign (v := (.bool false)) rfl) (qe (s_then ?_))
 refine wp_ret (s_ret (c_retct (cs := [(.slice none 0 0)]) (v := (.bool false)) rfl rfl rfl rfl rfl ag56 sz56 (fun j u hj => by rw [Nat.zero_add]; exact hb11.cell hj) ?_))
 have hrb : rdB9 t = false := rd_long (by omega)
 rw [hrb, rdF_no hrb]
 exact ⟨_, _, rfl, (nil_reads _ _), hX15⟩
 refine wp_skip (s_then (s_seq (c_reg ?_)))
 refine qd rfl rfl rfl (r_move (v := (.string t)) rfl) (q1 rfl rfl rfl (o_call (vs := [(.string t), (.string (⟨#[47]⟩ : ByteArray))]) Tryz.func22 nm22 rfl rfl rfl ?_))
 refine Calls.mono (splitP_spec (s := t) (c := 47) hX7.pins hM (by omega)) ?_
 rintro _ w18 ⟨u16, G17, rfl, ho19, hx20⟩
 refine ⟨_, rfl, ?_⟩
 have hX21 := hX7.tr hx20
 have hb22 := hb4.ext hx20
 have ha23 : Apart u16.ownBlock (some b1) := made_ne_box ho19.lt hb4.lt
 have ho24 : Own eStr 9 G17 w18 w.heap.size u16 (partsB 47 t) := ho19.weaken hX7.size
 have hm25 := parts_len 47 t
 have hm26 := parts_ne 47 t
 refine qd rfl rfl rfl (r_build [(.slice none 0 0)] [u16] [(0, u16, [u16])] Tryz.underlying56 zr56 rfl pl56 rfl (List.forall_mem_cons.2 ⟨(cells_one ho24.one), (fun _ h => by cases h)⟩) rfl) (q1 rfl rfl rfl (o_alloc [(.slice none 0 0)] zr56 rfl hX21.pins (fun b27 w28 hk29 hb30 hp31 hl32 => ?_)))
 have hX33 := hX21.step hp31 hl32
 have ho34 := ho24.below hl32
 have hb35 := hb22.below hl32
 have ha36 : Apart (some b27) u16.ownBlock := new_ne_own (congrArg some hk29) ho24.lt
 have ha37 : Apart (some b27) (some b1) := new_ne_box (congrArg some hk29) hb22.lt
 have hlo38 : w.heap.size ≤ b27 := by have := hX21.size; omega
 refine q0 rfl rfl rfl (o_stp (cs' := [u16]) (us := [u16]) (v := (.agg [u16].toArray)) sz56 rfl rfl rfl (ones1 ho34.one) hX33.pins hb30 (Nat.le_of_ble_eq_true rfl) rfl (fun w39 hb40 hp41 hg42 hz43 => ?_))
 have hX44 := hX33.write hp41 hg42 ((lo_box hlo38))
 have ho45 := ho34.keptA hg42 ha36.symm
 have hb46 := hb35.keptA hg42 ha37.symm
 obtain ⟨G47, hle48, hX49, hbp50, hf51⟩ := hb40.shut hX44 hlo38
 have ho52 := ho45.moreA hle48 hf51 ha36.symm
 have hb53 := hb46.moreA hf51 ha37.symm
 refine qe (s_then (s_seq (s_seq (c_reg ?_))))
 refine qd rfl rfl rfl (r_ldpA (cs := [u16]) ag56 sz56 rfl (fun j u hj => hX49.pins _ _ _ (hbp50 _ _ (by simpa using hj)))) ?_
 obtain ⟨G54, hle57, hX56, hr55, hf58⟩ := ho52.sealed hX49
 have hb59 := hb53.moreO hf58 ha23.symm
 refine q1 rfl rfl rfl (o_call (vs := [(.agg [u16].toArray)]) Tryz.func74 nm74 rfl rfl rfl ?_)
 refine Calls.mono (iGoodBoard_spec hX56.pins hr55 (fun i hi => by have := parts_size 47 t _ (getD_mem (d := ByteArray.empty) hi); omega)) ?_
 rintro _ w61 ⟨G60, rfl, hx62⟩
 refine ⟨_, rfl, ?_⟩
 have hX63 := hX56.tr hx62
 have hb64 := hb59.ext hx62
 refine qd rfl rfl rfl (r_not rfl) (qe (s_then ?_))
 refine c_ifn rfl rfl (fun h65 => ?_) (fun h65 => ?_)
 refine wp_skip (s_then (s_seq (c_reg ?_)))
 refine qd rfl rfl rfl (r_ldpA (cs := [u16]) ag56 sz56 rfl (fun j u hj => (Pins.of_le hX63.pins (Pin.le_trans hle57 hx62.le)) _ _ _ (hbp50 _ _ (by simpa using hj)))) (q0 rfl rfl rfl (o_stp (cs' := [u16]) (us := [u16]) (v := (.agg [u16].toArray)) sz56 rfl rfl rfl (ones1 hr55.one) hX63.pins hb64 (Nat.le_of_ble_eq_true rfl) rfl (fun w66 hb67 hp68 hg69 hz70 => ?_)))
 have hX71 := hX63.write hp68 hg69 ((lo_box hlo8))
 refine qd rfl rfl rfl (r_assign (v := (.bool true)) rfl) (qe (s_then ?_))
 refine wp_ret (s_ret (c_retct (cs := [u16]) (v := (.bool true)) rfl rfl rfl rfl rfl ag56 sz56 (fun j u hj => by rw [Nat.zero_add]; exact hb67.cell hj) ?_))
 have hrb : rdB9 t = true := h65
 rw [hrb, rdF_yes hrb]
 exact ⟨_, _, rfl, (hr55.mono hx62.le), hX71⟩
 refine s_seq (c_reg ?_)
 refine qd rfl rfl rfl (r_build [(.slice none 0 0)] [(.slice none 0 0)] [] Tryz.underlying56 zr56 rfl pl56 rfl (fun _ h => by cases h) rfl) (q0 rfl rfl rfl (o_stp (cs' := [(.slice none 0 0)]) (us := [(.slice none 0 0)]) (v := (.agg [(.slice none 0 0)].toArray)) sz56 rfl rfl rfl (ones1 (by rfl)) hX63.pins hb64 (Nat.le_of_ble_eq_true rfl) rfl (fun w72 hb73 hp74 hg75 hz76 => ?_)))
 have hX77 := hX63.write hp74 hg75 ((lo_box hlo8))
 refine qd rfl rfl rfl (r_assign (v := (.bool false)) rfl) (qe (s_then ?_))
 refine wp_ret (s_ret (c_retct (cs := [(.slice none 0 0)]) (v := (.bool false)) rfl rfl rfl rfl rfl ag56 sz56 (fun j u hj => by rw [Nat.zero_add]; exact hb73.cell hj) ?_))
 have hrb : rdB9 t = false := h65
 rw [hrb, rdF_no hrb]
 exact ⟨_, _, rfl, (nil_reads _ _), hX77⟩

theorem sReadBoard_spec {w : World} {G : Pin} {t : ByteArray} (hP : Pins G w) (hs : t.size ≤ 1048576) :
  Calls Tryz.prog 32 [(.string t)].toArray w fun e w' => ∃ (u : Value) (G' : Pin), e = .returned (.tuple #[(.agg [u].toArray), .bool (rdB9 t)]) ∧ RSl eStr G' u (rdF9 t) ∧ Ext noS G w G' w' := by
 refine s_enter (n := 17) Tryz.func32 Tryz.ntmps32 rfl rfl ?_
 have hX0 : Ext noS G w G w := Ext.refl hP
 refine s_seq (c_reg ?_)
 refine q1 rfl rfl rfl (o_alloc [(.slice none 0 0)] zr56 rfl hX0.pins (fun b1 w2 hk3 hb4 hp5 hl6 => ?_))
 have hX7 := hX0.step hp5 hl6
 have hlo8 : w.heap.size ≤ b1 := by have := hX0.size; omega
 refine qd rfl rfl rfl (r_assign (v := (.bool false)) rfl) (qe (s_then (s_seq (s_seq (c_reg ?_)))))
 refine qd rfl rfl rfl (r_move (v := (.string t)) rfl) (qd rfl rfl rfl (r_lenS Tryz.underlying9 rfl) (qd rfl rfl rfl (r_gtr rfl rfl) (qe (s_then ?_))))
 refine c_ifd (p := (100 : Int) < (t.size : Int)) rfl rfl (fun h9 => ?_) (fun h9 => ?_)
 refine s_seq (c_reg ?_)
 refine qd rfl rfl rfl (r_build [(.slice none 0 0)] [(.slice none 0 0)] [] Tryz.underlying56 zr56 rfl pl56 rfl (fun _ h => by cases h) rfl) (q0 rfl rfl rfl (o_stp (cs' := [(.slice none 0 0)]) (us := [(.slice none 0 0)]) (v := (.agg [(.slice none 0 0)].toArray)) sz56 rfl rfl rfl (ones1 (by rfl)) hX7.pins hb4 (Nat.le_of_ble_eq_true rfl) rfl (fun w10 hb11 hp12 hg13 hz14 => ?_)))
 have hX15 := hX7.write hp12 hg13 ((lo_box hlo8))
 refine qd rfl rfl rfl (r_assign (v := (.bool false)) rfl) (qe (s_then ?_))
 refine wp_ret (s_ret (c_retct (cs := [(.slice none 0 0)]) (v := (.bool false)) rfl rfl rfl rfl rfl ag56 sz56 (fun j u hj => by rw [Nat.zero_add]; exact hb11.cell hj) ?_))
 have hrb : rdB9 t = false := rd_long (by omega)
 rw [hrb, rdF_no hrb]
 exact ⟨_, _, rfl, (nil_reads _ _), hX15⟩
 refine wp_skip (s_then (s_seq (c_reg ?_)))
 refine qd rfl rfl rfl (r_move (v := (.string t)) rfl) (q1 rfl rfl rfl (o_call (vs := [(.string t), (.int .u8 47)]) Tryz.func62 nm62 rfl rfl rfl ?_))
 refine Calls.mono (l1Split_spec (s := t) (c := 47) hX7.pins (by omega)) ?_
 rintro _ w18 ⟨u16, G17, rfl, ho19, hx20⟩
 refine ⟨_, rfl, ?_⟩
 have hX21 := hX7.tr hx20
 have hb22 := hb4.ext hx20
 have ha23 : Apart u16.ownBlock (some b1) := made_ne_box ho19.lt hb4.lt
 have ho24 : Own eStr 9 G17 w18 w.heap.size u16 (partsB 47 t) := ho19.weaken hX7.size
 have hm25 := parts_len 47 t
 have hm26 := parts_ne 47 t
 refine qd rfl rfl rfl (r_build [(.slice none 0 0)] [u16] [(0, u16, [u16])] Tryz.underlying56 zr56 rfl pl56 rfl (List.forall_mem_cons.2 ⟨(cells_one ho24.one), (fun _ h => by cases h)⟩) rfl) (q1 rfl rfl rfl (o_alloc [(.slice none 0 0)] zr56 rfl hX21.pins (fun b27 w28 hk29 hb30 hp31 hl32 => ?_)))
 have hX33 := hX21.step hp31 hl32
 have ho34 := ho24.below hl32
 have hb35 := hb22.below hl32
 have ha36 : Apart (some b27) u16.ownBlock := new_ne_own (congrArg some hk29) ho24.lt
 have ha37 : Apart (some b27) (some b1) := new_ne_box (congrArg some hk29) hb22.lt
 have hlo38 : w.heap.size ≤ b27 := by have := hX21.size; omega
 refine q0 rfl rfl rfl (o_stp (cs' := [u16]) (us := [u16]) (v := (.agg [u16].toArray)) sz56 rfl rfl rfl (ones1 ho34.one) hX33.pins hb30 (Nat.le_of_ble_eq_true rfl) rfl (fun w39 hb40 hp41 hg42 hz43 => ?_))
 have hX44 := hX33.write hp41 hg42 ((lo_box hlo38))
 have ho45 := ho34.keptA hg42 ha36.symm
 have hb46 := hb35.keptA hg42 ha37.symm
 obtain ⟨G47, hle48, hX49, hbp50, hf51⟩ := hb40.shut hX44 hlo38
 have ho52 := ho45.moreA hle48 hf51 ha36.symm
 have hb53 := hb46.moreA hf51 ha37.symm
 refine qe (s_then (s_seq (s_seq (c_reg ?_))))
 refine qd rfl rfl rfl (r_ldpA (cs := [u16]) ag56 sz56 rfl (fun j u hj => hX49.pins _ _ _ (hbp50 _ _ (by simpa using hj)))) ?_
 obtain ⟨G54, hle57, hX56, hr55, hf58⟩ := ho52.sealed hX49
 have hb59 := hb53.moreO hf58 ha23.symm
 refine q1 rfl rfl rfl (o_call (vs := [(.agg [u16].toArray)]) Tryz.func63 nm63 rfl rfl rfl ?_)
 refine Calls.mono (sGoodBoard_spec hX56.pins hr55) ?_
 rintro _ w61 ⟨G60, rfl, hx62⟩
 refine ⟨_, rfl, ?_⟩
 have hX63 := hX56.tr hx62
 have hb64 := hb59.ext hx62
 refine qd rfl rfl rfl (r_not rfl) (qe (s_then ?_))
 refine c_ifn rfl rfl (fun h65 => ?_) (fun h65 => ?_)
 refine wp_skip (s_then (s_seq (c_reg ?_)))
 refine qd rfl rfl rfl (r_ldpA (cs := [u16]) ag56 sz56 rfl (fun j u hj => (Pins.of_le hX63.pins (Pin.le_trans hle57 hx62.le)) _ _ _ (hbp50 _ _ (by simpa using hj)))) (q0 rfl rfl rfl (o_stp (cs' := [u16]) (us := [u16]) (v := (.agg [u16].toArray)) sz56 rfl rfl rfl (ones1 hr55.one) hX63.pins hb64 (Nat.le_of_ble_eq_true rfl) rfl (fun w66 hb67 hp68 hg69 hz70 => ?_)))
 have hX71 := hX63.write hp68 hg69 ((lo_box hlo8))
 refine qd rfl rfl rfl (r_assign (v := (.bool true)) rfl) (qe (s_then ?_))
 refine wp_ret (s_ret (c_retct (cs := [u16]) (v := (.bool true)) rfl rfl rfl rfl rfl ag56 sz56 (fun j u hj => by rw [Nat.zero_add]; exact hb67.cell hj) ?_))
 have hrb : rdB9 t = true := h65
 rw [hrb, rdF_yes hrb]
 exact ⟨_, _, rfl, (hr55.mono hx62.le), hX71⟩
 refine s_seq (c_reg ?_)
 refine qd rfl rfl rfl (r_build [(.slice none 0 0)] [(.slice none 0 0)] [] Tryz.underlying56 zr56 rfl pl56 rfl (fun _ h => by cases h) rfl) (q0 rfl rfl rfl (o_stp (cs' := [(.slice none 0 0)]) (us := [(.slice none 0 0)]) (v := (.agg [(.slice none 0 0)].toArray)) sz56 rfl rfl rfl (ones1 (by rfl)) hX63.pins hb64 (Nat.le_of_ble_eq_true rfl) rfl (fun w72 hb73 hp74 hg75 hz76 => ?_)))
 have hX77 := hX63.write hp74 hg75 ((lo_box hlo8))
 refine qd rfl rfl rfl (r_assign (v := (.bool false)) rfl) (qe (s_then ?_))
 refine wp_ret (s_ret (c_retct (cs := [(.slice none 0 0)]) (v := (.bool false)) rfl rfl rfl rfl rfl ag56 sz56 (fun j u hj => by rw [Nat.zero_add]; exact hb73.cell hj) ?_))
 have hrb : rdB9 t = false := h65
 rw [hrb, rdF_no hrb]
 exact ⟨_, _, rfl, (nil_reads _ _), hX77⟩

theorem l21Free_spec {w : World} {G : Pin} {v : Value} {rows : List ByteArray} (hP : Pins G w) (hv : RSl eStr G v rows) (g : GbP rows) :
  Calls Tryz.prog 33 [(.agg [v].toArray)].toArray w fun e w' => ∃ G', e = .returned (.int .i64 (((frN (cellsM rows) rows.length : Nat) : Int))) ∧ Ext noS G w G' w' := by
 refine s_enter (n := 34) Tryz.func33 Tryz.ntmps33 rfl rfl ?_
 have hX0 : Ext noS G w G w := Ext.refl hP
 have hm := hv.max
 have ghi := g.hi
 have gwd : 1 ≤ (rows.getD 0 ByteArray.empty).size ∧ (rows.getD 0 ByteArray.empty).size ≤ 8 := g.wd
 have geq : ∀ i, i < rows.length → (rows.getD i ByteArray.empty).size = (rows.getD 0 ByteArray.empty).size := g.eq
 have hcl : (cellsM rows).length = rows.length := cells_len
 have hcw : ∀ i, i < rows.length → ((cellsM rows).getD i []).length = (rows.getD 0 ByteArray.empty).size := fun i hi => cells_wd g hi
 refine s_seq (c_reg ?_)
 refine q1 rfl rfl rfl (o_box [v] (v := (.agg [v].toArray)) rfl rfl hX0.pins (fun b1 w2 hk3 hb4 hp5 hl6 => ?_))
 have hX7 := hX0.step hp5 hl6
 have hlo8 : w.heap.size ≤ b1 := by have := hX0.size; omega
 obtain ⟨G9, hle10, hX11, hbp12, hf13⟩ := hb4.shut hX7 hlo8
 refine qd rfl rfl rfl (r_assign (v := (.int .i64 0)) rfl) (qe (s_then (s_seq (c_reg ?_))))
 refine qd rfl rfl rfl (r_assign (v := (.int .i64 0)) rfl) (qe (s_then (s_seq (c_reg ?_))))
 refine qd rfl rfl rfl (r_ldpA (cs := [v]) ag56 sz56 rfl (fun j u hj => hX11.pins _ _ _ (hbp12 _ _ (by simpa using hj)))) (q1 rfl rfl rfl (o_call (vs := [(.agg [v].toArray)]) Tryz.func64 nm64 rfl rfl rfl ?_))
 refine Calls.mono (cells_spec hX11.pins (hv.mono hle10) g) ?_
 rintro _ w16 ⟨u14, G15, rfl, hd17, hx18⟩
 refine ⟨_, rfl, ?_⟩
 have hX19 := hX11.tr hx18
 have hm20 := hd17.max
 refine qd rfl rfl rfl (r_assign (v := u14) rfl) (qe (s_then (s_seq (s_seq (c_reg ?_)))))
 refine qd rfl rfl rfl (r_assign (v := (.int .i64 0)) rfl) (qe (s_then ?_))
 refine s_blk (s_loop (fun (k : Nat) (en : Nat → Value) (W : World) => ∃ (env1 : Nat → Value) (i : Nat) (m1 : Int) (GL1 : Pin), en = (upd (upd (upd (upd env1 2 (.int .i64 0)) 3 (.int .i64 m1)) 4 u14) 5 (.int .i64 (i : Int))) ∧ k = rows.length - i ∧ Ext noS G w GL1 W ∧ Pin.le G15 GL1 ∧ (i ≤ rows.length) ∧ (m1 = ((frN (cellsM rows) i : Nat) : Int)) ∧ (frN (cellsM rows) i ≤ 8 * i)) _ ⟨_, 0, 0, G15, (packS (x := 5) (packS (x := 4) (packS (x := 3) (pack1 (x := 2) rfl) rfl) rfl) rfl), rfl, hX19, Pin.le_refl _, Nat.zero_le _, rfl, Nat.le_refl _⟩ ?_)
 rintro k21 _ w22 ⟨env1, i, m1, GL1, rfl, hk23, hX24, hlek21, hi, hm1, hb1⟩
 refine s_seq (s_seq (c_reg ?_))
 refine qd rfl rfl rfl (r_move (v := (.int .i64 (i : Int))) rfl) (qd rfl rfl rfl (r_move (v := u14) rfl) (qd rfl rfl rfl (run_len Tryz.underlying80 (v := u14) rfl hd17) (qd rfl rfl rfl (r_lss rfl rfl) (qe (s_then ?_)))))
 refine c_ifd (p := ((i : Int) : Int) < ((cellsM rows).length : Int)) rfl rfl (fun h25 => ?_) (fun h25 => ?_)
 have hci := hcw i (by omega)
 have hcn := cnt_le ((cellsM rows).getD i [])
 refine wp_skip (s_then (s_seq ?_))
 refine s_blk (s_seq (c_reg ?_))
 refine qd rfl rfl rfl (r_assign (v := (.int .i64 0)) rfl) (qe (s_then ?_))
 refine s_blk (s_loop (fun (k : Nat) (en : Nat → Value) (W : World) => ∃ (env1 : Nat → Value) (q9 : Nat) (m2 : Int) (GL2 : Pin), en = (upd (upd (upd (upd (upd env1 2 (.int .i64 0)) 3 (.int .i64 m2)) 4 u14) 5 (.int .i64 (i : Int))) 6 (.int .i64 (q9 : Int))) ∧ k = ((cellsM rows).getD i []).length - q9 ∧ Ext noS G w GL2 W ∧ Pin.le GL1 GL2 ∧ (q9 ≤ ((cellsM rows).getD i []).length) ∧ (m2 = ((frN (cellsM rows) i + cntT (((cellsM rows).getD i []).take q9) : Nat) : Int))) _ ⟨_, 0, m1, GL1, (packS (x := 6) (packS (x := 5) (packS (x := 4) (packS (x := 3) (pack1 (x := 2) rfl) rfl) rfl) rfl) rfl), rfl, hX24, Pin.le_refl _, Nat.zero_le _, (by rw [hm1]; simp [cntT])⟩ ?_)
 rintro k26 _ w27 ⟨env1, q9, m2, GL2, rfl, hk28, hX29, hlek26, hq, hm2⟩
 have hcq := cnt_le (((cellsM rows).getD i []).take q9)
 rw [List.length_take] at hcq
 refine s_seq (s_seq (c_reg ?_))
 refine qd rfl rfl rfl (r_move (v := (.int .i64 (q9 : Int))) rfl) (qd rfl rfl rfl (r_move (v := u14) rfl) (qd rfl rfl rfl (r_move (v := (.int .i64 (i : Int))) rfl) (qd rfl rfl rfl (run_idx Tryz.underlying80 sz82 (v := u14) rfl rfl hd17 (by omega) (by omega)) ?_)))
 obtain ⟨u30, hr31, hl32⟩ := nm_sl (hd17.at (z := (i : Int)) (by omega) (by omega)) (j := i) rfl
 have hm33 := hr31.max
 refine qd rfl rfl rfl (hl32 ag82 rfl (Pins.of_le hX29.pins (Pin.le_trans hlek21 hlek26))) (qd rfl rfl rfl (run_len Tryz.underlying82 (v := u30) rfl hr31) (qd rfl rfl rfl (r_lss rfl rfl) (qe (s_then ?_))))
 refine c_ifd (p := ((q9 : Int) : Int) < (((cellsM rows).getD i []).length : Int)) rfl rfl (fun h34 => ?_) (fun h34 => ?_)
 refine wp_skip (s_then (s_seq ?_))
 refine s_blk (s_seq (c_reg ?_))
 refine qd rfl rfl rfl (r_move (v := u14) rfl) (qd rfl rfl rfl (r_move (v := (.int .i64 (i : Int))) rfl) (qd rfl rfl rfl (run_idx Tryz.underlying80 sz82 (v := u14) rfl rfl hd17 (by omega) (by omega)) ?_))
 obtain ⟨u35, hr36, hl37⟩ := nm_sl (hd17.at (z := (i : Int)) (by omega) (by omega)) (j := i) rfl
 have hm38 := hr36.max
 refine qd rfl rfl rfl (hl37 ag82 rfl (Pins.of_le hX29.pins (Pin.le_trans hlek21 hlek26))) (qd rfl rfl rfl (r_move (v := (.int .i64 (q9 : Int))) rfl) (qd rfl rfl rfl (run_idx Tryz.underlying82 sz4 (v := u35) rfl rfl hr36 (by omega) (by omega)) (qd rfl rfl rfl (run_load_bool (r := ((cellsM rows).getD i []).getD q9 false) rfl ag4 (z := (q9 : Int)) rfl hr36 (Pins.of_le hX29.pins (Pin.le_trans hlek21 hlek26)) (by omega) (by omega)) (qe (s_then ?_)))))
 refine c_if rfl rfl (fun h39 => ?_) (fun h39 => ?_)
 refine c_reg (qd rfl rfl rfl (r_move (v := (.int .i64 m2)) rfl) (qd rfl rfl rfl (r_add rfl rfl (by omega)) (qd rfl rfl rfl (r_assign (v := (.int .i64 (m2 + 1))) rfl) (qe (s_blkN (s_then (c_reg ?_)))))))
 refine qd rfl rfl rfl (r_move (v := (.int .i64 (q9 : Int))) rfl) (qd rfl rfl rfl (r_add rfl rfl (by omega)) (qd rfl rfl rfl (r_assign (v := (.int .i64 ((q9 : Int) + 1))) rfl) (qe (s_lopN (⟨_, ?_, _, rfl, _, q9 + 1, m2 + 1, GL2, (packS (x := 6) (packS (x := 5) (packS (x := 4) (packS (x := 3) (pack1 (x := 2) rfl) rfl) rfl) rfl) rfl), rfl, hX29, hlek26, (by omega), (by rw [cnt_next (b := true) (by omega) h39, hm2]; simp; omega)⟩)))))
 omega
 refine wp_skip (s_blkN (s_then (c_reg ?_)))
 refine qd rfl rfl rfl (r_move (v := (.int .i64 (q9 : Int))) rfl) (qd rfl rfl rfl (r_add rfl rfl (by omega)) (qd rfl rfl rfl (r_assign (v := (.int .i64 ((q9 : Int) + 1))) rfl) (qe (s_lopN (⟨_, ?_, _, rfl, _, q9 + 1, m2, GL2, (packS (x := 6) (packS (x := 5) (packS (x := 4) (packS (x := 3) (pack1 (x := 2) rfl) rfl) rfl) rfl) rfl), rfl, hX29, hlek26, (by omega), (by rw [cnt_next (b := false) (by omega) h39, hm2]; simp)⟩)))))
 omega
 refine wp_exit (s_thenE (s_lopE (s_blkE (s_blkN (s_then (c_reg ?_))))))
 refine qd rfl rfl rfl (r_move (v := (.int .i64 (i : Int))) rfl) (qd rfl rfl rfl (r_add rfl rfl (by omega)) (qd rfl rfl rfl (r_assign (v := (.int .i64 ((i : Int) + 1))) rfl) (qe (s_lopN (⟨_, ?_, _, rfl, _, i + 1, m2, GL2, (packS (x := 5) (packS (x := 4) (packS (x := 3) (pack1 (x := 2) rfl) rfl) rfl) rfl), rfl, hX29, (Pin.le_trans hlek21 hlek26), (by omega), (by rw [frN_next (by omega), hm2, List.take_of_length_le (by omega)]), (by rw [frN_next (by omega)]; omega)⟩)))))
 omega
 refine wp_exit (s_thenE (s_lopE (s_blkE (s_then (s_seq (c_reg ?_))))))
 refine qd rfl rfl rfl (r_move (v := (.int .i64 m1)) rfl) (qd rfl rfl rfl (r_assign (v := (.int .i64 m1)) rfl) (qe (s_then ?_)))
 exact wp_ret (s_ret (c_ret1 (v := (.int .i64 m1)) rfl rfl rfl (⟨_, congrArg (fun z => Ending.returned (Value.int .i64 z)) (by rw [hm1, show i = rows.length by omega]), hX24⟩)))

theorem l21Text_spec {w : World} {G : Pin} {v : Value} {rows : List ByteArray} (hP : Pins G w) (hv : RSl eStr G v rows) (hl : rows.length ≤ 1000) (hz : ∀ i, i < rows.length → (rows.getD i ByteArray.empty).size ≤ 8) :
  Calls Tryz.prog 41 [(.agg [v].toArray)].toArray w fun e w' => ∃ G', e = .returned (.string (joinC 47 rows)) ∧ Ext noS G w G' w' := by
 refine s_enter (n := 24) Tryz.func41 Tryz.ntmps41 rfl rfl ?_
 have hX0 : Ext noS G w G w := Ext.refl hP
 refine s_seq (c_reg ?_)
 refine q1 rfl rfl rfl (o_box [v] (v := (.agg [v].toArray)) rfl rfl hX0.pins (fun b1 w2 hk3 hb4 hp5 hl6 => ?_))
 have hX7 := hX0.step hp5 hl6
 have hlo8 : w.heap.size ≤ b1 := by have := hX0.size; omega
 obtain ⟨G9, hle10, hX11, hbp12, hf13⟩ := hb4.shut hX7 hlo8
 refine qd rfl rfl rfl (r_assign (v := (.string (⟨#[]⟩ : ByteArray))) rfl) (qe (s_then (s_seq (c_reg ?_))))
 refine qd rfl rfl rfl (r_assign (v := (.string (⟨#[]⟩ : ByteArray))) rfl) (qe (s_then (s_seq (s_seq (c_reg ?_)))))
 refine qd rfl rfl rfl (r_assign (v := (.int .i64 0)) rfl) (qe (s_then ?_))
 refine s_blk (s_loop (fun (k : Nat) (en : Nat → Value) (W : World) => ∃ (env1 : Nat → Value) (i : Nat) (os : ByteArray) (GL1 : Pin), en = (upd (upd (upd (upd env1 1 (.pointer (some ⟨b1, 0, none⟩))) 2 (.string (⟨#[]⟩ : ByteArray))) 3 (.string os)) 4 (.int .i64 (i : Int))) ∧ k = rows.length - i ∧ Ext noS G w GL1 W ∧ Pin.le G9 GL1 ∧ (i ≤ rows.length) ∧ (os = joinC 47 (rows.take i)) ∧ (os.size ≤ 9 * i)) _ ⟨_, 0, (⟨#[]⟩ : ByteArray), G9, (packS (x := 4) (packS (x := 3) (packS (x := 2) (pack1 (x := 1) rfl) rfl) rfl) rfl), rfl, hX11, Pin.le_refl _, Nat.zero_le _, (joinC_nil 47).symm, Nat.zero_le _⟩ ?_)
 rintro k14 _ w15 ⟨env1, i, os, GL1, rfl, hk16, hX17, hlek14, hi, hos, hoz⟩
 refine s_seq (s_seq (c_reg ?_))
 refine qd rfl rfl rfl (r_move (v := (.int .i64 (i : Int))) rfl) (qd rfl rfl rfl (r_fldp (k := 0) rfl Tryz.underlying56 rfl nz22 rfl) (qd rfl rfl rfl (r_ldp1 (u := v) ag22 rfl ((Pins.of_le hX17.pins hlek14) _ _ _ (hbp12 0 _ rfl))) (qd rfl rfl rfl (run_len Tryz.underlying22 (v := v) rfl hv) (qd rfl rfl rfl (r_lss rfl rfl) (qe (s_then ?_))))))
 refine c_ifd (p := ((i : Int) : Int) < (rows.length : Int)) rfl rfl (fun h18 => ?_) (fun h18 => ?_)
 have hrz := hz i (by omega)
 refine wp_skip (s_then (s_seq ?_))
 refine s_blk (s_seq (s_seq (c_reg ?_)))
 refine qd rfl rfl rfl (r_move (v := (.int .i64 (i : Int))) rfl) (qd rfl rfl rfl (r_gtr rfl rfl) (qe (s_then ?_)))
 refine c_ifd (p := (0 : Int) < (i : Int)) rfl rfl (fun h19 => ?_) (fun h19 => ?_)
 refine c_reg (qd rfl rfl rfl (r_move (v := (.string os)) rfl) ?_)
 have hm20 : (⟨#[47]⟩ : ByteArray).size = 1 := rfl
 have hm21 : (os ++ (⟨#[47]⟩ : ByteArray)).size = os.size + (⟨#[47]⟩ : ByteArray).size := ByteArray.size_append
 refine qd rfl rfl rfl (r_addS rfl rfl (by omega)) (qd rfl rfl rfl (r_assign (v := (.string (os ++ (⟨#[47]⟩ : ByteArray)))) rfl) (qe (s_then (c_reg ?_))))
 refine qd rfl rfl rfl (r_move (v := (.string (os ++ (⟨#[47]⟩ : ByteArray)))) rfl) (qd rfl rfl rfl (r_fldp (k := 0) rfl Tryz.underlying56 rfl nz22 rfl) (qd rfl rfl rfl (r_ldp1 (u := v) ag22 rfl ((Pins.of_le hX17.pins hlek14) _ _ _ (hbp12 0 _ rfl))) (qd rfl rfl rfl (r_move (v := (.int .i64 (i : Int))) rfl) (qd rfl rfl rfl (run_idx Tryz.underlying22 sz9 (v := v) rfl rfl hv (by omega) (by omega)) (qd rfl rfl rfl (run_load_str (r := rows.getD i ByteArray.empty) rfl ag9 (z := (i : Int)) rfl hv (Pins.of_le hX17.pins (Pin.le_trans hle10 hlek14)) (by omega) (by omega)) ?_)))))
 have hm22 : ((os ++ (⟨#[47]⟩ : ByteArray)) ++ (rows.getD i ByteArray.empty)).size = (os ++ (⟨#[47]⟩ : ByteArray)).size + (rows.getD i ByteArray.empty).size := ByteArray.size_append
 refine qd rfl rfl rfl (r_addS rfl rfl (by omega)) (qd rfl rfl rfl (r_assign (v := (.string ((os ++ (⟨#[47]⟩ : ByteArray)) ++ (rows.getD i ByteArray.empty)))) rfl) (qe (s_blkN (s_then (c_reg ?_)))))
 refine qd rfl rfl rfl (r_move (v := (.int .i64 (i : Int))) rfl) (qd rfl rfl rfl (r_add rfl rfl (by omega)) (qd rfl rfl rfl (r_assign (v := (.int .i64 ((i : Int) + 1))) rfl) (qe (s_lopN (⟨_, ?_, _, rfl, _, i + 1, (os ++ (⟨#[47]⟩ : ByteArray)) ++ (rows.getD i ByteArray.empty), GL1, (packS (x := 4) (packS (x := 3) (packS (x := 2) (pack1 (x := 1) rfl) rfl) rfl) rfl), rfl, hX17, hlek14, (by omega), (jn_A (by omega) hos h19), (by omega)⟩)))))
 omega
 refine wp_skip (s_then (c_reg ?_))
 refine qd rfl rfl rfl (r_move (v := (.string os)) rfl) (qd rfl rfl rfl (r_fldp (k := 0) rfl Tryz.underlying56 rfl nz22 rfl) (qd rfl rfl rfl (r_ldp1 (u := v) ag22 rfl ((Pins.of_le hX17.pins hlek14) _ _ _ (hbp12 0 _ rfl))) (qd rfl rfl rfl (r_move (v := (.int .i64 (i : Int))) rfl) (qd rfl rfl rfl (run_idx Tryz.underlying22 sz9 (v := v) rfl rfl hv (by omega) (by omega)) (qd rfl rfl rfl (run_load_str (r := rows.getD i ByteArray.empty) rfl ag9 (z := (i : Int)) rfl hv (Pins.of_le hX17.pins (Pin.le_trans hle10 hlek14)) (by omega) (by omega)) ?_)))))
 have hm23 : (os ++ (rows.getD i ByteArray.empty)).size = os.size + (rows.getD i ByteArray.empty).size := ByteArray.size_append
 refine qd rfl rfl rfl (r_addS rfl rfl (by omega)) (qd rfl rfl rfl (r_assign (v := (.string (os ++ (rows.getD i ByteArray.empty)))) rfl) (qe (s_blkN (s_then (c_reg ?_)))))
 refine qd rfl rfl rfl (r_move (v := (.int .i64 (i : Int))) rfl) (qd rfl rfl rfl (r_add rfl rfl (by omega)) (qd rfl rfl rfl (r_assign (v := (.int .i64 ((i : Int) + 1))) rfl) (qe (s_lopN (⟨_, ?_, _, rfl, _, i + 1, os ++ (rows.getD i ByteArray.empty), GL1, (packS (x := 4) (packS (x := 3) (packS (x := 2) (pack1 (x := 1) rfl) rfl) rfl) rfl), rfl, hX17, hlek14, (by omega), (jn_B (by omega) hos h19), (by omega)⟩)))))
 omega
 refine wp_exit (s_thenE (s_lopE (s_blkE (s_then (s_seq (c_reg ?_))))))
 refine qd rfl rfl rfl (r_move (v := (.string os)) rfl) (qd rfl rfl rfl (r_assign (v := (.string os)) rfl) (qe (s_then ?_)))
 exact wp_ret (s_ret (c_ret1 (v := (.string os)) rfl rfl rfl (⟨_, congrArg (fun z => Ending.returned (Value.string z)) (by rw [hos, List.take_of_length_le (by omega)]), hX17⟩)))

theorem bText_spec {w : World} {G : Pin} {v : Value} {rows : List ByteArray} (hP : Pins G w) (hv : RSl eStr G v rows) (hl : rows.length ≤ 1000) (hz : ∀ i, i < rows.length → (rows.getD i ByteArray.empty).size ≤ 8) :
  Calls Tryz.prog 53 [(.agg [v].toArray)].toArray w fun e w' => ∃ G', e = .returned (.string (joinC 47 rows)) ∧ Ext noS G w G' w' := by
 refine s_enter (n := 6) Tryz.func53 Tryz.ntmps53 rfl rfl ?_
 have hX0 : Ext noS G w G w := Ext.refl hP
 refine s_seq (c_reg ?_)
 refine q1 rfl rfl rfl (o_box [v] (v := (.agg [v].toArray)) rfl rfl hX0.pins (fun b1 w2 hk3 hb4 hp5 hl6 => ?_))
 have hX7 := hX0.step hp5 hl6
 have hlo8 : w.heap.size ≤ b1 := by have := hX0.size; omega
 obtain ⟨G9, hle10, hX11, hbp12, hf13⟩ := hb4.shut hX7 hlo8
 refine qd rfl rfl rfl (r_assign (v := (.string (⟨#[]⟩ : ByteArray))) rfl) (qe (s_then (s_seq (c_reg ?_))))
 refine qd rfl rfl rfl (r_fldp (k := 0) rfl Tryz.underlying56 rfl nz22 rfl) (qd rfl rfl rfl (r_ldp1 (u := v) ag22 rfl (hX11.pins _ _ _ (hbp12 0 _ rfl))) (q1 rfl rfl rfl (o_call (vs := [v, (.string (⟨#[47]⟩ : ByteArray))]) Tryz.func61 nm61 rfl rfl rfl ?_)))
 refine Calls.mono (joinC_spec (c := 47) hX11.pins (hv.mono hle10) (jc_small hl hz)) ?_
 rintro _ w14 ⟨rfl, hx15⟩
 refine ⟨_, rfl, ?_⟩
 have hX16 := hX11.step hx15.pins hx15.below
 refine qd rfl rfl rfl (r_assign (v := (.string (joinC 47 rows))) rfl) (qe (s_then ?_))
 exact wp_ret (s_ret (c_ret1 (v := (.string (joinC 47 rows))) rfl rfl rfl (⟨_, rfl, hX16⟩)))

end PW3
end Go.Proofs.YtianphgdbfekdaaGreatDoor

set_option maxRecDepth 20000
set_option maxHeartbeats 2000000
namespace Go.Proofs.YtianphgdbfekdaaGreatDoor
namespace RM2
open Go.RowKit Go.GL Go.Proofs
open RM1





theorem pl56 : (Tryz.prog.underlying 56).bind (placesD Tryz.prog) = some [(0, 1)] := by kernel_rfl






theorem free_spec {w : World} {G : Pin} {v : Value} {rows : List ByteArray} (hP : Pins G w) (hv : RSl eStr G v rows) {r c : Int} (g : GbP rows) :
  Calls Tryz.prog 79 [(.agg [v].toArray), (.int .i64 r), (.int .i64 c)].toArray w fun e w' => ∃ G', e = .returned (.bool (frI rows r c)) ∧ Ext noS G w G' w' := by
 refine s_enter (n := 39) Tryz.func79 Tryz.ntmps79 rfl rfl ?_
 have hX0 : Ext noS G w G w := Ext.refl hP
 have hm := hv.max
 have ghi := g.hi
 have gwd : 1 ≤ (rows.getD 0 ByteArray.empty).size ∧ (rows.getD 0 ByteArray.empty).size ≤ 8 := g.wd
 have geq : ∀ i, i < rows.length → (rows.getD i ByteArray.empty).size = (rows.getD 0 ByteArray.empty).size := g.eq
 have hrow : 0 ≤ r → r < rows.length → (rows.getD r.toNat ByteArray.empty).size = (rows.getD 0 ByteArray.empty).size := fun h1 h2 => geq _ (by omega)
 refine s_seq (c_reg ?_)
 refine q1 rfl rfl rfl (o_box [v] (v := (.agg [v].toArray)) rfl rfl hX0.pins (fun b1 w2 hk3 hb4 hp5 hl6 => ?_))
 have hX7 := hX0.step hp5 hl6
 have hlo8 : w.heap.size ≤ b1 := by have := hX0.size; omega
 obtain ⟨G9, hle10, hX11, hbp12, hf13⟩ := hb4.shut hX7 hlo8
 refine qd rfl rfl rfl (r_assign (v := (.bool false)) rfl) (qe (s_then (s_seq (c_reg ?_))))
 refine qd rfl rfl rfl (r_move (v := (.int .i64 r)) rfl) (qd rfl rfl rfl (r_geq rfl rfl) (qd rfl rfl rfl (r_move (v := (.bool (decide ((0 : Int) ≤ r)))) rfl) (qbd (p := (0 : Int) ≤ r) (t := 9) rfl (fun h14 => ?_) (fun h14 => ?_))))
 refine qdg rfl rfl rfl rfl rfl rfl (r_move (v := (.int .i64 r)) rfl) (qdg rfl rfl rfl rfl rfl rfl (r_fldp (k := 0) rfl Tryz.underlying56 rfl nz22 rfl) (qdg rfl rfl rfl rfl rfl rfl (r_ldp1 (u := v) ag22 rfl (hX11.pins _ _ _ (hbp12 0 _ rfl))) (qdg rfl rfl rfl rfl rfl rfl (run_len Tryz.underlying22 (v := v) rfl hv) (qdg rfl rfl rfl rfl rfl rfl (r_lss rfl rfl) (qd rfl rfl rfl (r_pickT (v := (.bool (decide ((r : Int) < (rows.length : Int))))) rfl rfl) (qd rfl rfl rfl (r_move (v := (.bool (decide ((r : Int) < (rows.length : Int))))) rfl) (qbd (p := (r : Int) < (rows.length : Int)) (t := 16) rfl (fun h15 => ?_) (fun h15 => ?_))))))))
 refine qdg rfl rfl rfl rfl rfl rfl (r_move (v := (.int .i64 c)) rfl) (qdg rfl rfl rfl rfl rfl rfl (r_geq rfl rfl) (qd rfl rfl rfl (r_pickT (v := (.bool (decide ((0 : Int) ≤ c)))) rfl rfl) (qd rfl rfl rfl (r_move (v := (.bool (decide ((0 : Int) ≤ c)))) rfl) (qbd (p := (0 : Int) ≤ c) (t := 20) rfl (fun h16 => ?_) (fun h16 => ?_)))))
 refine qdg rfl rfl rfl rfl rfl rfl (r_move (v := (.int .i64 c)) rfl) (qdg rfl rfl rfl rfl rfl rfl (r_fldp (k := 0) rfl Tryz.underlying56 rfl nz22 rfl) (qdg rfl rfl rfl rfl rfl rfl (r_ldp1 (u := v) ag22 rfl (hX11.pins _ _ _ (hbp12 0 _ rfl))) (qdg rfl rfl rfl rfl rfl rfl (run_idx Tryz.underlying22 sz9 (v := v) rfl rfl hv (by omega) (by omega)) (qdg rfl rfl rfl rfl rfl rfl (run_load_str (r := rows.getD 0 ByteArray.empty) rfl ag9 (z := 0) rfl hv (Pins.of_le hX11.pins hle10) (by omega) (by omega)) (qdg rfl rfl rfl rfl rfl rfl (r_lenS Tryz.underlying9 rfl) (qdg rfl rfl rfl rfl rfl rfl (r_lss rfl rfl) (qd rfl rfl rfl (r_pickT (v := (.bool (decide ((c : Int) < ((rows.getD 0 ByteArray.empty).size : Int))))) rfl rfl) (qd rfl rfl rfl (r_move (v := (.bool (decide ((c : Int) < ((rows.getD 0 ByteArray.empty).size : Int))))) rfl) (qbd (p := (c : Int) < ((rows.getD 0 ByteArray.empty).size : Int)) (t := 29) rfl (fun h17 => ?_) (fun h17 => ?_))))))))))
 refine qdg rfl rfl rfl rfl rfl rfl (r_fldp (k := 0) rfl Tryz.underlying56 rfl nz22 rfl) (qdg rfl rfl rfl rfl rfl rfl (r_ldp1 (u := v) ag22 rfl (hX11.pins _ _ _ (hbp12 0 _ rfl))) (qdg rfl rfl rfl rfl rfl rfl (r_move (v := (.int .i64 r)) rfl) ?_))
 try have hrw := hrow (by omega) (by omega)
 refine qdg rfl rfl rfl rfl rfl rfl (run_idx Tryz.underlying22 sz9 (v := v) rfl rfl hv (by omega) (by omega)) (qdg rfl rfl rfl rfl rfl rfl (run_load_str (r := rows.getD (r).toNat ByteArray.empty) rfl ag9 (z := r) rfl hv (Pins.of_le hX11.pins hle10) (by omega) (by omega)) (qdg rfl rfl rfl rfl rfl rfl (r_move (v := (.int .i64 c)) rfl) (qdg rfl rfl rfl rfl rfl rfl (r_idxB Tryz.underlying9 rfl rfl (by omega) (by omega)) (qdg rfl rfl rfl rfl rfl rfl (r_eql rfl rfl) (qd rfl rfl rfl (r_pickT (v := (.bool (decide ((((sB (rows.getD (r).toNat ByteArray.empty) (c).toNat).toNat : Int) : Int) = 46)))) rfl rfl) (qd rfl rfl rfl (r_assign (v := (.bool (decide ((((sB (rows.getD (r).toNat ByteArray.empty) (c).toNat).toNat : Int) : Int) = 46)))) rfl) (qe (s_then ?_))))))))
 exact wp_ret (s_ret (c_ret1 (v := (.bool (decide ((((sB (rows.getD (r).toNat ByteArray.empty) (c).toNat).toNat : Int) : Int) = 46)))) rfl rfl rfl (⟨_, congrArg (fun z => Ending.returned (Value.bool z)) (frI_in (by omega) (by omega)).symm, hX11⟩)))
 refine qs rfl rfl rfl rfl rfl rfl (qs rfl rfl rfl rfl rfl rfl (qs rfl rfl rfl rfl rfl rfl ?_))
 try have hrw := hrow (by omega) (by omega)
 refine qs rfl rfl rfl rfl rfl rfl (qs rfl rfl rfl rfl rfl rfl (qs rfl rfl rfl rfl rfl rfl (qs rfl rfl rfl rfl rfl rfl (qs rfl rfl rfl rfl rfl rfl (qd rfl rfl rfl (r_pickF (v := (.bool false)) rfl rfl) (qd rfl rfl rfl (r_assign (v := (.bool false)) rfl) (qe (s_then ?_))))))))
 exact wp_ret (s_ret (c_ret1 (v := (.bool false)) rfl rfl rfl (⟨_, congrArg (fun z => Ending.returned (Value.bool z)) (by first | exact (frI_nr (by omega)).symm | exact (frI_or (by omega) (by omega)).symm | exact (frI_nc (by omega)).symm | exact (frI_oc g (by omega) (by omega) (by omega) (by show ¬ c < ((rows.getD 0 ByteArray.empty).size : Int); omega)).symm), hX11⟩)))
 refine qs rfl rfl rfl rfl rfl rfl (qs rfl rfl rfl rfl rfl rfl (qs rfl rfl rfl rfl rfl rfl (qs rfl rfl rfl rfl rfl rfl (qs rfl rfl rfl rfl rfl rfl (qs rfl rfl rfl rfl rfl rfl (qs rfl rfl rfl rfl rfl rfl (qd rfl rfl rfl (r_pickF (v := (.bool false)) rfl rfl) (qd rfl rfl rfl (r_move (v := (.bool false)) rfl) (qs rfl rfl rfl rfl rfl rfl (qs rfl rfl rfl rfl rfl rfl (qs rfl rfl rfl rfl rfl rfl ?_)))))))))))
 try have hrw := hrow (by omega) (by omega)
 refine qs rfl rfl rfl rfl rfl rfl (qs rfl rfl rfl rfl rfl rfl (qs rfl rfl rfl rfl rfl rfl (qs rfl rfl rfl rfl rfl rfl (qs rfl rfl rfl rfl rfl rfl (qd rfl rfl rfl (r_pickF (v := (.bool false)) rfl rfl) (qd rfl rfl rfl (r_assign (v := (.bool false)) rfl) (qe (s_then ?_))))))))
 exact wp_ret (s_ret (c_ret1 (v := (.bool false)) rfl rfl rfl (⟨_, congrArg (fun z => Ending.returned (Value.bool z)) (by first | exact (frI_nr (by omega)).symm | exact (frI_or (by omega) (by omega)).symm | exact (frI_nc (by omega)).symm | exact (frI_oc g (by omega) (by omega) (by omega) (by show ¬ c < ((rows.getD 0 ByteArray.empty).size : Int); omega)).symm), hX11⟩)))
 refine qs rfl rfl rfl rfl rfl rfl (qs rfl rfl rfl rfl rfl rfl (qd rfl rfl rfl (r_pickF (v := (.bool false)) rfl rfl) (qd rfl rfl rfl (r_move (v := (.bool false)) rfl) (qs rfl rfl rfl rfl rfl rfl (qs rfl rfl rfl rfl rfl rfl (qs rfl rfl rfl rfl rfl rfl (qs rfl rfl rfl rfl rfl rfl (qs rfl rfl rfl rfl rfl rfl (qs rfl rfl rfl rfl rfl rfl (qs rfl rfl rfl rfl rfl rfl (qd rfl rfl rfl (r_pickF (v := (.bool false)) rfl rfl) (qd rfl rfl rfl (r_move (v := (.bool false)) rfl) (qs rfl rfl rfl rfl rfl rfl (qs rfl rfl rfl rfl rfl rfl (qs rfl rfl rfl rfl rfl rfl ?_)))))))))))))))
 try have hrw := hrow (by omega) (by omega)
 refine qs rfl rfl rfl rfl rfl rfl (qs rfl rfl rfl rfl rfl rfl (qs rfl rfl rfl rfl rfl rfl (qs rfl rfl rfl rfl rfl rfl (qs rfl rfl rfl rfl rfl rfl (qd rfl rfl rfl (r_pickF (v := (.bool false)) rfl rfl) (qd rfl rfl rfl (r_assign (v := (.bool false)) rfl) (qe (s_then ?_))))))))
 exact wp_ret (s_ret (c_ret1 (v := (.bool false)) rfl rfl rfl (⟨_, congrArg (fun z => Ending.returned (Value.bool z)) (by first | exact (frI_nr (by omega)).symm | exact (frI_or (by omega) (by omega)).symm | exact (frI_nc (by omega)).symm | exact (frI_oc g (by omega) (by omega) (by omega) (by show ¬ c < ((rows.getD 0 ByteArray.empty).size : Int); omega)).symm), hX11⟩)))
 refine qs rfl rfl rfl rfl rfl rfl (qs rfl rfl rfl rfl rfl rfl (qs rfl rfl rfl rfl rfl rfl (qs rfl rfl rfl rfl rfl rfl (qs rfl rfl rfl rfl rfl rfl (qd rfl rfl rfl (r_pickF (v := (.bool false)) rfl rfl) (qd rfl rfl rfl (r_move (v := (.bool false)) rfl) (qs rfl rfl rfl rfl rfl rfl (qs rfl rfl rfl rfl rfl rfl (qd rfl rfl rfl (r_pickF (v := (.bool false)) rfl rfl) (qd rfl rfl rfl (r_move (v := (.bool false)) rfl) (qs rfl rfl rfl rfl rfl rfl (qs rfl rfl rfl rfl rfl rfl (qs rfl rfl rfl rfl rfl rfl (qs rfl rfl rfl rfl rfl rfl (qs rfl rfl rfl rfl rfl rfl (qs rfl rfl rfl rfl rfl rfl (qs rfl rfl rfl rfl rfl rfl (qd rfl rfl rfl (r_pickF (v := (.bool false)) rfl rfl) (qd rfl rfl rfl (r_move (v := (.bool false)) rfl) (qs rfl rfl rfl rfl rfl rfl (qs rfl rfl rfl rfl rfl rfl (qs rfl rfl rfl rfl rfl rfl ?_))))))))))))))))))))))
 try have hrw := hrow (by omega) (by omega)
 refine qs rfl rfl rfl rfl rfl rfl (qs rfl rfl rfl rfl rfl rfl (qs rfl rfl rfl rfl rfl rfl (qs rfl rfl rfl rfl rfl rfl (qs rfl rfl rfl rfl rfl rfl (qd rfl rfl rfl (r_pickF (v := (.bool false)) rfl rfl) (qd rfl rfl rfl (r_assign (v := (.bool false)) rfl) (qe (s_then ?_))))))))
 exact wp_ret (s_ret (c_ret1 (v := (.bool false)) rfl rfl rfl (⟨_, congrArg (fun z => Ending.returned (Value.bool z)) (by first | exact (frI_nr (by omega)).symm | exact (frI_or (by omega) (by omega)).symm | exact (frI_nc (by omega)).symm | exact (frI_oc g (by omega) (by omega) (by omega) (by show ¬ c < ((rows.getD 0 ByteArray.empty).size : Int); omega)).symm), hX11⟩)))

theorem placed_true {w : World} {G : Pin} {v : Value} {rows : List ByteArray} (hP : Pins G w) (hv : RSl eStr G v rows) {r c : Nat} (g : GbP rows) (hrc : r + dR true < rows.length ∧ c + dC true < wdS rows) :
  Calls Tryz.prog 83 [(.agg [v].toArray), (.int .i64 (r : Int)), (.int .i64 (c : Int)), (.bool true)].toArray w fun e w' => ∃ (u : Value) (G' : Pin), e = .returned (.agg [u].toArray) ∧ RSl eStr G' u (placedM rows r c true) ∧ Ext noS G w G' w' := by
 refine s_enter (n := 55) Tryz.func83 Tryz.ntmps83 rfl rfl ?_
 have hX0 : Ext noS G w G w := Ext.refl hP
 have hm := hv.max
 have ghi := g.hi
 have gwd : 1 ≤ (rows.getD 0 ByteArray.empty).size ∧ (rows.getD 0 ByteArray.empty).size ≤ 8 := g.wd
 have geq : ∀ i, i < rows.length → (rows.getD i ByteArray.empty).size = (rows.getD 0 ByteArray.empty).size := g.eq
 have hr1 : r + 1 < rows.length := hrc.1
 have hc1 : c + 0 < (rows.getD 0 ByteArray.empty).size := hrc.2
 refine s_seq (c_reg ?_)
 refine q1 rfl rfl rfl (o_box [v] (v := (.agg [v].toArray)) rfl rfl hX0.pins (fun b1 w2 hk3 hb4 hp5 hl6 => ?_))
 have hX7 := hX0.step hp5 hl6
 have hlo8 : w.heap.size ≤ b1 := by have := hX0.size; omega
 obtain ⟨G9, hle10, hX11, hbp12, hf13⟩ := hb4.shut hX7 hlo8
 refine q1 rfl rfl rfl (o_alloc [(.slice none 0 0)] zr56 rfl hX11.pins (fun b14 w15 hk16 hb17 hp18 hl19 => ?_))
 have hX20 := hX11.step hp18 hl19
 have hlo21 : w.heap.size ≤ b14 := by have := hX11.size; omega
 refine qe (s_then (s_seq (c_reg ?_)))
 refine qd rfl rfl rfl (r_build [(.slice none 0 0)] [(.slice none 0 0)] [] Tryz.underlying56 zr56 rfl pl56 rfl (fun _ h => by cases h) rfl) (q1 rfl rfl rfl (o_alloc [(.slice none 0 0)] zr56 rfl hX20.pins (fun b22 w23 hk24 hb25 hp26 hl27 => ?_)))
 have hX28 := hX20.step hp26 hl27
 have hb29 := hb17.below hl27
 have ha30 : Apart (some b22) (some b14) := new_ne_box (congrArg some hk24) hb17.lt
 have hlo31 : w.heap.size ≤ b22 := by have := hX20.size; omega
 refine q0 rfl rfl rfl (o_stp (cs' := [(.slice none 0 0)]) (us := [(.slice none 0 0)]) (v := (.agg [(.slice none 0 0)].toArray)) sz56 rfl rfl rfl (ones1 (by rfl)) hX28.pins hb25 (Nat.le_of_ble_eq_true rfl) rfl (fun w32 hb33 hp34 hg35 hz36 => ?_))
 have hX37 := hX28.write hp34 hg35 ((lo_box hlo31))
 have hb38 := hb29.keptA hg35 ha30.symm
 refine qe (s_then (s_seq (s_seq (c_reg ?_))))
 refine qd rfl rfl rfl (r_fldp (k := 0) rfl Tryz.underlying56 rfl nz22 rfl) (qd rfl rfl rfl (r_ldp1 (u := v) ag22 rfl (hX37.pins _ _ _ (hbp12 0 _ rfl))) (qd rfl rfl rfl (run_len Tryz.underlying22 (v := v) rfl hv) (qd rfl rfl rfl (r_move (v := (.int .i64 0)) rfl) (qe (s_then ?_)))))
 refine s_blk (s_loop (fun (k : Nat) (en : Nat → Value) (W : World) => ∃ (env1 : Nat → Value) (j : Nat) (ov : Value) (os : List ByteArray) (GL1 : Pin), en = (upd (upd (upd (upd (upd (upd (upd (upd env1 1 (.int .i64 (r : Int))) 2 (.int .i64 (c : Int))) 3 (.bool true)) 8 (.pointer (some ⟨b14, 0, none⟩))) 9 (.pointer (some ⟨b22, 0, none⟩))) 15 v) 16 (.int .i64 (rows.length : Int))) 17 (.int .i64 (j : Int))) ∧ k = rows.length - j ∧ Ext noS G w GL1 W ∧ Pin.le G9 GL1 ∧ (j ≤ rows.length) ∧ (os = (List.range j).map (plRow rows r c true)) ∧ (os.length = j) ∧ (Own eStr 9 GL1 W w.heap.size ov (os)) ∧ (Bx GL1 W b14 [(.slice none 0 0)]) ∧ (Bx GL1 W b22 [ov]) ∧ (Apart ov.ownBlock (some b14)) ∧ (Apart ov.ownBlock (some b22))) _ ⟨_, 0, (.slice none 0 0), [], G9, (packS (x := 17) (packS (x := 16) (packS (x := 15) (packS (x := 9) (packS (x := 8) (packS (x := 3) (packS (x := 2) (pack1 (x := 1) rfl) rfl) rfl) rfl) rfl) rfl) rfl) rfl), rfl, hX37, Pin.le_refl _, Nat.zero_le _, rfl, rfl, (Own.nil _ _ _ _ _), hb38, hb33, apart_none, apart_none⟩ ?_)
 rintro k39 _ w40 ⟨env1, j, ov, os, GL1, rfl, hk41, hX42, hlek39, hj, hos, hol, hw43, hw44, hw45, ha46, ha47⟩
 refine s_seq (c_reg ?_)
 refine qd rfl rfl rfl (r_lss rfl rfl) (qe (s_then (s_seq ?_)))
 refine c_ifd (p := ((j : Int) : Int) < (rows.length : Int)) rfl rfl (fun h48 => ?_) (fun h48 => ?_)
 have hrj := geq j (by omega)
 refine wp_skip (s_then (s_seq ?_))
 refine s_blk (s_seq (c_reg ?_))
 refine qd rfl rfl rfl (r_move (v := (.int .i64 (j : Int))) rfl) (qd rfl rfl rfl (run_idx Tryz.underlying22 sz9 (v := v) rfl rfl hv (by omega) (by omega)) (qd rfl rfl rfl (run_load_str (r := rows.getD j ByteArray.empty) rfl ag9 (z := (j : Int)) rfl hv (Pins.of_le hX42.pins (Pin.le_trans hle10 hlek39)) (by omega) (by omega)) (qd rfl rfl rfl (r_assign (v := (.int .i64 (j : Int))) rfl) (qd rfl rfl rfl (r_assign (v := (.string (rows.getD j ByteArray.empty))) rfl) (qe (s_then (s_seq (c_reg ?_))))))))
 refine qd rfl rfl rfl (r_move (v := (.string (rows.getD j ByteArray.empty))) rfl) (q1 rfl rfl rfl (o_s2b (e := 5) Tryz.underlying9 Tryz.underlying47 Tryz.underlying5 rfl hX42.pins (by omega) (fun u49 w50 ho51 hp52 hl53 hk54 => ?_)))
 have hX55 := hX42.step hp52 hl53
 have ho56 := hw43.below hl53
 have hb57 := hw44.below hl53
 have hb58 := hw45.below hl53
 have ha59 : Apart u49.ownBlock ov.ownBlock := new_ne_own hk54 hw43.lt
 have ha60 : Apart u49.ownBlock (some b14) := new_ne_box hk54 hw44.lt
 have ha61 : Apart u49.ownBlock (some b22) := new_ne_box hk54 hw45.lt
 have ho62 : OwnM 5 GL1 w50 w.heap.size u49 ((rows.getD j ByteArray.empty).data.toList) := ho51.weaken hX42.size
 have hm63 : (rows.getD j ByteArray.empty).data.toList.length = (rows.getD j ByteArray.empty).size := rfl
 refine qd rfl rfl rfl (r_assign (v := u49) rfl) (qe (s_then (s_seq (s_seq (c_reg ?_)))))
 refine qd rfl rfl rfl (r_move (v := (.int .i64 (j : Int))) rfl) (qd rfl rfl rfl (r_move (v := (.int .i64 (r : Int))) rfl) (qd rfl rfl rfl (r_eql rfl rfl) (qe (s_then ?_))))
 refine c_ifd (p := ((j : Int) : Int) = (r : Int)) rfl rfl (fun h64 => ?_) (fun h64 => ?_)
 refine s_seq (c_reg ?_)
 refine qd rfl rfl rfl (r_move (v := u49) rfl) (qd rfl rfl rfl (r_move (v := (.int .i64 (c : Int))) rfl) (qd rfl rfl rfl (run_idx Tryz.underlying47 sz5 (v := u49) rfl rfl ho62.read (by omega) (by omega)) (q0 rfl rfl rfl (o_setM (v := u49) (z := (c : Int)) (35) sz5 rfl (by exact rfl) hX55.pins ho62 (by omega) (by omega) (fun w65 ho66 hp67 hg68 hz69 => ?_)))))
 have hX70 := hX55.write hp67 hg68 ((lo_ownM ho62))
 have ho71 := ho56.keptA hg68 ha59.symm
 have hb72 := hb57.keptA hg68 ha60.symm
 have hb73 := hb58.keptA hg68 ha61.symm
 have ho74 : OwnM 5 GL1 w65 w.heap.size u49 (((rows.getD j ByteArray.empty).data.toList).set c 35) := ho66
 have hm75 : (((rows.getD j ByteArray.empty).data.toList).set c 35).length = ((rows.getD j ByteArray.empty).data.toList).length := List.length_set ..
 refine qe (s_then (s_seq (c_reg ?_)))
 refine qd rfl rfl rfl (r_move (v := (.bool true)) rfl) (qd rfl rfl rfl (r_not rfl) (qe (s_then ?_)))
 refine c_ifF rfl rfl (wp_skip (s_then (s_seq (s_seq (c_reg ?_)))))
 refine qd rfl rfl rfl (r_move (v := (.bool true)) rfl) (qd rfl rfl rfl (r_move (v := (.bool true)) rfl) (qdg rfl rfl rfl rfl rfl rfl (r_move (v := (.int .i64 (j : Int))) rfl) (qdg rfl rfl rfl rfl rfl rfl (r_move (v := (.int .i64 (r : Int))) rfl) (qdg rfl rfl rfl rfl rfl rfl (r_add rfl rfl (by omega)) (qdg rfl rfl rfl rfl rfl rfl (r_eql rfl rfl) (qd rfl rfl rfl (r_pickT (v := (.bool (decide (((j : Int) : Int) = ((r : Int) + 1))))) rfl rfl) (qe (s_then ?_))))))))
 refine c_ifd (p := ((j : Int) : Int) = ((r : Int) + 1)) rfl rfl (fun h76 => ?_) (fun h76 => ?_)
 refine c_reg (qd rfl rfl rfl (r_move (v := u49) rfl) (qd rfl rfl rfl (r_move (v := (.int .i64 (c : Int))) rfl) (qd rfl rfl rfl (run_idx Tryz.underlying47 sz5 (v := u49) rfl rfl ho74.read (by omega) (by omega)) (q0 rfl rfl rfl (o_setM (v := u49) (z := (c : Int)) (35) sz5 rfl (by exact rfl) hX70.pins ho74 (by omega) (by omega) (fun w77 ho78 hp79 hg80 hz81 => ?_))))))
 have hX82 := hX70.write hp79 hg80 ((lo_ownM ho74))
 have ho83 := ho71.keptA hg80 ha59.symm
 have hb84 := hb72.keptA hg80 ha60.symm
 have hb85 := hb73.keptA hg80 ha61.symm
 have ho86 : OwnM 5 GL1 w77 w.heap.size u49 ((((rows.getD j ByteArray.empty).data.toList).set c 35).set c 35) := ho78
 have hm87 : ((((rows.getD j ByteArray.empty).data.toList).set c 35).set c 35).length = (((rows.getD j ByteArray.empty).data.toList).set c 35).length := List.length_set ..
 refine qe (s_then (c_reg ?_))
 refine qd rfl rfl rfl (r_fldp (k := 0) rfl Tryz.underlying56 rfl nz22 rfl) (qd rfl rfl rfl (r_ldp1 (u := ov) ag22 rfl (hb85.cell (o := 0) rfl)) (qd rfl rfl rfl (r_move (v := u49) rfl) (qd rfl rfl rfl (r_b2s Tryz.underlying47 Tryz.underlying5 Tryz.underlying9 rfl ho86.read (Gadd.pins hX82.pins u49)) (q1 rfl rfl rfl (o_buildF (E := eStr) (e := 9) [(.string (b2s ((((rows.getD j ByteArray.empty).data.toList).set c 35).set c 35)))] [b2s ((((rows.getD j ByteArray.empty).data.toList).set c 35).set c 35)] Tryz.underlying22 sz9 zr9 (by exact reps1 (by rfl)) (ones1 (by rfl)) rfl rfl rfl rfl (by decide) hX82.pins (fun u88 w89 ho90 hp91 hl92 hk93 => ?_))))))
 have hX94 := hX82.step hp91 hl92
 have ho95 := ho83.below hl92
 have hb97 := hb84.below hl92
 have hb98 := hb85.below hl92
 have ho103 : Own eStr 9 GL1 w89 w.heap.size u88 ([b2s ((((rows.getD j ByteArray.empty).data.toList).set c 35).set c 35)]) := ho90.weaken hX82.size
 refine q1 rfl rfl rfl (o_append (E := eStr) (v := ov) (u := u88) 16 Tryz.underlying22 ap9 (by decide) rfl rfl hX94.pins ho95 ho103.src (by first | omega | (rw [List.nil_append]; omega) | (rw [List.length_nil]; omega) | (rw [List.length_append]; omega) | (simp; done) | (simp; omega) | (simp only [List.length_append, List.length_cons, List.length_nil]; omega)) (by first | omega | (rw [List.nil_append]; omega) | (rw [List.length_nil]; omega) | (rw [List.length_append]; omega) | (simp; done) | (simp; omega) | (simp only [List.length_append, List.length_cons, List.length_nil]; omega)) (hX94.size) (fun u104 w105 ho106 hp107 hg108 hw109 => ?_))
 have hX110 := hX94.write hp107 hg108 ((lo_own ho95))
 have hb113 := hb97.keptA hg108 ha46.symm
 have hb114 := hb98.keptA hg108 ha47.symm
 have ha117 : Apart (some b14) u104.ownBlock := app_ne_box ha46.symm hw109 hb97.lt
 have ha118 : Apart (some b22) u104.ownBlock := app_ne_box ha47.symm hw109 hb98.lt
 have hm119 : (os ++ ([b2s ((((rows.getD j ByteArray.empty).data.toList).set c 35).set c 35)])).length = os.length + 1 := List.length_append
 refine qd rfl rfl rfl (r_fldp (k := 0) rfl Tryz.underlying56 rfl nz22 rfl) (q0 rfl rfl rfl (o_stp (cs' := [u104]) (us := [u104]) (v := u104) sz22 rfl rfl (cells1 ho106.one) (ones1 ho106.one) hX110.pins hb114 (Nat.le_of_ble_eq_true rfl) rfl (fun w120 hb121 hp122 hg123 hz124 => ?_)))
 have hX125 := hX110.write hp122 hg123 ((lo_box hlo31))
 have ho127 := ho106.keptA hg123 ha118.symm
 have hb128 := hb113.keptA hg123 ha30.symm
 refine qe (s_blkN (s_then (c_reg ?_)))
 refine qd rfl rfl rfl (r_add rfl rfl (by omega)) (qd rfl rfl rfl (r_move (v := (.int .i64 ((j : Int) + 1))) rfl) (qe (s_lopN (⟨_, ?_, _, rfl, _, j + 1, u104, os ++ ([b2s ((((rows.getD j ByteArray.empty).data.toList).set c 35).set c 35)]), GL1, (packS (x := 17) (packS (x := 16) (packS (x := 15) (packS (x := 9) (packS (x := 8) (packS (x := 3) (packS (x := 2) (pack1 (x := 1) rfl) rfl) rfl) rfl) rfl) rfl) rfl) rfl), rfl, hX125, hlek39, (by omega), (by rw [hos, List.range_succ, List.map_append]; congr 1; show [_] = [plRow rows r c true j]; unfold plRow; congr 1; congr 1; exact (by first | exact (pl_same (by omega) (by omega)).symm | exact (pl_same (by omega) (fun k => by cases k.1)).symm | exact (pl_t0 (by omega)).symm | exact (pl_t1 (by omega)).symm | exact (pl_f (by omega)).symm | (exfalso; omega))), (by simp [hol]), ho127, hb128, hb121, ha117.symm, ha118.symm⟩))))
 omega
 refine wp_skip (s_then (c_reg ?_))
 refine qd rfl rfl rfl (r_fldp (k := 0) rfl Tryz.underlying56 rfl nz22 rfl) (qd rfl rfl rfl (r_ldp1 (u := ov) ag22 rfl (hb73.cell (o := 0) rfl)) (qd rfl rfl rfl (r_move (v := u49) rfl) (qd rfl rfl rfl (r_b2s Tryz.underlying47 Tryz.underlying5 Tryz.underlying9 rfl ho74.read (Gadd.pins hX70.pins u49)) (q1 rfl rfl rfl (o_buildF (E := eStr) (e := 9) [(.string (b2s (((rows.getD j ByteArray.empty).data.toList).set c 35)))] [b2s (((rows.getD j ByteArray.empty).data.toList).set c 35)] Tryz.underlying22 sz9 zr9 (by exact reps1 (by rfl)) (ones1 (by rfl)) rfl rfl rfl rfl (by decide) hX70.pins (fun u129 w130 ho131 hp132 hl133 hk134 => ?_))))))
 have hX135 := hX70.step hp132 hl133
 have ho136 := ho71.below hl133
 have hb138 := hb72.below hl133
 have hb139 := hb73.below hl133
 have ho144 : Own eStr 9 GL1 w130 w.heap.size u129 ([b2s (((rows.getD j ByteArray.empty).data.toList).set c 35)]) := ho131.weaken hX70.size
 refine q1 rfl rfl rfl (o_append (E := eStr) (v := ov) (u := u129) 16 Tryz.underlying22 ap9 (by decide) rfl rfl hX135.pins ho136 ho144.src (by first | omega | (rw [List.nil_append]; omega) | (rw [List.length_nil]; omega) | (rw [List.length_append]; omega) | (simp; done) | (simp; omega) | (simp only [List.length_append, List.length_cons, List.length_nil]; omega)) (by first | omega | (rw [List.nil_append]; omega) | (rw [List.length_nil]; omega) | (rw [List.length_append]; omega) | (simp; done) | (simp; omega) | (simp only [List.length_append, List.length_cons, List.length_nil]; omega)) (hX135.size) (fun u145 w146 ho147 hp148 hg149 hw150 => ?_))
 have hX151 := hX135.write hp148 hg149 ((lo_own ho136))
 have hb154 := hb138.keptA hg149 ha46.symm
 have hb155 := hb139.keptA hg149 ha47.symm
 have ha158 : Apart (some b14) u145.ownBlock := app_ne_box ha46.symm hw150 hb138.lt
 have ha159 : Apart (some b22) u145.ownBlock := app_ne_box ha47.symm hw150 hb139.lt
 have hm160 : (os ++ ([b2s (((rows.getD j ByteArray.empty).data.toList).set c 35)])).length = os.length + 1 := List.length_append
 refine qd rfl rfl rfl (r_fldp (k := 0) rfl Tryz.underlying56 rfl nz22 rfl) (q0 rfl rfl rfl (o_stp (cs' := [u145]) (us := [u145]) (v := u145) sz22 rfl rfl (cells1 ho147.one) (ones1 ho147.one) hX151.pins hb155 (Nat.le_of_ble_eq_true rfl) rfl (fun w161 hb162 hp163 hg164 hz165 => ?_)))
 have hX166 := hX151.write hp163 hg164 ((lo_box hlo31))
 have ho168 := ho147.keptA hg164 ha159.symm
 have hb169 := hb154.keptA hg164 ha30.symm
 refine qe (s_blkN (s_then (c_reg ?_)))
 refine qd rfl rfl rfl (r_add rfl rfl (by omega)) (qd rfl rfl rfl (r_move (v := (.int .i64 ((j : Int) + 1))) rfl) (qe (s_lopN (⟨_, ?_, _, rfl, _, j + 1, u145, os ++ ([b2s (((rows.getD j ByteArray.empty).data.toList).set c 35)]), GL1, (packS (x := 17) (packS (x := 16) (packS (x := 15) (packS (x := 9) (packS (x := 8) (packS (x := 3) (packS (x := 2) (pack1 (x := 1) rfl) rfl) rfl) rfl) rfl) rfl) rfl) rfl), rfl, hX166, hlek39, (by omega), (by rw [hos, List.range_succ, List.map_append]; congr 1; show [_] = [plRow rows r c true j]; unfold plRow; congr 1; congr 1; exact (by first | exact (pl_same (by omega) (by omega)).symm | exact (pl_same (by omega) (fun k => by cases k.1)).symm | exact (pl_t0 (by omega)).symm | exact (pl_t1 (by omega)).symm | exact (pl_f (by omega)).symm | (exfalso; omega))), (by simp [hol]), ho168, hb169, hb162, ha158.symm, ha159.symm⟩))))
 omega
 refine wp_skip (s_then (s_seq (s_seq (c_reg ?_))))
 refine qd rfl rfl rfl (r_move (v := (.bool true)) rfl) (qd rfl rfl rfl (r_move (v := (.bool true)) rfl) (qdg rfl rfl rfl rfl rfl rfl (r_move (v := (.int .i64 (j : Int))) rfl) (qdg rfl rfl rfl rfl rfl rfl (r_move (v := (.int .i64 (r : Int))) rfl) (qdg rfl rfl rfl rfl rfl rfl (r_add rfl rfl (by omega)) (qdg rfl rfl rfl rfl rfl rfl (r_eql rfl rfl) (qd rfl rfl rfl (r_pickT (v := (.bool (decide (((j : Int) : Int) = ((r : Int) + 1))))) rfl rfl) (qe (s_then ?_))))))))
 refine c_ifd (p := ((j : Int) : Int) = ((r : Int) + 1)) rfl rfl (fun h170 => ?_) (fun h170 => ?_)
 refine c_reg (qd rfl rfl rfl (r_move (v := u49) rfl) (qd rfl rfl rfl (r_move (v := (.int .i64 (c : Int))) rfl) (qd rfl rfl rfl (run_idx Tryz.underlying47 sz5 (v := u49) rfl rfl ho62.read (by omega) (by omega)) (q0 rfl rfl rfl (o_setM (v := u49) (z := (c : Int)) (35) sz5 rfl (by exact rfl) hX55.pins ho62 (by omega) (by omega) (fun w171 ho172 hp173 hg174 hz175 => ?_))))))
 have hX176 := hX55.write hp173 hg174 ((lo_ownM ho62))
 have ho177 := ho56.keptA hg174 ha59.symm
 have hb178 := hb57.keptA hg174 ha60.symm
 have hb179 := hb58.keptA hg174 ha61.symm
 have ho180 : OwnM 5 GL1 w171 w.heap.size u49 (((rows.getD j ByteArray.empty).data.toList).set c 35) := ho172
 have hm181 : (((rows.getD j ByteArray.empty).data.toList).set c 35).length = ((rows.getD j ByteArray.empty).data.toList).length := List.length_set ..
 refine qe (s_then (c_reg ?_))
 refine qd rfl rfl rfl (r_fldp (k := 0) rfl Tryz.underlying56 rfl nz22 rfl) (qd rfl rfl rfl (r_ldp1 (u := ov) ag22 rfl (hb179.cell (o := 0) rfl)) (qd rfl rfl rfl (r_move (v := u49) rfl) (qd rfl rfl rfl (r_b2s Tryz.underlying47 Tryz.underlying5 Tryz.underlying9 rfl ho180.read (Gadd.pins hX176.pins u49)) (q1 rfl rfl rfl (o_buildF (E := eStr) (e := 9) [(.string (b2s (((rows.getD j ByteArray.empty).data.toList).set c 35)))] [b2s (((rows.getD j ByteArray.empty).data.toList).set c 35)] Tryz.underlying22 sz9 zr9 (by exact reps1 (by rfl)) (ones1 (by rfl)) rfl rfl rfl rfl (by decide) hX176.pins (fun u182 w183 ho184 hp185 hl186 hk187 => ?_))))))
 have hX188 := hX176.step hp185 hl186
 have ho189 := ho177.below hl186
 have hb191 := hb178.below hl186
 have hb192 := hb179.below hl186
 have ho197 : Own eStr 9 GL1 w183 w.heap.size u182 ([b2s (((rows.getD j ByteArray.empty).data.toList).set c 35)]) := ho184.weaken hX176.size
 refine q1 rfl rfl rfl (o_append (E := eStr) (v := ov) (u := u182) 16 Tryz.underlying22 ap9 (by decide) rfl rfl hX188.pins ho189 ho197.src (by first | omega | (rw [List.nil_append]; omega) | (rw [List.length_nil]; omega) | (rw [List.length_append]; omega) | (simp; done) | (simp; omega) | (simp only [List.length_append, List.length_cons, List.length_nil]; omega)) (by first | omega | (rw [List.nil_append]; omega) | (rw [List.length_nil]; omega) | (rw [List.length_append]; omega) | (simp; done) | (simp; omega) | (simp only [List.length_append, List.length_cons, List.length_nil]; omega)) (hX188.size) (fun u198 w199 ho200 hp201 hg202 hw203 => ?_))
 have hX204 := hX188.write hp201 hg202 ((lo_own ho189))
 have hb207 := hb191.keptA hg202 ha46.symm
 have hb208 := hb192.keptA hg202 ha47.symm
 have ha211 : Apart (some b14) u198.ownBlock := app_ne_box ha46.symm hw203 hb191.lt
 have ha212 : Apart (some b22) u198.ownBlock := app_ne_box ha47.symm hw203 hb192.lt
 have hm213 : (os ++ ([b2s (((rows.getD j ByteArray.empty).data.toList).set c 35)])).length = os.length + 1 := List.length_append
 refine qd rfl rfl rfl (r_fldp (k := 0) rfl Tryz.underlying56 rfl nz22 rfl) (q0 rfl rfl rfl (o_stp (cs' := [u198]) (us := [u198]) (v := u198) sz22 rfl rfl (cells1 ho200.one) (ones1 ho200.one) hX204.pins hb208 (Nat.le_of_ble_eq_true rfl) rfl (fun w214 hb215 hp216 hg217 hz218 => ?_)))
 have hX219 := hX204.write hp216 hg217 ((lo_box hlo31))
 have ho221 := ho200.keptA hg217 ha212.symm
 have hb222 := hb207.keptA hg217 ha30.symm
 refine qe (s_blkN (s_then (c_reg ?_)))
 refine qd rfl rfl rfl (r_add rfl rfl (by omega)) (qd rfl rfl rfl (r_move (v := (.int .i64 ((j : Int) + 1))) rfl) (qe (s_lopN (⟨_, ?_, _, rfl, _, j + 1, u198, os ++ ([b2s (((rows.getD j ByteArray.empty).data.toList).set c 35)]), GL1, (packS (x := 17) (packS (x := 16) (packS (x := 15) (packS (x := 9) (packS (x := 8) (packS (x := 3) (packS (x := 2) (pack1 (x := 1) rfl) rfl) rfl) rfl) rfl) rfl) rfl) rfl), rfl, hX219, hlek39, (by omega), (by rw [hos, List.range_succ, List.map_append]; congr 1; show [_] = [plRow rows r c true j]; unfold plRow; congr 1; congr 1; exact (by first | exact (pl_same (by omega) (by omega)).symm | exact (pl_same (by omega) (fun k => by cases k.1)).symm | exact (pl_t0 (by omega)).symm | exact (pl_t1 (by omega)).symm | exact (pl_f (by omega)).symm | (exfalso; omega))), (by simp [hol]), ho221, hb222, hb215, ha211.symm, ha212.symm⟩))))
 omega
 refine wp_skip (s_then (c_reg ?_))
 refine qd rfl rfl rfl (r_fldp (k := 0) rfl Tryz.underlying56 rfl nz22 rfl) (qd rfl rfl rfl (r_ldp1 (u := ov) ag22 rfl (hb58.cell (o := 0) rfl)) (qd rfl rfl rfl (r_move (v := u49) rfl) (qd rfl rfl rfl (r_b2s Tryz.underlying47 Tryz.underlying5 Tryz.underlying9 rfl ho62.read (Gadd.pins hX55.pins u49)) (q1 rfl rfl rfl (o_buildF (E := eStr) (e := 9) [(.string (b2s ((rows.getD j ByteArray.empty).data.toList)))] [b2s ((rows.getD j ByteArray.empty).data.toList)] Tryz.underlying22 sz9 zr9 (by exact reps1 (by rfl)) (ones1 (by rfl)) rfl rfl rfl rfl (by decide) hX55.pins (fun u223 w224 ho225 hp226 hl227 hk228 => ?_))))))
 have hX229 := hX55.step hp226 hl227
 have ho230 := ho56.below hl227
 have hb232 := hb57.below hl227
 have hb233 := hb58.below hl227
 have ho238 : Own eStr 9 GL1 w224 w.heap.size u223 ([b2s ((rows.getD j ByteArray.empty).data.toList)]) := ho225.weaken hX55.size
 refine q1 rfl rfl rfl (o_append (E := eStr) (v := ov) (u := u223) 16 Tryz.underlying22 ap9 (by decide) rfl rfl hX229.pins ho230 ho238.src (by first | omega | (rw [List.nil_append]; omega) | (rw [List.length_nil]; omega) | (rw [List.length_append]; omega) | (simp; done) | (simp; omega) | (simp only [List.length_append, List.length_cons, List.length_nil]; omega)) (by first | omega | (rw [List.nil_append]; omega) | (rw [List.length_nil]; omega) | (rw [List.length_append]; omega) | (simp; done) | (simp; omega) | (simp only [List.length_append, List.length_cons, List.length_nil]; omega)) (hX229.size) (fun u239 w240 ho241 hp242 hg243 hw244 => ?_))
 have hX245 := hX229.write hp242 hg243 ((lo_own ho230))
 have hb248 := hb232.keptA hg243 ha46.symm
 have hb249 := hb233.keptA hg243 ha47.symm
 have ha252 : Apart (some b14) u239.ownBlock := app_ne_box ha46.symm hw244 hb232.lt
 have ha253 : Apart (some b22) u239.ownBlock := app_ne_box ha47.symm hw244 hb233.lt
 have hm254 : (os ++ ([b2s ((rows.getD j ByteArray.empty).data.toList)])).length = os.length + 1 := List.length_append
 refine qd rfl rfl rfl (r_fldp (k := 0) rfl Tryz.underlying56 rfl nz22 rfl) (q0 rfl rfl rfl (o_stp (cs' := [u239]) (us := [u239]) (v := u239) sz22 rfl rfl (cells1 ho241.one) (ones1 ho241.one) hX245.pins hb249 (Nat.le_of_ble_eq_true rfl) rfl (fun w255 hb256 hp257 hg258 hz259 => ?_)))
 have hX260 := hX245.write hp257 hg258 ((lo_box hlo31))
 have ho262 := ho241.keptA hg258 ha253.symm
 have hb263 := hb248.keptA hg258 ha30.symm
 refine qe (s_blkN (s_then (c_reg ?_)))
 refine qd rfl rfl rfl (r_add rfl rfl (by omega)) (qd rfl rfl rfl (r_move (v := (.int .i64 ((j : Int) + 1))) rfl) (qe (s_lopN (⟨_, ?_, _, rfl, _, j + 1, u239, os ++ ([b2s ((rows.getD j ByteArray.empty).data.toList)]), GL1, (packS (x := 17) (packS (x := 16) (packS (x := 15) (packS (x := 9) (packS (x := 8) (packS (x := 3) (packS (x := 2) (pack1 (x := 1) rfl) rfl) rfl) rfl) rfl) rfl) rfl) rfl), rfl, hX260, hlek39, (by omega), (by rw [hos, List.range_succ, List.map_append]; congr 1; show [_] = [plRow rows r c true j]; unfold plRow; congr 1; congr 1; exact (by first | exact (pl_same (by omega) (by omega)).symm | exact (pl_same (by omega) (fun k => by cases k.1)).symm | exact (pl_t0 (by omega)).symm | exact (pl_t1 (by omega)).symm | exact (pl_f (by omega)).symm | (exfalso; omega))), (by simp [hol]), ho262, hb263, hb256, ha252.symm, ha253.symm⟩))))
 omega
 refine wp_exit (s_thenE (s_lopE (s_blkE (s_then (s_seq (c_reg ?_))))))
 refine qd rfl rfl rfl (r_ldpA (cs := [ov]) ag56 sz56 rfl (fun j u hj => hw45.cell (by simpa using hj))) (q0 rfl rfl rfl (o_stp (cs' := [ov]) (us := [ov]) (v := (.agg [ov].toArray)) sz56 rfl rfl rfl (ones1 hw43.one) hX42.pins hw44 (Nat.le_of_ble_eq_true rfl) rfl (fun w264 hb265 hp266 hg267 hz268 => ?_)))
 have hX269 := hX42.write hp266 hg267 ((lo_box hlo21))
 have ho270 := hw43.keptA hg267 ha46
 refine qe (s_then ?_)
 refine wp_ret (s_ret (c_retc (cs := [ov]) rfl rfl rfl ag56 sz56 (fun j u hj => by rw [Nat.zero_add]; exact hb265.cell hj) ?_))
 obtain ⟨G272, hle275, hX274, hr273, hf276⟩ := ho270.sealed hX269
 have hjn : j = rows.length := by omega
 subst hjn
 exact ⟨_, _, rfl, (by have e : placedM rows r c true = os := hos.symm; rw [e]; exact hr273), hX274⟩

theorem placed_false {w : World} {G : Pin} {v : Value} {rows : List ByteArray} (hP : Pins G w) (hv : RSl eStr G v rows) {r c : Nat} (g : GbP rows) (hrc : r + dR false < rows.length ∧ c + dC false < wdS rows) :
  Calls Tryz.prog 83 [(.agg [v].toArray), (.int .i64 (r : Int)), (.int .i64 (c : Int)), (.bool false)].toArray w fun e w' => ∃ (u : Value) (G' : Pin), e = .returned (.agg [u].toArray) ∧ RSl eStr G' u (placedM rows r c false) ∧ Ext noS G w G' w' := by
 refine s_enter (n := 55) Tryz.func83 Tryz.ntmps83 rfl rfl ?_
 have hX0 : Ext noS G w G w := Ext.refl hP
 have hm := hv.max
 have ghi := g.hi
 have gwd : 1 ≤ (rows.getD 0 ByteArray.empty).size ∧ (rows.getD 0 ByteArray.empty).size ≤ 8 := g.wd
 have geq : ∀ i, i < rows.length → (rows.getD i ByteArray.empty).size = (rows.getD 0 ByteArray.empty).size := g.eq
 have hr1 : r + 0 < rows.length := hrc.1
 have hc1 : c + 1 < (rows.getD 0 ByteArray.empty).size := hrc.2
 refine s_seq (c_reg ?_)
 refine q1 rfl rfl rfl (o_box [v] (v := (.agg [v].toArray)) rfl rfl hX0.pins (fun b1 w2 hk3 hb4 hp5 hl6 => ?_))
 have hX7 := hX0.step hp5 hl6
 have hlo8 : w.heap.size ≤ b1 := by have := hX0.size; omega
 obtain ⟨G9, hle10, hX11, hbp12, hf13⟩ := hb4.shut hX7 hlo8
 refine q1 rfl rfl rfl (o_alloc [(.slice none 0 0)] zr56 rfl hX11.pins (fun b14 w15 hk16 hb17 hp18 hl19 => ?_))
 have hX20 := hX11.step hp18 hl19
 have hlo21 : w.heap.size ≤ b14 := by have := hX11.size; omega
 refine qe (s_then (s_seq (c_reg ?_)))
 refine qd rfl rfl rfl (r_build [(.slice none 0 0)] [(.slice none 0 0)] [] Tryz.underlying56 zr56 rfl pl56 rfl (fun _ h => by cases h) rfl) (q1 rfl rfl rfl (o_alloc [(.slice none 0 0)] zr56 rfl hX20.pins (fun b22 w23 hk24 hb25 hp26 hl27 => ?_)))
 have hX28 := hX20.step hp26 hl27
 have hb29 := hb17.below hl27
 have ha30 : Apart (some b22) (some b14) := new_ne_box (congrArg some hk24) hb17.lt
 have hlo31 : w.heap.size ≤ b22 := by have := hX20.size; omega
 refine q0 rfl rfl rfl (o_stp (cs' := [(.slice none 0 0)]) (us := [(.slice none 0 0)]) (v := (.agg [(.slice none 0 0)].toArray)) sz56 rfl rfl rfl (ones1 (by rfl)) hX28.pins hb25 (Nat.le_of_ble_eq_true rfl) rfl (fun w32 hb33 hp34 hg35 hz36 => ?_))
 have hX37 := hX28.write hp34 hg35 ((lo_box hlo31))
 have hb38 := hb29.keptA hg35 ha30.symm
 refine qe (s_then (s_seq (s_seq (c_reg ?_))))
 refine qd rfl rfl rfl (r_fldp (k := 0) rfl Tryz.underlying56 rfl nz22 rfl) (qd rfl rfl rfl (r_ldp1 (u := v) ag22 rfl (hX37.pins _ _ _ (hbp12 0 _ rfl))) (qd rfl rfl rfl (run_len Tryz.underlying22 (v := v) rfl hv) (qd rfl rfl rfl (r_move (v := (.int .i64 0)) rfl) (qe (s_then ?_)))))
 refine s_blk (s_loop (fun (k : Nat) (en : Nat → Value) (W : World) => ∃ (env1 : Nat → Value) (j : Nat) (ov : Value) (os : List ByteArray) (GL1 : Pin), en = (upd (upd (upd (upd (upd (upd (upd (upd env1 1 (.int .i64 (r : Int))) 2 (.int .i64 (c : Int))) 3 (.bool false)) 8 (.pointer (some ⟨b14, 0, none⟩))) 9 (.pointer (some ⟨b22, 0, none⟩))) 15 v) 16 (.int .i64 (rows.length : Int))) 17 (.int .i64 (j : Int))) ∧ k = rows.length - j ∧ Ext noS G w GL1 W ∧ Pin.le G9 GL1 ∧ (j ≤ rows.length) ∧ (os = (List.range j).map (plRow rows r c false)) ∧ (os.length = j) ∧ (Own eStr 9 GL1 W w.heap.size ov (os)) ∧ (Bx GL1 W b14 [(.slice none 0 0)]) ∧ (Bx GL1 W b22 [ov]) ∧ (Apart ov.ownBlock (some b14)) ∧ (Apart ov.ownBlock (some b22))) _ ⟨_, 0, (.slice none 0 0), [], G9, (packS (x := 17) (packS (x := 16) (packS (x := 15) (packS (x := 9) (packS (x := 8) (packS (x := 3) (packS (x := 2) (pack1 (x := 1) rfl) rfl) rfl) rfl) rfl) rfl) rfl) rfl), rfl, hX37, Pin.le_refl _, Nat.zero_le _, rfl, rfl, (Own.nil _ _ _ _ _), hb38, hb33, apart_none, apart_none⟩ ?_)
 rintro k39 _ w40 ⟨env1, j, ov, os, GL1, rfl, hk41, hX42, hlek39, hj, hos, hol, hw43, hw44, hw45, ha46, ha47⟩
 refine s_seq (c_reg ?_)
 refine qd rfl rfl rfl (r_lss rfl rfl) (qe (s_then (s_seq ?_)))
 refine c_ifd (p := ((j : Int) : Int) < (rows.length : Int)) rfl rfl (fun h48 => ?_) (fun h48 => ?_)
 have hrj := geq j (by omega)
 refine wp_skip (s_then (s_seq ?_))
 refine s_blk (s_seq (c_reg ?_))
 refine qd rfl rfl rfl (r_move (v := (.int .i64 (j : Int))) rfl) (qd rfl rfl rfl (run_idx Tryz.underlying22 sz9 (v := v) rfl rfl hv (by omega) (by omega)) (qd rfl rfl rfl (run_load_str (r := rows.getD j ByteArray.empty) rfl ag9 (z := (j : Int)) rfl hv (Pins.of_le hX42.pins (Pin.le_trans hle10 hlek39)) (by omega) (by omega)) (qd rfl rfl rfl (r_assign (v := (.int .i64 (j : Int))) rfl) (qd rfl rfl rfl (r_assign (v := (.string (rows.getD j ByteArray.empty))) rfl) (qe (s_then (s_seq (c_reg ?_))))))))
 refine qd rfl rfl rfl (r_move (v := (.string (rows.getD j ByteArray.empty))) rfl) (q1 rfl rfl rfl (o_s2b (e := 5) Tryz.underlying9 Tryz.underlying47 Tryz.underlying5 rfl hX42.pins (by omega) (fun u49 w50 ho51 hp52 hl53 hk54 => ?_)))
 have hX55 := hX42.step hp52 hl53
 have ho56 := hw43.below hl53
 have hb57 := hw44.below hl53
 have hb58 := hw45.below hl53
 have ha59 : Apart u49.ownBlock ov.ownBlock := new_ne_own hk54 hw43.lt
 have ha60 : Apart u49.ownBlock (some b14) := new_ne_box hk54 hw44.lt
 have ha61 : Apart u49.ownBlock (some b22) := new_ne_box hk54 hw45.lt
 have ho62 : OwnM 5 GL1 w50 w.heap.size u49 ((rows.getD j ByteArray.empty).data.toList) := ho51.weaken hX42.size
 have hm63 : (rows.getD j ByteArray.empty).data.toList.length = (rows.getD j ByteArray.empty).size := rfl
 refine qd rfl rfl rfl (r_assign (v := u49) rfl) (qe (s_then (s_seq (s_seq (c_reg ?_)))))
 refine qd rfl rfl rfl (r_move (v := (.int .i64 (j : Int))) rfl) (qd rfl rfl rfl (r_move (v := (.int .i64 (r : Int))) rfl) (qd rfl rfl rfl (r_eql rfl rfl) (qe (s_then ?_))))
 refine c_ifd (p := ((j : Int) : Int) = (r : Int)) rfl rfl (fun h64 => ?_) (fun h64 => ?_)
 refine s_seq (c_reg ?_)
 refine qd rfl rfl rfl (r_move (v := u49) rfl) (qd rfl rfl rfl (r_move (v := (.int .i64 (c : Int))) rfl) (qd rfl rfl rfl (run_idx Tryz.underlying47 sz5 (v := u49) rfl rfl ho62.read (by omega) (by omega)) (q0 rfl rfl rfl (o_setM (v := u49) (z := (c : Int)) (35) sz5 rfl (by exact rfl) hX55.pins ho62 (by omega) (by omega) (fun w65 ho66 hp67 hg68 hz69 => ?_)))))
 have hX70 := hX55.write hp67 hg68 ((lo_ownM ho62))
 have ho71 := ho56.keptA hg68 ha59.symm
 have hb72 := hb57.keptA hg68 ha60.symm
 have hb73 := hb58.keptA hg68 ha61.symm
 have ho74 : OwnM 5 GL1 w65 w.heap.size u49 (((rows.getD j ByteArray.empty).data.toList).set c 35) := ho66
 have hm75 : (((rows.getD j ByteArray.empty).data.toList).set c 35).length = ((rows.getD j ByteArray.empty).data.toList).length := List.length_set ..
 refine qe (s_then (s_seq (c_reg ?_)))
 refine qd rfl rfl rfl (r_move (v := (.bool false)) rfl) (qd rfl rfl rfl (r_not rfl) (qe (s_then ?_)))
 refine c_ifT rfl rfl (c_reg (qd rfl rfl rfl (r_move (v := u49) rfl) (qd rfl rfl rfl (r_move (v := (.int .i64 (c : Int))) rfl) (qd rfl rfl rfl (r_add rfl rfl (by omega)) (qd rfl rfl rfl (run_idx Tryz.underlying47 sz5 (v := u49) rfl rfl ho74.read (by omega) (by omega)) (q0 rfl rfl rfl (o_setM (v := u49) (z := ((c : Int) + 1)) (35) sz5 rfl (by exact rfl) hX70.pins ho74 (by omega) (by omega) (fun w76 ho77 hp78 hg79 hz80 => ?_))))))))
 have hX81 := hX70.write hp78 hg79 ((lo_ownM ho74))
 have ho82 := ho71.keptA hg79 ha59.symm
 have hb83 := hb72.keptA hg79 ha60.symm
 have hb84 := hb73.keptA hg79 ha61.symm
 have ho85 : OwnM 5 GL1 w76 w.heap.size u49 ((((rows.getD j ByteArray.empty).data.toList).set c 35).set ((c : Int) + 1).toNat 35) := ho77
 have hm86 : ((((rows.getD j ByteArray.empty).data.toList).set c 35).set ((c : Int) + 1).toNat 35).length = (((rows.getD j ByteArray.empty).data.toList).set c 35).length := List.length_set ..
 refine qe (s_then (s_seq (s_seq (c_reg ?_))))
 refine qd rfl rfl rfl (r_move (v := (.bool false)) rfl) (qd rfl rfl rfl (r_move (v := (.bool false)) rfl) (qs rfl rfl rfl rfl rfl rfl (qs rfl rfl rfl rfl rfl rfl (qs rfl rfl rfl rfl rfl rfl (qs rfl rfl rfl rfl rfl rfl (qd rfl rfl rfl (r_pickF (v := (.bool false)) rfl rfl) (qe (s_then ?_))))))))
 refine c_ifF rfl rfl (wp_skip (s_then (c_reg ?_)))
 refine qd rfl rfl rfl (r_fldp (k := 0) rfl Tryz.underlying56 rfl nz22 rfl) (qd rfl rfl rfl (r_ldp1 (u := ov) ag22 rfl (hb84.cell (o := 0) rfl)) (qd rfl rfl rfl (r_move (v := u49) rfl) (qd rfl rfl rfl (r_b2s Tryz.underlying47 Tryz.underlying5 Tryz.underlying9 rfl ho85.read (Gadd.pins hX81.pins u49)) (q1 rfl rfl rfl (o_buildF (E := eStr) (e := 9) [(.string (b2s ((((rows.getD j ByteArray.empty).data.toList).set c 35).set ((c : Int) + 1).toNat 35)))] [b2s ((((rows.getD j ByteArray.empty).data.toList).set c 35).set ((c : Int) + 1).toNat 35)] Tryz.underlying22 sz9 zr9 (by exact reps1 (by rfl)) (ones1 (by rfl)) rfl rfl rfl rfl (by decide) hX81.pins (fun u87 w88 ho89 hp90 hl91 hk92 => ?_))))))
 have hX93 := hX81.step hp90 hl91
 have ho94 := ho82.below hl91
 have hb96 := hb83.below hl91
 have hb97 := hb84.below hl91
 have ho102 : Own eStr 9 GL1 w88 w.heap.size u87 ([b2s ((((rows.getD j ByteArray.empty).data.toList).set c 35).set ((c : Int) + 1).toNat 35)]) := ho89.weaken hX81.size
 refine q1 rfl rfl rfl (o_append (E := eStr) (v := ov) (u := u87) 16 Tryz.underlying22 ap9 (by decide) rfl rfl hX93.pins ho94 ho102.src (by first | omega | (rw [List.nil_append]; omega) | (rw [List.length_nil]; omega) | (rw [List.length_append]; omega) | (simp; done) | (simp; omega) | (simp only [List.length_append, List.length_cons, List.length_nil]; omega)) (by first | omega | (rw [List.nil_append]; omega) | (rw [List.length_nil]; omega) | (rw [List.length_append]; omega) | (simp; done) | (simp; omega) | (simp only [List.length_append, List.length_cons, List.length_nil]; omega)) (hX93.size) (fun u103 w104 ho105 hp106 hg107 hw108 => ?_))
 have hX109 := hX93.write hp106 hg107 ((lo_own ho94))
 have hb112 := hb96.keptA hg107 ha46.symm
 have hb113 := hb97.keptA hg107 ha47.symm
 have ha116 : Apart (some b14) u103.ownBlock := app_ne_box ha46.symm hw108 hb96.lt
 have ha117 : Apart (some b22) u103.ownBlock := app_ne_box ha47.symm hw108 hb97.lt
 have hm118 : (os ++ ([b2s ((((rows.getD j ByteArray.empty).data.toList).set c 35).set ((c : Int) + 1).toNat 35)])).length = os.length + 1 := List.length_append
 refine qd rfl rfl rfl (r_fldp (k := 0) rfl Tryz.underlying56 rfl nz22 rfl) (q0 rfl rfl rfl (o_stp (cs' := [u103]) (us := [u103]) (v := u103) sz22 rfl rfl (cells1 ho105.one) (ones1 ho105.one) hX109.pins hb113 (Nat.le_of_ble_eq_true rfl) rfl (fun w119 hb120 hp121 hg122 hz123 => ?_)))
 have hX124 := hX109.write hp121 hg122 ((lo_box hlo31))
 have ho126 := ho105.keptA hg122 ha117.symm
 have hb127 := hb112.keptA hg122 ha30.symm
 refine qe (s_blkN (s_then (c_reg ?_)))
 refine qd rfl rfl rfl (r_add rfl rfl (by omega)) (qd rfl rfl rfl (r_move (v := (.int .i64 ((j : Int) + 1))) rfl) (qe (s_lopN (⟨_, ?_, _, rfl, _, j + 1, u103, os ++ ([b2s ((((rows.getD j ByteArray.empty).data.toList).set c 35).set ((c : Int) + 1).toNat 35)]), GL1, (packS (x := 17) (packS (x := 16) (packS (x := 15) (packS (x := 9) (packS (x := 8) (packS (x := 3) (packS (x := 2) (pack1 (x := 1) rfl) rfl) rfl) rfl) rfl) rfl) rfl) rfl), rfl, hX124, hlek39, (by omega), (by rw [hos, List.range_succ, List.map_append]; congr 1; show [_] = [plRow rows r c false j]; unfold plRow; congr 1; congr 1; exact (by first | exact (pl_same (by omega) (by omega)).symm | exact (pl_same (by omega) (fun k => by cases k.1)).symm | exact (pl_t0 (by omega)).symm | exact (pl_t1 (by omega)).symm | exact (pl_f (by omega)).symm | (exfalso; omega))), (by simp [hol]), ho126, hb127, hb120, ha116.symm, ha117.symm⟩))))
 omega
 refine wp_skip (s_then (s_seq (s_seq (c_reg ?_))))
 refine qd rfl rfl rfl (r_move (v := (.bool false)) rfl) (qd rfl rfl rfl (r_move (v := (.bool false)) rfl) (qs rfl rfl rfl rfl rfl rfl (qs rfl rfl rfl rfl rfl rfl (qs rfl rfl rfl rfl rfl rfl (qs rfl rfl rfl rfl rfl rfl (qd rfl rfl rfl (r_pickF (v := (.bool false)) rfl rfl) (qe (s_then ?_))))))))
 refine c_ifF rfl rfl (wp_skip (s_then (c_reg ?_)))
 refine qd rfl rfl rfl (r_fldp (k := 0) rfl Tryz.underlying56 rfl nz22 rfl) (qd rfl rfl rfl (r_ldp1 (u := ov) ag22 rfl (hb58.cell (o := 0) rfl)) (qd rfl rfl rfl (r_move (v := u49) rfl) (qd rfl rfl rfl (r_b2s Tryz.underlying47 Tryz.underlying5 Tryz.underlying9 rfl ho62.read (Gadd.pins hX55.pins u49)) (q1 rfl rfl rfl (o_buildF (E := eStr) (e := 9) [(.string (b2s ((rows.getD j ByteArray.empty).data.toList)))] [b2s ((rows.getD j ByteArray.empty).data.toList)] Tryz.underlying22 sz9 zr9 (by exact reps1 (by rfl)) (ones1 (by rfl)) rfl rfl rfl rfl (by decide) hX55.pins (fun u128 w129 ho130 hp131 hl132 hk133 => ?_))))))
 have hX134 := hX55.step hp131 hl132
 have ho135 := ho56.below hl132
 have hb137 := hb57.below hl132
 have hb138 := hb58.below hl132
 have ho143 : Own eStr 9 GL1 w129 w.heap.size u128 ([b2s ((rows.getD j ByteArray.empty).data.toList)]) := ho130.weaken hX55.size
 refine q1 rfl rfl rfl (o_append (E := eStr) (v := ov) (u := u128) 16 Tryz.underlying22 ap9 (by decide) rfl rfl hX134.pins ho135 ho143.src (by first | omega | (rw [List.nil_append]; omega) | (rw [List.length_nil]; omega) | (rw [List.length_append]; omega) | (simp; done) | (simp; omega) | (simp only [List.length_append, List.length_cons, List.length_nil]; omega)) (by first | omega | (rw [List.nil_append]; omega) | (rw [List.length_nil]; omega) | (rw [List.length_append]; omega) | (simp; done) | (simp; omega) | (simp only [List.length_append, List.length_cons, List.length_nil]; omega)) (hX134.size) (fun u144 w145 ho146 hp147 hg148 hw149 => ?_))
 have hX150 := hX134.write hp147 hg148 ((lo_own ho135))
 have hb153 := hb137.keptA hg148 ha46.symm
 have hb154 := hb138.keptA hg148 ha47.symm
 have ha157 : Apart (some b14) u144.ownBlock := app_ne_box ha46.symm hw149 hb137.lt
 have ha158 : Apart (some b22) u144.ownBlock := app_ne_box ha47.symm hw149 hb138.lt
 have hm159 : (os ++ ([b2s ((rows.getD j ByteArray.empty).data.toList)])).length = os.length + 1 := List.length_append
 refine qd rfl rfl rfl (r_fldp (k := 0) rfl Tryz.underlying56 rfl nz22 rfl) (q0 rfl rfl rfl (o_stp (cs' := [u144]) (us := [u144]) (v := u144) sz22 rfl rfl (cells1 ho146.one) (ones1 ho146.one) hX150.pins hb154 (Nat.le_of_ble_eq_true rfl) rfl (fun w160 hb161 hp162 hg163 hz164 => ?_)))
 have hX165 := hX150.write hp162 hg163 ((lo_box hlo31))
 have ho167 := ho146.keptA hg163 ha158.symm
 have hb168 := hb153.keptA hg163 ha30.symm
 refine qe (s_blkN (s_then (c_reg ?_)))
 refine qd rfl rfl rfl (r_add rfl rfl (by omega)) (qd rfl rfl rfl (r_move (v := (.int .i64 ((j : Int) + 1))) rfl) (qe (s_lopN (⟨_, ?_, _, rfl, _, j + 1, u144, os ++ ([b2s ((rows.getD j ByteArray.empty).data.toList)]), GL1, (packS (x := 17) (packS (x := 16) (packS (x := 15) (packS (x := 9) (packS (x := 8) (packS (x := 3) (packS (x := 2) (pack1 (x := 1) rfl) rfl) rfl) rfl) rfl) rfl) rfl) rfl), rfl, hX165, hlek39, (by omega), (by rw [hos, List.range_succ, List.map_append]; congr 1; show [_] = [plRow rows r c false j]; unfold plRow; congr 1; congr 1; exact (by first | exact (pl_same (by omega) (by omega)).symm | exact (pl_same (by omega) (fun k => by cases k.1)).symm | exact (pl_t0 (by omega)).symm | exact (pl_t1 (by omega)).symm | exact (pl_f (by omega)).symm | (exfalso; omega))), (by simp [hol]), ho167, hb168, hb161, ha157.symm, ha158.symm⟩))))
 omega
 refine wp_exit (s_thenE (s_lopE (s_blkE (s_then (s_seq (c_reg ?_))))))
 refine qd rfl rfl rfl (r_ldpA (cs := [ov]) ag56 sz56 rfl (fun j u hj => hw45.cell (by simpa using hj))) (q0 rfl rfl rfl (o_stp (cs' := [ov]) (us := [ov]) (v := (.agg [ov].toArray)) sz56 rfl rfl rfl (ones1 hw43.one) hX42.pins hw44 (Nat.le_of_ble_eq_true rfl) rfl (fun w169 hb170 hp171 hg172 hz173 => ?_)))
 have hX174 := hX42.write hp171 hg172 ((lo_box hlo21))
 have ho175 := hw43.keptA hg172 ha46
 refine qe (s_then ?_)
 refine wp_ret (s_ret (c_retc (cs := [ov]) rfl rfl rfl ag56 sz56 (fun j u hj => by rw [Nat.zero_add]; exact hb170.cell hj) ?_))
 obtain ⟨G177, hle180, hX179, hr178, hf181⟩ := ho175.sealed hX174
 have hjn : j = rows.length := by omega
 subst hjn
 exact ⟨_, _, rfl, (by have e : placedM rows r c false = os := hos.symm; rw [e]; exact hr178), hX179⟩

end RM2
end Go.Proofs.YtianphgdbfekdaaGreatDoor

set_option maxRecDepth 20000
set_option maxHeartbeats 2000000
namespace Go.Proofs.YtianphgdbfekdaaGreatDoor
namespace RM3
open Go.RowKit Go.GL Go.Proofs
open RM1 RM2










theorem moves_true {w : World} {G : Pin} {v : Value} {rows : List ByteArray} (hP : Pins G w) (hv : RSl eStr G v rows) (g : GbP rows) :
  Calls Tryz.prog 52 [(.agg [v].toArray), (.bool true)].toArray w fun e w' => ∃ (u : Value) (G' : Pin), e = .returned u ∧ RSl (eSl eStr) G' u (dmM rows true) ∧ Ext noS G w G' w' := by
 refine s_enter (n := 59) Tryz.func52 Tryz.ntmps52 rfl rfl ?_
 have hX0 : Ext noS G w G w := Ext.refl hP
 have hm := hv.max
 have ghi := g.hi
 have gwd : 1 ≤ (rows.getD 0 ByteArray.empty).size ∧ (rows.getD 0 ByteArray.empty).size ≤ 8 := g.wd
 have geq : ∀ i, i < rows.length → (rows.getD i ByteArray.empty).size = (rows.getD 0 ByteArray.empty).size := g.eq
 refine s_seq (c_reg ?_)
 refine q1 rfl rfl rfl (o_box [v] (v := (.agg [v].toArray)) rfl rfl hX0.pins (fun b1 w2 hk3 hb4 hp5 hl6 => ?_))
 have hX7 := hX0.step hp5 hl6
 have hlo8 : w.heap.size ≤ b1 := by have := hX0.size; omega
 obtain ⟨G9, hle10, hX11, hbp12, hf13⟩ := hb4.shut hX7 hlo8
 refine qd rfl rfl rfl (r_assign (v := (.slice none 0 0)) rfl) (qe (s_then (s_seq (c_reg ?_))))
 refine q1 rfl rfl rfl (o_build0 (E := (eSl eStr)) (e := 56) Tryz.underlying66 sz56 hX11.pins (fun u14 w15 ho16 hp17 hl18 hk19 => ?_))
 have hX20 := hX11.step hp17 hl18
 have ho21 : Own (eSl eStr) 56 G9 w15 w.heap.size u14 ([]) := ho16.weaken hX11.size
 refine qd rfl rfl rfl (r_assign (v := u14) rfl) (qe (s_then (s_seq (s_seq (c_reg ?_)))))
 refine qd rfl rfl rfl (r_fldp (k := 0) rfl Tryz.underlying56 rfl nz22 rfl) (qd rfl rfl rfl (r_ldp1 (u := v) ag22 rfl (hX20.pins _ _ _ (hbp12 0 _ rfl))) (qd rfl rfl rfl (run_len Tryz.underlying22 (v := v) rfl hv) (qd rfl rfl rfl (r_move (v := (.int .i64 0)) rfl) (qe (s_then ?_)))))
 refine s_blk (s_loop (fun (k : Nat) (en : Nat → Value) (W : World) => ∃ (env1 : Nat → Value) (r : Nat) (ov : Value) (os : List (List ByteArray)) (GL1 : Pin), en = (upd (upd (upd (upd (upd (upd env1 1 (.bool true)) 2 (.pointer (some ⟨b1, 0, none⟩))) 4 (.slice none 0 0)) 5 ov) 11 (.int .i64 (rows.length : Int))) 12 (.int .i64 (r : Int))) ∧ k = rows.length - r ∧ Ext noS G w GL1 W ∧ Pin.le G9 GL1 ∧ (r ≤ rows.length) ∧ (os = dmAll rows true (fun r c => placedM rows r c true) r) ∧ (os.length ≤ 8 * r) ∧ (Own (eSl eStr) 56 GL1 W w.heap.size ov (os))) _ ⟨_, 0, u14, [], G9, (packS (x := 12) (packS (x := 11) (packS (x := 5) (packS (x := 4) (packS (x := 2) (pack1 (x := 1) rfl) rfl) rfl) rfl) rfl) rfl), rfl, hX20, Pin.le_refl _, Nat.zero_le _, rfl, (by simp), ho21⟩ ?_)
 rintro k22 _ w23 ⟨env1, r, ov, os, GL1, rfl, hk24, hX25, hlek22, hr, hos, hol, hw26⟩
 refine s_seq (c_reg ?_)
 refine qd rfl rfl rfl (r_lss rfl rfl) (qe (s_then (s_seq ?_)))
 refine c_ifd (p := ((r : Int) : Int) < (rows.length : Int)) rfl rfl (fun h27 => ?_) (fun h27 => ?_)
 have hrr := geq r (by omega)
 refine wp_skip (s_then (s_seq ?_))
 refine s_blk (s_seq (c_reg ?_))
 refine qd rfl rfl rfl (r_move (v := (.int .i64 (r : Int))) rfl) (qd rfl rfl rfl (r_assign (v := (.int .i64 (r : Int))) rfl) (qe (s_then (s_seq (c_reg ?_)))))
 refine qd rfl rfl rfl (r_fldp (k := 0) rfl Tryz.underlying56 rfl nz22 rfl) (qd rfl rfl rfl (r_ldp1 (u := v) ag22 rfl ((Pins.of_le hX25.pins hlek22) _ _ _ (hbp12 0 _ rfl))) (qd rfl rfl rfl (r_move (v := (.int .i64 (r : Int))) rfl) (qd rfl rfl rfl (run_idx Tryz.underlying22 sz9 (v := v) rfl rfl hv (by omega) (by omega)) (qd rfl rfl rfl (run_load_str (r := rows.getD r ByteArray.empty) rfl ag9 (z := (r : Int)) rfl hv (Pins.of_le hX25.pins (Pin.le_trans hle10 hlek22)) (by omega) (by omega)) (q1 rfl rfl rfl (o_range Tryz.underlying9 rfl hX25.pins (fun k28 w29 hk30 hit31 hp32 hl33 => ?_)))))))
 have hX34 := hX25.step hp32 hl33
 have ho35 := hw26.below hl33
 have hlo36 : w.heap.size ≤ k28 := by have := hX25.size; omega
 refine qe (s_then ?_)
 refine s_blk (s_loop (fun (k : Nat) (en : Nat → Value) (W : World) => ∃ (env1 : Nat → Value) (c : Nat) (ov2 : Value) (os2 : List (List ByteArray)) (GL2 : Pin), en = (upd (upd (upd (upd (upd (upd (upd (upd env1 1 (.bool true)) 2 (.pointer (some ⟨b1, 0, none⟩))) 4 (.slice none 0 0)) 5 ov2) 6 (.int .i64 (r : Int))) 11 (.int .i64 (rows.length : Int))) 12 (.int .i64 (r : Int))) 20 (.pointer (some ⟨k28, 0, none⟩))) ∧ k = (rows.getD r ByteArray.empty).size - c ∧ Ext noS G w GL2 W ∧ Pin.le GL1 GL2 ∧ (c ≤ (rows.getD r ByteArray.empty).size) ∧ (os2 = os ++ dmRow rows true (fun r c => placedM rows r c true) r c) ∧ (os2.length ≤ 8 * r + c) ∧ (Own (eSl eStr) 56 GL2 W w.heap.size ov2 (os2)) ∧ (It W k28 (rows.getD r ByteArray.empty) c)) _ ⟨_, 0, ov, os, GL1, (packS (x := 20) (packS (x := 12) (packS (x := 11) (packS (x := 6) (packS (x := 5) (packS (x := 4) (packS (x := 2) (pack1 (x := 1) rfl) rfl) rfl) rfl) rfl) rfl) rfl) rfl), rfl, hX34, Pin.le_refl _, Nat.zero_le _, (by simp [dmRow]), (by omega), ho35, hit31⟩ ?_)
 rintro k37 _ w38 ⟨env1, c, ov2, os2, GL2, rfl, hk39, hX40, hlek37, hc, hos2, hol2, hw41, hit42⟩
 refine s_seq (c_reg ?_)
 by_cases h43 : c < (rows.getD r ByteArray.empty).size
 refine q1 rfl rfl rfl (o_nextY rfl hit42 hX40.pins h43 (by have := g.ch r (by omega) c (by have := geq r (by omega); show c < (rows.getD 0 ByteArray.empty).size; omega); unfold rwS at this; omega) (fun w44 hit45 hp46 hg47 hz48 => ?_))
 have hX49 := hX40.write hp46 hg47 ((lo_box hlo36))
 have ho50 := hw41.keptA hg47 (hit42.ap_own hw41)
 refine qd rfl rfl rfl (r_extract (v := (.bool true)) rfl rfl) (qe (s_then (s_seq ?_)))
 refine c_ifT rfl rfl (wp_skip (s_then (s_blk (s_seq (c_reg ?_)))))
 refine qd rfl rfl rfl (r_extract (v := (.int .i64 (c : Int))) rfl rfl) (qd rfl rfl rfl (r_assign (v := (.int .i64 (c : Int))) rfl) (qe (s_then (s_seq (c_reg ?_)))))
 refine qd rfl rfl rfl (r_ldpA (cs := [v]) ag56 sz56 rfl (fun j u hj => (Pins.of_le hX49.pins (Pin.le_trans hlek22 hlek37)) _ _ _ (hbp12 _ _ (by simpa using hj)))) (qd rfl rfl rfl (r_move (v := (.int .i64 (r : Int))) rfl) (qd rfl rfl rfl (r_move (v := (.int .i64 (c : Int))) rfl) (q1 rfl rfl rfl (o_call (vs := [(.agg [v].toArray), (.int .i64 (r : Int)), (.int .i64 (c : Int))]) Tryz.func79 nm79 rfl rfl rfl ?_))))
 refine Calls.mono (free_spec (r := (r : Int)) (c := (c : Int)) hX49.pins (hv.mono (Pin.le_trans (Pin.le_trans hle10 hlek22) hlek37)) g) ?_
 rintro _ w52 ⟨G51, rfl, hx53⟩
 refine ⟨_, rfl, ?_⟩
 have hX54 := hX49.tr hx53
 have ho55 := ho50.ext hx53
 have hit56 := hit45.ext hx53
 refine qd rfl rfl rfl (r_move (v := (.bool (frI rows (r : Int) (c : Int)))) rfl) (qb (t := 28) rfl (fun h57 => ?_) (fun h57 => ?_))
 refine qdg rfl rfl rfl rfl rfl rfl (r_move (v := (.bool true)) rfl) (qdg rfl rfl rfl rfl rfl rfl (r_move (v := (.bool true)) rfl) (qdg rfl rfl rfl rfl rfl rfl (r_ldpA (cs := [v]) ag56 sz56 rfl (fun j u hj => (Pins.of_le hX54.pins (Pin.le_trans (Pin.le_trans hlek22 hlek37) hx53.le)) _ _ _ (hbp12 _ _ (by simpa using hj)))) (qdg rfl rfl rfl rfl rfl rfl (r_move (v := (.int .i64 (r : Int))) rfl) (qdg rfl rfl rfl rfl rfl rfl (r_add rfl rfl (by omega)) (qdg rfl rfl rfl rfl rfl rfl (r_move (v := (.int .i64 (c : Int))) rfl) (q1g rfl rfl rfl rfl rfl rfl (o_call (vs := [(.agg [v].toArray), (.int .i64 ((r : Int) + 1)), (.int .i64 (c : Int))]) Tryz.func79 nm79 rfl rfl rfl ?_)))))))
 refine Calls.mono (free_spec (r := ((r : Int) + 1)) (c := (c : Int)) hX54.pins (hv.mono (Pin.le_trans (Pin.le_trans (Pin.le_trans hle10 hlek22) hlek37) hx53.le)) g) ?_
 rintro _ w59 ⟨G58, rfl, hx60⟩
 refine ⟨_, rfl, ?_⟩
 have hX61 := hX54.tr hx60
 have ho62 := ho55.ext hx60
 have hit63 := hit56.ext hx60
 refine qdg rfl rfl rfl rfl rfl rfl (r_pickT (v := (.bool (frI rows ((r : Int) + 1) (c : Int)))) rfl rfl) (qdg rfl rfl rfl rfl rfl rfl (r_move (v := (.bool (frI rows ((r : Int) + 1) (c : Int)))) rfl) (qb (t := 37) rfl (fun h64 => ?_) (fun h64 => ?_)))
 refine qs rfl rfl rfl rfl rfl rfl (qs rfl rfl rfl rfl rfl rfl (qs rfl rfl rfl rfl rfl rfl (qsu rfl rfl rfl rfl rfl (qsu rfl rfl rfl rfl rfl (qsu rfl rfl rfl rfl rfl (qsu rfl rfl rfl rfl rfl (qsu rfl rfl rfl rfl rfl (qs rfl rfl rfl rfl rfl rfl (qdg rfl rfl rfl rfl rfl rfl (r_pickT (v := (.bool true)) rfl rfl) (qd rfl rfl rfl (r_pickT (v := (.bool true)) rfl rfl) (qe (s_then ?_))))))))))))
 refine c_ifT rfl rfl (c_reg (qd rfl rfl rfl (r_move (v := ov2) rfl) (qd rfl rfl rfl (r_ldpA (cs := [v]) ag56 sz56 rfl (fun j u hj => (Pins.of_le hX61.pins (Pin.le_trans (Pin.le_trans (Pin.le_trans hlek22 hlek37) hx53.le) hx60.le)) _ _ _ (hbp12 _ _ (by simpa using hj)))) (qd rfl rfl rfl (r_move (v := (.int .i64 (r : Int))) rfl) (qd rfl rfl rfl (r_move (v := (.int .i64 (c : Int))) rfl) (qd rfl rfl rfl (r_move (v := (.bool true)) rfl) (q1 rfl rfl rfl (o_call (vs := [(.agg [v].toArray), (.int .i64 (r : Int)), (.int .i64 (c : Int)), (.bool true)]) Tryz.func83 nm83 rfl rfl rfl ?_))))))))
 refine Calls.mono (placed_true (r := r) (c := c) hX61.pins (hv.mono (Pin.le_trans (Pin.le_trans (Pin.le_trans (Pin.le_trans hle10 hlek22) hlek37) hx53.le) hx60.le)) g (dm_in g (dm_t h57 h64))) ?_
 rintro _ w67 ⟨u65, G66, rfl, hr68, hx69⟩
 refine ⟨_, rfl, ?_⟩
 have hX70 := hX61.tr hx69
 have ho71 := ho62.ext hx69
 have hit72 := hit63.ext hx69
 refine q1 rfl rfl rfl (o_build1 (E := (eSl eStr)) (e := 56) [u65] (placedM rows r c true) Tryz.underlying66 sz56 zr56 ⟨_, rfl, hr68⟩ rfl (by decide) hX70.pins (fun u73 w74 ho75 hp76 hl77 hk78 => ?_))
 have hX79 := hX70.step hp76 hl77
 have ho80 := ho71.below hl77
 have hit81 := hit72.below hl77
 have ho83 : Own (eSl eStr) 56 G66 w74 w.heap.size u73 ([placedM rows r c true]) := ho75.weaken hX70.size
 refine q1 rfl rfl rfl (o_append (E := (eSl eStr)) (v := ov2) (u := u73) 24 Tryz.underlying66 ap56 (by decide) rfl rfl hX79.pins ho80 ho83.src (by first | omega | (rw [List.nil_append]; omega) | (rw [List.length_nil]; omega) | (rw [List.length_append]; omega) | (simp; done) | (simp; omega) | (simp only [List.length_append, List.length_cons, List.length_nil]; omega)) (by first | omega | (rw [List.nil_append]; omega) | (rw [List.length_nil]; omega) | (rw [List.length_append]; omega) | (simp; done) | (simp; omega) | (simp only [List.length_append, List.length_cons, List.length_nil]; omega)) (hX79.size) (fun u84 w85 ho86 hp87 hg88 hw89 => ?_))
 have hit90 := hit81.kept hg88 (hit81.ne_own ho80)
 have hX91 := hX79.write hp87 hg88 ((lo_own ho80))
 have hm94 : (os2 ++ ([placedM rows r c true])).length = os2.length + 1 := List.length_append
 refine qd rfl rfl rfl (r_assign (v := u84) rfl) (qe (s_blkN (s_lopN (⟨_, ?_, _, rfl, _, c + 1, u84, os2 ++ ([placedM rows r c true]), G66, (packS (x := 20) (packS (x := 12) (packS (x := 11) (packS (x := 6) (packS (x := 5) (packS (x := 4) (packS (x := 2) (pack1 (x := 1) rfl) rfl) rfl) rfl) rfl) rfl) rfl) rfl), rfl, hX91, (Pin.le_trans (Pin.le_trans (Pin.le_trans hlek37 hx53.le) hx60.le) hx69.le), (by omega), (by rw [dmRow_yes (dm_t h57 h64), hos2, List.append_assoc]), (by simp; omega), ho86, hit90⟩))))
 omega
 refine qdg rfl rfl rfl rfl rfl rfl (r_move (v := (.bool true)) rfl) (qdg rfl rfl rfl rfl rfl rfl (r_not rfl) (qdg rfl rfl rfl rfl rfl rfl (r_move (v := (.bool false)) rfl) (qs rfl rfl rfl rfl rfl rfl (qs rfl rfl rfl rfl rfl rfl (qs rfl rfl rfl rfl rfl rfl (qs rfl rfl rfl rfl rfl rfl (qs rfl rfl rfl rfl rfl rfl (qdg rfl rfl rfl rfl rfl rfl (r_pickF (v := (.bool false)) rfl rfl) (qdg rfl rfl rfl rfl rfl rfl (r_pickF (v := (.bool false)) rfl rfl) (qd rfl rfl rfl (r_pickT (v := (.bool false)) rfl rfl) (qe (s_then ?_))))))))))))
 refine c_ifF rfl rfl (wp_skip (s_blkN (s_lopN (⟨_, ?_, _, rfl, _, c + 1, ov2, os2, G58, (packS (x := 20) (packS (x := 12) (packS (x := 11) (packS (x := 6) (packS (x := 5) (packS (x := 4) (packS (x := 2) (pack1 (x := 1) rfl) rfl) rfl) rfl) rfl) rfl) rfl) rfl), rfl, hX61, (Pin.le_trans (Pin.le_trans hlek37 hx53.le) hx60.le), (by omega), (by rw [dmRow_no (dm_t h57 h64), hos2]), (by omega), ho62, hit63⟩))))
 omega
 refine qs rfl rfl rfl rfl rfl rfl (qs rfl rfl rfl rfl rfl rfl (qsu rfl rfl rfl rfl rfl (qsu rfl rfl rfl rfl rfl (qsu rfl rfl rfl rfl rfl (qsu rfl rfl rfl rfl rfl (qsu rfl rfl rfl rfl rfl (qs rfl rfl rfl rfl rfl rfl (qs rfl rfl rfl rfl rfl rfl (qsu rfl rfl rfl rfl rfl (qsu rfl rfl rfl rfl rfl (qsu rfl rfl rfl rfl rfl (qsu rfl rfl rfl rfl rfl (qsu rfl rfl rfl rfl rfl (qsu rfl rfl rfl rfl rfl (qsu rfl rfl rfl rfl rfl (qsu rfl rfl rfl rfl rfl (qsu rfl rfl rfl rfl rfl (qs rfl rfl rfl rfl rfl rfl (qd rfl rfl rfl (r_pickF (v := (.bool false)) rfl rfl) (qe (s_then ?_)))))))))))))))))))))
 refine c_ifF rfl rfl (wp_skip (s_blkN (s_lopN (⟨_, ?_, _, rfl, _, c + 1, ov2, os2, G51, (packS (x := 20) (packS (x := 12) (packS (x := 11) (packS (x := 6) (packS (x := 5) (packS (x := 4) (packS (x := 2) (pack1 (x := 1) rfl) rfl) rfl) rfl) rfl) rfl) rfl) rfl), rfl, hX54, (Pin.le_trans hlek37 hx53.le), (by omega), (by rw [dmRow_no (dm_0 h57), hos2]), (by omega), ho55, hit56⟩))))
 omega
 refine q1 rfl rfl rfl (o_nextN rfl hit42 h43 ?_)
 refine qd rfl rfl rfl (r_extract (v := (.bool false)) rfl rfl) (qe (s_then (s_seq ?_)))
 refine c_ifF rfl rfl (wp_exit (s_thenE (s_lopE (s_blkE (s_blkN (s_then (c_reg ?_)))))))
 refine qd rfl rfl rfl (r_add rfl rfl (by omega)) (qd rfl rfl rfl (r_move (v := (.int .i64 ((r : Int) + 1))) rfl) (qe (s_lopN (⟨_, ?_, _, rfl, _, r + 1, ov2, os2, GL2, (packS (x := 12) (packS (x := 11) (packS (x := 5) (packS (x := 4) (packS (x := 2) (pack1 (x := 1) rfl) rfl) rfl) rfl) rfl) rfl), rfl, hX40, (Pin.le_trans hlek22 hlek37), (by omega), (by rw [hos2, hos, dmAll_succ, show c = wdS rows by show c = (rows.getD 0 ByteArray.empty).size; omega]), (by omega), hw41⟩))))
 omega
 refine wp_exit (s_thenE (s_lopE (s_blkE (s_then (s_seq (c_reg ?_))))))
 refine qd rfl rfl rfl (r_move (v := ov) rfl) (qd rfl rfl rfl (r_assign (v := ov) rfl) (qe (s_then ?_)))
 refine wp_ret (s_ret (c_ret1 (v := ov) rfl rfl rfl ?_))
 obtain ⟨G95, hle98, hX97, hr96, hf99⟩ := hw26.sealed hX25
 have hrn : r = rows.length := by omega
 subst hrn
 exact ⟨_, _, rfl, (by rw [← placed_moves g, ← hos]; exact hr96), hX97⟩

theorem moves_false {w : World} {G : Pin} {v : Value} {rows : List ByteArray} (hP : Pins G w) (hv : RSl eStr G v rows) (g : GbP rows) :
  Calls Tryz.prog 52 [(.agg [v].toArray), (.bool false)].toArray w fun e w' => ∃ (u : Value) (G' : Pin), e = .returned u ∧ RSl (eSl eStr) G' u (dmM rows false) ∧ Ext noS G w G' w' := by
 refine s_enter (n := 59) Tryz.func52 Tryz.ntmps52 rfl rfl ?_
 have hX0 : Ext noS G w G w := Ext.refl hP
 have hm := hv.max
 have ghi := g.hi
 have gwd : 1 ≤ (rows.getD 0 ByteArray.empty).size ∧ (rows.getD 0 ByteArray.empty).size ≤ 8 := g.wd
 have geq : ∀ i, i < rows.length → (rows.getD i ByteArray.empty).size = (rows.getD 0 ByteArray.empty).size := g.eq
 refine s_seq (c_reg ?_)
 refine q1 rfl rfl rfl (o_box [v] (v := (.agg [v].toArray)) rfl rfl hX0.pins (fun b1 w2 hk3 hb4 hp5 hl6 => ?_))
 have hX7 := hX0.step hp5 hl6
 have hlo8 : w.heap.size ≤ b1 := by have := hX0.size; omega
 obtain ⟨G9, hle10, hX11, hbp12, hf13⟩ := hb4.shut hX7 hlo8
 refine qd rfl rfl rfl (r_assign (v := (.slice none 0 0)) rfl) (qe (s_then (s_seq (c_reg ?_))))
 refine q1 rfl rfl rfl (o_build0 (E := (eSl eStr)) (e := 56) Tryz.underlying66 sz56 hX11.pins (fun u14 w15 ho16 hp17 hl18 hk19 => ?_))
 have hX20 := hX11.step hp17 hl18
 have ho21 : Own (eSl eStr) 56 G9 w15 w.heap.size u14 ([]) := ho16.weaken hX11.size
 refine qd rfl rfl rfl (r_assign (v := u14) rfl) (qe (s_then (s_seq (s_seq (c_reg ?_)))))
 refine qd rfl rfl rfl (r_fldp (k := 0) rfl Tryz.underlying56 rfl nz22 rfl) (qd rfl rfl rfl (r_ldp1 (u := v) ag22 rfl (hX20.pins _ _ _ (hbp12 0 _ rfl))) (qd rfl rfl rfl (run_len Tryz.underlying22 (v := v) rfl hv) (qd rfl rfl rfl (r_move (v := (.int .i64 0)) rfl) (qe (s_then ?_)))))
 refine s_blk (s_loop (fun (k : Nat) (en : Nat → Value) (W : World) => ∃ (env1 : Nat → Value) (r : Nat) (ov : Value) (os : List (List ByteArray)) (GL1 : Pin), en = (upd (upd (upd (upd (upd (upd env1 1 (.bool false)) 2 (.pointer (some ⟨b1, 0, none⟩))) 4 (.slice none 0 0)) 5 ov) 11 (.int .i64 (rows.length : Int))) 12 (.int .i64 (r : Int))) ∧ k = rows.length - r ∧ Ext noS G w GL1 W ∧ Pin.le G9 GL1 ∧ (r ≤ rows.length) ∧ (os = dmAll rows false (fun r c => placedM rows r c false) r) ∧ (os.length ≤ 8 * r) ∧ (Own (eSl eStr) 56 GL1 W w.heap.size ov (os))) _ ⟨_, 0, u14, [], G9, (packS (x := 12) (packS (x := 11) (packS (x := 5) (packS (x := 4) (packS (x := 2) (pack1 (x := 1) rfl) rfl) rfl) rfl) rfl) rfl), rfl, hX20, Pin.le_refl _, Nat.zero_le _, rfl, (by simp), ho21⟩ ?_)
 rintro k22 _ w23 ⟨env1, r, ov, os, GL1, rfl, hk24, hX25, hlek22, hr, hos, hol, hw26⟩
 refine s_seq (c_reg ?_)
 refine qd rfl rfl rfl (r_lss rfl rfl) (qe (s_then (s_seq ?_)))
 refine c_ifd (p := ((r : Int) : Int) < (rows.length : Int)) rfl rfl (fun h27 => ?_) (fun h27 => ?_)
 have hrr := geq r (by omega)
 refine wp_skip (s_then (s_seq ?_))
 refine s_blk (s_seq (c_reg ?_))
 refine qd rfl rfl rfl (r_move (v := (.int .i64 (r : Int))) rfl) (qd rfl rfl rfl (r_assign (v := (.int .i64 (r : Int))) rfl) (qe (s_then (s_seq (c_reg ?_)))))
 refine qd rfl rfl rfl (r_fldp (k := 0) rfl Tryz.underlying56 rfl nz22 rfl) (qd rfl rfl rfl (r_ldp1 (u := v) ag22 rfl ((Pins.of_le hX25.pins hlek22) _ _ _ (hbp12 0 _ rfl))) (qd rfl rfl rfl (r_move (v := (.int .i64 (r : Int))) rfl) (qd rfl rfl rfl (run_idx Tryz.underlying22 sz9 (v := v) rfl rfl hv (by omega) (by omega)) (qd rfl rfl rfl (run_load_str (r := rows.getD r ByteArray.empty) rfl ag9 (z := (r : Int)) rfl hv (Pins.of_le hX25.pins (Pin.le_trans hle10 hlek22)) (by omega) (by omega)) (q1 rfl rfl rfl (o_range Tryz.underlying9 rfl hX25.pins (fun k28 w29 hk30 hit31 hp32 hl33 => ?_)))))))
 have hX34 := hX25.step hp32 hl33
 have ho35 := hw26.below hl33
 have hlo36 : w.heap.size ≤ k28 := by have := hX25.size; omega
 refine qe (s_then ?_)
 refine s_blk (s_loop (fun (k : Nat) (en : Nat → Value) (W : World) => ∃ (env1 : Nat → Value) (c : Nat) (ov2 : Value) (os2 : List (List ByteArray)) (GL2 : Pin), en = (upd (upd (upd (upd (upd (upd (upd (upd env1 1 (.bool false)) 2 (.pointer (some ⟨b1, 0, none⟩))) 4 (.slice none 0 0)) 5 ov2) 6 (.int .i64 (r : Int))) 11 (.int .i64 (rows.length : Int))) 12 (.int .i64 (r : Int))) 20 (.pointer (some ⟨k28, 0, none⟩))) ∧ k = (rows.getD r ByteArray.empty).size - c ∧ Ext noS G w GL2 W ∧ Pin.le GL1 GL2 ∧ (c ≤ (rows.getD r ByteArray.empty).size) ∧ (os2 = os ++ dmRow rows false (fun r c => placedM rows r c false) r c) ∧ (os2.length ≤ 8 * r + c) ∧ (Own (eSl eStr) 56 GL2 W w.heap.size ov2 (os2)) ∧ (It W k28 (rows.getD r ByteArray.empty) c)) _ ⟨_, 0, ov, os, GL1, (packS (x := 20) (packS (x := 12) (packS (x := 11) (packS (x := 6) (packS (x := 5) (packS (x := 4) (packS (x := 2) (pack1 (x := 1) rfl) rfl) rfl) rfl) rfl) rfl) rfl) rfl), rfl, hX34, Pin.le_refl _, Nat.zero_le _, (by simp [dmRow]), (by omega), ho35, hit31⟩ ?_)
 rintro k37 _ w38 ⟨env1, c, ov2, os2, GL2, rfl, hk39, hX40, hlek37, hc, hos2, hol2, hw41, hit42⟩
 refine s_seq (c_reg ?_)
 by_cases h43 : c < (rows.getD r ByteArray.empty).size
 refine q1 rfl rfl rfl (o_nextY rfl hit42 hX40.pins h43 (by have := g.ch r (by omega) c (by have := geq r (by omega); show c < (rows.getD 0 ByteArray.empty).size; omega); unfold rwS at this; omega) (fun w44 hit45 hp46 hg47 hz48 => ?_))
 have hX49 := hX40.write hp46 hg47 ((lo_box hlo36))
 have ho50 := hw41.keptA hg47 (hit42.ap_own hw41)
 refine qd rfl rfl rfl (r_extract (v := (.bool true)) rfl rfl) (qe (s_then (s_seq ?_)))
 refine c_ifT rfl rfl (wp_skip (s_then (s_blk (s_seq (c_reg ?_)))))
 refine qd rfl rfl rfl (r_extract (v := (.int .i64 (c : Int))) rfl rfl) (qd rfl rfl rfl (r_assign (v := (.int .i64 (c : Int))) rfl) (qe (s_then (s_seq (c_reg ?_)))))
 refine qd rfl rfl rfl (r_ldpA (cs := [v]) ag56 sz56 rfl (fun j u hj => (Pins.of_le hX49.pins (Pin.le_trans hlek22 hlek37)) _ _ _ (hbp12 _ _ (by simpa using hj)))) (qd rfl rfl rfl (r_move (v := (.int .i64 (r : Int))) rfl) (qd rfl rfl rfl (r_move (v := (.int .i64 (c : Int))) rfl) (q1 rfl rfl rfl (o_call (vs := [(.agg [v].toArray), (.int .i64 (r : Int)), (.int .i64 (c : Int))]) Tryz.func79 nm79 rfl rfl rfl ?_))))
 refine Calls.mono (free_spec (r := (r : Int)) (c := (c : Int)) hX49.pins (hv.mono (Pin.le_trans (Pin.le_trans hle10 hlek22) hlek37)) g) ?_
 rintro _ w52 ⟨G51, rfl, hx53⟩
 refine ⟨_, rfl, ?_⟩
 have hX54 := hX49.tr hx53
 have ho55 := ho50.ext hx53
 have hit56 := hit45.ext hx53
 refine qd rfl rfl rfl (r_move (v := (.bool (frI rows (r : Int) (c : Int)))) rfl) (qb (t := 28) rfl (fun h57 => ?_) (fun h57 => ?_))
 refine qdg rfl rfl rfl rfl rfl rfl (r_move (v := (.bool false)) rfl) (qdg rfl rfl rfl rfl rfl rfl (r_move (v := (.bool false)) rfl) (qs rfl rfl rfl rfl rfl rfl (qs rfl rfl rfl rfl rfl rfl (qs rfl rfl rfl rfl rfl rfl (qs rfl rfl rfl rfl rfl rfl (qs rfl rfl rfl rfl rfl rfl (qdg rfl rfl rfl rfl rfl rfl (r_pickF (v := (.bool false)) rfl rfl) (qdg rfl rfl rfl rfl rfl rfl (r_move (v := (.bool false)) rfl) (qdg rfl rfl rfl rfl rfl rfl (r_move (v := (.bool false)) rfl) (qdg rfl rfl rfl rfl rfl rfl (r_not rfl) (qdg rfl rfl rfl rfl rfl rfl (r_move (v := (.bool true)) rfl) (qdg rfl rfl rfl rfl rfl rfl (r_ldpA (cs := [v]) ag56 sz56 rfl (fun j u hj => (Pins.of_le hX54.pins (Pin.le_trans (Pin.le_trans hlek22 hlek37) hx53.le)) _ _ _ (hbp12 _ _ (by simpa using hj)))) (qdg rfl rfl rfl rfl rfl rfl (r_move (v := (.int .i64 (r : Int))) rfl) (qdg rfl rfl rfl rfl rfl rfl (r_move (v := (.int .i64 (c : Int))) rfl) (qdg rfl rfl rfl rfl rfl rfl (r_add rfl rfl (by omega)) (q1g rfl rfl rfl rfl rfl rfl (o_call (vs := [(.agg [v].toArray), (.int .i64 (r : Int)), (.int .i64 ((c : Int) + 1))]) Tryz.func79 nm79 rfl rfl rfl ?_)))))))))))))))))
 refine Calls.mono (free_spec (r := (r : Int)) (c := ((c : Int) + 1)) hX54.pins (hv.mono (Pin.le_trans (Pin.le_trans (Pin.le_trans hle10 hlek22) hlek37) hx53.le)) g) ?_
 rintro _ w59 ⟨G58, rfl, hx60⟩
 refine ⟨_, rfl, ?_⟩
 have hX61 := hX54.tr hx60
 have ho62 := ho55.ext hx60
 have hit63 := hit56.ext hx60
 refine qdg rfl rfl rfl rfl rfl rfl (r_pickT (v := (.bool (frI rows (r : Int) ((c : Int) + 1)))) rfl rfl) (qdg rfl rfl rfl rfl rfl rfl (r_pickF (v := (.bool (frI rows (r : Int) ((c : Int) + 1)))) rfl rfl) (qd rfl rfl rfl (r_pickT (v := (.bool (frI rows (r : Int) ((c : Int) + 1)))) rfl rfl) (qe (s_then ?_))))
 refine c_if rfl rfl (fun h64 => ?_) (fun h64 => ?_)
 refine c_reg (qd rfl rfl rfl (r_move (v := ov2) rfl) (qd rfl rfl rfl (r_ldpA (cs := [v]) ag56 sz56 rfl (fun j u hj => (Pins.of_le hX61.pins (Pin.le_trans (Pin.le_trans (Pin.le_trans hlek22 hlek37) hx53.le) hx60.le)) _ _ _ (hbp12 _ _ (by simpa using hj)))) (qd rfl rfl rfl (r_move (v := (.int .i64 (r : Int))) rfl) (qd rfl rfl rfl (r_move (v := (.int .i64 (c : Int))) rfl) (qd rfl rfl rfl (r_move (v := (.bool false)) rfl) (q1 rfl rfl rfl (o_call (vs := [(.agg [v].toArray), (.int .i64 (r : Int)), (.int .i64 (c : Int)), (.bool false)]) Tryz.func83 nm83 rfl rfl rfl ?_)))))))
 refine Calls.mono (placed_false (r := r) (c := c) hX61.pins (hv.mono (Pin.le_trans (Pin.le_trans (Pin.le_trans (Pin.le_trans hle10 hlek22) hlek37) hx53.le) hx60.le)) g (dm_in g (dm_f h57 h64))) ?_
 rintro _ w67 ⟨u65, G66, rfl, hr68, hx69⟩
 refine ⟨_, rfl, ?_⟩
 have hX70 := hX61.tr hx69
 have ho71 := ho62.ext hx69
 have hit72 := hit63.ext hx69
 refine q1 rfl rfl rfl (o_build1 (E := (eSl eStr)) (e := 56) [u65] (placedM rows r c false) Tryz.underlying66 sz56 zr56 ⟨_, rfl, hr68⟩ rfl (by decide) hX70.pins (fun u73 w74 ho75 hp76 hl77 hk78 => ?_))
 have hX79 := hX70.step hp76 hl77
 have ho80 := ho71.below hl77
 have hit81 := hit72.below hl77
 have ho83 : Own (eSl eStr) 56 G66 w74 w.heap.size u73 ([placedM rows r c false]) := ho75.weaken hX70.size
 refine q1 rfl rfl rfl (o_append (E := (eSl eStr)) (v := ov2) (u := u73) 24 Tryz.underlying66 ap56 (by decide) rfl rfl hX79.pins ho80 ho83.src (by first | omega | (rw [List.nil_append]; omega) | (rw [List.length_nil]; omega) | (rw [List.length_append]; omega) | (simp; done) | (simp; omega) | (simp only [List.length_append, List.length_cons, List.length_nil]; omega)) (by first | omega | (rw [List.nil_append]; omega) | (rw [List.length_nil]; omega) | (rw [List.length_append]; omega) | (simp; done) | (simp; omega) | (simp only [List.length_append, List.length_cons, List.length_nil]; omega)) (hX79.size) (fun u84 w85 ho86 hp87 hg88 hw89 => ?_))
 have hit90 := hit81.kept hg88 (hit81.ne_own ho80)
 have hX91 := hX79.write hp87 hg88 ((lo_own ho80))
 have hm94 : (os2 ++ ([placedM rows r c false])).length = os2.length + 1 := List.length_append
 refine qd rfl rfl rfl (r_assign (v := u84) rfl) (qe (s_blkN (s_lopN (⟨_, ?_, _, rfl, _, c + 1, u84, os2 ++ ([placedM rows r c false]), G66, (packS (x := 20) (packS (x := 12) (packS (x := 11) (packS (x := 6) (packS (x := 5) (packS (x := 4) (packS (x := 2) (pack1 (x := 1) rfl) rfl) rfl) rfl) rfl) rfl) rfl) rfl), rfl, hX91, (Pin.le_trans (Pin.le_trans (Pin.le_trans hlek37 hx53.le) hx60.le) hx69.le), (by omega), (by rw [dmRow_yes (dm_f h57 h64), hos2, List.append_assoc]), (by simp; omega), ho86, hit90⟩))))
 omega
 refine wp_skip (s_blkN (s_lopN (⟨_, ?_, _, rfl, _, c + 1, ov2, os2, G58, (packS (x := 20) (packS (x := 12) (packS (x := 11) (packS (x := 6) (packS (x := 5) (packS (x := 4) (packS (x := 2) (pack1 (x := 1) rfl) rfl) rfl) rfl) rfl) rfl) rfl) rfl), rfl, hX61, (Pin.le_trans (Pin.le_trans hlek37 hx53.le) hx60.le), (by omega), (by rw [dmRow_no (dm_f h57 h64), hos2]), (by omega), ho62, hit63⟩)))
 omega
 refine qs rfl rfl rfl rfl rfl rfl (qs rfl rfl rfl rfl rfl rfl (qsu rfl rfl rfl rfl rfl (qsu rfl rfl rfl rfl rfl (qsu rfl rfl rfl rfl rfl (qsu rfl rfl rfl rfl rfl (qsu rfl rfl rfl rfl rfl (qs rfl rfl rfl rfl rfl rfl (qs rfl rfl rfl rfl rfl rfl (qsu rfl rfl rfl rfl rfl (qsu rfl rfl rfl rfl rfl (qsu rfl rfl rfl rfl rfl (qsu rfl rfl rfl rfl rfl (qsu rfl rfl rfl rfl rfl (qsu rfl rfl rfl rfl rfl (qsu rfl rfl rfl rfl rfl (qsu rfl rfl rfl rfl rfl (qsu rfl rfl rfl rfl rfl (qs rfl rfl rfl rfl rfl rfl (qd rfl rfl rfl (r_pickF (v := (.bool false)) rfl rfl) (qe (s_then ?_)))))))))))))))))))))
 refine c_ifF rfl rfl (wp_skip (s_blkN (s_lopN (⟨_, ?_, _, rfl, _, c + 1, ov2, os2, G51, (packS (x := 20) (packS (x := 12) (packS (x := 11) (packS (x := 6) (packS (x := 5) (packS (x := 4) (packS (x := 2) (pack1 (x := 1) rfl) rfl) rfl) rfl) rfl) rfl) rfl) rfl), rfl, hX54, (Pin.le_trans hlek37 hx53.le), (by omega), (by rw [dmRow_no (dm_0 h57), hos2]), (by omega), ho55, hit56⟩))))
 omega
 refine q1 rfl rfl rfl (o_nextN rfl hit42 h43 ?_)
 refine qd rfl rfl rfl (r_extract (v := (.bool false)) rfl rfl) (qe (s_then (s_seq ?_)))
 refine c_ifF rfl rfl (wp_exit (s_thenE (s_lopE (s_blkE (s_blkN (s_then (c_reg ?_)))))))
 refine qd rfl rfl rfl (r_add rfl rfl (by omega)) (qd rfl rfl rfl (r_move (v := (.int .i64 ((r : Int) + 1))) rfl) (qe (s_lopN (⟨_, ?_, _, rfl, _, r + 1, ov2, os2, GL2, (packS (x := 12) (packS (x := 11) (packS (x := 5) (packS (x := 4) (packS (x := 2) (pack1 (x := 1) rfl) rfl) rfl) rfl) rfl) rfl), rfl, hX40, (Pin.le_trans hlek22 hlek37), (by omega), (by rw [hos2, hos, dmAll_succ, show c = wdS rows by show c = (rows.getD 0 ByteArray.empty).size; omega]), (by omega), hw41⟩))))
 omega
 refine wp_exit (s_thenE (s_lopE (s_blkE (s_then (s_seq (c_reg ?_))))))
 refine qd rfl rfl rfl (r_move (v := ov) rfl) (qd rfl rfl rfl (r_assign (v := ov) rfl) (qe (s_then ?_)))
 refine wp_ret (s_ret (c_ret1 (v := ov) rfl rfl rfl ?_))
 obtain ⟨G95, hle98, hX97, hr96, hf99⟩ := hw26.sealed hX25
 have hrn : r = rows.length := by omega
 subst hrn
 exact ⟨_, _, rfl, (by rw [← placed_moves g, ← hos]; exact hr96), hX97⟩

theorem moves_spec {w : World} {G : Pin} {v : Value} {rows : List ByteArray} (hP : Pins G w) (hv : RSl eStr G v rows) {left : Bool} (g : GbP rows) :
  Calls Tryz.prog 52 [(.agg [v].toArray), (.bool left)].toArray w fun e w' => ∃ (u : Value) (G' : Pin), e = .returned u ∧ RSl (eSl eStr) G' u (dmM rows left) ∧ Ext noS G w G' w' := by
 cases left with
 | true => exact moves_true hP hv g
 | false => exact moves_false hP hv g

end RM3
end Go.Proofs.YtianphgdbfekdaaGreatDoor

set_option maxRecDepth 20000
set_option maxHeartbeats 2000000
namespace Go.Proofs.YtianphgdbfekdaaGreatDoor
namespace PW4
open Go.RowKit Go.GL Go.Proofs
open PT3 PTB PW1 RM1 RM2 RM3 PW3
end PW4
end Go.Proofs.YtianphgdbfekdaaGreatDoor

set_option maxRecDepth 20000
set_option maxHeartbeats 2000000
namespace Go.Proofs.YtianphgdbfekdaaGreatDoor
namespace PS1
open Go.RowKit Go.GL Go.Proofs

theorem cell_spec {w : World} {G : Pin} {s : ByteArray} {i : Int} (hP : Pins G w) :
  Calls Tryz.prog 112 [(.string s), (.int .i64 i)].toArray w fun e w' => ∃ G', e = .returned (.int .u8 ((cB s i).toNat : Int)) ∧ Ext noS G w G' w' := by
 refine s_enter (n := 16) Tryz.func112 Tryz.ntmps112 rfl rfl ?_
 have hX0 : Ext noS G w G w := Ext.refl hP
 refine s_seq (c_reg ?_)
 refine qd rfl rfl rfl (r_assign (v := (.int .u8 0)) rfl) (qe (s_then (s_seq (s_seq (c_reg ?_)))))
 refine qd rfl rfl rfl (r_move (v := (.int .i64 i)) rfl) (qd rfl rfl rfl (r_lss rfl rfl) (qd rfl rfl rfl (r_move (v := (.bool (decide ((i : Int) < 0)))) rfl) (qbd (p := (i : Int) < 0) (t := 7) rfl (fun h1 => ?_) (fun h1 => ?_))))
 refine qs rfl rfl rfl rfl rfl rfl (qs rfl rfl rfl rfl rfl rfl (qs rfl rfl rfl rfl rfl rfl (qs rfl rfl rfl rfl rfl rfl (qd rfl rfl rfl (r_pickT (v := (.bool true)) rfl rfl) (qe (s_then ?_))))))
 refine c_ifT rfl rfl (s_seq (c_reg ?_))
 refine qd rfl rfl rfl (r_assign (v := (.int .u8 0)) rfl) (qe (s_then ?_))
 exact wp_ret (s_ret (c_ret1 (v := (.int .u8 0)) rfl rfl rfl (⟨_, congrArg (fun z => Ending.returned (Value.int .u8 z)) (show (0 : Int) = ((cB s i).toNat : Int) by rw [cB_out (by omega)]; rfl), hX0⟩)))
 refine qdg rfl rfl rfl rfl rfl rfl (r_move (v := (.int .i64 i)) rfl) (qdg rfl rfl rfl rfl rfl rfl (r_move (v := (.string s)) rfl) (qdg rfl rfl rfl rfl rfl rfl (r_lenS Tryz.underlying9 rfl) (qdg rfl rfl rfl rfl rfl rfl (r_geq rfl rfl) (qd rfl rfl rfl (r_pickF (v := (.bool (decide (((s.size : Int) : Int) ≤ i)))) rfl rfl) (qe (s_then ?_))))))
 refine c_ifd (p := ((s.size : Int) : Int) ≤ i) rfl rfl (fun h2 => ?_) (fun h2 => ?_)
 refine s_seq (c_reg ?_)
 refine qd rfl rfl rfl (r_assign (v := (.int .u8 0)) rfl) (qe (s_then ?_))
 exact wp_ret (s_ret (c_ret1 (v := (.int .u8 0)) rfl rfl rfl (⟨_, congrArg (fun z => Ending.returned (Value.int .u8 z)) (show (0 : Int) = ((cB s i).toNat : Int) by rw [cB_out (by omega)]; rfl), hX0⟩)))
 refine wp_skip (s_then (s_seq (c_reg ?_)))
 refine qd rfl rfl rfl (r_move (v := (.string s)) rfl) (qd rfl rfl rfl (r_move (v := (.int .i64 i)) rfl) (qd rfl rfl rfl (r_idxB Tryz.underlying9 rfl rfl (by omega) (by omega)) (qd rfl rfl rfl (r_assign (v := (.int .u8 ((sB s (i).toNat).toNat : Int))) rfl) (qe (s_then ?_)))))
 exact wp_ret (s_ret (c_ret1 (v := (.int .u8 ((sB s (i).toNat).toNat : Int))) rfl rfl rfl (⟨_, congrArg (fun z => Ending.returned (Value.int .u8 z)) (show ((sB s i.toNat).toNat : Int) = ((cB s i).toNat : Int) by rw [cB_in (by omega)]), hX0⟩)))

theorem set_spec {w : World} {G : Pin} {s : ByteArray} {i k : Int} {a b : UInt8} (hP : Pins G w) (hs : s.size ≤ 1000) (hi : 0 ≤ i ∧ i < (s.size : Int)) (hk : 0 ≤ k ∧ k < (s.size : Int)) :
  Calls Tryz.prog 113 [(.string s), (.int .i64 i), (.int .u8 (a.toNat : Int)), (.int .i64 k), (.int .u8 (b.toNat : Int))].toArray w fun e w' => ∃ G', e = .returned (.string (st2 s i.toNat a k.toNat b)) ∧ Ext noS G w G' w' := by
 refine s_enter (n := 24) Tryz.func113 Tryz.ntmps113 rfl rfl ?_
 have hX0 : Ext noS G w G w := Ext.refl hP
 have hbz := ba_size s
 refine s_seq (c_reg ?_)
 refine qd rfl rfl rfl (r_assign (v := (.string (⟨#[]⟩ : ByteArray))) rfl) (qe (s_then (s_seq (c_reg ?_))))
 refine qd rfl rfl rfl (r_move (v := (.string s)) rfl) (q1 rfl rfl rfl (o_s2b (e := 5) Tryz.underlying9 Tryz.underlying47 Tryz.underlying5 rfl hX0.pins (by omega) (fun u1 w2 ho3 hp4 hl5 hk6 => ?_)))
 have hX7 := hX0.step hp4 hl5
 have ho8 : OwnM 5 G w2 w.heap.size u1 s.data.toList := ho3.weaken hX0.size
 have hm9 : s.data.toList.length = s.size := rfl
 refine qd rfl rfl rfl (r_assign (v := u1) rfl) (qe (s_then (s_seq (c_reg ?_))))
 refine qd rfl rfl rfl (r_move (v := u1) rfl) (qd rfl rfl rfl (r_move (v := (.int .i64 i)) rfl) (qd rfl rfl rfl (r_move (v := (.int .u8 (a.toNat : Int))) rfl) (qd rfl rfl rfl (run_idx Tryz.underlying47 sz5 (v := u1) rfl rfl ho8.read (by omega) (by omega)) (q0 rfl rfl rfl (o_setM (v := u1) (z := i) (a) sz5 rfl (by exact rfl) hX7.pins ho8 (by omega) (by omega) (fun w10 ho11 hp12 hg13 hz14 => ?_))))))
 have hX15 := hX7.write hp12 hg13 ((lo_ownM ho8))
 have ho16 : OwnM 5 G w10 w.heap.size u1 ((s.data.toList).set (i).toNat a) := ho11
 have hm17 : ((s.data.toList).set (i).toNat a).length = s.data.toList.length := List.length_set ..
 refine qe (s_then (s_seq (c_reg ?_)))
 refine qd rfl rfl rfl (r_move (v := u1) rfl) (qd rfl rfl rfl (r_move (v := (.int .i64 k)) rfl) (qd rfl rfl rfl (r_move (v := (.int .u8 (b.toNat : Int))) rfl) (qd rfl rfl rfl (run_idx Tryz.underlying47 sz5 (v := u1) rfl rfl ho16.read (by omega) (by omega)) (q0 rfl rfl rfl (o_setM (v := u1) (z := k) (b) sz5 rfl (by exact rfl) hX15.pins ho16 (by omega) (by omega) (fun w18 ho19 hp20 hg21 hz22 => ?_))))))
 have hX23 := hX15.write hp20 hg21 ((lo_ownM ho16))
 have ho24 : OwnM 5 G w18 w.heap.size u1 (((s.data.toList).set (i).toNat a).set (k).toNat b) := ho19
 have hm25 : (((s.data.toList).set (i).toNat a).set (k).toNat b).length = ((s.data.toList).set (i).toNat a).length := List.length_set ..
 refine qe (s_then (s_seq (c_reg ?_)))
 refine qd rfl rfl rfl (r_move (v := u1) rfl) (qd rfl rfl rfl (r_b2s Tryz.underlying47 Tryz.underlying5 Tryz.underlying9 rfl ho24.read (Gadd.pins hX23.pins u1)) (qd rfl rfl rfl (r_assign (v := (.string (b2s (((s.data.toList).set (i).toNat a).set (k).toNat b)))) rfl) (qe (s_then ?_))))
 exact wp_ret (s_ret (c_ret1 (v := (.string (b2s (((s.data.toList).set (i).toNat a).set (k).toNat b)))) rfl rfl rfl (⟨_, rfl, hX23⟩)))

theorem sides_spec {w : World} {G : Pin} {left : Bool} (hP : Pins G w) :
  Calls Tryz.prog 90 [(.bool left)].toArray w fun e w' => ∃ G', e = .returned (.tuple #[.int .u8 ((mineS left).toNat : Int), .int .u8 ((mineS (!left)).toNat : Int)]) ∧ Ext noS G w G' w' := by
 refine s_enter (n := 5) Tryz.func90 Tryz.ntmps90 rfl rfl ?_
 have hX0 : Ext noS G w G w := Ext.refl hP
 refine s_seq (c_reg ?_)
 refine qd rfl rfl rfl (r_assign (v := (.int .u8 0)) rfl) (qd rfl rfl rfl (r_assign (v := (.int .u8 0)) rfl) (qe (s_then (s_seq (s_seq (c_reg ?_))))))
 refine qd rfl rfl rfl (r_move (v := (.bool left)) rfl) (qe (s_then ?_))
 refine c_if rfl rfl (fun h1 => ?_) (fun h1 => ?_)
 refine s_seq (c_reg ?_)
 refine qd rfl rfl rfl (r_assign (v := (.int .u8 76)) rfl) (qd rfl rfl rfl (r_assign (v := (.int .u8 82)) rfl) (qe (s_then ?_)))
 exact wp_ret (s_ret (c_ret2 (v := (.int .u8 76)) (u := (.int .u8 82)) rfl rfl rfl rfl rfl (⟨_, (by first | (subst_vars; rfl) | simp_all [mineS]), hX0⟩)))
 refine wp_skip (s_then (s_seq (c_reg ?_)))
 refine qd rfl rfl rfl (r_assign (v := (.int .u8 82)) rfl) (qd rfl rfl rfl (r_assign (v := (.int .u8 76)) rfl) (qe (s_then ?_)))
 exact wp_ret (s_ret (c_ret2 (v := (.int .u8 82)) (u := (.int .u8 76)) rfl rfl rfl rfl rfl (⟨_, (by first | (subst_vars; rfl) | simp_all [mineS]), hX0⟩)))

end PS1
end Go.Proofs.YtianphgdbfekdaaGreatDoor

set_option maxRecDepth 20000
set_option maxHeartbeats 2000000
namespace Go.Proofs.YtianphgdbfekdaaGreatDoor
namespace PS2
open Go.RowKit Go.GL Go.Proofs
open PS1





theorem toad_true {w : World} {G : Pin} {s : ByteArray} (hP : Pins G w) (hs : s.size ≤ 1000) :
  Calls Tryz.prog 91 [(.string s), (.bool true)].toArray w fun e w' => ∃ (u : Value) (G' : Pin), e = .returned u ∧ RSl eStr G' u (runM (toadAt s true) s.size) ∧ Ext noS G w G' w' := by
 refine s_enter (n := 69) Tryz.func91 Tryz.ntmps91 rfl rfl ?_
 have hX0 : Ext noS G w G w := Ext.refl hP
 refine s_seq (c_reg ?_)
 refine qd rfl rfl rfl (r_assign (v := (.slice none 0 0)) rfl) (qe (s_then (s_seq (c_reg ?_))))
 refine qd rfl rfl rfl (r_assign (v := (.int .u8 70)) rfl) (qd rfl rfl rfl (r_assign (v := (.int .u8 84)) rfl) (qd rfl rfl rfl (r_assign (v := (.int .i64 (-1))) rfl) (qe (s_then (s_seq (s_seq (c_reg ?_)))))))
 refine qd rfl rfl rfl (r_move (v := (.bool true)) rfl) (qe (s_then ?_))
 refine c_ifT rfl rfl (c_reg (qd rfl rfl rfl (r_assign (v := (.int .u8 84)) rfl) (qd rfl rfl rfl (r_assign (v := (.int .u8 70)) rfl) (qd rfl rfl rfl (r_assign (v := (.int .i64 1)) rfl) (qe (s_then (s_seq (c_reg ?_))))))))
 refine q1 rfl rfl rfl (o_build0 (E := eStr) (e := 9) Tryz.underlying22 sz9 hX0.pins (fun u1 w2 ho3 hp4 hl5 hk6 => ?_))
 have hX7 := hX0.step hp4 hl5
 have ho8 : Own eStr 9 G w2 w.heap.size u1 ([]) := ho3.weaken hX0.size
 refine qd rfl rfl rfl (r_assign (v := u1) rfl) (qe (s_then (s_seq (s_seq (c_reg ?_)))))
 refine qd rfl rfl rfl (r_move (v := (.string s)) rfl) (qd rfl rfl rfl (r_lenS Tryz.underlying9 rfl) (qd rfl rfl rfl (r_move (v := (.int .i64 0)) rfl) (qe (s_then ?_))))
 refine s_blk (s_loop (fun (k : Nat) (en : Nat → Value) (W : World) => ∃ (env1 : Nat → Value) (i9 : Nat) (ov : Value) (os : List ByteArray) (GL1 : Pin), en = (upd (upd (upd (upd (upd (upd (upd (upd env1 0 (.string s)) 4 (.slice none 0 0)) 5 (.int .u8 84)) 6 (.int .u8 70)) 7 (.int .i64 1)) 8 ov) 13 (.int .i64 (s.size : Int))) 14 (.int .i64 (i9 : Int))) ∧ k = s.size - i9 ∧ Ext noS G w GL1 W ∧ Pin.le G GL1 ∧ (i9 ≤ s.size) ∧ (os = runM (toadAt s true) i9) ∧ (os.length ≤ 1 * i9) ∧ (Own eStr 9 GL1 W w.heap.size ov (os))) _ ⟨_, 0, u1, [], G, (packS (x := 14) (packS (x := 13) (packS (x := 8) (packS (x := 7) (packS (x := 6) (packS (x := 5) (packS (x := 4) (pack1 (x := 0) rfl) rfl) rfl) rfl) rfl) rfl) rfl) rfl), rfl, hX7, Pin.le_refl _, Nat.zero_le _, rfl, (by simp), ho8⟩ ?_)
 rintro k9 _ w10 ⟨env1, i9, ov, os, GL1, rfl, hk11, hX12, hlek9, hi, hos, hol, hw13⟩
 refine s_seq (c_reg ?_)
 refine qd rfl rfl rfl (r_lss rfl rfl) (qe (s_then (s_seq ?_)))
 refine c_ifd (p := ((i9 : Int) : Int) < (s.size : Int)) rfl rfl (fun h14 => ?_) (fun h14 => ?_)
 refine wp_skip (s_then (s_seq ?_))
 refine s_blk (s_seq (c_reg ?_))
 refine qd rfl rfl rfl (r_move (v := (.int .i64 (i9 : Int))) rfl) (qd rfl rfl rfl (r_assign (v := (.int .i64 (i9 : Int))) rfl) (qe (s_then (s_seq (s_seq (c_reg ?_))))))
 refine qd rfl rfl rfl (r_move (v := (.string s)) rfl) (qd rfl rfl rfl (r_move (v := (.int .i64 (i9 : Int))) rfl) (qd rfl rfl rfl (r_idxB Tryz.underlying9 rfl rfl (by omega) (by omega)) (qd rfl rfl rfl (r_move (v := (.int .u8 84)) rfl) (qd rfl rfl rfl (r_neq rfl rfl) (qe (s_then ?_))))))
 refine c_ifd (p := (((sB s i9).toNat : Int) : Int) ≠ 84) rfl rfl (fun h15 => ?_) (fun h15 => ?_)
 refine wp_exit (s_thenE (s_blkE (s_then (c_reg ?_))))
 refine qd rfl rfl rfl (r_add rfl rfl (by omega)) (qd rfl rfl rfl (r_move (v := (.int .i64 ((i9 : Int) + 1))) rfl) (qe (s_lopN (⟨_, ?_, _, rfl, _, i9 + 1, ov, os, GL1, (packS (x := 14) (packS (x := 13) (packS (x := 8) (packS (x := 7) (packS (x := 6) (packS (x := 5) (packS (x := 4) (pack1 (x := 0) rfl) rfl) rfl) rfl) rfl) rfl) rfl) rfl), rfl, hX12, hlek9, (by omega), (run_nil hos (toad_n (left := true) h15)), (by omega), hw13⟩))))
 omega
 refine wp_skip (s_then (s_blk (s_seq (c_reg ?_))))
 refine qd rfl rfl rfl (r_move (v := (.string s)) rfl) (qd rfl rfl rfl (r_move (v := (.int .i64 (i9 : Int))) rfl) (qd rfl rfl rfl (r_move (v := (.int .i64 1)) rfl) (qd rfl rfl rfl (r_add rfl rfl (by omega)) (q1 rfl rfl rfl (o_call (vs := [(.string s), (.int .i64 ((i9 : Int) + 1))]) Tryz.func112 nm112 rfl rfl rfl ?_)))))
 refine Calls.mono (cell_spec (s := s) (i := ((i9 : Int) + 1)) hX12.pins) ?_
 rintro _ w17 ⟨G16, rfl, hx18⟩
 refine ⟨_, rfl, ?_⟩
 have hX19 := hX12.tr hx18
 have ho20 := hw13.ext hx18
 refine qd rfl rfl rfl (r_eql rfl rfl) (qd rfl rfl rfl (r_assign (v := (.bool (decide ((((cB s ((i9 : Int) + 1)).toNat : Int) : Int) = 46)))) rfl) (qe (s_then ?_)))
 refine c_ifd (p := (((cB s ((i9 : Int) + 1)).toNat : Int) : Int) = 46) rfl rfl (fun h21 => ?_) (fun h21 => ?_)
 refine c_reg ?_
 have hat := cB_at (by rw [h21]; decide)
 refine qd rfl rfl rfl (r_move (v := ov) rfl) (qd rfl rfl rfl (r_move (v := (.string s)) rfl) (qd rfl rfl rfl (r_move (v := (.int .i64 (i9 : Int))) rfl) (qd rfl rfl rfl (r_move (v := (.int .i64 (i9 : Int))) rfl) (qd rfl rfl rfl (r_move (v := (.int .i64 1)) rfl) (qd rfl rfl rfl (r_add rfl rfl (by omega)) (qd rfl rfl rfl (r_move (v := (.int .u8 84)) rfl) (q1 rfl rfl rfl (o_call (vs := [(.string s), (.int .i64 (i9 : Int)), (.int .u8 46), (.int .i64 ((i9 : Int) + 1)), (.int .u8 84)]) Tryz.func113 nm113 rfl rfl rfl ?_))))))))
 refine Calls.mono (set_spec (s := s) (i := (i9 : Int)) (a := (46 : UInt8)) (k := ((i9 : Int) + 1)) (b := (84 : UInt8)) hX19.pins (by omega) (by omega) (by omega)) ?_
 rintro _ w23 ⟨G22, rfl, hx24⟩
 refine ⟨_, rfl, ?_⟩
 have hX25 := hX19.tr hx24
 have ho26 := ho20.ext hx24
 refine q1 rfl rfl rfl (o_buildF (E := eStr) (e := 9) [(.string (st2 s i9 (46 : UInt8) ((i9 : Int) + 1).toNat (84 : UInt8)))] [st2 s i9 (46 : UInt8) ((i9 : Int) + 1).toNat (84 : UInt8)] Tryz.underlying22 sz9 zr9 (by exact reps1 (by rfl)) (ones1 (by rfl)) rfl rfl rfl rfl (by decide) hX25.pins (fun u27 w28 ho29 hp30 hl31 hk32 => ?_))
 have hX33 := hX25.step hp30 hl31
 have ho34 := ho26.below hl31
 have ho36 : Own eStr 9 G22 w28 w.heap.size u27 ([st2 s i9 (46 : UInt8) ((i9 : Int) + 1).toNat (84 : UInt8)]) := ho29.weaken hX25.size
 refine q1 rfl rfl rfl (o_append (E := eStr) (v := ov) (u := u27) 16 Tryz.underlying22 ap9 (by decide) rfl rfl hX33.pins ho34 ho36.src (by first | omega | (rw [List.nil_append]; omega) | (rw [List.length_nil]; omega) | (rw [List.length_append]; omega) | (simp; done) | (simp; omega) | (simp only [List.length_cons, List.length_nil]; omega) | (simp only [List.length_append, List.length_cons, List.length_nil]; omega)) (by first | omega | (rw [List.nil_append]; omega) | (rw [List.length_nil]; omega) | (rw [List.length_append]; omega) | (simp; done) | (simp; omega) | (simp only [List.length_cons, List.length_nil]; omega) | (simp only [List.length_append, List.length_cons, List.length_nil]; omega)) (hX33.size) (fun u37 w38 ho39 hp40 hg41 hw42 => ?_))
 have hX43 := hX33.write hp40 hg41 ((lo_own ho34))
 have hm46 : (os ++ ([st2 s i9 (46 : UInt8) ((i9 : Int) + 1).toNat (84 : UInt8)])).length = os.length + 1 := List.length_append
 refine qd rfl rfl rfl (r_assign (v := u37) rfl) (qe (s_blkN (s_blkN (s_then (c_reg ?_)))))
 refine qd rfl rfl rfl (r_add rfl rfl (by omega)) (qd rfl rfl rfl (r_move (v := (.int .i64 ((i9 : Int) + 1))) rfl) (qe (s_lopN (⟨_, ?_, _, rfl, _, i9 + 1, u37, os ++ ([st2 s i9 (46 : UInt8) ((i9 : Int) + 1).toNat (84 : UInt8)]), G22, (packS (x := 14) (packS (x := 13) (packS (x := 8) (packS (x := 7) (packS (x := 6) (packS (x := 5) (packS (x := 4) (pack1 (x := 0) rfl) rfl) rfl) rfl) rfl) rfl) rfl) rfl), rfl, hX43, (Pin.le_trans (Pin.le_trans hlek9 hx18.le) hx24.le), (by omega), (run_app hos (toad_1 (left := true) (Decidable.not_not.1 h15) h21)), (by simp; omega), ho39⟩))))
 omega
 refine s_seq (c_reg ?_)
 refine qd rfl rfl rfl (r_move (v := (.string s)) rfl) (qd rfl rfl rfl (r_move (v := (.int .i64 (i9 : Int))) rfl) (qd rfl rfl rfl (r_move (v := (.int .i64 1)) rfl) (qd rfl rfl rfl (r_add rfl rfl (by omega)) (q1 rfl rfl rfl (o_call (vs := [(.string s), (.int .i64 ((i9 : Int) + 1))]) Tryz.func112 nm112 rfl rfl rfl ?_)))))
 refine Calls.mono (cell_spec (s := s) (i := ((i9 : Int) + 1)) hX19.pins) ?_
 rintro _ w48 ⟨G47, rfl, hx49⟩
 refine ⟨_, rfl, ?_⟩
 have hX50 := hX19.tr hx49
 have ho51 := ho20.ext hx49
 refine qd rfl rfl rfl (r_move (v := (.int .u8 70)) rfl) (qd rfl rfl rfl (r_eql rfl rfl) (qd rfl rfl rfl (r_move (v := (.bool (decide ((((cB s ((i9 : Int) + 1)).toNat : Int) : Int) = 70)))) rfl) (qbd (p := (((cB s ((i9 : Int) + 1)).toNat : Int) : Int) = 70) (t := 47) rfl (fun h52 => ?_) (fun h52 => ?_))))
 refine qdg rfl rfl rfl rfl rfl rfl (r_move (v := (.string s)) rfl) (qdg rfl rfl rfl rfl rfl rfl (r_move (v := (.int .i64 (i9 : Int))) rfl) (qdg rfl rfl rfl rfl rfl rfl (r_move (v := (.int .i64 1)) rfl) (qdg rfl rfl rfl rfl rfl rfl (r_mul rfl rfl (by omega)) (qdg rfl rfl rfl rfl rfl rfl (r_add rfl rfl (by omega)) (q1g rfl rfl rfl rfl rfl rfl (o_call (vs := [(.string s), (.int .i64 ((i9 : Int) + (2 * 1)))]) Tryz.func112 nm112 rfl rfl rfl ?_))))))
 refine Calls.mono (cell_spec (s := s) (i := ((i9 : Int) + (2 * 1))) hX50.pins) ?_
 rintro _ w54 ⟨G53, rfl, hx55⟩
 refine ⟨_, rfl, ?_⟩
 have hX56 := hX50.tr hx55
 have ho57 := ho51.ext hx55
 refine qdg rfl rfl rfl rfl rfl rfl (r_eql rfl rfl) (qd rfl rfl rfl (r_pickT (v := (.bool (decide ((((cB s ((i9 : Int) + (2 * 1))).toNat : Int) : Int) = 46)))) rfl rfl) (qd rfl rfl rfl (r_assign (v := (.bool (decide ((((cB s ((i9 : Int) + (2 * 1))).toNat : Int) : Int) = 46)))) rfl) (qe (s_then ?_))))
 refine c_ifd (p := (((cB s ((i9 : Int) + (2 * 1))).toNat : Int) : Int) = 46) rfl rfl (fun h58 => ?_) (fun h58 => ?_)
 refine c_reg ?_
 have hat := cB_at (by rw [h58]; decide)
 refine qd rfl rfl rfl (r_move (v := ov) rfl) (qd rfl rfl rfl (r_move (v := (.string s)) rfl) (qd rfl rfl rfl (r_move (v := (.int .i64 (i9 : Int))) rfl) (qd rfl rfl rfl (r_move (v := (.int .i64 (i9 : Int))) rfl) (qd rfl rfl rfl (r_move (v := (.int .i64 1)) rfl) (qd rfl rfl rfl (r_mul rfl rfl (by omega)) (qd rfl rfl rfl (r_add rfl rfl (by omega)) (qd rfl rfl rfl (r_move (v := (.int .u8 84)) rfl) (q1 rfl rfl rfl (o_call (vs := [(.string s), (.int .i64 (i9 : Int)), (.int .u8 46), (.int .i64 ((i9 : Int) + (2 * 1))), (.int .u8 84)]) Tryz.func113 nm113 rfl rfl rfl ?_)))))))))
 refine Calls.mono (set_spec (s := s) (i := (i9 : Int)) (a := (46 : UInt8)) (k := ((i9 : Int) + (2 * 1))) (b := (84 : UInt8)) hX56.pins (by omega) (by omega) (by omega)) ?_
 rintro _ w60 ⟨G59, rfl, hx61⟩
 refine ⟨_, rfl, ?_⟩
 have hX62 := hX56.tr hx61
 have ho63 := ho57.ext hx61
 refine q1 rfl rfl rfl (o_buildF (E := eStr) (e := 9) [(.string (st2 s i9 (46 : UInt8) ((i9 : Int) + (2 * 1)).toNat (84 : UInt8)))] [st2 s i9 (46 : UInt8) ((i9 : Int) + (2 * 1)).toNat (84 : UInt8)] Tryz.underlying22 sz9 zr9 (by exact reps1 (by rfl)) (ones1 (by rfl)) rfl rfl rfl rfl (by decide) hX62.pins (fun u64 w65 ho66 hp67 hl68 hk69 => ?_))
 have hX70 := hX62.step hp67 hl68
 have ho71 := ho63.below hl68
 have ho73 : Own eStr 9 G59 w65 w.heap.size u64 ([st2 s i9 (46 : UInt8) ((i9 : Int) + (2 * 1)).toNat (84 : UInt8)]) := ho66.weaken hX62.size
 refine q1 rfl rfl rfl (o_append (E := eStr) (v := ov) (u := u64) 16 Tryz.underlying22 ap9 (by decide) rfl rfl hX70.pins ho71 ho73.src (by first | omega | (rw [List.nil_append]; omega) | (rw [List.length_nil]; omega) | (rw [List.length_append]; omega) | (simp; done) | (simp; omega) | (simp only [List.length_cons, List.length_nil]; omega) | (simp only [List.length_append, List.length_cons, List.length_nil]; omega)) (by first | omega | (rw [List.nil_append]; omega) | (rw [List.length_nil]; omega) | (rw [List.length_append]; omega) | (simp; done) | (simp; omega) | (simp only [List.length_cons, List.length_nil]; omega) | (simp only [List.length_append, List.length_cons, List.length_nil]; omega)) (hX70.size) (fun u74 w75 ho76 hp77 hg78 hw79 => ?_))
 have hX80 := hX70.write hp77 hg78 ((lo_own ho71))
 have hm83 : (os ++ ([st2 s i9 (46 : UInt8) ((i9 : Int) + (2 * 1)).toNat (84 : UInt8)])).length = os.length + 1 := List.length_append
 refine qd rfl rfl rfl (r_assign (v := u74) rfl) (qe (s_blkN (s_blkN (s_then (c_reg ?_)))))
 refine qd rfl rfl rfl (r_add rfl rfl (by omega)) (qd rfl rfl rfl (r_move (v := (.int .i64 ((i9 : Int) + 1))) rfl) (qe (s_lopN (⟨_, ?_, _, rfl, _, i9 + 1, u74, os ++ ([st2 s i9 (46 : UInt8) ((i9 : Int) + (2 * 1)).toNat (84 : UInt8)]), G59, (packS (x := 14) (packS (x := 13) (packS (x := 8) (packS (x := 7) (packS (x := 6) (packS (x := 5) (packS (x := 4) (pack1 (x := 0) rfl) rfl) rfl) rfl) rfl) rfl) rfl) rfl), rfl, hX80, (Pin.le_trans (Pin.le_trans (Pin.le_trans (Pin.le_trans hlek9 hx18.le) hx49.le) hx55.le) hx61.le), (by omega), (run_app hos (toad_2 (left := true) (Decidable.not_not.1 h15) h21 h52 h58)), (by simp; omega), ho76⟩))))
 omega
 refine wp_skip (s_blkN (s_blkN (s_then (c_reg ?_))))
 refine qd rfl rfl rfl (r_add rfl rfl (by omega)) (qd rfl rfl rfl (r_move (v := (.int .i64 ((i9 : Int) + 1))) rfl) (qe (s_lopN (⟨_, ?_, _, rfl, _, i9 + 1, ov, os, G53, (packS (x := 14) (packS (x := 13) (packS (x := 8) (packS (x := 7) (packS (x := 6) (packS (x := 5) (packS (x := 4) (pack1 (x := 0) rfl) rfl) rfl) rfl) rfl) rfl) rfl) rfl), rfl, hX56, (Pin.le_trans (Pin.le_trans (Pin.le_trans hlek9 hx18.le) hx49.le) hx55.le), (by omega), (run_nil hos (toad_4 (left := true) h21 h58)), (by omega), ho57⟩))))
 omega
 refine qs rfl rfl rfl rfl rfl rfl (qs rfl rfl rfl rfl rfl rfl (qs rfl rfl rfl rfl rfl rfl (qs rfl rfl rfl rfl rfl rfl (qs rfl rfl rfl rfl rfl rfl (qs rfl rfl rfl rfl rfl rfl (qs rfl rfl rfl rfl rfl rfl (qd rfl rfl rfl (r_pickF (v := (.bool false)) rfl rfl) (qd rfl rfl rfl (r_assign (v := (.bool false)) rfl) (qe (s_then ?_))))))))))
 refine c_ifF rfl rfl (wp_skip (s_blkN (s_blkN (s_then (c_reg ?_)))))
 refine qd rfl rfl rfl (r_add rfl rfl (by omega)) (qd rfl rfl rfl (r_move (v := (.int .i64 ((i9 : Int) + 1))) rfl) (qe (s_lopN (⟨_, ?_, _, rfl, _, i9 + 1, ov, os, G47, (packS (x := 14) (packS (x := 13) (packS (x := 8) (packS (x := 7) (packS (x := 6) (packS (x := 5) (packS (x := 4) (pack1 (x := 0) rfl) rfl) rfl) rfl) rfl) rfl) rfl) rfl), rfl, hX50, (Pin.le_trans (Pin.le_trans hlek9 hx18.le) hx49.le), (by omega), (run_nil hos (toad_3 (left := true) (Decidable.not_not.1 h15) h21 h52)), (by omega), ho51⟩))))
 omega
 refine wp_exit (s_thenE (s_lopE (s_blkE (s_then (s_seq (c_reg ?_))))))
 refine qd rfl rfl rfl (r_move (v := ov) rfl) (qd rfl rfl rfl (r_assign (v := ov) rfl) (qe (s_then ?_)))
 refine wp_ret (s_ret (c_ret1 (v := ov) rfl rfl rfl ?_))
 obtain ⟨G84, hle87, hX86, hr85, hf88⟩ := hw13.sealed hX12
 have hin : i9 = s.size := by omega
 subst hin
 exact ⟨_, _, rfl, (hos ▸ hr85), hX86⟩

theorem toad_false {w : World} {G : Pin} {s : ByteArray} (hP : Pins G w) (hs : s.size ≤ 1000) :
  Calls Tryz.prog 91 [(.string s), (.bool false)].toArray w fun e w' => ∃ (u : Value) (G' : Pin), e = .returned u ∧ RSl eStr G' u (runM (toadAt s false) s.size) ∧ Ext noS G w G' w' := by
 refine s_enter (n := 69) Tryz.func91 Tryz.ntmps91 rfl rfl ?_
 have hX0 : Ext noS G w G w := Ext.refl hP
 refine s_seq (c_reg ?_)
 refine qd rfl rfl rfl (r_assign (v := (.slice none 0 0)) rfl) (qe (s_then (s_seq (c_reg ?_))))
 refine qd rfl rfl rfl (r_assign (v := (.int .u8 70)) rfl) (qd rfl rfl rfl (r_assign (v := (.int .u8 84)) rfl) (qd rfl rfl rfl (r_assign (v := (.int .i64 (-1))) rfl) (qe (s_then (s_seq (s_seq (c_reg ?_)))))))
 refine qd rfl rfl rfl (r_move (v := (.bool false)) rfl) (qe (s_then ?_))
 refine c_ifF rfl rfl (wp_skip (s_then (s_seq (c_reg ?_))))
 refine q1 rfl rfl rfl (o_build0 (E := eStr) (e := 9) Tryz.underlying22 sz9 hX0.pins (fun u1 w2 ho3 hp4 hl5 hk6 => ?_))
 have hX7 := hX0.step hp4 hl5
 have ho8 : Own eStr 9 G w2 w.heap.size u1 ([]) := ho3.weaken hX0.size
 refine qd rfl rfl rfl (r_assign (v := u1) rfl) (qe (s_then (s_seq (s_seq (c_reg ?_)))))
 refine qd rfl rfl rfl (r_move (v := (.string s)) rfl) (qd rfl rfl rfl (r_lenS Tryz.underlying9 rfl) (qd rfl rfl rfl (r_move (v := (.int .i64 0)) rfl) (qe (s_then ?_))))
 refine s_blk (s_loop (fun (k : Nat) (en : Nat → Value) (W : World) => ∃ (env1 : Nat → Value) (i9 : Nat) (ov : Value) (os : List ByteArray) (GL1 : Pin), en = (upd (upd (upd (upd (upd (upd (upd (upd env1 0 (.string s)) 4 (.slice none 0 0)) 5 (.int .u8 70)) 6 (.int .u8 84)) 7 (.int .i64 (-1))) 8 ov) 13 (.int .i64 (s.size : Int))) 14 (.int .i64 (i9 : Int))) ∧ k = s.size - i9 ∧ Ext noS G w GL1 W ∧ Pin.le G GL1 ∧ (i9 ≤ s.size) ∧ (os = runM (toadAt s false) i9) ∧ (os.length ≤ 1 * i9) ∧ (Own eStr 9 GL1 W w.heap.size ov (os))) _ ⟨_, 0, u1, [], G, (packS (x := 14) (packS (x := 13) (packS (x := 8) (packS (x := 7) (packS (x := 6) (packS (x := 5) (packS (x := 4) (pack1 (x := 0) rfl) rfl) rfl) rfl) rfl) rfl) rfl) rfl), rfl, hX7, Pin.le_refl _, Nat.zero_le _, rfl, (by simp), ho8⟩ ?_)
 rintro k9 _ w10 ⟨env1, i9, ov, os, GL1, rfl, hk11, hX12, hlek9, hi, hos, hol, hw13⟩
 refine s_seq (c_reg ?_)
 refine qd rfl rfl rfl (r_lss rfl rfl) (qe (s_then (s_seq ?_)))
 refine c_ifd (p := ((i9 : Int) : Int) < (s.size : Int)) rfl rfl (fun h14 => ?_) (fun h14 => ?_)
 refine wp_skip (s_then (s_seq ?_))
 refine s_blk (s_seq (c_reg ?_))
 refine qd rfl rfl rfl (r_move (v := (.int .i64 (i9 : Int))) rfl) (qd rfl rfl rfl (r_assign (v := (.int .i64 (i9 : Int))) rfl) (qe (s_then (s_seq (s_seq (c_reg ?_))))))
 refine qd rfl rfl rfl (r_move (v := (.string s)) rfl) (qd rfl rfl rfl (r_move (v := (.int .i64 (i9 : Int))) rfl) (qd rfl rfl rfl (r_idxB Tryz.underlying9 rfl rfl (by omega) (by omega)) (qd rfl rfl rfl (r_move (v := (.int .u8 70)) rfl) (qd rfl rfl rfl (r_neq rfl rfl) (qe (s_then ?_))))))
 refine c_ifd (p := (((sB s i9).toNat : Int) : Int) ≠ 70) rfl rfl (fun h15 => ?_) (fun h15 => ?_)
 refine wp_exit (s_thenE (s_blkE (s_then (c_reg ?_))))
 refine qd rfl rfl rfl (r_add rfl rfl (by omega)) (qd rfl rfl rfl (r_move (v := (.int .i64 ((i9 : Int) + 1))) rfl) (qe (s_lopN (⟨_, ?_, _, rfl, _, i9 + 1, ov, os, GL1, (packS (x := 14) (packS (x := 13) (packS (x := 8) (packS (x := 7) (packS (x := 6) (packS (x := 5) (packS (x := 4) (pack1 (x := 0) rfl) rfl) rfl) rfl) rfl) rfl) rfl) rfl), rfl, hX12, hlek9, (by omega), (run_nil hos (toad_n (left := false) h15)), (by omega), hw13⟩))))
 omega
 refine wp_skip (s_then (s_blk (s_seq (c_reg ?_))))
 refine qd rfl rfl rfl (r_move (v := (.string s)) rfl) (qd rfl rfl rfl (r_move (v := (.int .i64 (i9 : Int))) rfl) (qd rfl rfl rfl (r_move (v := (.int .i64 (-1))) rfl) (qd rfl rfl rfl (r_add rfl rfl (by omega)) (q1 rfl rfl rfl (o_call (vs := [(.string s), (.int .i64 ((i9 : Int) + (-1)))]) Tryz.func112 nm112 rfl rfl rfl ?_)))))
 refine Calls.mono (cell_spec (s := s) (i := ((i9 : Int) + (-1))) hX12.pins) ?_
 rintro _ w17 ⟨G16, rfl, hx18⟩
 refine ⟨_, rfl, ?_⟩
 have hX19 := hX12.tr hx18
 have ho20 := hw13.ext hx18
 refine qd rfl rfl rfl (r_eql rfl rfl) (qd rfl rfl rfl (r_assign (v := (.bool (decide ((((cB s ((i9 : Int) + (-1))).toNat : Int) : Int) = 46)))) rfl) (qe (s_then ?_)))
 refine c_ifd (p := (((cB s ((i9 : Int) + (-1))).toNat : Int) : Int) = 46) rfl rfl (fun h21 => ?_) (fun h21 => ?_)
 refine c_reg ?_
 have hat := cB_at (by rw [h21]; decide)
 refine qd rfl rfl rfl (r_move (v := ov) rfl) (qd rfl rfl rfl (r_move (v := (.string s)) rfl) (qd rfl rfl rfl (r_move (v := (.int .i64 (i9 : Int))) rfl) (qd rfl rfl rfl (r_move (v := (.int .i64 (i9 : Int))) rfl) (qd rfl rfl rfl (r_move (v := (.int .i64 (-1))) rfl) (qd rfl rfl rfl (r_add rfl rfl (by omega)) (qd rfl rfl rfl (r_move (v := (.int .u8 70)) rfl) (q1 rfl rfl rfl (o_call (vs := [(.string s), (.int .i64 (i9 : Int)), (.int .u8 46), (.int .i64 ((i9 : Int) + (-1))), (.int .u8 70)]) Tryz.func113 nm113 rfl rfl rfl ?_))))))))
 refine Calls.mono (set_spec (s := s) (i := (i9 : Int)) (a := (46 : UInt8)) (k := ((i9 : Int) + (-1))) (b := (70 : UInt8)) hX19.pins (by omega) (by omega) (by omega)) ?_
 rintro _ w23 ⟨G22, rfl, hx24⟩
 refine ⟨_, rfl, ?_⟩
 have hX25 := hX19.tr hx24
 have ho26 := ho20.ext hx24
 refine q1 rfl rfl rfl (o_buildF (E := eStr) (e := 9) [(.string (st2 s i9 (46 : UInt8) ((i9 : Int) + (-1)).toNat (70 : UInt8)))] [st2 s i9 (46 : UInt8) ((i9 : Int) + (-1)).toNat (70 : UInt8)] Tryz.underlying22 sz9 zr9 (by exact reps1 (by rfl)) (ones1 (by rfl)) rfl rfl rfl rfl (by decide) hX25.pins (fun u27 w28 ho29 hp30 hl31 hk32 => ?_))
 have hX33 := hX25.step hp30 hl31
 have ho34 := ho26.below hl31
 have ho36 : Own eStr 9 G22 w28 w.heap.size u27 ([st2 s i9 (46 : UInt8) ((i9 : Int) + (-1)).toNat (70 : UInt8)]) := ho29.weaken hX25.size
 refine q1 rfl rfl rfl (o_append (E := eStr) (v := ov) (u := u27) 16 Tryz.underlying22 ap9 (by decide) rfl rfl hX33.pins ho34 ho36.src (by first | omega | (rw [List.nil_append]; omega) | (rw [List.length_nil]; omega) | (rw [List.length_append]; omega) | (simp; done) | (simp; omega) | (simp only [List.length_cons, List.length_nil]; omega) | (simp only [List.length_append, List.length_cons, List.length_nil]; omega)) (by first | omega | (rw [List.nil_append]; omega) | (rw [List.length_nil]; omega) | (rw [List.length_append]; omega) | (simp; done) | (simp; omega) | (simp only [List.length_cons, List.length_nil]; omega) | (simp only [List.length_append, List.length_cons, List.length_nil]; omega)) (hX33.size) (fun u37 w38 ho39 hp40 hg41 hw42 => ?_))
 have hX43 := hX33.write hp40 hg41 ((lo_own ho34))
 have hm46 : (os ++ ([st2 s i9 (46 : UInt8) ((i9 : Int) + (-1)).toNat (70 : UInt8)])).length = os.length + 1 := List.length_append
 refine qd rfl rfl rfl (r_assign (v := u37) rfl) (qe (s_blkN (s_blkN (s_then (c_reg ?_)))))
 refine qd rfl rfl rfl (r_add rfl rfl (by omega)) (qd rfl rfl rfl (r_move (v := (.int .i64 ((i9 : Int) + 1))) rfl) (qe (s_lopN (⟨_, ?_, _, rfl, _, i9 + 1, u37, os ++ ([st2 s i9 (46 : UInt8) ((i9 : Int) + (-1)).toNat (70 : UInt8)]), G22, (packS (x := 14) (packS (x := 13) (packS (x := 8) (packS (x := 7) (packS (x := 6) (packS (x := 5) (packS (x := 4) (pack1 (x := 0) rfl) rfl) rfl) rfl) rfl) rfl) rfl) rfl), rfl, hX43, (Pin.le_trans (Pin.le_trans hlek9 hx18.le) hx24.le), (by omega), (run_app hos (toad_1 (left := false) (Decidable.not_not.1 h15) h21)), (by simp; omega), ho39⟩))))
 omega
 refine s_seq (c_reg ?_)
 refine qd rfl rfl rfl (r_move (v := (.string s)) rfl) (qd rfl rfl rfl (r_move (v := (.int .i64 (i9 : Int))) rfl) (qd rfl rfl rfl (r_move (v := (.int .i64 (-1))) rfl) (qd rfl rfl rfl (r_add rfl rfl (by omega)) (q1 rfl rfl rfl (o_call (vs := [(.string s), (.int .i64 ((i9 : Int) + (-1)))]) Tryz.func112 nm112 rfl rfl rfl ?_)))))
 refine Calls.mono (cell_spec (s := s) (i := ((i9 : Int) + (-1))) hX19.pins) ?_
 rintro _ w48 ⟨G47, rfl, hx49⟩
 refine ⟨_, rfl, ?_⟩
 have hX50 := hX19.tr hx49
 have ho51 := ho20.ext hx49
 refine qd rfl rfl rfl (r_move (v := (.int .u8 84)) rfl) (qd rfl rfl rfl (r_eql rfl rfl) (qd rfl rfl rfl (r_move (v := (.bool (decide ((((cB s ((i9 : Int) + (-1))).toNat : Int) : Int) = 84)))) rfl) (qbd (p := (((cB s ((i9 : Int) + (-1))).toNat : Int) : Int) = 84) (t := 47) rfl (fun h52 => ?_) (fun h52 => ?_))))
 refine qdg rfl rfl rfl rfl rfl rfl (r_move (v := (.string s)) rfl) (qdg rfl rfl rfl rfl rfl rfl (r_move (v := (.int .i64 (i9 : Int))) rfl) (qdg rfl rfl rfl rfl rfl rfl (r_move (v := (.int .i64 (-1))) rfl) (qdg rfl rfl rfl rfl rfl rfl (r_mul rfl rfl (by omega)) (qdg rfl rfl rfl rfl rfl rfl (r_add rfl rfl (by omega)) (q1g rfl rfl rfl rfl rfl rfl (o_call (vs := [(.string s), (.int .i64 ((i9 : Int) + (2 * (-1))))]) Tryz.func112 nm112 rfl rfl rfl ?_))))))
 refine Calls.mono (cell_spec (s := s) (i := ((i9 : Int) + (2 * (-1)))) hX50.pins) ?_
 rintro _ w54 ⟨G53, rfl, hx55⟩
 refine ⟨_, rfl, ?_⟩
 have hX56 := hX50.tr hx55
 have ho57 := ho51.ext hx55
 refine qdg rfl rfl rfl rfl rfl rfl (r_eql rfl rfl) (qd rfl rfl rfl (r_pickT (v := (.bool (decide ((((cB s ((i9 : Int) + (2 * (-1)))).toNat : Int) : Int) = 46)))) rfl rfl) (qd rfl rfl rfl (r_assign (v := (.bool (decide ((((cB s ((i9 : Int) + (2 * (-1)))).toNat : Int) : Int) = 46)))) rfl) (qe (s_then ?_))))
 refine c_ifd (p := (((cB s ((i9 : Int) + (2 * (-1)))).toNat : Int) : Int) = 46) rfl rfl (fun h58 => ?_) (fun h58 => ?_)
 refine c_reg ?_
 have hat := cB_at (by rw [h58]; decide)
 refine qd rfl rfl rfl (r_move (v := ov) rfl) (qd rfl rfl rfl (r_move (v := (.string s)) rfl) (qd rfl rfl rfl (r_move (v := (.int .i64 (i9 : Int))) rfl) (qd rfl rfl rfl (r_move (v := (.int .i64 (i9 : Int))) rfl) (qd rfl rfl rfl (r_move (v := (.int .i64 (-1))) rfl) (qd rfl rfl rfl (r_mul rfl rfl (by omega)) (qd rfl rfl rfl (r_add rfl rfl (by omega)) (qd rfl rfl rfl (r_move (v := (.int .u8 70)) rfl) (q1 rfl rfl rfl (o_call (vs := [(.string s), (.int .i64 (i9 : Int)), (.int .u8 46), (.int .i64 ((i9 : Int) + (2 * (-1)))), (.int .u8 70)]) Tryz.func113 nm113 rfl rfl rfl ?_)))))))))
 refine Calls.mono (set_spec (s := s) (i := (i9 : Int)) (a := (46 : UInt8)) (k := ((i9 : Int) + (2 * (-1)))) (b := (70 : UInt8)) hX56.pins (by omega) (by omega) (by omega)) ?_
 rintro _ w60 ⟨G59, rfl, hx61⟩
 refine ⟨_, rfl, ?_⟩
 have hX62 := hX56.tr hx61
 have ho63 := ho57.ext hx61
 refine q1 rfl rfl rfl (o_buildF (E := eStr) (e := 9) [(.string (st2 s i9 (46 : UInt8) ((i9 : Int) + (2 * (-1))).toNat (70 : UInt8)))] [st2 s i9 (46 : UInt8) ((i9 : Int) + (2 * (-1))).toNat (70 : UInt8)] Tryz.underlying22 sz9 zr9 (by exact reps1 (by rfl)) (ones1 (by rfl)) rfl rfl rfl rfl (by decide) hX62.pins (fun u64 w65 ho66 hp67 hl68 hk69 => ?_))
 have hX70 := hX62.step hp67 hl68
 have ho71 := ho63.below hl68
 have ho73 : Own eStr 9 G59 w65 w.heap.size u64 ([st2 s i9 (46 : UInt8) ((i9 : Int) + (2 * (-1))).toNat (70 : UInt8)]) := ho66.weaken hX62.size
 refine q1 rfl rfl rfl (o_append (E := eStr) (v := ov) (u := u64) 16 Tryz.underlying22 ap9 (by decide) rfl rfl hX70.pins ho71 ho73.src (by first | omega | (rw [List.nil_append]; omega) | (rw [List.length_nil]; omega) | (rw [List.length_append]; omega) | (simp; done) | (simp; omega) | (simp only [List.length_cons, List.length_nil]; omega) | (simp only [List.length_append, List.length_cons, List.length_nil]; omega)) (by first | omega | (rw [List.nil_append]; omega) | (rw [List.length_nil]; omega) | (rw [List.length_append]; omega) | (simp; done) | (simp; omega) | (simp only [List.length_cons, List.length_nil]; omega) | (simp only [List.length_append, List.length_cons, List.length_nil]; omega)) (hX70.size) (fun u74 w75 ho76 hp77 hg78 hw79 => ?_))
 have hX80 := hX70.write hp77 hg78 ((lo_own ho71))
 have hm83 : (os ++ ([st2 s i9 (46 : UInt8) ((i9 : Int) + (2 * (-1))).toNat (70 : UInt8)])).length = os.length + 1 := List.length_append
 refine qd rfl rfl rfl (r_assign (v := u74) rfl) (qe (s_blkN (s_blkN (s_then (c_reg ?_)))))
 refine qd rfl rfl rfl (r_add rfl rfl (by omega)) (qd rfl rfl rfl (r_move (v := (.int .i64 ((i9 : Int) + 1))) rfl) (qe (s_lopN (⟨_, ?_, _, rfl, _, i9 + 1, u74, os ++ ([st2 s i9 (46 : UInt8) ((i9 : Int) + (2 * (-1))).toNat (70 : UInt8)]), G59, (packS (x := 14) (packS (x := 13) (packS (x := 8) (packS (x := 7) (packS (x := 6) (packS (x := 5) (packS (x := 4) (pack1 (x := 0) rfl) rfl) rfl) rfl) rfl) rfl) rfl) rfl), rfl, hX80, (Pin.le_trans (Pin.le_trans (Pin.le_trans (Pin.le_trans hlek9 hx18.le) hx49.le) hx55.le) hx61.le), (by omega), (run_app hos (toad_2 (left := false) (Decidable.not_not.1 h15) h21 h52 h58)), (by simp; omega), ho76⟩))))
 omega
 refine wp_skip (s_blkN (s_blkN (s_then (c_reg ?_))))
 refine qd rfl rfl rfl (r_add rfl rfl (by omega)) (qd rfl rfl rfl (r_move (v := (.int .i64 ((i9 : Int) + 1))) rfl) (qe (s_lopN (⟨_, ?_, _, rfl, _, i9 + 1, ov, os, G53, (packS (x := 14) (packS (x := 13) (packS (x := 8) (packS (x := 7) (packS (x := 6) (packS (x := 5) (packS (x := 4) (pack1 (x := 0) rfl) rfl) rfl) rfl) rfl) rfl) rfl) rfl), rfl, hX56, (Pin.le_trans (Pin.le_trans (Pin.le_trans hlek9 hx18.le) hx49.le) hx55.le), (by omega), (run_nil hos (toad_4 (left := false) h21 h58)), (by omega), ho57⟩))))
 omega
 refine qs rfl rfl rfl rfl rfl rfl (qs rfl rfl rfl rfl rfl rfl (qs rfl rfl rfl rfl rfl rfl (qs rfl rfl rfl rfl rfl rfl (qs rfl rfl rfl rfl rfl rfl (qs rfl rfl rfl rfl rfl rfl (qs rfl rfl rfl rfl rfl rfl (qd rfl rfl rfl (r_pickF (v := (.bool false)) rfl rfl) (qd rfl rfl rfl (r_assign (v := (.bool false)) rfl) (qe (s_then ?_))))))))))
 refine c_ifF rfl rfl (wp_skip (s_blkN (s_blkN (s_then (c_reg ?_)))))
 refine qd rfl rfl rfl (r_add rfl rfl (by omega)) (qd rfl rfl rfl (r_move (v := (.int .i64 ((i9 : Int) + 1))) rfl) (qe (s_lopN (⟨_, ?_, _, rfl, _, i9 + 1, ov, os, G47, (packS (x := 14) (packS (x := 13) (packS (x := 8) (packS (x := 7) (packS (x := 6) (packS (x := 5) (packS (x := 4) (pack1 (x := 0) rfl) rfl) rfl) rfl) rfl) rfl) rfl) rfl), rfl, hX50, (Pin.le_trans (Pin.le_trans hlek9 hx18.le) hx49.le), (by omega), (run_nil hos (toad_3 (left := false) (Decidable.not_not.1 h15) h21 h52)), (by omega), ho51⟩))))
 omega
 refine wp_exit (s_thenE (s_lopE (s_blkE (s_then (s_seq (c_reg ?_))))))
 refine qd rfl rfl rfl (r_move (v := ov) rfl) (qd rfl rfl rfl (r_assign (v := ov) rfl) (qe (s_then ?_)))
 refine wp_ret (s_ret (c_ret1 (v := ov) rfl rfl rfl ?_))
 obtain ⟨G84, hle87, hX86, hr85, hf88⟩ := hw13.sealed hX12
 have hin : i9 = s.size := by omega
 subst hin
 exact ⟨_, _, rfl, (hos ▸ hr85), hX86⟩

theorem toad_spec {w : World} {G : Pin} {s : ByteArray} {left : Bool} (hP : Pins G w) (hs : s.size ≤ 1000) :
  Calls Tryz.prog 91 [.string s, .bool left].toArray w fun e w' => ∃ (u : Value) (G' : Pin), e = .returned u ∧ RSl eStr G' u (runM (toadAt s left) s.size) ∧ Ext noS G w G' w' := by
 cases left with
 | true => exact toad_true hP hs
 | false => exact toad_false hP hs

end PS2
end Go.Proofs.YtianphgdbfekdaaGreatDoor

set_option maxRecDepth 20000
set_option maxHeartbeats 2000000
namespace Go.Proofs.YtianphgdbfekdaaGreatDoor
namespace PS3
open Go.RowKit Go.GL Go.Proofs
open PS1





theorem mark_spec {w : World} {G : Pin} {s : ByteArray} {mine bar : UInt8} (hP : Pins G w) (hs : s.size ≤ 1000) :
  Calls Tryz.prog 93 [(.string s), (.int .u8 (mine.toNat : Int)), (.int .u8 (bar.toNat : Int))].toArray w fun e w' => ∃ (u : Value) (G' : Pin), e = .returned u ∧ RSl eStr G' u (runM (markAt s mine bar) s.size) ∧ Ext noS G w G' w' := by
 refine s_enter (n := 46) Tryz.func93 Tryz.ntmps93 rfl rfl ?_
 have hX0 : Ext noS G w G w := Ext.refl hP
 refine s_seq (c_reg ?_)
 refine qd rfl rfl rfl (r_assign (v := (.slice none 0 0)) rfl) (qe (s_then (s_seq (c_reg ?_))))
 refine q1 rfl rfl rfl (o_build0 (E := eStr) (e := 9) Tryz.underlying22 sz9 hX0.pins (fun u1 w2 ho3 hp4 hl5 hk6 => ?_))
 have hX7 := hX0.step hp4 hl5
 have ho8 : Own eStr 9 G w2 w.heap.size u1 ([]) := ho3.weaken hX0.size
 refine qd rfl rfl rfl (r_assign (v := u1) rfl) (qe (s_then (s_seq (s_seq (c_reg ?_)))))
 refine qd rfl rfl rfl (r_move (v := (.string s)) rfl) (qd rfl rfl rfl (r_lenS Tryz.underlying9 rfl) (qd rfl rfl rfl (r_move (v := (.int .i64 0)) rfl) (qe (s_then ?_))))
 refine s_blk (s_loop (fun (k : Nat) (en : Nat → Value) (W : World) => ∃ (env1 : Nat → Value) (i9 : Nat) (ov : Value) (os : List ByteArray) (GL1 : Pin), en = (upd (upd (upd (upd (upd (upd (upd env1 0 (.string s)) 1 (.int .u8 (mine.toNat : Int))) 2 (.int .u8 (bar.toNat : Int))) 6 (.slice none 0 0)) 7 ov) 11 (.int .i64 (s.size : Int))) 12 (.int .i64 (i9 : Int))) ∧ k = s.size - i9 ∧ Ext noS G w GL1 W ∧ Pin.le G GL1 ∧ (i9 ≤ s.size) ∧ (os = runM (markAt s mine bar) i9) ∧ (os.length ≤ 1 * i9) ∧ (Own eStr 9 GL1 W w.heap.size ov (os))) _ ⟨_, 0, u1, [], G, (packS (x := 12) (packS (x := 11) (packS (x := 7) (packS (x := 6) (packS (x := 2) (packS (x := 1) (pack1 (x := 0) rfl) rfl) rfl) rfl) rfl) rfl) rfl), rfl, hX7, Pin.le_refl _, Nat.zero_le _, rfl, (by simp), ho8⟩ ?_)
 rintro k9 _ w10 ⟨env1, i9, ov, os, GL1, rfl, hk11, hX12, hlek9, hi, hos, hol, hw13⟩
 refine s_seq (c_reg ?_)
 refine qd rfl rfl rfl (r_lss rfl rfl) (qe (s_then (s_seq ?_)))
 refine c_ifd (p := ((i9 : Int) : Int) < (s.size : Int)) rfl rfl (fun h14 => ?_) (fun h14 => ?_)
 refine wp_skip (s_then (s_seq ?_))
 refine s_blk (s_seq (c_reg ?_))
 refine qd rfl rfl rfl (r_move (v := (.int .i64 (i9 : Int))) rfl) (qd rfl rfl rfl (r_assign (v := (.int .i64 (i9 : Int))) rfl) (qe (s_then (s_seq (c_reg ?_)))))
 refine qd rfl rfl rfl (r_move (v := (.string s)) rfl) (qd rfl rfl rfl (r_move (v := (.int .i64 (i9 : Int))) rfl) (qd rfl rfl rfl (r_idxB Tryz.underlying9 rfl rfl (by omega) (by omega)) (qd rfl rfl rfl (r_eql rfl rfl) (qd rfl rfl rfl (r_move (v := (.bool (decide ((((sB s i9).toNat : Int) : Int) = 46)))) rfl) (qbd (p := (((sB s i9).toNat : Int) : Int) = 46) (t := 19) rfl (fun h15 => ?_) (fun h15 => ?_))))))
 refine qdg rfl rfl rfl rfl rfl rfl (r_move (v := (.string s)) rfl) (qdg rfl rfl rfl rfl rfl rfl (r_move (v := (.int .i64 (i9 : Int))) rfl) (qdg rfl rfl rfl rfl rfl rfl (r_sub rfl rfl (by omega)) (q1g rfl rfl rfl rfl rfl rfl (o_call (vs := [(.string s), (.int .i64 ((i9 : Int) - 1))]) Tryz.func112 nm112 rfl rfl rfl ?_))))
 refine Calls.mono (cell_spec (s := s) (i := ((i9 : Int) - 1)) hX12.pins) ?_
 rintro _ w17 ⟨G16, rfl, hx18⟩
 refine ⟨_, rfl, ?_⟩
 have hX19 := hX12.tr hx18
 have ho20 := hw13.ext hx18
 refine qdg rfl rfl rfl rfl rfl rfl (r_move (v := (.int .u8 (bar.toNat : Int))) rfl) (qdg rfl rfl rfl rfl rfl rfl (r_neq rfl rfl) (qd rfl rfl rfl (r_pickT (v := (.bool (decide ((((cB s ((i9 : Int) - 1)).toNat : Int) : Int) ≠ (bar.toNat : Int))))) rfl rfl) (qd rfl rfl rfl (r_move (v := (.bool (decide ((((cB s ((i9 : Int) - 1)).toNat : Int) : Int) ≠ (bar.toNat : Int))))) rfl) (qbd (p := (((cB s ((i9 : Int) - 1)).toNat : Int) : Int) ≠ (bar.toNat : Int)) (t := 27) rfl (fun h21 => ?_) (fun h21 => ?_)))))
 refine qdg rfl rfl rfl rfl rfl rfl (r_move (v := (.string s)) rfl) (qdg rfl rfl rfl rfl rfl rfl (r_move (v := (.int .i64 (i9 : Int))) rfl) (qdg rfl rfl rfl rfl rfl rfl (r_add rfl rfl (by omega)) (q1g rfl rfl rfl rfl rfl rfl (o_call (vs := [(.string s), (.int .i64 ((i9 : Int) + 1))]) Tryz.func112 nm112 rfl rfl rfl ?_))))
 refine Calls.mono (cell_spec (s := s) (i := ((i9 : Int) + 1)) hX19.pins) ?_
 rintro _ w23 ⟨G22, rfl, hx24⟩
 refine ⟨_, rfl, ?_⟩
 have hX25 := hX19.tr hx24
 have ho26 := ho20.ext hx24
 refine qdg rfl rfl rfl rfl rfl rfl (r_move (v := (.int .u8 (bar.toNat : Int))) rfl) (qdg rfl rfl rfl rfl rfl rfl (r_neq rfl rfl) (qd rfl rfl rfl (r_pickT (v := (.bool (decide ((((cB s ((i9 : Int) + 1)).toNat : Int) : Int) ≠ (bar.toNat : Int))))) rfl rfl) (qe (s_then ?_))))
 refine c_ifd (p := (((cB s ((i9 : Int) + 1)).toNat : Int) : Int) ≠ (bar.toNat : Int)) rfl rfl (fun h27 => ?_) (fun h27 => ?_)
 refine c_reg (qd rfl rfl rfl (r_move (v := ov) rfl) (qd rfl rfl rfl (r_move (v := (.string s)) rfl) (qd rfl rfl rfl (r_move (v := (.int .i64 (i9 : Int))) rfl) (qd rfl rfl rfl (r_move (v := (.int .u8 (mine.toNat : Int))) rfl) (qd rfl rfl rfl (r_move (v := (.int .i64 (i9 : Int))) rfl) (qd rfl rfl rfl (r_move (v := (.int .u8 (mine.toNat : Int))) rfl) (q1 rfl rfl rfl (o_call (vs := [(.string s), (.int .i64 (i9 : Int)), (.int .u8 (mine.toNat : Int)), (.int .i64 (i9 : Int)), (.int .u8 (mine.toNat : Int))]) Tryz.func113 nm113 rfl rfl rfl ?_))))))))
 refine Calls.mono (set_spec (s := s) (i := (i9 : Int)) (a := mine) (k := (i9 : Int)) (b := mine) hX25.pins (by omega) (by omega) (by omega)) ?_
 rintro _ w29 ⟨G28, rfl, hx30⟩
 refine ⟨_, rfl, ?_⟩
 have hX31 := hX25.tr hx30
 have ho32 := ho26.ext hx30
 refine q1 rfl rfl rfl (o_buildF (E := eStr) (e := 9) [(.string (st2 s i9 mine i9 mine))] [st2 s i9 mine i9 mine] Tryz.underlying22 sz9 zr9 (by exact reps1 (by rfl)) (ones1 (by rfl)) rfl rfl rfl rfl (by decide) hX31.pins (fun u33 w34 ho35 hp36 hl37 hk38 => ?_))
 have hX39 := hX31.step hp36 hl37
 have ho40 := ho32.below hl37
 have ho42 : Own eStr 9 G28 w34 w.heap.size u33 ([st2 s i9 mine i9 mine]) := ho35.weaken hX31.size
 refine q1 rfl rfl rfl (o_append (E := eStr) (v := ov) (u := u33) 16 Tryz.underlying22 ap9 (by decide) rfl rfl hX39.pins ho40 ho42.src (by first | omega | (rw [List.nil_append]; omega) | (rw [List.length_nil]; omega) | (rw [List.length_append]; omega) | (simp; done) | (simp; omega) | (simp only [List.length_cons, List.length_nil]; omega) | (simp only [List.length_append, List.length_cons, List.length_nil]; omega)) (by first | omega | (rw [List.nil_append]; omega) | (rw [List.length_nil]; omega) | (rw [List.length_append]; omega) | (simp; done) | (simp; omega) | (simp only [List.length_cons, List.length_nil]; omega) | (simp only [List.length_append, List.length_cons, List.length_nil]; omega)) (hX39.size) (fun u43 w44 ho45 hp46 hg47 hw48 => ?_))
 have hX49 := hX39.write hp46 hg47 ((lo_own ho40))
 have hm52 : (os ++ ([st2 s i9 mine i9 mine])).length = os.length + 1 := List.length_append
 refine qd rfl rfl rfl (r_assign (v := u43) rfl) (qe (s_blkN (s_then (c_reg ?_))))
 refine qd rfl rfl rfl (r_add rfl rfl (by omega)) (qd rfl rfl rfl (r_move (v := (.int .i64 ((i9 : Int) + 1))) rfl) (qe (s_lopN (⟨_, ?_, _, rfl, _, i9 + 1, u43, os ++ ([st2 s i9 mine i9 mine]), G28, (packS (x := 12) (packS (x := 11) (packS (x := 7) (packS (x := 6) (packS (x := 2) (packS (x := 1) (pack1 (x := 0) rfl) rfl) rfl) rfl) rfl) rfl) rfl), rfl, hX49, (Pin.le_trans (Pin.le_trans (Pin.le_trans hlek9 hx18.le) hx24.le) hx30.le), (by omega), (run_app hos (mark_y h15 h21 h27)), (by simp; omega), ho45⟩))))
 omega
 refine wp_skip (s_blkN (s_then (c_reg ?_)))
 refine qd rfl rfl rfl (r_add rfl rfl (by omega)) (qd rfl rfl rfl (r_move (v := (.int .i64 ((i9 : Int) + 1))) rfl) (qe (s_lopN (⟨_, ?_, _, rfl, _, i9 + 1, ov, os, G22, (packS (x := 12) (packS (x := 11) (packS (x := 7) (packS (x := 6) (packS (x := 2) (packS (x := 1) (pack1 (x := 0) rfl) rfl) rfl) rfl) rfl) rfl) rfl), rfl, hX25, (Pin.le_trans (Pin.le_trans hlek9 hx18.le) hx24.le), (by omega), (run_nil hos (mark_c (Decidable.not_not.1 h27))), (by omega), ho26⟩))))
 omega
 refine qs rfl rfl rfl rfl rfl rfl (qs rfl rfl rfl rfl rfl rfl (qs rfl rfl rfl rfl rfl rfl (qs rfl rfl rfl rfl rfl rfl (qs rfl rfl rfl rfl rfl rfl (qs rfl rfl rfl rfl rfl rfl (qd rfl rfl rfl (r_pickF (v := (.bool false)) rfl rfl) (qe (s_then ?_))))))))
 refine c_ifF rfl rfl (wp_skip (s_blkN (s_then (c_reg ?_))))
 refine qd rfl rfl rfl (r_add rfl rfl (by omega)) (qd rfl rfl rfl (r_move (v := (.int .i64 ((i9 : Int) + 1))) rfl) (qe (s_lopN (⟨_, ?_, _, rfl, _, i9 + 1, ov, os, G16, (packS (x := 12) (packS (x := 11) (packS (x := 7) (packS (x := 6) (packS (x := 2) (packS (x := 1) (pack1 (x := 0) rfl) rfl) rfl) rfl) rfl) rfl) rfl), rfl, hX19, (Pin.le_trans hlek9 hx18.le), (by omega), (run_nil hos (mark_b (Decidable.not_not.1 h21))), (by omega), ho20⟩))))
 omega
 refine qs rfl rfl rfl rfl rfl rfl (qs rfl rfl rfl rfl rfl rfl (qs rfl rfl rfl rfl rfl rfl (qs rfl rfl rfl rfl rfl rfl (qs rfl rfl rfl rfl rfl rfl (qs rfl rfl rfl rfl rfl rfl (qd rfl rfl rfl (r_pickF (v := (.bool false)) rfl rfl) (qd rfl rfl rfl (r_move (v := (.bool false)) rfl) (qs rfl rfl rfl rfl rfl rfl (qs rfl rfl rfl rfl rfl rfl (qs rfl rfl rfl rfl rfl rfl (qs rfl rfl rfl rfl rfl rfl (qs rfl rfl rfl rfl rfl rfl (qs rfl rfl rfl rfl rfl rfl (qd rfl rfl rfl (r_pickF (v := (.bool false)) rfl rfl) (qe (s_then ?_))))))))))))))))
 refine c_ifF rfl rfl (wp_skip (s_blkN (s_then (c_reg ?_))))
 refine qd rfl rfl rfl (r_add rfl rfl (by omega)) (qd rfl rfl rfl (r_move (v := (.int .i64 ((i9 : Int) + 1))) rfl) (qe (s_lopN (⟨_, ?_, _, rfl, _, i9 + 1, ov, os, GL1, (packS (x := 12) (packS (x := 11) (packS (x := 7) (packS (x := 6) (packS (x := 2) (packS (x := 1) (pack1 (x := 0) rfl) rfl) rfl) rfl) rfl) rfl) rfl), rfl, hX12, hlek9, (by omega), (run_nil hos (mark_a h15)), (by omega), hw13⟩))))
 omega
 refine wp_exit (s_thenE (s_lopE (s_blkE (s_then (s_seq (c_reg ?_))))))
 refine qd rfl rfl rfl (r_move (v := ov) rfl) (qd rfl rfl rfl (r_assign (v := ov) rfl) (qe (s_then ?_)))
 refine wp_ret (s_ret (c_ret1 (v := ov) rfl rfl rfl ?_))
 obtain ⟨G53, hle56, hX55, hr54, hf57⟩ := hw13.sealed hX12
 have hin : i9 = s.size := by omega
 subst hin
 exact ⟨_, _, rfl, (hos ▸ hr54), hX55⟩

end PS3
end Go.Proofs.YtianphgdbfekdaaGreatDoor
