/- Texts of this claim in one file: PTB, PTC, PTD, PTE, P1, PF2, PF3, LX3, LX4. -/
import Derived.Test.YtajkbplgbikgdaaGreatDoorRp6
import Derived.Test.YtajkbplgbikgdaaGreatDoorChecked
set_option maxRecDepth 20000
set_option maxHeartbeats 2000000
namespace Go.Proofs.YtajkbplgbikgdaaGreatDoor
namespace PTB
open Go.RowKit Go.GL Go.Proofs
open PT3
variable {G : Pin}
theorem vQ {w : World} {s : ByteArray} {c : UInt8} (hP : Pins G w) (hs : s.size ≤ 100000) :
  Calls Tryz.prog 56 [(.string s), (.int .u8 (c.toNat : Int))].toArray w fun e w' => ∃ (u : Value) (G' : Pin), e = .returned u ∧ Own eStr 9 G' w' w.heap.size u (partsB c s) ∧ Ext noS G w G' w' := by
 refine yM (n := 35) Tryz.func56 Tryz.ntmps56 rfl rfl ?_
 have hX0 := exr noS hP
 refine zD (zE ?_)
 refine qD rfl (zC (v := (.slice none 0 0)) rfl) (qe (zA (zD (zE ?_))))
 refine qI rfl (xF (E := eStr) (e := 9) eZ sz9 hX0.pins (fun u1 w2 ho3 hp4 hl5 hk6 => ?_))
 have ho8 := ho3.weaken hX0.size
 refine qD rfl (zC (v := u1) rfl) (qe (zA (zD (zE ?_))))
 refine qD rfl (zC (v := (.int .i64 0)) rfl) (qe (zA (zD (zD (zE ?_)))))
 refine qD rfl (zC (v := (.int .i64 0)) rfl) (qe (zA ?_))
 refine yI (yZ (fun (k : Nat) (en : Nat → Value) (W : World) => ∃ (env1 : Nat → Value) (i9 : Nat) (f9 : Nat) (ov : Value) (os : List ByteArray) (GL1 : Pin), en = (upd (upd (upd (upd (upd (upd env1 0 (.string s)) 1 (.int .u8 (c.toNat : Int))) 4 (.slice none 0 0)) 5 ov) 6 (.int .i64 (f9 : Int))) 7 (.int .i64 (i9 : Int))) ∧ k = s.size - i9 ∧ Ext noS G w GL1 W ∧ Pin.le G GL1 ∧ (i9 ≤ s.size) ∧ (SpI s c i9 f9 os) ∧ (Own eStr 9 GL1 W w.heap.size ov (os))) _ ⟨_, 0, 0, u1, [], G, (zF (x := 7) (zF (x := 6) (zF (x := 5) (zF (x := 4) (zF (x := 1) (yF (x := 0) rfl) rfl) rfl) rfl) rfl) rfl), rfl, (hX0.step hp4 hl5), Pin.le_refl _, Nat.zero_le _, spI_zero, ho8⟩ ?_)
 rintro k9 _ w10 ⟨env1, i9, f9, ov, os, GL1, rfl, hk11, hX12, hlek9, hi, hsp, hw13⟩
 have hfi := hsp.le
 have hol := hsp.len
 refine zD (zD (zE ?_))
 refine qD rfl (zB (v := (.int .i64 (i9 : Int))) rfl) (qD rfl (zB (v := (.string s)) rfl) (qD rfl (qH eW rfl) (qD rfl (xB rfl rfl) (qe (zA ?_)))))
 refine yJ (p := ((i9 : Int) : Int) < (s.size : Int)) rfl rfl (fun h14 => ?_) (fun h14 => ?_)
 refine wp_skip (zA (zD ?_))
 refine yI (zD (zE ?_))
 refine qD rfl (zB (v := (.string s)) rfl) (qD rfl (zB (v := (.int .i64 (i9 : Int))) rfl) (qD rfl (vZ eW rfl rfl (by omega) (by omega)) (qD rfl (zB (v := (.int .u8 (c.toNat : Int))) rfl) (qD rfl (qN rfl rfl) (qe (zA ?_))))))
 refine yJ (p := (((sB s i9).toNat : Int) : Int) = (c.toNat : Int)) rfl rfl (fun h15 => ?_) (fun h15 => ?_)
 refine zD (zE ?_)
 refine qD rfl (zB (v := ov) rfl) (qD rfl (zB (v := (.string s)) rfl) (qD rfl (zB (v := (.int .i64 (f9 : Int))) rfl) (qD rfl (zB (v := (.int .i64 (i9 : Int))) rfl) ?_)))
 have hm16 : (s.extract f9 i9).size = min i9 s.size - f9 := ByteArray.size_extract
 refine qD rfl (nN eW rfl rfl rfl (by omega) (by omega) (by omega)) (qI rfl (xI (E := eStr) (e := 9) [(.string (s.extract f9 i9))] [s.extract f9 i9] eZ sz9 zr9 (by exact qQ (by rfl)) (yE (by rfl)) rfl rfl rfl rfl (by decide) hX12.pins (fun u17 w18 ho19 hp20 hl21 hk22 => ?_)))
 have hX23 := hX12.step hp20 hl21
 have ho24 := hw13.below hl21
 have ho26 := ho19.weaken hX12.size
 refine qI rfl (yH (E := eStr) (v := ov) (u := u17) 16 eZ ap9 (by decide) rfl rfl hX23.pins ho24 ho26.src (by first | omega | (rw [List.nil_append]; omega) | (rw [List.length_nil]; omega) | (rw [List.length_append]; omega) | (simp; done) | (simp; omega) | (simp only [List.length_cons, List.length_nil]; omega) | (simp only [List.length_append, List.length_cons, List.length_nil]; omega)) (by first | omega | (rw [List.nil_append]; omega) | (rw [List.length_nil]; omega) | (rw [List.length_append]; omega) | (simp; done) | (simp; omega) | (simp only [List.length_cons, List.length_nil]; omega) | (simp only [List.length_append, List.length_cons, List.length_nil]; omega)) (hX23.size) (fun u27 w28 ho29 hp30 hg31 hw32 => ?_))
 have hm36 := la1 os (s.extract f9 i9)
 refine qD rfl (zC (v := u27) rfl) (qe (zA (zE ?_)))
 refine qD rfl (zB (v := (.int .i64 (i9 : Int))) rfl) (qD rfl (yT rfl rfl (by omega)) (qD rfl (zC (v := (.int .i64 ((i9 : Int) + 1))) rfl) (qe (yO (zA (zE ?_))))))
 refine qD rfl (zB (v := (.int .i64 (i9 : Int))) rfl) (qD rfl (yT rfl rfl (by omega)) (qD rfl (zC (v := (.int .i64 ((i9 : Int) + 1))) rfl) (qe (yR (⟨_, ?_, _, rfl, _, i9 + 1, i9 + 1, u27, os ++ ([s.extract f9 i9]), GL1, (zF (x := 7) (zF (x := 6) (zF (x := 5) (zF (x := 4) (zF (x := 1) (yF (x := 0) rfl) rfl) rfl) rfl) rfl) rfl), rfl, (hX23.write hp30 hg31 ((yQ ho24))), hlek9, (by omega), (spI_yes hsp (by omega) h15), ho29⟩)))))
 omega
 refine wp_skip (yO (zA (zE ?_)))
 refine qD rfl (zB (v := (.int .i64 (i9 : Int))) rfl) (qD rfl (yT rfl rfl (by omega)) (qD rfl (zC (v := (.int .i64 ((i9 : Int) + 1))) rfl) (qe (yR (⟨_, ?_, _, rfl, _, i9 + 1, f9, ov, os, GL1, (zF (x := 7) (zF (x := 6) (zF (x := 5) (zF (x := 4) (zF (x := 1) (yF (x := 0) rfl) rfl) rfl) rfl) rfl) rfl), rfl, hX12, hlek9, (by omega), (spI_no hsp (by omega) h15), hw13⟩)))))
 omega
 refine wp_exit (yK (yU (yV (zA (zD (zE ?_))))))
 refine qD rfl (zB (v := ov) rfl) (qD rfl (zB (v := (.string s)) rfl) (qD rfl (zB (v := (.int .i64 (f9 : Int))) rfl) ?_))
 have hm37 : (s.extract f9 s.size).size = min s.size s.size - f9 := ByteArray.size_extract
 refine qD rfl (tX eW rfl rfl (by omega) (by omega)) (qI rfl (xI (E := eStr) (e := 9) [(.string (s.extract f9 s.size))] [s.extract f9 s.size] eZ sz9 zr9 (by exact qQ (by rfl)) (yE (by rfl)) rfl rfl rfl rfl (by decide) hX12.pins (fun u38 w39 ho40 hp41 hl42 hk43 => ?_)))
 have hX44 := hX12.step hp41 hl42
 have ho45 := hw13.below hl42
 have ho47 := ho40.weaken hX12.size
 refine qI rfl (yH (E := eStr) (v := ov) (u := u38) 16 eZ ap9 (by decide) rfl rfl hX44.pins ho45 ho47.src (by first | omega | (rw [List.nil_append]; omega) | (rw [List.length_nil]; omega) | (rw [List.length_append]; omega) | (simp; done) | (simp; omega) | (simp only [List.length_cons, List.length_nil]; omega) | (simp only [List.length_append, List.length_cons, List.length_nil]; omega)) (by first | omega | (rw [List.nil_append]; omega) | (rw [List.length_nil]; omega) | (rw [List.length_append]; omega) | (simp; done) | (simp; omega) | (simp only [List.length_cons, List.length_nil]; omega) | (simp only [List.length_append, List.length_cons, List.length_nil]; omega)) (hX44.size) (fun u48 w49 ho50 hp51 hg52 hw53 => ?_))
 have hm57 := la1 os (s.extract f9 s.size)
 refine qD rfl (zC (v := u48) rfl) (qe (zA ?_))
 exact wp_ret (zQ (yA (v := u48) rfl rfl rfl (⟨_, _, rfl, (by rw [← spI_done hsp (by omega)]; exact ho50), (hX44.write hp51 hg52 ((yQ ho45)))⟩)))
theorem gU {w : World} {x a b : Int} (hP : Pins G w) : Calls Tryz.prog 95 [.int .i64 x, .int .i64 a, .int .i64 b].toArray w fun e w' => ∃ G', e = .returned (.bool (decide (a ≤ x ∧ x ≤ b))) ∧ Ext noS G w G' w' := by
 refine (jH hP).mono ?_
 rintro e w' ⟨rfl, rfl⟩
 exact ⟨G, rfl, Ext.refl hP⟩
theorem jE {w : World} {s : ByteArray} (hP : Pins G w) (hs : s.size ≤ 100000) :
  Calls Tryz.prog 58 [(.string s)].toArray w fun e w' => ∃ (n : Int) (ok : Bool) (G' : Pin), e = .returned (.tuple #[.int .i64 n, .bool ok]) ∧ RdN s n ok ∧ Ext noS G w G' w' := by
 refine yM (n := 58) Tryz.func58 Tryz.ntmps58 rfl rfl ?_
 have hX0 := exr noS hP
 refine zD (zE ?_)
 refine qD rfl (zC (v := (.int .i64 0)) rfl) (qD rfl (zC (v := (.bool false)) rfl) (qe (zA (zD (zE ?_)))))
 refine qD rfl (zB (v := (.string s)) rfl) (qD rfl (zC (v := (.string s)) rfl) (qe (zA (zD (zD (zE ?_))))))
 refine qD rfl (zB (v := (.string s)) rfl) (qD rfl (qH eW rfl) (qD rfl (qV rfl rfl) (qD rfl (zB (v := (.bool (decide ((1 : Int) < (s.size : Int))))) rfl) (qbd (p := (1 : Int) < (s.size : Int)) (t := 11) rfl (fun h1 => ?_) (fun h1 => ?_)))))
 refine qdg rfl rfl rfl rfl rfl rfl (zB (v := (.string s)) rfl) (qdg rfl rfl rfl rfl rfl rfl (vZ eW rfl rfl (by omega) (by omega)) (qdg rfl rfl rfl rfl rfl rfl (qN rfl rfl) (qD rfl (yG (v := (.bool (decide ((((sB s 0).toNat : Int) : Int) = 45)))) rfl rfl) (qe (zA ?_)))))
 refine yJ (p := (((sB s 0).toNat : Int) : Int) = 45) rfl rfl (fun h2 => ?_) (fun h2 => ?_)
 refine zE (qD rfl (zB (v := (.string s)) rfl) ?_)
 have hm3 : (s.extract 1 s.size).size = min s.size s.size - 1 := ByteArray.size_extract
 refine qD rfl (tX eW rfl rfl (by omega) (by omega)) (qD rfl (zC (v := (.string (s.extract 1 s.size))) rfl) (qe (zA (zD (zD (zE ?_))))))
 refine qD rfl (zB (v := (.string (s.extract 1 s.size))) rfl) (qD rfl (qH eW rfl) (qI rfl (zK (vs := [(.int .i64 ((s.extract 1 s.size).size : Int)), (.int .i64 1), (.int .i64 6)]) Tryz.func95 nm95 rfl rfl rfl ?_)))
 refine dJ (gU hX0.pins) ?_
 rintro _ w5 ⟨G4, rfl, hx6⟩
 refine ⟨_, rfl, ?_⟩
 have hX7 := hX0.tr hx6
 refine qD rfl (xT rfl) (qe (zA ?_))
 refine xV rfl rfl (fun h8 => ?_) (fun h8 => ?_)
 replace h8 := of_decide_eq_true h8
 refine wp_skip (zA (zD (zE ?_)))
 refine qD rfl (zC (v := (.int .i64 0)) rfl) (qe (zA (zD (zD (zE ?_)))))
 refine qD rfl (zC (v := (.int .i64 0)) rfl) (qe (zA ?_))
 refine yI (yZ (fun (k : Nat) (en : Nat → Value) (W : World) => ∃ (env1 : Nat → Value) (j : Nat) (n9 : Int) (GL1 : Pin), en = (upd (upd (upd (upd env1 0 (.string s)) 4 (.string (s.extract 1 s.size))) 5 (.int .i64 n9)) 6 (.int .i64 (j : Int))) ∧ k = (s.extract 1 s.size).size - j ∧ Ext noS G w GL1 W ∧ Pin.le G4 GL1 ∧ (j ≤ (s.extract 1 s.size).size) ∧ (RdD s (s.extract 1 s.size) j n9) ∧ (0 ≤ n9 ∧ n9 < pw10 j)) _ ⟨_, 0, 0, G4, (zF (x := 6) (zF (x := 5) (zF (x := 4) (yF (x := 0) rfl) rfl) rfl) rfl), rfl, hX7, Pin.le_refl _, Nat.zero_le _, (rdd_neg (by omega) h2), (by show (0:Int) ≤ 0 ∧ (0:Int) < 1; omega)⟩ ?_)
 rintro k9 _ w10 ⟨env1, j, n9, GL1, rfl, hk11, hX12, hlek9, hj, hrd, hn9⟩
 have hpj := mP (k := j) (by omega)
 refine zD (zD (zE ?_))
 refine qD rfl (zB (v := (.int .i64 (j : Int))) rfl) (qD rfl (zB (v := (.string (s.extract 1 s.size))) rfl) (qD rfl (qH eW rfl) (qD rfl (xB rfl rfl) (qe (zA ?_)))))
 refine yJ (p := ((j : Int) : Int) < ((s.extract 1 s.size).size : Int)) rfl rfl (fun h13 => ?_) (fun h13 => ?_)
 have hpn := tY (k := j) (by omega)
 refine wp_skip (zA (zD ?_))
 refine yI (zD (zD (zE ?_)))
 refine qD rfl (zB (v := (.string (s.extract 1 s.size))) rfl) (qD rfl (zB (v := (.int .i64 (j : Int))) rfl) (qD rfl (vZ eW rfl rfl (by omega) (by omega)) (qD rfl (xB rfl rfl) (qD rfl (zB (v := (.bool (decide ((((sB (s.extract 1 s.size) j).toNat : Int) : Int) < 48)))) rfl) (qbd (p := (((sB (s.extract 1 s.size) j).toNat : Int) : Int) < 48) (t := 32) rfl (fun h14 => ?_) (fun h14 => ?_))))))
 refine qs rfl rfl rfl rfl rfl rfl (qs rfl rfl rfl rfl rfl rfl (qs rfl rfl rfl rfl rfl rfl (qs rfl rfl rfl rfl rfl rfl (qD rfl (yG (v := (.bool true)) rfl rfl) (qe (zA ?_))))))
 refine qC rfl rfl (zD (zE ?_))
 refine qD rfl (zC (v := (.int .i64 0)) rfl) (qD rfl (zC (v := (.bool false)) rfl) (qe (zA ?_)))
 exact wp_ret (zQ (xG (v := (.int .i64 0)) (u := (.bool false)) rfl rfl rfl rfl rfl (⟨_, _, _, rfl, kZ hrd (by omega) (by omega), hX12⟩)))
 refine qdg rfl rfl rfl rfl rfl rfl (zB (v := (.string (s.extract 1 s.size))) rfl) (qdg rfl rfl rfl rfl rfl rfl (zB (v := (.int .i64 (j : Int))) rfl) (qdg rfl rfl rfl rfl rfl rfl (vZ eW rfl rfl (by omega) (by omega)) (qdg rfl rfl rfl rfl rfl rfl (qV rfl rfl) (qD rfl (yN (v := (.bool (decide ((57 : Int) < ((sB (s.extract 1 s.size) j).toNat : Int))))) rfl rfl) (qe (zA ?_))))))
 refine yJ (p := (57 : Int) < ((sB (s.extract 1 s.size) j).toNat : Int)) rfl rfl (fun h15 => ?_) (fun h15 => ?_)
 refine zD (zE ?_)
 refine qD rfl (zC (v := (.int .i64 0)) rfl) (qD rfl (zC (v := (.bool false)) rfl) (qe (zA ?_)))
 exact wp_ret (zQ (xG (v := (.int .i64 0)) (u := (.bool false)) rfl rfl rfl rfl rfl (⟨_, _, _, rfl, kZ hrd (by omega) (by omega), hX12⟩)))
 refine wp_skip (zA (zE ?_))
 refine qD rfl (zB (v := (.int .i64 n9)) rfl) (qD rfl (nL rfl rfl (by omega)) (qD rfl (zB (v := (.string (s.extract 1 s.size))) rfl) (qD rfl (zB (v := (.int .i64 (j : Int))) rfl) (qD rfl (vZ eW rfl rfl (by omega) (by omega)) (qD rfl (r_sub8 (i := ((sB (s.extract 1 s.size) j).toNat : Int)) (j := 48) rfl rfl (by omega)) (qD rfl (fS (j := ((sB (s.extract 1 s.size) j).toNat : Int) - 48) Tryz.underlying5 dF rfl (pZ (by omega))) (qD rfl (yT rfl rfl (by omega)) (qD rfl (zC (v := (.int .i64 ((10 * n9) + (((sB (s.extract 1 s.size) j).toNat : Int) - 48)))) rfl) (qe (yO (zA (zE ?_))))))))))))
 refine qD rfl (zB (v := (.int .i64 (j : Int))) rfl) (qD rfl (yT rfl rfl (by omega)) (qD rfl (zC (v := (.int .i64 ((j : Int) + 1))) rfl) (qe (yR (⟨_, ?_, _, rfl, _, j + 1, (10 * n9) + (((sB (s.extract 1 s.size) j).toNat : Int) - 48), GL1, (zF (x := 6) (zF (x := 5) (zF (x := 4) (yF (x := 0) rfl) rfl) rfl) rfl), rfl, hX12, hlek9, (by omega), (nJ hrd (by omega) (by omega) (by omega) (by omega)), (by omega)⟩)))))
 omega
 refine wp_exit (yK (yU (yV (zA (zD (zD (zE ?_)))))))
 refine qD rfl (zB (v := (.string (s.extract 1 s.size))) rfl) (qD rfl (qH eW rfl) (qD rfl (zB (v := (.string s)) rfl) (qD rfl (qH eW rfl) (qD rfl (xB rfl rfl) (qe (zA ?_))))))
 refine yJ (p := (((s.extract 1 s.size).size : Int) : Int) < (s.size : Int)) rfl rfl (fun h16 => ?_) (fun h16 => ?_)
 refine zE (qD rfl (zB (v := (.int .i64 n9)) rfl) (qD rfl (r_neg rfl (by omega)) (qD rfl (zC (v := (.int .i64 (-n9))) rfl) (qe (zA (zD (zD (zE ?_))))))))
 refine qD rfl (zB (v := (.int .i64 (-n9))) rfl) (qI rfl (zK (vs := [(.int .i64 (-n9))]) Tryz.func96 nm96 rfl rfl rfl ?_))
 refine dJ (qB (-n9) (by omega) (by omega) hX12.pins) ?_
 rintro _ w18 ⟨G17, rfl, hx19⟩
 refine ⟨_, rfl, ?_⟩
 have hX20 := hX12.tr hx19
 refine qD rfl (zB (v := (.string s)) rfl) (qD rfl (jO rfl rfl) (qe (zA ?_)))
 refine xV rfl rfl (fun h21 => ?_) (fun h21 => ?_)
 refine wp_skip (zA (zD (zE ?_)))
 refine qD rfl (zB (v := (.int .i64 (-n9))) rfl) (qD rfl (zC (v := (.int .i64 (-n9))) rfl) (qD rfl (zC (v := (.bool true)) rfl) (qe (zA ?_))))
 exact wp_ret (zQ (xG (v := (.int .i64 (-n9))) (u := (.bool true)) rfl rfl rfl rfl rfl (⟨_, _, _, rfl, fZ hrd (by omega) (by omega) (fun e9 => by have e8 := congrArg ByteArray.size e9; omega) (by omega) (by omega), hX20⟩)))
 refine zD (zE ?_)
 refine qD rfl (zC (v := (.int .i64 0)) rfl) (qD rfl (zC (v := (.bool false)) rfl) (qe (zA ?_)))
 exact wp_ret (zQ (xG (v := (.int .i64 0)) (u := (.bool false)) rfl rfl rfl rfl rfl (⟨_, _, _, rfl, tW hrd (by omega) (by omega) (fun e9 => by have e8 := congrArg ByteArray.size e9; omega) h21, hX20⟩)))
 refine wp_skip (zA (zD (zD (zE ?_))))
 refine qD rfl (zB (v := (.int .i64 n9)) rfl) (qI rfl (zK (vs := [(.int .i64 n9)]) Tryz.func96 nm96 rfl rfl rfl ?_))
 refine dJ (qB n9 (by omega) (by omega) hX12.pins) ?_
 rintro _ w23 ⟨G22, rfl, hx24⟩
 refine ⟨_, rfl, ?_⟩
 have hX25 := hX12.tr hx24
 refine qD rfl (zB (v := (.string s)) rfl) (qD rfl (jO rfl rfl) (qe (zA ?_)))
 refine xV rfl rfl (fun h26 => ?_) (fun h26 => ?_)
 refine wp_skip (zA (zD (zE ?_)))
 refine qD rfl (zB (v := (.int .i64 n9)) rfl) (qD rfl (zC (v := (.int .i64 n9)) rfl) (qD rfl (zC (v := (.bool true)) rfl) (qe (zA ?_))))
 exact wp_ret (zQ (xG (v := (.int .i64 n9)) (u := (.bool true)) rfl rfl rfl rfl rfl (⟨_, _, _, rfl, fZ hrd (by omega) (by omega) (fun e9 => by have e8 := congrArg ByteArray.size e9; omega) (by omega) (by omega), hX25⟩)))
 refine zD (zE ?_)
 refine qD rfl (zC (v := (.int .i64 0)) rfl) (qD rfl (zC (v := (.bool false)) rfl) (qe (zA ?_)))
 exact wp_ret (zQ (xG (v := (.int .i64 0)) (u := (.bool false)) rfl rfl rfl rfl rfl (⟨_, _, _, rfl, tW hrd (by omega) (by omega) (fun e9 => by have e8 := congrArg ByteArray.size e9; omega) h26, hX25⟩)))
 replace h8 := of_decide_eq_false h8
 refine zD (zE ?_)
 refine qD rfl (zC (v := (.int .i64 0)) rfl) (qD rfl (zC (v := (.bool false)) rfl) (qe (zA ?_)))
 exact wp_ret (zQ (xG (v := (.int .i64 0)) (u := (.bool false)) rfl rfl rfl rfl rfl (⟨_, _, _, rfl, rdd_len (rdd_neg (T := s.extract 1 s.size) (j := 0) (n := 0) (by omega) h2) (by omega), hX7⟩)))
 refine wp_skip (zA (zD (zD (zE ?_))))
 refine qD rfl (zB (v := (.string s)) rfl) (qD rfl (qH eW rfl) (qI rfl (zK (vs := [(.int .i64 (s.size : Int)), (.int .i64 1), (.int .i64 6)]) Tryz.func95 nm95 rfl rfl rfl ?_)))
 refine dJ (gU hX0.pins) ?_
 rintro _ w28 ⟨G27, rfl, hx29⟩
 refine ⟨_, rfl, ?_⟩
 have hX30 := hX0.tr hx29
 refine qD rfl (xT rfl) (qe (zA ?_))
 refine xV rfl rfl (fun h31 => ?_) (fun h31 => ?_)
 replace h31 := of_decide_eq_true h31
 refine wp_skip (zA (zD (zE ?_)))
 refine qD rfl (zC (v := (.int .i64 0)) rfl) (qe (zA (zD (zD (zE ?_)))))
 refine qD rfl (zC (v := (.int .i64 0)) rfl) (qe (zA ?_))
 refine yI (yZ (fun (k : Nat) (en : Nat → Value) (W : World) => ∃ (env1 : Nat → Value) (j : Nat) (n9 : Int) (GL1 : Pin), en = (upd (upd (upd (upd env1 0 (.string s)) 4 (.string s)) 5 (.int .i64 n9)) 6 (.int .i64 (j : Int))) ∧ k = s.size - j ∧ Ext noS G w GL1 W ∧ Pin.le G27 GL1 ∧ (j ≤ s.size) ∧ (RdD s s j n9) ∧ (0 ≤ n9 ∧ n9 < pw10 j)) _ ⟨_, 0, 0, G27, (zF (x := 6) (zF (x := 5) (zF (x := 4) (yF (x := 0) rfl) rfl) rfl) rfl), rfl, hX30, Pin.le_refl _, Nat.zero_le _, tI, (by show (0:Int) ≤ 0 ∧ (0:Int) < 1; omega)⟩ ?_)
 rintro k32 _ w33 ⟨env1, j, n9, GL1, rfl, hk34, hX35, hlek32, hj, hrd, hn9⟩
 have hpj := mP (k := j) (by omega)
 refine zD (zD (zE ?_))
 refine qD rfl (zB (v := (.int .i64 (j : Int))) rfl) (qD rfl (zB (v := (.string s)) rfl) (qD rfl (qH eW rfl) (qD rfl (xB rfl rfl) (qe (zA ?_)))))
 refine yJ (p := ((j : Int) : Int) < (s.size : Int)) rfl rfl (fun h36 => ?_) (fun h36 => ?_)
 have hpn := tY (k := j) (by omega)
 refine wp_skip (zA (zD ?_))
 refine yI (zD (zD (zE ?_)))
 refine qD rfl (zB (v := (.string s)) rfl) (qD rfl (zB (v := (.int .i64 (j : Int))) rfl) (qD rfl (vZ eW rfl rfl (by omega) (by omega)) (qD rfl (xB rfl rfl) (qD rfl (zB (v := (.bool (decide ((((sB s j).toNat : Int) : Int) < 48)))) rfl) (qbd (p := (((sB s j).toNat : Int) : Int) < 48) (t := 32) rfl (fun h37 => ?_) (fun h37 => ?_))))))
 refine qs rfl rfl rfl rfl rfl rfl (qs rfl rfl rfl rfl rfl rfl (qs rfl rfl rfl rfl rfl rfl (qs rfl rfl rfl rfl rfl rfl (qD rfl (yG (v := (.bool true)) rfl rfl) (qe (zA ?_))))))
 refine qC rfl rfl (zD (zE ?_))
 refine qD rfl (zC (v := (.int .i64 0)) rfl) (qD rfl (zC (v := (.bool false)) rfl) (qe (zA ?_)))
 exact wp_ret (zQ (xG (v := (.int .i64 0)) (u := (.bool false)) rfl rfl rfl rfl rfl (⟨_, _, _, rfl, kZ hrd (by omega) (by omega), hX35⟩)))
 refine qdg rfl rfl rfl rfl rfl rfl (zB (v := (.string s)) rfl) (qdg rfl rfl rfl rfl rfl rfl (zB (v := (.int .i64 (j : Int))) rfl) (qdg rfl rfl rfl rfl rfl rfl (vZ eW rfl rfl (by omega) (by omega)) (qdg rfl rfl rfl rfl rfl rfl (qV rfl rfl) (qD rfl (yN (v := (.bool (decide ((57 : Int) < ((sB s j).toNat : Int))))) rfl rfl) (qe (zA ?_))))))
 refine yJ (p := (57 : Int) < ((sB s j).toNat : Int)) rfl rfl (fun h38 => ?_) (fun h38 => ?_)
 refine zD (zE ?_)
 refine qD rfl (zC (v := (.int .i64 0)) rfl) (qD rfl (zC (v := (.bool false)) rfl) (qe (zA ?_)))
 exact wp_ret (zQ (xG (v := (.int .i64 0)) (u := (.bool false)) rfl rfl rfl rfl rfl (⟨_, _, _, rfl, kZ hrd (by omega) (by omega), hX35⟩)))
 refine wp_skip (zA (zE ?_))
 refine qD rfl (zB (v := (.int .i64 n9)) rfl) (qD rfl (nL rfl rfl (by omega)) (qD rfl (zB (v := (.string s)) rfl) (qD rfl (zB (v := (.int .i64 (j : Int))) rfl) (qD rfl (vZ eW rfl rfl (by omega) (by omega)) (qD rfl (r_sub8 (i := ((sB s j).toNat : Int)) (j := 48) rfl rfl (by omega)) (qD rfl (fS (j := ((sB s j).toNat : Int) - 48) Tryz.underlying5 dF rfl (pZ (by omega))) (qD rfl (yT rfl rfl (by omega)) (qD rfl (zC (v := (.int .i64 ((10 * n9) + (((sB s j).toNat : Int) - 48)))) rfl) (qe (yO (zA (zE ?_))))))))))))
 refine qD rfl (zB (v := (.int .i64 (j : Int))) rfl) (qD rfl (yT rfl rfl (by omega)) (qD rfl (zC (v := (.int .i64 ((j : Int) + 1))) rfl) (qe (yR (⟨_, ?_, _, rfl, _, j + 1, (10 * n9) + (((sB s j).toNat : Int) - 48), GL1, (zF (x := 6) (zF (x := 5) (zF (x := 4) (yF (x := 0) rfl) rfl) rfl) rfl), rfl, hX35, hlek32, (by omega), (nJ hrd (by omega) (by omega) (by omega) (by omega)), (by omega)⟩)))))
 omega
 refine wp_exit (yK (yU (yV (zA (zD (zD (zE ?_)))))))
 refine qD rfl (zB (v := (.string s)) rfl) (qD rfl (qH eW rfl) (qD rfl (zB (v := (.string s)) rfl) (qD rfl (qH eW rfl) (qD rfl (xB rfl rfl) (qe (zA ?_))))))
 refine yJ (p := ((s.size : Int) : Int) < (s.size : Int)) rfl rfl (fun h39 => ?_) (fun h39 => ?_)
 refine zE (qD rfl (zB (v := (.int .i64 n9)) rfl) (qD rfl (r_neg rfl (by omega)) (qD rfl (zC (v := (.int .i64 (-n9))) rfl) (qe (zA (zD (zD (zE ?_))))))))
 refine qD rfl (zB (v := (.int .i64 (-n9))) rfl) (qI rfl (zK (vs := [(.int .i64 (-n9))]) Tryz.func96 nm96 rfl rfl rfl ?_))
 refine dJ (qB (-n9) (by omega) (by omega) hX35.pins) ?_
 rintro _ w41 ⟨G40, rfl, hx42⟩
 refine ⟨_, rfl, ?_⟩
 have hX43 := hX35.tr hx42
 refine qD rfl (zB (v := (.string s)) rfl) (qD rfl (jO rfl rfl) (qe (zA ?_)))
 refine xV rfl rfl (fun h44 => ?_) (fun h44 => ?_)
 refine wp_skip (zA (zD (zE ?_)))
 refine qD rfl (zB (v := (.int .i64 (-n9))) rfl) (qD rfl (zC (v := (.int .i64 (-n9))) rfl) (qD rfl (zC (v := (.bool true)) rfl) (qe (zA ?_))))
 exact wp_ret (zQ (xG (v := (.int .i64 (-n9))) (u := (.bool true)) rfl rfl rfl rfl rfl (⟨_, _, _, rfl, fZ hrd (by omega) (by omega) (fun e9 => by have e8 := congrArg ByteArray.size e9; omega) (by omega) (by omega), hX43⟩)))
 refine zD (zE ?_)
 refine qD rfl (zC (v := (.int .i64 0)) rfl) (qD rfl (zC (v := (.bool false)) rfl) (qe (zA ?_)))
 exact wp_ret (zQ (xG (v := (.int .i64 0)) (u := (.bool false)) rfl rfl rfl rfl rfl (⟨_, _, _, rfl, tW hrd (by omega) (by omega) (fun e9 => by have e8 := congrArg ByteArray.size e9; omega) h44, hX43⟩)))
 refine wp_skip (zA (zD (zD (zE ?_))))
 refine qD rfl (zB (v := (.int .i64 n9)) rfl) (qI rfl (zK (vs := [(.int .i64 n9)]) Tryz.func96 nm96 rfl rfl rfl ?_))
 refine dJ (qB n9 (by omega) (by omega) hX35.pins) ?_
 rintro _ w46 ⟨G45, rfl, hx47⟩
 refine ⟨_, rfl, ?_⟩
 have hX48 := hX35.tr hx47
 refine qD rfl (zB (v := (.string s)) rfl) (qD rfl (jO rfl rfl) (qe (zA ?_)))
 refine xV rfl rfl (fun h49 => ?_) (fun h49 => ?_)
 refine wp_skip (zA (zD (zE ?_)))
 refine qD rfl (zB (v := (.int .i64 n9)) rfl) (qD rfl (zC (v := (.int .i64 n9)) rfl) (qD rfl (zC (v := (.bool true)) rfl) (qe (zA ?_))))
 exact wp_ret (zQ (xG (v := (.int .i64 n9)) (u := (.bool true)) rfl rfl rfl rfl rfl (⟨_, _, _, rfl, fZ hrd (by omega) (by omega) (fun e9 => by have e8 := congrArg ByteArray.size e9; omega) (by omega) (by omega), hX48⟩)))
 refine zD (zE ?_)
 refine qD rfl (zC (v := (.int .i64 0)) rfl) (qD rfl (zC (v := (.bool false)) rfl) (qe (zA ?_)))
 exact wp_ret (zQ (xG (v := (.int .i64 0)) (u := (.bool false)) rfl rfl rfl rfl rfl (⟨_, _, _, rfl, tW hrd (by omega) (by omega) (fun e9 => by have e8 := congrArg ByteArray.size e9; omega) h49, hX48⟩)))
 replace h31 := of_decide_eq_false h31
 refine zD (zE ?_)
 refine qD rfl (zC (v := (.int .i64 0)) rfl) (qD rfl (zC (v := (.bool false)) rfl) (qe (zA ?_)))
 exact wp_ret (zQ (xG (v := (.int .i64 0)) (u := (.bool false)) rfl rfl rfl rfl rfl (⟨_, _, _, rfl, rdd_len tI (by omega), hX30⟩)))
 refine qs rfl rfl rfl rfl rfl rfl (qs rfl rfl rfl rfl rfl rfl (qs rfl rfl rfl rfl rfl rfl (qD rfl (yN (v := (.bool false)) rfl rfl) (qe (zA ?_)))))
 refine vP rfl rfl (wp_skip (zA (zD (zD (zE ?_)))))
 refine qD rfl (zB (v := (.string s)) rfl) (qD rfl (qH eW rfl) (qI rfl (zK (vs := [(.int .i64 (s.size : Int)), (.int .i64 1), (.int .i64 6)]) Tryz.func95 nm95 rfl rfl rfl ?_)))
 refine dJ (gU hX0.pins) ?_
 rintro _ w51 ⟨G50, rfl, hx52⟩
 refine ⟨_, rfl, ?_⟩
 have hX53 := hX0.tr hx52
 refine qD rfl (xT rfl) (qe (zA ?_))
 refine xV rfl rfl (fun h54 => ?_) (fun h54 => ?_)
 replace h54 := of_decide_eq_true h54
 refine wp_skip (zA (zD (zE ?_)))
 refine qD rfl (zC (v := (.int .i64 0)) rfl) (qe (zA (zD (zD (zE ?_)))))
 refine qD rfl (zC (v := (.int .i64 0)) rfl) (qe (zA ?_))
 refine yI (yZ (fun (k : Nat) (en : Nat → Value) (W : World) => ∃ (env1 : Nat → Value) (j : Nat) (n9 : Int) (GL1 : Pin), en = (upd (upd (upd (upd env1 0 (.string s)) 4 (.string s)) 5 (.int .i64 n9)) 6 (.int .i64 (j : Int))) ∧ k = s.size - j ∧ Ext noS G w GL1 W ∧ Pin.le G50 GL1 ∧ (j ≤ s.size) ∧ (RdD s s j n9) ∧ (0 ≤ n9 ∧ n9 < pw10 j)) _ ⟨_, 0, 0, G50, (zF (x := 6) (zF (x := 5) (zF (x := 4) (yF (x := 0) rfl) rfl) rfl) rfl), rfl, hX53, Pin.le_refl _, Nat.zero_le _, tI, (by show (0:Int) ≤ 0 ∧ (0:Int) < 1; omega)⟩ ?_)
 rintro k55 _ w56 ⟨env1, j, n9, GL1, rfl, hk57, hX58, hlek55, hj, hrd, hn9⟩
 have hpj := mP (k := j) (by omega)
 refine zD (zD (zE ?_))
 refine qD rfl (zB (v := (.int .i64 (j : Int))) rfl) (qD rfl (zB (v := (.string s)) rfl) (qD rfl (qH eW rfl) (qD rfl (xB rfl rfl) (qe (zA ?_)))))
 refine yJ (p := ((j : Int) : Int) < (s.size : Int)) rfl rfl (fun h59 => ?_) (fun h59 => ?_)
 have hpn := tY (k := j) (by omega)
 refine wp_skip (zA (zD ?_))
 refine yI (zD (zD (zE ?_)))
 refine qD rfl (zB (v := (.string s)) rfl) (qD rfl (zB (v := (.int .i64 (j : Int))) rfl) (qD rfl (vZ eW rfl rfl (by omega) (by omega)) (qD rfl (xB rfl rfl) (qD rfl (zB (v := (.bool (decide ((((sB s j).toNat : Int) : Int) < 48)))) rfl) (qbd (p := (((sB s j).toNat : Int) : Int) < 48) (t := 32) rfl (fun h60 => ?_) (fun h60 => ?_))))))
 refine qs rfl rfl rfl rfl rfl rfl (qs rfl rfl rfl rfl rfl rfl (qs rfl rfl rfl rfl rfl rfl (qs rfl rfl rfl rfl rfl rfl (qD rfl (yG (v := (.bool true)) rfl rfl) (qe (zA ?_))))))
 refine qC rfl rfl (zD (zE ?_))
 refine qD rfl (zC (v := (.int .i64 0)) rfl) (qD rfl (zC (v := (.bool false)) rfl) (qe (zA ?_)))
 exact wp_ret (zQ (xG (v := (.int .i64 0)) (u := (.bool false)) rfl rfl rfl rfl rfl (⟨_, _, _, rfl, kZ hrd (by omega) (by omega), hX58⟩)))
 refine qdg rfl rfl rfl rfl rfl rfl (zB (v := (.string s)) rfl) (qdg rfl rfl rfl rfl rfl rfl (zB (v := (.int .i64 (j : Int))) rfl) (qdg rfl rfl rfl rfl rfl rfl (vZ eW rfl rfl (by omega) (by omega)) (qdg rfl rfl rfl rfl rfl rfl (qV rfl rfl) (qD rfl (yN (v := (.bool (decide ((57 : Int) < ((sB s j).toNat : Int))))) rfl rfl) (qe (zA ?_))))))
 refine yJ (p := (57 : Int) < ((sB s j).toNat : Int)) rfl rfl (fun h61 => ?_) (fun h61 => ?_)
 refine zD (zE ?_)
 refine qD rfl (zC (v := (.int .i64 0)) rfl) (qD rfl (zC (v := (.bool false)) rfl) (qe (zA ?_)))
 exact wp_ret (zQ (xG (v := (.int .i64 0)) (u := (.bool false)) rfl rfl rfl rfl rfl (⟨_, _, _, rfl, kZ hrd (by omega) (by omega), hX58⟩)))
 refine wp_skip (zA (zE ?_))
 refine qD rfl (zB (v := (.int .i64 n9)) rfl) (qD rfl (nL rfl rfl (by omega)) (qD rfl (zB (v := (.string s)) rfl) (qD rfl (zB (v := (.int .i64 (j : Int))) rfl) (qD rfl (vZ eW rfl rfl (by omega) (by omega)) (qD rfl (r_sub8 (i := ((sB s j).toNat : Int)) (j := 48) rfl rfl (by omega)) (qD rfl (fS (j := ((sB s j).toNat : Int) - 48) Tryz.underlying5 dF rfl (pZ (by omega))) (qD rfl (yT rfl rfl (by omega)) (qD rfl (zC (v := (.int .i64 ((10 * n9) + (((sB s j).toNat : Int) - 48)))) rfl) (qe (yO (zA (zE ?_))))))))))))
 refine qD rfl (zB (v := (.int .i64 (j : Int))) rfl) (qD rfl (yT rfl rfl (by omega)) (qD rfl (zC (v := (.int .i64 ((j : Int) + 1))) rfl) (qe (yR (⟨_, ?_, _, rfl, _, j + 1, (10 * n9) + (((sB s j).toNat : Int) - 48), GL1, (zF (x := 6) (zF (x := 5) (zF (x := 4) (yF (x := 0) rfl) rfl) rfl) rfl), rfl, hX58, hlek55, (by omega), (nJ hrd (by omega) (by omega) (by omega) (by omega)), (by omega)⟩)))))
 omega
 refine wp_exit (yK (yU (yV (zA (zD (zD (zE ?_)))))))
 refine qD rfl (zB (v := (.string s)) rfl) (qD rfl (qH eW rfl) (qD rfl (zB (v := (.string s)) rfl) (qD rfl (qH eW rfl) (qD rfl (xB rfl rfl) (qe (zA ?_))))))
 refine yJ (p := ((s.size : Int) : Int) < (s.size : Int)) rfl rfl (fun h62 => ?_) (fun h62 => ?_)
 refine zE (qD rfl (zB (v := (.int .i64 n9)) rfl) (qD rfl (r_neg rfl (by omega)) (qD rfl (zC (v := (.int .i64 (-n9))) rfl) (qe (zA (zD (zD (zE ?_))))))))
 refine qD rfl (zB (v := (.int .i64 (-n9))) rfl) (qI rfl (zK (vs := [(.int .i64 (-n9))]) Tryz.func96 nm96 rfl rfl rfl ?_))
 refine dJ (qB (-n9) (by omega) (by omega) hX58.pins) ?_
 rintro _ w64 ⟨G63, rfl, hx65⟩
 refine ⟨_, rfl, ?_⟩
 have hX66 := hX58.tr hx65
 refine qD rfl (zB (v := (.string s)) rfl) (qD rfl (jO rfl rfl) (qe (zA ?_)))
 refine xV rfl rfl (fun h67 => ?_) (fun h67 => ?_)
 refine wp_skip (zA (zD (zE ?_)))
 refine qD rfl (zB (v := (.int .i64 (-n9))) rfl) (qD rfl (zC (v := (.int .i64 (-n9))) rfl) (qD rfl (zC (v := (.bool true)) rfl) (qe (zA ?_))))
 exact wp_ret (zQ (xG (v := (.int .i64 (-n9))) (u := (.bool true)) rfl rfl rfl rfl rfl (⟨_, _, _, rfl, fZ hrd (by omega) (by omega) (fun e9 => by have e8 := congrArg ByteArray.size e9; omega) (by omega) (by omega), hX66⟩)))
 refine zD (zE ?_)
 refine qD rfl (zC (v := (.int .i64 0)) rfl) (qD rfl (zC (v := (.bool false)) rfl) (qe (zA ?_)))
 exact wp_ret (zQ (xG (v := (.int .i64 0)) (u := (.bool false)) rfl rfl rfl rfl rfl (⟨_, _, _, rfl, tW hrd (by omega) (by omega) (fun e9 => by have e8 := congrArg ByteArray.size e9; omega) h67, hX66⟩)))
 refine wp_skip (zA (zD (zD (zE ?_))))
 refine qD rfl (zB (v := (.int .i64 n9)) rfl) (qI rfl (zK (vs := [(.int .i64 n9)]) Tryz.func96 nm96 rfl rfl rfl ?_))
 refine dJ (qB n9 (by omega) (by omega) hX58.pins) ?_
 rintro _ w69 ⟨G68, rfl, hx70⟩
 refine ⟨_, rfl, ?_⟩
 have hX71 := hX58.tr hx70
 refine qD rfl (zB (v := (.string s)) rfl) (qD rfl (jO rfl rfl) (qe (zA ?_)))
 refine xV rfl rfl (fun h72 => ?_) (fun h72 => ?_)
 refine wp_skip (zA (zD (zE ?_)))
 refine qD rfl (zB (v := (.int .i64 n9)) rfl) (qD rfl (zC (v := (.int .i64 n9)) rfl) (qD rfl (zC (v := (.bool true)) rfl) (qe (zA ?_))))
 exact wp_ret (zQ (xG (v := (.int .i64 n9)) (u := (.bool true)) rfl rfl rfl rfl rfl (⟨_, _, _, rfl, fZ hrd (by omega) (by omega) (fun e9 => by have e8 := congrArg ByteArray.size e9; omega) (by omega) (by omega), hX71⟩)))
 refine zD (zE ?_)
 refine qD rfl (zC (v := (.int .i64 0)) rfl) (qD rfl (zC (v := (.bool false)) rfl) (qe (zA ?_)))
 exact wp_ret (zQ (xG (v := (.int .i64 0)) (u := (.bool false)) rfl rfl rfl rfl rfl (⟨_, _, _, rfl, tW hrd (by omega) (by omega) (fun e9 => by have e8 := congrArg ByteArray.size e9; omega) h72, hX71⟩)))
 replace h54 := of_decide_eq_false h54
 refine zD (zE ?_)
 refine qD rfl (zC (v := (.int .i64 0)) rfl) (qD rfl (zC (v := (.bool false)) rfl) (qe (zA ?_)))
 exact wp_ret (zQ (xG (v := (.int .i64 0)) (u := (.bool false)) rfl rfl rfl rfl rfl (⟨_, _, _, rfl, rdd_len tI (by omega), hX53⟩)))
end PTB
end Go.Proofs.YtajkbplgbikgdaaGreatDoor
namespace Go.Proofs.YtajkbplgbikgdaaGreatDoor
namespace PTC
open Go.RowKit Go.GL Go.Proofs
open PT3 PTB
theorem jU {w : World} {G : Pin} {s : ByteArray} (hP : Pins G w) (hs : s.size ≤ 100000) :
  Calls Tryz.prog 57 [(.string s)].toArray w fun e w' => ∃ (u : Value) (l : List Int) (G' : Pin), e = .returned u ∧ RSl eInt G' u l ∧ RdL s l true ∧ Ext noS G w G' w' := by
 refine yM (n := 34) Tryz.func57 Tryz.ntmps57 rfl rfl ?_
 have hX0 := exr noS hP
 refine zD (zE ?_)
 refine qD rfl (zC (v := (.slice none 0 0)) rfl) (qe (zA (zD (zE ?_))))
 refine qI rfl (xF (E := eInt) (e := 3) eR sz3 hX0.pins (fun u1 w2 ho3 hp4 hl5 hk6 => ?_))
 have hX7 := hX0.step hp4 hl5
 have ho8 := ho3.weaken hX0.size
 refine qD rfl (zC (v := u1) rfl) (qe (zA (zD (zE ?_))))
 refine qD rfl (zB (v := (.string s)) rfl) (qI rfl (zK (vs := [(.string s), (.int .u8 44)]) Tryz.func56 nm56 rfl rfl rfl ?_))
 refine dJ (vQ (s := s) (c := 44) hX7.pins (by omega)) ?_
 rintro _ w11 ⟨u9, G10, rfl, ho12, hx13⟩
 refine ⟨_, rfl, ?_⟩
 have ho17 := ho12.weaken hX7.size
 have hm18 := jG 44 s
 have hm19 := kA 44 s
 refine qD rfl (zC (v := u9) rfl) (qe (zA (zD (zD (zE ?_)))))
 refine qD rfl (zC (v := (.int .i64 0)) rfl) (qe (zA ?_))
 refine yI (yZ (fun (k : Nat) (en : Nat → Value) (W : World) => ∃ (env1 : Nat → Value) (j : Nat) (ov : Value) (os : List Int) (GL1 : Pin), en = (upd (upd (upd (upd (upd env1 0 (.string s)) 2 (.slice none 0 0)) 3 ov) 4 u9) 5 (.int .i64 (j : Int))) ∧ k = (partsB 44 s).length - j ∧ Ext noS G w GL1 W ∧ Pin.le G10 GL1 ∧ (j ≤ (partsB 44 s).length) ∧ (LsI s j os) ∧ (Own eInt 3 GL1 W w.heap.size ov (os)) ∧ (Own eStr 9 GL1 W w.heap.size u9 (partsB 44 s)) ∧ (Apart ov.ownBlock u9.ownBlock)) _ ⟨_, 0, u1, [], G10, (zF (x := 5) (zF (x := 4) (zF (x := 3) (zF (x := 2) (yF (x := 0) rfl) rfl) rfl) rfl) rfl), rfl, (hX7.tr hx13), Pin.le_refl _, Nat.zero_le _, lsI_zero, (ho8.ext hx13), ho17, (zV ho12.lt ho8.lt).symm⟩ ?_)
 rintro k20 _ w21 ⟨env1, j, ov, os, GL1, rfl, hk22, hX23, hlek20, hj, hli, hw24, hw25, ha26⟩
 have hol := hli.len
 refine zD (zD (zE ?_))
 refine qD rfl (zB (v := (.int .i64 (j : Int))) rfl) (qD rfl (zB (v := u9) rfl) (qD rfl (run_len eZ (v := u9) rfl hw25.read) (qD rfl (xB rfl rfl) (qD rfl (zB (v := (.bool (decide (((j : Int) : Int) < ((partsB 44 s).length : Int))))) rfl) (qbd (p := ((j : Int) : Int) < ((partsB 44 s).length : Int)) (t := 15) rfl (fun h27 => ?_) (fun h27 => ?_))))))
 refine qdg rfl rfl rfl rfl rfl rfl (zB (v := (.string s)) rfl) (qdg rfl rfl rfl rfl rfl rfl (jO rfl rfl) (qD rfl (yG (v := (.bool (!(s.toList == (⟨#[]⟩ : ByteArray).toList)))) rfl rfl) (qe (zA ?_))))
 refine xV rfl rfl (fun h28 => ?_) (fun h28 => ?_)
 refine wp_exit (yK (yU (yV (zA (zD (zE ?_))))))
 refine qD rfl (zB (v := ov) rfl) (qD rfl (zC (v := ov) rfl) (qe (zA ?_)))
 refine wp_ret (zQ (yA (v := ov) rfl rfl rfl ?_))
 obtain ⟨G29, hle32, hX31, hr30, hf33⟩ := hw24.sealed hX23
 exact ⟨_, _, _, rfl, hr30, rdl_emp (fV h28) hli hj, hX31⟩
 refine wp_skip (zA (zD ?_))
 refine yI (zD (zE ?_))
 have hs0 := tS h28
 have hwz := qG 44 s _ (xE (d := ByteArray.empty) (show j < (partsB 44 s).length by omega))
 refine qD rfl (zB (v := u9) rfl) (qD rfl (zB (v := (.int .i64 (j : Int))) rfl) (qD rfl (zL eZ sz9 (v := u9) rfl rfl hw25.read (by omega) (by omega)) (qD rfl (xK (r := (partsB 44 s).getD j ByteArray.empty) rfl ag9 (z := (j : Int)) rfl hw25.read (Gadd.pins hX23.pins u9) (by omega) (by omega)) (qI rfl (zK (vs := [(.string ((partsB 44 s).getD j ByteArray.empty))]) Tryz.func58 nm58 rfl rfl rfl ?_)))))
 refine dJ (jE (s := ((partsB 44 s).getD j ByteArray.empty)) hX23.pins (by omega)) ?_
 rintro _ w38 ⟨n35, ok36, G37, rfl, hrn39, hx40⟩
 refine ⟨_, rfl, ?_⟩
 have hX41 := hX23.tr hx40
 have hm44 := hrn39.lo
 have hm45 := hrn39.hi
 refine qD rfl (zB (v := (.tuple #[(.int .i64 n35), (.bool ok36)])) rfl) (qD rfl (yB (v := (.int .i64 n35)) rfl rfl) (qD rfl (yB (v := (.bool ok36)) rfl rfl) (qD rfl (zC (v := (.int .i64 n35)) rfl) (qD rfl (zC (v := (.bool ok36)) rfl) (qe (zA (zE ?_)))))))
 refine qD rfl (zB (v := ov) rfl) (qD rfl (zB (v := (.int .i64 n35)) rfl) (qI rfl (xI (E := eInt) (e := 3) [(.int .i64 n35)] [n35] eR sz3 zr3 (by exact qQ (by rfl)) (yE (by rfl)) rfl rfl rfl rfl (by decide) hX41.pins (fun u46 w47 ho48 hp49 hl50 hk51 => ?_))))
 have hX52 := hX41.step hp49 hl50
 have ho53 := (hw24.ext hx40).below hl50
 have ho54 := (hw25.ext hx40).below hl50
 have ho57 := ho48.weaken hX41.size
 refine qI rfl (yH (E := eInt) (v := ov) (u := u46) 8 eR ap3 (by decide) rfl rfl hX52.pins ho53 ho57.src (by first | omega | (rw [List.nil_append]; omega) | (rw [List.length_nil]; omega) | (rw [List.length_append]; omega) | (simp; done) | (simp; omega) | (simp only [List.length_cons, List.length_nil]; omega) | (simp only [List.length_append, List.length_cons, List.length_nil]; omega)) (by first | omega | (rw [List.nil_append]; omega) | (rw [List.length_nil]; omega) | (rw [List.length_append]; omega) | (simp; done) | (simp; omega) | (simp only [List.length_cons, List.length_nil]; omega) | (simp only [List.length_append, List.length_cons, List.length_nil]; omega)) (hX52.size) (fun u58 w59 ho60 hp61 hg62 hw63 => ?_))
 have hm69 := la1 os n35
 refine qD rfl (zC (v := u58) rfl) (qe (yO (zA (zE ?_))))
 refine qD rfl (zB (v := (.int .i64 (j : Int))) rfl) (qD rfl (yT rfl rfl (by omega)) (qD rfl (zC (v := (.int .i64 ((j : Int) + 1))) rfl) (qe (yR (⟨_, ?_, _, rfl, _, j + 1, u58, os ++ ([n35]), G37, (zF (x := 5) (zF (x := 4) (zF (x := 3) (zF (x := 2) (yF (x := 0) rfl) rfl) rfl) rfl) rfl), rfl, (hX52.write hp61 hg62 ((yQ ho53))), (dH hlek20 hx40.le), (by omega), (lsI_next hs0 hli (by omega) hrn39), ho60, (ho54.keptA hg62 ha26.symm), (zJ ha26.symm hw63 ho54.lt).symm⟩)))))
 omega
 refine qs rfl rfl rfl rfl rfl rfl (qs rfl rfl rfl rfl rfl rfl (qD rfl (yN (v := (.bool false)) rfl rfl) (qe (zA ?_))))
 refine vP rfl rfl (wp_exit (yK (yU (yV (zA (zD (zE ?_)))))))
 refine qD rfl (zB (v := ov) rfl) (qD rfl (zC (v := ov) rfl) (qe (zA ?_)))
 refine wp_ret (zQ (yA (v := ov) rfl rfl rfl ?_))
 obtain ⟨G70, hle73, hX72, hr71, hf74⟩ := hw24.sealed hX23
 exact ⟨_, _, _, rfl, hr71, (if h9 : s.size = 0 then rdl_emp h9 hli hj else lsI_done h9 hli (by omega) hj), hX72⟩
end PTC
end Go.Proofs.YtajkbplgbikgdaaGreatDoor
namespace Go.Proofs.YtajkbplgbikgdaaGreatDoor
namespace PTD
open Go.RowKit Go.GL Go.Proofs
open PT3 PT4 PT5 PT6 PTB PTC
theorem pl38 : (Tryz.prog.underlying 38).bind (placesD Tryz.prog) = some [(0, 1)] := by kernel_rfl
theorem pl72 : (Tryz.prog.underlying 72).bind (placesD Tryz.prog) = some [(0, 1), (1, 1), (2, 1), (3, 1)] := by kernel_rfl
theorem mH {w : World} {G : Pin} {s : ByteArray} (hP : Pins G w) :
  Calls Tryz.prog 20 [(.string s)].toArray w fun e w' => ∃ (u : Value) (q : List Cl) (ok : Bool) (G' : Pin), e = .returned (.tuple #[(.agg [u].toArray), .bool ok]) ∧ RSl eClaim G' u q ∧ RdP s q ok ∧ Ext noS G w G' w' := by
 refine yM (n := 88) Tryz.func20 Tryz.ntmps20 rfl rfl ?_
 have hX0 := exr noS hP
 refine zD (zE ?_)
 refine qI rfl (yL [(.slice none 0 0)] zr38 rfl hX0.pins (fun b1 w2 hk3 hb4 hp5 hl6 => ?_))
 have hX7 := hX0.step hp5 hl6
 have hlo8 : w.heap.size ≤ b1 := by have := hX0.size; omega
 refine qD rfl (zC (v := (.bool false)) rfl) (qe (zA (zD (zE ?_))))
 refine qI rfl (xF (E := eClaim) (e := 72) eU sz72 hX7.pins (fun u9 w10 ho11 hp12 hl13 hk14 => ?_))
 have hX15 := hX7.step hp12 hl13
 have hb16 := hb4.below hl13
 have ho18 := ho11.weaken hX7.size
 refine qD rfl (yY [(.slice none 0 0)] [u9] [(0, u9, [u9])] eV zr38 rfl pl38 rfl (List.forall_mem_cons.2 ⟨(yW ho18.one), (fun _ h => by cases h)⟩) rfl) (qI rfl (yL [(.slice none 0 0)] zr38 rfl hX15.pins (fun b19 w20 hk21 hb22 hp23 hl24 => ?_)))
 have hX25 := hX15.step hp23 hl24
 have ho26 := ho18.below hl24
 have ha28 : Apart (some b19) u9.ownBlock := zI (congrArg some hk21) ho18.lt
 have ha29 : Apart (some b19) (some b1) := zG (congrArg some hk21) hb16.lt
 have hlo30 : w.heap.size ≤ b19 := by have := hX15.size; omega
 refine q0 rfl rfl rfl (yD (cs' := [u9]) (us := [u9]) (v := (.agg [u9].toArray)) sz38 rfl rfl rfl (yE ho26.one) hX25.pins hb22 (dK rfl) rfl (fun w31 hb32 hp33 hg34 hz35 => ?_))
 have hX36 := hX25.write hp33 hg34 ((zS hlo30))
 have ho37 := ho26.keptA hg34 ha28.symm
 have hb38 := (hb16.below hl24).keptA hg34 ha29.symm
 refine qe (zA (zD (zD (zE ?_))))
 refine qD rfl (zB (v := (.string s)) rfl) (qD rfl (qH eW rfl) (qD rfl (qV rfl rfl) (qe (zA ?_))))
 refine yJ (p := (4000 : Int) < (s.size : Int)) rfl rfl (fun h39 => ?_) (fun h39 => ?_)
 refine zD (zE ?_)
 refine qD rfl (yY [(.slice none 0 0)] [(.slice none 0 0)] [] eV zr38 rfl pl38 rfl (fun _ h => by cases h) rfl) (q0 rfl rfl rfl (yD (cs' := [(.slice none 0 0)]) (us := [(.slice none 0 0)]) (v := (.agg [(.slice none 0 0)].toArray)) sz38 rfl rfl rfl (yE (by rfl)) hX36.pins hb38 (dK rfl) rfl (fun w40 hb41 hp42 hg43 hz44 => ?_)))
 refine qD rfl (zC (v := (.bool false)) rfl) (qe (zA ?_))
 exact wp_ret (zQ (xN (cs := [(.slice none 0 0)]) (v := (.bool false)) rfl rfl rfl rfl rfl ag38 sz38 (fun j u hj => by rw [Nat.zero_add]; exact hb41.cell hj) (⟨_, _, _, _, rfl, (yX _ _), rdp_long (by omega), (hX36.write hp42 hg43 ((zS hlo8)))⟩)))
 refine wp_skip (zA (zD (zE ?_)))
 refine qD rfl (zB (v := (.string s)) rfl) (qI rfl (zK (vs := [(.string s), (.int .u8 59)]) Tryz.func56 nm56 rfl rfl rfl ?_))
 refine dJ (vQ (s := s) (c := 59) hX36.pins (by omega)) ?_
 rintro _ w50 ⟨u48, G49, rfl, ho51, hx52⟩
 refine ⟨_, rfl, ?_⟩
 have ha59 : Apart u48.ownBlock (some b19) := zX ho51.lt hb32.lt
 have ho60 := ho51.weaken hX36.size
 have hm61 := jG 59 s
 have hm62 := kA 59 s
 refine qD rfl (zC (v := u48) rfl) (qe (zA (zD (zD (zE ?_)))))
 refine qD rfl (zC (v := (.int .i64 0)) rfl) (qe (zA ?_))
 refine yI (yZ (fun (k : Nat) (en : Nat → Value) (W : World) => ∃ (env1 : Nat → Value) (j : Nat) (ov : Value) (os : List Cl) (GL1 : Pin), en = (upd (upd (upd (upd (upd env1 0 (.string s)) 2 (.pointer (some ⟨b1, 0, none⟩))) 4 (.pointer (some ⟨b19, 0, none⟩))) 5 u48) 6 (.int .i64 (j : Int))) ∧ k = (partsB 59 s).length - j ∧ Ext noS G w GL1 W ∧ Pin.le G49 GL1 ∧ (j ≤ (partsB 59 s).length) ∧ (LcI s j os) ∧ (Own eClaim 72 GL1 W w.heap.size ov (os)) ∧ (Own eStr 9 GL1 W w.heap.size u48 (partsB 59 s)) ∧ (Bx GL1 W b1 [(.slice none 0 0)]) ∧ (Bx GL1 W b19 [ov]) ∧ (Apart ov.ownBlock u48.ownBlock) ∧ (Apart ov.ownBlock (some b1)) ∧ (Apart ov.ownBlock (some b19))) _ ⟨_, 0, u9, [], G49, (zF (x := 6) (zF (x := 5) (zF (x := 4) (zF (x := 2) (yF (x := 0) rfl) rfl) rfl) rfl) rfl), rfl, (hX36.tr hx52), Pin.le_refl _, Nat.zero_le _, lcI_zero, (ho37.ext hx52), ho60, (hb38.ext hx52), (hb32.ext hx52), (zV ho51.lt ho37.lt).symm, (zG hk14 hb4.lt), ha28.symm⟩ ?_)
 rintro k63 _ w64 ⟨env1, j, ov, os, GL1, rfl, hk65, hX66, hlek63, hj, hli, hw67, hw68, hw69, hw70, ha71, ha72, ha73⟩
 have hol := hli.len
 refine zD (zD (zE ?_))
 refine qD rfl (zB (v := (.int .i64 (j : Int))) rfl) (qD rfl (zB (v := u48) rfl) (qD rfl (run_len eZ (v := u48) rfl hw68.read) (qD rfl (xB rfl rfl) (qD rfl (zB (v := (.bool (decide (((j : Int) : Int) < ((partsB 59 s).length : Int))))) rfl) (qbd (p := ((j : Int) : Int) < ((partsB 59 s).length : Int)) (t := 22) rfl (fun h74 => ?_) (fun h74 => ?_))))))
 refine qdg rfl rfl rfl rfl rfl rfl (zB (v := (.string s)) rfl) (qdg rfl rfl rfl rfl rfl rfl (jO rfl rfl) (qD rfl (yG (v := (.bool (!(s.toList == (⟨#[]⟩ : ByteArray).toList)))) rfl rfl) (qe (zA ?_))))
 refine xV rfl rfl (fun h75 => ?_) (fun h75 => ?_)
 refine wp_exit (yK (yU (yV (zA (zD (zD (zE ?_)))))))
 have hac : AllC s os := if h9 : s.size = 0 then allC_emp h9 hli else nW h9 hli (by first | omega | exact absurd (fV (by first | assumption | simp_all)) h9)
 have hlb := hli.lb
 refine qD rfl (zU (cs := [ov]) ag38 sz38 rfl (fun j u hj => hw70.cell (by simpa using hj))) ?_
 obtain ⟨G76, hle79, hX78, hr77, hf80⟩ := hw67.sealed hX66
 refine qI rfl (zK (vs := [(.agg [ov].toArray)]) Tryz.func49 nm49 rfl rfl rfl ?_)
 refine dJ (fL hX78.pins hr77 hlb) ?_
 rintro _ w85 ⟨G84, rfl, hx86⟩
 refine ⟨_, rfl, ?_⟩
 have hX87 := hX78.tr hx86
 have hb89 := (hw69.moreO hf80 ha72.symm).ext hx86
 have hb90 := (hw70.moreO hf80 ha73.symm).ext hx86
 refine qD rfl (xT rfl) (qD rfl (zB (v := (.bool (!(tdB os)))) rfl) (qbn (t := 80) rfl (fun h91 => ?_) (fun h91 => ?_)))
 refine qdg rfl rfl rfl rfl rfl rfl (zU (cs := [ov]) ag38 sz38 rfl (fun j u hj => hb90.cell (by simpa using hj))) (q1g rfl rfl rfl rfl rfl rfl (zK (vs := [(.agg [ov].toArray)]) Tryz.func50 nm50 rfl rfl rfl ?_))
 refine dJ (jT hX87.pins (hr77.mono hx86.le) hlb (nA h91)) ?_
 rintro _ w94 ⟨z92, G93, rfl, htx95, hx96⟩
 refine ⟨_, rfl, ?_⟩
 have hX97 := hX87.tr hx96
 have hb99 := hb89.ext hx96
 have hm101 := htx95.hi
 refine qdg rfl rfl rfl rfl rfl rfl (zB (v := (.string s)) rfl) (qdg rfl rfl rfl rfl rfl rfl (jO rfl rfl) (qD rfl (yN (v := (.bool (!(z92.toList == s.toList)))) rfl rfl) (qe (zA ?_))))
 refine xV rfl rfl (fun h102 => ?_) (fun h102 => ?_)
 refine wp_skip (zA (zD (zE ?_)))
 refine qD rfl (zU (cs := [ov]) ag38 sz38 rfl (fun j u hj => (hb90.ext hx96).cell (by simpa using hj))) (q0 rfl rfl rfl (yD (cs' := [ov]) (us := [ov]) (v := (.agg [ov].toArray)) sz38 rfl rfl rfl (yE hr77.one) hX97.pins hb99 (dK rfl) rfl (fun w103 hb104 hp105 hg106 hz107 => ?_)))
 refine qD rfl (zC (v := (.bool true)) rfl) (qe (zA ?_))
 exact wp_ret (zQ (xN (cs := [ov]) (v := (.bool true)) rfl rfl rfl rfl rfl ag38 sz38 (fun j u hj => by rw [Nat.zero_add]; exact hb104.cell hj) (⟨_, _, _, _, rfl, (hr77.mono (dH hx86.le hx96.le)), mN hac h91 (tE h91 htx95 ▸ h102), (hX97.write hp105 hg106 ((zS hlo8)))⟩)))
 refine zD (zE ?_)
 refine qD rfl (yY [(.slice none 0 0)] [(.slice none 0 0)] [] eV zr38 rfl pl38 rfl (fun _ h => by cases h) rfl) (q0 rfl rfl rfl (yD (cs' := [(.slice none 0 0)]) (us := [(.slice none 0 0)]) (v := (.agg [(.slice none 0 0)].toArray)) sz38 rfl rfl rfl (yE (by rfl)) hX97.pins hb99 (dK rfl) rfl (fun w111 hb112 hp113 hg114 hz115 => ?_)))
 refine qD rfl (zC (v := (.bool false)) rfl) (qe (zA ?_))
 exact wp_ret (zQ (xN (cs := [(.slice none 0 0)]) (v := (.bool false)) rfl rfl rfl rfl rfl ag38 sz38 (fun j u hj => by rw [Nat.zero_add]; exact hb112.cell hj) (⟨_, _, _, _, rfl, (yX _ _), mO hac h91 (tE h91 htx95 ▸ h102), (hX97.write hp113 hg114 ((zS hlo8)))⟩)))
 refine qs rfl rfl rfl rfl rfl rfl (qs rfl rfl rfl rfl rfl rfl (qs rfl rfl rfl rfl rfl rfl (qs rfl rfl rfl rfl rfl rfl (qD rfl (yG (v := (.bool true)) rfl rfl) (qe (zA ?_))))))
 refine qC rfl rfl (zD (zE ?_))
 refine qD rfl (yY [(.slice none 0 0)] [(.slice none 0 0)] [] eV zr38 rfl pl38 rfl (fun _ h => by cases h) rfl) (q0 rfl rfl rfl (yD (cs' := [(.slice none 0 0)]) (us := [(.slice none 0 0)]) (v := (.agg [(.slice none 0 0)].toArray)) sz38 rfl rfl rfl (yE (by rfl)) hX87.pins hb89 (dK rfl) rfl (fun w119 hb120 hp121 hg122 hz123 => ?_)))
 refine qD rfl (zC (v := (.bool false)) rfl) (qe (zA ?_))
 exact wp_ret (zQ (xN (cs := [(.slice none 0 0)]) (v := (.bool false)) rfl rfl rfl rfl rfl ag38 sz38 (fun j u hj => by rw [Nat.zero_add]; exact hb120.cell hj) (⟨_, _, _, _, rfl, (yX _ _), rdp_no hac h91, (hX87.write hp121 hg122 ((zS hlo8)))⟩)))
 refine wp_skip (zA (zD ?_))
 refine yI (zD (zE ?_))
 have hs0 := tS h75
 have hwz : ((partsB 59 s).getD j ByteArray.empty).size ≤ s.size := qG 59 s _ (xE (d := ByteArray.empty) (show j < (partsB 59 s).length by omega))
 refine qD rfl (zB (v := u48) rfl) (qD rfl (zB (v := (.int .i64 (j : Int))) rfl) (qD rfl (zL eZ sz9 (v := u48) rfl rfl hw68.read (by omega) (by omega)) (qD rfl (xK (r := (partsB 59 s).getD j ByteArray.empty) rfl ag9 (z := (j : Int)) rfl hw68.read (Gadd.pins hX66.pins u48) (by omega) (by omega)) (qI rfl (zK (vs := [(.string ((partsB 59 s).getD j ByteArray.empty)), (.int .u8 58)]) Tryz.func56 nm56 rfl rfl rfl ?_)))))
 refine dJ (vQ (s := ((partsB 59 s).getD j ByteArray.empty)) (c := 58) hX66.pins (by omega)) ?_
 rintro _ w129 ⟨u127, G128, rfl, ho130, hx131⟩
 refine ⟨_, rfl, ?_⟩
 have hX132 := hX66.tr hx131
 have ho141 := ho130.weaken hX66.size
 have hm142 := jG 58 ((partsB 59 s).getD j ByteArray.empty)
 have hm143 := kA 58 ((partsB 59 s).getD j ByteArray.empty)
 refine qD rfl (zC (v := u127) rfl) (qe (zA (zD (zE ?_))))
 have hf0 : ((partsB 58 ((partsB 59 s).getD j ByteArray.empty)).getD 0 ByteArray.empty).size ≤ ((partsB 59 s).getD j ByteArray.empty).size := jL (by omega)
 refine qD rfl (zB (v := u127) rfl) (qD rfl (zL eZ sz9 (v := u127) rfl rfl ho141.read (by omega) (by omega)) (qD rfl (xK (r := (partsB 58 ((partsB 59 s).getD j ByteArray.empty)).getD 0 ByteArray.empty) rfl ag9 (z := 0) rfl ho141.read (Gadd.pins hX132.pins u127) (by omega) (by omega)) (qI rfl (zK (vs := [(.string ((partsB 58 ((partsB 59 s).getD j ByteArray.empty)).getD 0 ByteArray.empty)), (.int .u8 32)]) Tryz.func56 nm56 rfl rfl rfl ?_))))
 refine dJ (vQ (s := ((partsB 58 ((partsB 59 s).getD j ByteArray.empty)).getD 0 ByteArray.empty)) (c := 32) hX132.pins (by omega)) ?_
 rintro _ w146 ⟨u144, G145, rfl, ho147, hx148⟩
 refine ⟨_, rfl, ?_⟩
 have hX149 := hX132.tr hx148
 have ho152 := ho141.ext hx148
 have hb153 := (hw69.ext hx131).ext hx148
 have ho160 := ho147.weaken hX132.size
 have hm161 := jG 32 ((partsB 58 ((partsB 59 s).getD j ByteArray.empty)).getD 0 ByteArray.empty)
 have hm162 := kA 32 ((partsB 58 ((partsB 59 s).getD j ByteArray.empty)).getD 0 ByteArray.empty)
 refine qD rfl (zC (v := u144) rfl) (qe (zA (zD (zD (zE ?_)))))
 refine qD rfl (zB (v := u127) rfl) (qD rfl (run_len eZ (v := u127) rfl ho152.read) (qD rfl (kK rfl rfl) (qD rfl (zB (v := (.bool (decide ((((partsB 58 ((partsB 59 s).getD j ByteArray.empty)).length : Int) : Int) ≠ 3)))) rfl) (qbd (p := (((partsB 58 ((partsB 59 s).getD j ByteArray.empty)).length : Int) : Int) ≠ 3) (t := 40) rfl (fun h163 => ?_) (fun h163 => ?_)))))
 refine qs rfl rfl rfl rfl rfl rfl (qs rfl rfl rfl rfl rfl rfl (qs rfl rfl rfl rfl rfl rfl (qD rfl (yG (v := (.bool true)) rfl rfl) (qe (zA ?_)))))
 refine qC rfl rfl (zD (zE ?_))
 refine qD rfl (yY [(.slice none 0 0)] [(.slice none 0 0)] [] eV zr38 rfl pl38 rfl (fun _ h => by cases h) rfl) (q0 rfl rfl rfl (yD (cs' := [(.slice none 0 0)]) (us := [(.slice none 0 0)]) (v := (.agg [(.slice none 0 0)].toArray)) sz38 rfl rfl rfl (yE (by rfl)) hX149.pins hb153 (dK rfl) rfl (fun w164 hb165 hp166 hg167 hz168 => ?_)))
 have hX169 := hX149.write hp166 hg167 ((zS hlo8))
 refine qD rfl (zC (v := (.bool false)) rfl) (qe (zA ?_))
 exact wp_ret (zQ (xN (cs := [(.slice none 0 0)]) (v := (.bool false)) rfl rfl rfl rfl rfl ag38 sz38 (fun j u hj => by rw [Nat.zero_add]; exact hb165.cell hj) (⟨_, _, _, _, rfl, (yX _ _), nV (j := j) hs0 (by omega) (rdc_nos (fun k => by have k1 := k.1; have k2 := k.2; unfold fld at k2; omega)), hX169⟩)))
 refine qdg rfl rfl rfl rfl rfl rfl (zB (v := u144) rfl) (qdg rfl rfl rfl rfl rfl rfl (run_len eZ (v := u144) rfl ho160.read) (qdg rfl rfl rfl rfl rfl rfl (kK rfl rfl) (qD rfl (yN (v := (.bool (decide ((((partsB 32 ((partsB 58 ((partsB 59 s).getD j ByteArray.empty)).getD 0 ByteArray.empty)).length : Int) : Int) ≠ 2)))) rfl rfl) (qe (zA ?_)))))
 refine yJ (p := (((partsB 32 ((partsB 58 ((partsB 59 s).getD j ByteArray.empty)).getD 0 ByteArray.empty)).length : Int) : Int) ≠ 2) rfl rfl (fun h175 => ?_) (fun h175 => ?_)
 refine zD (zE ?_)
 refine qD rfl (yY [(.slice none 0 0)] [(.slice none 0 0)] [] eV zr38 rfl pl38 rfl (fun _ h => by cases h) rfl) (q0 rfl rfl rfl (yD (cs' := [(.slice none 0 0)]) (us := [(.slice none 0 0)]) (v := (.agg [(.slice none 0 0)].toArray)) sz38 rfl rfl rfl (yE (by rfl)) hX149.pins hb153 (dK rfl) rfl (fun w176 hb177 hp178 hg179 hz180 => ?_)))
 have hX181 := hX149.write hp178 hg179 ((zS hlo8))
 refine qD rfl (zC (v := (.bool false)) rfl) (qe (zA ?_))
 exact wp_ret (zQ (xN (cs := [(.slice none 0 0)]) (v := (.bool false)) rfl rfl rfl rfl rfl ag38 sz38 (fun j u hj => by rw [Nat.zero_add]; exact hb177.cell hj) (⟨_, _, _, _, rfl, (yX _ _), nV (j := j) hs0 (by omega) (rdc_nos (fun k => by have k1 := k.1; have k2 := k.2; unfold fld at k2; omega)), hX181⟩)))
 refine wp_skip (zA (zD ?_))
 have hf1 : ((partsB 58 ((partsB 59 s).getD j ByteArray.empty)).getD 1 ByteArray.empty).size ≤ ((partsB 59 s).getD j ByteArray.empty).size := jL (by omega)
 have hf2 : ((partsB 58 ((partsB 59 s).getD j ByteArray.empty)).getD 2 ByteArray.empty).size ≤ ((partsB 59 s).getD j ByteArray.empty).size := jL (by omega)
 have hr188 := ho152.read
 refine xD (S := fun wz => Pins (Gadd G145 w146 u127) wz) (last := 10) (by kernel_rfl) rfl ?_
 have hl189 := bdr w146
 have hX191 := hX149.step (hX149.pins.below hl189) hl189
 have ho192 := ((hw67.ext hx131).ext hx148).below hl189
 have ho193 := ((hw68.ext hx131).ext hx148).below hl189
 have ho195 := ho160.below hl189
 have hb196 := hb153.below hl189
 have hb197 := ((hw70.ext hx131).ext hx148).below hl189
 have hq198 := (Gadd.pins hX149.pins u127).below hl189
 refine dT (i := 0) rfl rfl (by kernel_rfl) (fun _ _ => zB (v := u127) rfl) hq198 ?_
 refine dT (i := 1) rfl rfl (by kernel_rfl) (fun _ _ => zL eZ sz9 (v := u127) rfl rfl hr188 (by omega) (by omega)) hq198 ?_
 refine dT (i := 2) rfl rfl (by kernel_rfl) (fun _ hS => xK (r := (partsB 58 ((partsB 59 s).getD j ByteArray.empty)).getD 1 ByteArray.empty) rfl ag9 (z := 1) rfl hr188 hS (by omega) (by omega)) hq198 ?_
 refine dT (i := 4) rfl rfl (by kernel_rfl) (fun _ _ => zB (v := u127) rfl) hq198 ?_
 refine dT (i := 5) rfl rfl (by kernel_rfl) (fun _ _ => zL eZ sz9 (v := u127) rfl rfl hr188 (by omega) (by omega)) hq198 ?_
 refine dT (i := 6) rfl rfl (by kernel_rfl) (fun _ hS => xK (r := (partsB 58 ((partsB 59 s).getD j ByteArray.empty)).getD 2 ByteArray.empty) rfl ag9 (z := 2) rfl hr188 hS (by omega) (by omega)) hq198 ?_
 refine jI (i := 3) (j := 9) (by kernel_rfl) ?_ ?_
 refine (yC (i := 3) rfl rfl rfl (zH rfl _) (zK (vs := [(.string ((partsB 58 ((partsB 59 s).getD j ByteArray.empty)).getD 1 ByteArray.empty))]) Tryz.func57 nm57 rfl rfl rfl ?_))
 refine dJ (jU (s := ((partsB 58 ((partsB 59 s).getD j ByteArray.empty)).getD 1 ByteArray.empty)) hX191.pins (by omega)) ?_
 rintro _ w202 ⟨u199, l200, G201, rfl, hr203, hrl204, hx205⟩
 refine ⟨_, rfl, ?_⟩
 have hX206 := hX191.tr hx205
 have ho207 := ho192.ext hx205
 have ho208 := ho193.ext hx205
 have ho210 := ho195.ext hx205
 have hb211 := hb196.ext hx205
 have hb212 := hb197.ext hx205
 have hq213 := hq198.below hx205.below
 refine ⟨fun _ => hq213, ?_⟩
 refine jI (i := 7) (j := 9) (by kernel_rfl) ?_ ?_
 refine (yC (i := 7) rfl rfl rfl (zH rfl _) (zK (vs := [(.string ((partsB 58 ((partsB 59 s).getD j ByteArray.empty)).getD 2 ByteArray.empty))]) Tryz.func57 nm57 rfl rfl rfl ?_))
 refine dJ (jU (s := ((partsB 58 ((partsB 59 s).getD j ByteArray.empty)).getD 2 ByteArray.empty)) hX206.pins (by omega)) ?_
 rintro _ w217 ⟨u214, l215, G216, rfl, hr218, hrl219, hx220⟩
 refine ⟨_, rfl, ?_⟩
 have hX221 := hX206.tr hx220
 have ho222 := ho207.ext hx220
 have ho223 := ho208.ext hx220
 have ho225 := ho210.ext hx220
 have hb226 := hb211.ext hx220
 have hb227 := hb212.ext hx220
 have hq228 := hq213.below hx220.below
 refine ⟨fun _ => hq228, ?_⟩
 refine dT (i := 8) rfl rfl (by kernel_rfl) (fun _ _ => yY [(.int .i64 0), (.int .i64 0), (.slice none 0 0), (.slice none 0 0)] [(.int .i64 0), (.int .i64 0), u199, u214] [(2, u199, [u199]), (3, u214, [u214])] eS zr72 rfl pl72 rfl (List.forall_mem_cons.2 ⟨(yW hr203.one), (List.forall_mem_cons.2 ⟨(yW hr218.one), (fun _ h => by cases h)⟩)⟩) rfl) hq228 ?_
 refine zR (i := 9) (by kernel_rfl) (yC (i := 9) rfl rfl rfl (zH rfl _) (yL [(.int .i64 0), (.int .i64 0), (.slice none 0 0), (.slice none 0 0)] zr72 rfl hX221.pins (fun b229 w230 hk231 hb232 hp233 hl234 => ?_)))
 have hX235 := hX221.step hp233 hl234
 have ha242 : Apart (some b229) ov.ownBlock := zI (congrArg some hk231) ho222.lt
 have ha243 : Apart (some b229) u48.ownBlock := zI (congrArg some hk231) ho223.lt
 have ha245 : Apart (some b229) u144.ownBlock := zI (congrArg some hk231) ho225.lt
 have ha246 : Apart (some b229) (some b1) := zG (congrArg some hk231) hb226.lt
 have ha247 : Apart (some b229) (some b19) := zG (congrArg some hk231) hb227.lt
 have hlo248 : w.heap.size ≤ b229 := by have := hX221.size; omega
 refine ⟨fun _ => (hq228.below hl234), ?_⟩
 refine zR (i := 10) (by kernel_rfl) (xQ (i := 10) rfl rfl rfl (zH rfl _) (yD (cs' := [(.int .i64 0), (.int .i64 0), u199, u214]) (us := [(.int .i64 0), (.int .i64 0), u199, u214]) (v := (.agg [(.int .i64 0), (.int .i64 0), u199, u214].toArray)) sz72 rfl rfl rfl (jB (by rfl) (by rfl) hr203.one hr218.one) hX235.pins hb232 (dK rfl) rfl (fun w250 hb251 hp252 hg253 hz254 => ?_)))
 have hX255 := hX235.write hp252 hg253 ((zS hlo248))
 have ho259 := (ho225.below hl234).keptA hg253 ha245.symm
 refine ⟨fun h => absurd rfl h, ?_⟩
 refine yP (by kernel_rfl) (zA (zD (zE ?_)))
 have hg0 := qG 32 ((partsB 58 ((partsB 59 s).getD j ByteArray.empty)).getD 0 ByteArray.empty) _ (xE (d := ByteArray.empty) (show 0 < (partsB 32 ((partsB 58 ((partsB 59 s).getD j ByteArray.empty)).getD 0 ByteArray.empty)).length by omega))
 refine qD rfl (zB (v := u144) rfl) (qD rfl (zL eZ sz9 (v := u144) rfl rfl ho259.read (by omega) (by omega)) (qD rfl (xK (r := (partsB 32 ((partsB 58 ((partsB 59 s).getD j ByteArray.empty)).getD 0 ByteArray.empty)).getD 0 ByteArray.empty) rfl ag9 (z := 0) rfl ho259.read (Gadd.pins hX255.pins u144) (by omega) (by omega)) (qI rfl (zK (vs := [(.string ((partsB 32 ((partsB 58 ((partsB 59 s).getD j ByteArray.empty)).getD 0 ByteArray.empty)).getD 0 ByteArray.empty))]) Tryz.func58 nm58 rfl rfl rfl ?_))))
 refine dJ (jE (s := ((partsB 32 ((partsB 58 ((partsB 59 s).getD j ByteArray.empty)).getD 0 ByteArray.empty)).getD 0 ByteArray.empty)) hX255.pins (by omega)) ?_
 rintro _ w265 ⟨n262, ok263, G264, rfl, hrn266, hx267⟩
 refine ⟨_, rfl, ?_⟩
 have hX268 := hX255.tr hx267
 have hm276 := hrn266.lo
 have hm277 := hrn266.hi
 refine qD rfl (zB (v := (.tuple #[(.int .i64 n262), (.bool ok263)])) rfl) (qD rfl (yB (v := (.int .i64 n262)) rfl rfl) (qD rfl (yB (v := (.bool ok263)) rfl rfl) (qD rfl (zM (k := 0) rfl eS rfl nz3 rfl) (q0 rfl rfl rfl (yD (cs' := [(.int .i64 n262), (.int .i64 0), u199, u214]) (us := [(.int .i64 n262)]) (v := (.int .i64 n262)) sz3 rfl rfl rfl (yE (by rfl)) hX268.pins (hb251.ext hx267) (dK rfl) rfl (fun w278 hb279 hp280 hg281 hz282 => ?_))))))
 have hX283 := hX268.write hp280 hg281 ((zS hlo248))
 have ho287 := (ho259.ext hx267).keptA hg281 ha245.symm
 refine qe (zA (zD (zE ?_)))
 have hg1 := qG 32 ((partsB 58 ((partsB 59 s).getD j ByteArray.empty)).getD 0 ByteArray.empty) _ (xE (d := ByteArray.empty) (show 1 < (partsB 32 ((partsB 58 ((partsB 59 s).getD j ByteArray.empty)).getD 0 ByteArray.empty)).length by omega))
 refine qD rfl (zB (v := u144) rfl) (qD rfl (zL eZ sz9 (v := u144) rfl rfl ho287.read (by omega) (by omega)) (qD rfl (xK (r := (partsB 32 ((partsB 58 ((partsB 59 s).getD j ByteArray.empty)).getD 0 ByteArray.empty)).getD 1 ByteArray.empty) rfl ag9 (z := 1) rfl ho287.read (Gadd.pins hX283.pins u144) (by omega) (by omega)) (qI rfl (zK (vs := [(.string ((partsB 32 ((partsB 58 ((partsB 59 s).getD j ByteArray.empty)).getD 0 ByteArray.empty)).getD 1 ByteArray.empty))]) Tryz.func58 nm58 rfl rfl rfl ?_))))
 refine dJ (jE (s := ((partsB 32 ((partsB 58 ((partsB 59 s).getD j ByteArray.empty)).getD 0 ByteArray.empty)).getD 1 ByteArray.empty)) hX283.pins (by omega)) ?_
 rintro _ w293 ⟨n290, ok291, G292, rfl, hrn294, hx295⟩
 refine ⟨_, rfl, ?_⟩
 have hX296 := hX283.tr hx295
 have hm304 := hrn294.lo
 have hm305 := hrn294.hi
 refine qD rfl (zB (v := (.tuple #[(.int .i64 n290), (.bool ok291)])) rfl) (qD rfl (yB (v := (.int .i64 n290)) rfl rfl) (qD rfl (yB (v := (.bool ok291)) rfl rfl) (qD rfl (zM (k := 1) rfl eS rfl nz3 rfl) (q0 rfl rfl rfl (yD (cs' := [(.int .i64 n262), (.int .i64 n290), u199, u214]) (us := [(.int .i64 n290)]) (v := (.int .i64 n290)) sz3 rfl rfl rfl (yE (by rfl)) hX296.pins (hb279.ext hx295) (dK rfl) rfl (fun w306 hb307 hp308 hg309 hz310 => ?_))))))
 have hX311 := hX296.write hp308 hg309 ((zS hlo248))
 have hb317 := (((((hb227.below hl234).keptA hg253 ha247.symm).ext hx267).keptA hg281 ha247.symm).ext hx295).keptA hg309 ha247.symm
 refine qe (zA (zE ?_))
 refine qD rfl (zM (k := 0) rfl eV rfl nz36 rfl) (qD rfl (zP (u := ov) ag36 rfl (hb317.cell (o := 0) rfl)) (qD rfl (zU (cs := [(.int .i64 n262), (.int .i64 n290), u199, u214]) ag72 sz72 rfl (fun j u hj => hb307.cell (by simpa using hj))) (qI rfl (xM (E := eClaim) (e := 72) [(.int .i64 n262), (.int .i64 n290), u199, u214] (⟨n262, n290, l200, l215⟩ : Cl) eU sz72 zr72 ⟨_, _, rfl, (hr203.mono (dH (dH hx220.le hx267.le) hx295.le)), (hr218.mono (dH hx267.le hx295.le))⟩ rfl (by decide) hX311.pins (fun u318 w319 ho320 hp321 hl322 hk323 => ?_)))))
 have hX324 := hX311.step hp321 hl322
 have ho325 := ((((((ho222.below hl234).keptA hg253 ha242.symm).ext hx267).keptA hg281 ha242.symm).ext hx295).keptA hg309 ha242.symm).below hl322
 have ho326 := ((((((ho223.below hl234).keptA hg253 ha243.symm).ext hx267).keptA hg281 ha243.symm).ext hx295).keptA hg309 ha243.symm).below hl322
 have hb329 := ((((((hb226.below hl234).keptA hg253 ha246.symm).ext hx267).keptA hg281 ha246.symm).ext hx295).keptA hg309 ha246.symm).below hl322
 have hb330 := hb317.below hl322
 have ho339 := ho320.weaken hX311.size
 refine qI rfl (yH (E := eClaim) (v := ov) (u := u318) 64 eU ap72 (by decide) rfl rfl hX324.pins ho325 ho339.src (by first | omega | (rw [List.nil_append]; omega) | (rw [List.length_nil]; omega) | (rw [List.length_append]; omega) | (simp; done) | (simp; omega) | (simp only [List.length_cons, List.length_nil]; omega) | (simp only [List.length_append, List.length_cons, List.length_nil]; omega)) (by first | omega | (rw [List.nil_append]; omega) | (rw [List.length_nil]; omega) | (rw [List.length_append]; omega) | (simp; done) | (simp; omega) | (simp only [List.length_cons, List.length_nil]; omega) | (simp only [List.length_append, List.length_cons, List.length_nil]; omega)) (hX324.size) (fun u340 w341 ho342 hp343 hg344 hw345 => ?_))
 have hX346 := hX324.write hp343 hg344 ((yQ ho325))
 have ha359 : Apart (some b19) u340.ownBlock := zN ha73.symm hw345 hb330.lt
 have hm361 := la1 os (⟨n262, n290, l200, l215⟩ : Cl)
 refine qD rfl (zM (k := 0) rfl eV rfl nz36 rfl) (q0 rfl rfl rfl (yD (cs' := [u340]) (us := [u340]) (v := u340) sz36 rfl rfl (vL ho342.one) (yE ho342.one) hX346.pins (hb330.keptA hg344 ha73.symm) (dK rfl) rfl (fun w362 hb363 hp364 hg365 hz366 => ?_)))
 refine qe (yO (zA (zE ?_)))
 refine qD rfl (zB (v := (.int .i64 (j : Int))) rfl) (qD rfl (yT rfl rfl (by omega)) (qD rfl (zC (v := (.int .i64 ((j : Int) + 1))) rfl) (qe (yR (⟨_, ?_, _, rfl, _, j + 1, u340, os ++ ([(⟨n262, n290, l200, l215⟩ : Cl)]), G292, (zF (x := 6) (zF (x := 5) (zF (x := 4) (zF (x := 2) (yF (x := 0) rfl) rfl) rfl) rfl) rfl), rfl, (hX346.write hp364 hg365 ((zS hlo30))), (dH (dH (dH (dH (dH (dH hlek63 hx131.le) hx148.le) hx205.le) hx220.le) hx267.le) hx295.le), (by omega), (tL hs0 (by omega) hli (by omega) (rdc_sp (by omega) hrn266 hrn294 hrl204 hrl219)), (ho342.keptA hg365 ha359.symm), ((ho326.keptA hg344 ha71.symm).keptA hg365 ha59), ((hb329.keptA hg344 ha72.symm).keptA hg365 ha29.symm), hb363, (zJ ha71.symm hw345 ho326.lt).symm, (zN ha72.symm hw345 hb329.lt).symm, ha359.symm⟩)))))
 omega
 refine (yC (i := 9) rfl rfl rfl (zH rfl _) (yL [(.int .i64 0), (.int .i64 0), (.slice none 0 0), (.slice none 0 0)] zr72 rfl hX206.pins (fun b374 w375 hk376 hb377 hp378 hl379 => ?_)))
 have hX380 := hX206.step hp378 hl379
 have ha387 : Apart (some b374) ov.ownBlock := zI (congrArg some hk376) ho207.lt
 have ha388 : Apart (some b374) u48.ownBlock := zI (congrArg some hk376) ho208.lt
 have ha390 : Apart (some b374) u144.ownBlock := zI (congrArg some hk376) ho210.lt
 have ha391 : Apart (some b374) (some b1) := zG (congrArg some hk376) hb211.lt
 have ha392 : Apart (some b374) (some b19) := zG (congrArg some hk376) hb212.lt
 have hlo393 : w.heap.size ≤ b374 := by have := hX206.size; omega
 have hq394 := hq213.below hl379
 refine ⟨fun _ => hq394, ?_⟩
 refine zR (i := 7) (by kernel_rfl) (yC (i := 7) rfl rfl rfl (zH rfl _) (zK (vs := [(.string ((partsB 58 ((partsB 59 s).getD j ByteArray.empty)).getD 2 ByteArray.empty))]) Tryz.func57 nm57 rfl rfl rfl ?_))
 refine dJ (jU (s := ((partsB 58 ((partsB 59 s).getD j ByteArray.empty)).getD 2 ByteArray.empty)) hX380.pins (by omega)) ?_
 rintro _ w398 ⟨u395, l396, G397, rfl, hr399, hrl400, hx401⟩
 refine ⟨_, rfl, ?_⟩
 have hX402 := hX380.tr hx401
 have hq410 := hq394.below hx401.below
 refine ⟨fun _ => hq410, ?_⟩
 refine dT (i := 8) rfl rfl (by kernel_rfl) (fun _ _ => yY [(.int .i64 0), (.int .i64 0), (.slice none 0 0), (.slice none 0 0)] [(.int .i64 0), (.int .i64 0), u199, u395] [(2, u199, [u199]), (3, u395, [u395])] eS zr72 rfl pl72 rfl (List.forall_mem_cons.2 ⟨(yW hr203.one), (List.forall_mem_cons.2 ⟨(yW hr399.one), (fun _ h => by cases h)⟩)⟩) rfl) hq410 ?_
 refine zR (i := 10) (by kernel_rfl) (xQ (i := 10) rfl rfl rfl (zH rfl _) (yD (cs' := [(.int .i64 0), (.int .i64 0), u199, u395]) (us := [(.int .i64 0), (.int .i64 0), u199, u395]) (v := (.agg [(.int .i64 0), (.int .i64 0), u199, u395].toArray)) sz72 rfl rfl rfl (jB (by rfl) (by rfl) hr203.one hr399.one) hX402.pins (hb377.ext hx401) (dK rfl) rfl (fun w411 hb412 hp413 hg414 hz415 => ?_)))
 have hX416 := hX402.write hp413 hg414 ((zS hlo393))
 have ho420 := ((ho210.below hl379).ext hx401).keptA hg414 ha390.symm
 refine ⟨fun h => absurd rfl h, ?_⟩
 refine yP (by kernel_rfl) (zA (zD (zE ?_)))
 have hg0 := qG 32 ((partsB 58 ((partsB 59 s).getD j ByteArray.empty)).getD 0 ByteArray.empty) _ (xE (d := ByteArray.empty) (show 0 < (partsB 32 ((partsB 58 ((partsB 59 s).getD j ByteArray.empty)).getD 0 ByteArray.empty)).length by omega))
 refine qD rfl (zB (v := u144) rfl) (qD rfl (zL eZ sz9 (v := u144) rfl rfl ho420.read (by omega) (by omega)) (qD rfl (xK (r := (partsB 32 ((partsB 58 ((partsB 59 s).getD j ByteArray.empty)).getD 0 ByteArray.empty)).getD 0 ByteArray.empty) rfl ag9 (z := 0) rfl ho420.read (Gadd.pins hX416.pins u144) (by omega) (by omega)) (qI rfl (zK (vs := [(.string ((partsB 32 ((partsB 58 ((partsB 59 s).getD j ByteArray.empty)).getD 0 ByteArray.empty)).getD 0 ByteArray.empty))]) Tryz.func58 nm58 rfl rfl rfl ?_))))
 refine dJ (jE (s := ((partsB 32 ((partsB 58 ((partsB 59 s).getD j ByteArray.empty)).getD 0 ByteArray.empty)).getD 0 ByteArray.empty)) hX416.pins (by omega)) ?_
 rintro _ w426 ⟨n423, ok424, G425, rfl, hrn427, hx428⟩
 refine ⟨_, rfl, ?_⟩
 have hX429 := hX416.tr hx428
 have hm437 := hrn427.lo
 have hm438 := hrn427.hi
 refine qD rfl (zB (v := (.tuple #[(.int .i64 n423), (.bool ok424)])) rfl) (qD rfl (yB (v := (.int .i64 n423)) rfl rfl) (qD rfl (yB (v := (.bool ok424)) rfl rfl) (qD rfl (zM (k := 0) rfl eS rfl nz3 rfl) (q0 rfl rfl rfl (yD (cs' := [(.int .i64 n423), (.int .i64 0), u199, u395]) (us := [(.int .i64 n423)]) (v := (.int .i64 n423)) sz3 rfl rfl rfl (yE (by rfl)) hX429.pins (hb412.ext hx428) (dK rfl) rfl (fun w439 hb440 hp441 hg442 hz443 => ?_))))))
 have hX444 := hX429.write hp441 hg442 ((zS hlo393))
 have ho448 := (ho420.ext hx428).keptA hg442 ha390.symm
 refine qe (zA (zD (zE ?_)))
 have hg1 := qG 32 ((partsB 58 ((partsB 59 s).getD j ByteArray.empty)).getD 0 ByteArray.empty) _ (xE (d := ByteArray.empty) (show 1 < (partsB 32 ((partsB 58 ((partsB 59 s).getD j ByteArray.empty)).getD 0 ByteArray.empty)).length by omega))
 refine qD rfl (zB (v := u144) rfl) (qD rfl (zL eZ sz9 (v := u144) rfl rfl ho448.read (by omega) (by omega)) (qD rfl (xK (r := (partsB 32 ((partsB 58 ((partsB 59 s).getD j ByteArray.empty)).getD 0 ByteArray.empty)).getD 1 ByteArray.empty) rfl ag9 (z := 1) rfl ho448.read (Gadd.pins hX444.pins u144) (by omega) (by omega)) (qI rfl (zK (vs := [(.string ((partsB 32 ((partsB 58 ((partsB 59 s).getD j ByteArray.empty)).getD 0 ByteArray.empty)).getD 1 ByteArray.empty))]) Tryz.func58 nm58 rfl rfl rfl ?_))))
 refine dJ (jE (s := ((partsB 32 ((partsB 58 ((partsB 59 s).getD j ByteArray.empty)).getD 0 ByteArray.empty)).getD 1 ByteArray.empty)) hX444.pins (by omega)) ?_
 rintro _ w454 ⟨n451, ok452, G453, rfl, hrn455, hx456⟩
 refine ⟨_, rfl, ?_⟩
 have hX457 := hX444.tr hx456
 have hm465 := hrn455.lo
 have hm466 := hrn455.hi
 refine qD rfl (zB (v := (.tuple #[(.int .i64 n451), (.bool ok452)])) rfl) (qD rfl (yB (v := (.int .i64 n451)) rfl rfl) (qD rfl (yB (v := (.bool ok452)) rfl rfl) (qD rfl (zM (k := 1) rfl eS rfl nz3 rfl) (q0 rfl rfl rfl (yD (cs' := [(.int .i64 n423), (.int .i64 n451), u199, u395]) (us := [(.int .i64 n451)]) (v := (.int .i64 n451)) sz3 rfl rfl rfl (yE (by rfl)) hX457.pins (hb440.ext hx456) (dK rfl) rfl (fun w467 hb468 hp469 hg470 hz471 => ?_))))))
 have hX472 := hX457.write hp469 hg470 ((zS hlo393))
 have hb478 := ((((((hb212.below hl379).ext hx401).keptA hg414 ha392.symm).ext hx428).keptA hg442 ha392.symm).ext hx456).keptA hg470 ha392.symm
 refine qe (zA (zE ?_))
 refine qD rfl (zM (k := 0) rfl eV rfl nz36 rfl) (qD rfl (zP (u := ov) ag36 rfl (hb478.cell (o := 0) rfl)) (qD rfl (zU (cs := [(.int .i64 n423), (.int .i64 n451), u199, u395]) ag72 sz72 rfl (fun j u hj => hb468.cell (by simpa using hj))) (qI rfl (xM (E := eClaim) (e := 72) [(.int .i64 n423), (.int .i64 n451), u199, u395] (⟨n423, n451, l200, l396⟩ : Cl) eU sz72 zr72 ⟨_, _, rfl, (hr203.mono (dH (dH hx401.le hx428.le) hx456.le)), (hr399.mono (dH hx428.le hx456.le))⟩ rfl (by decide) hX472.pins (fun u479 w480 ho481 hp482 hl483 hk484 => ?_)))))
 have hX485 := hX472.step hp482 hl483
 have ho486 := (((((((ho207.below hl379).ext hx401).keptA hg414 ha387.symm).ext hx428).keptA hg442 ha387.symm).ext hx456).keptA hg470 ha387.symm).below hl483
 have ho487 := (((((((ho208.below hl379).ext hx401).keptA hg414 ha388.symm).ext hx428).keptA hg442 ha388.symm).ext hx456).keptA hg470 ha388.symm).below hl483
 have hb490 := (((((((hb211.below hl379).ext hx401).keptA hg414 ha391.symm).ext hx428).keptA hg442 ha391.symm).ext hx456).keptA hg470 ha391.symm).below hl483
 have hb491 := hb478.below hl483
 have ho500 := ho481.weaken hX472.size
 refine qI rfl (yH (E := eClaim) (v := ov) (u := u479) 64 eU ap72 (by decide) rfl rfl hX485.pins ho486 ho500.src (by first | omega | (rw [List.nil_append]; omega) | (rw [List.length_nil]; omega) | (rw [List.length_append]; omega) | (simp; done) | (simp; omega) | (simp only [List.length_cons, List.length_nil]; omega) | (simp only [List.length_append, List.length_cons, List.length_nil]; omega)) (by first | omega | (rw [List.nil_append]; omega) | (rw [List.length_nil]; omega) | (rw [List.length_append]; omega) | (simp; done) | (simp; omega) | (simp only [List.length_cons, List.length_nil]; omega) | (simp only [List.length_append, List.length_cons, List.length_nil]; omega)) (hX485.size) (fun u501 w502 ho503 hp504 hg505 hw506 => ?_))
 have hX507 := hX485.write hp504 hg505 ((yQ ho486))
 have ha520 : Apart (some b19) u501.ownBlock := zN ha73.symm hw506 hb491.lt
 have hm522 := la1 os (⟨n423, n451, l200, l396⟩ : Cl)
 refine qD rfl (zM (k := 0) rfl eV rfl nz36 rfl) (q0 rfl rfl rfl (yD (cs' := [u501]) (us := [u501]) (v := u501) sz36 rfl rfl (vL ho503.one) (yE ho503.one) hX507.pins (hb491.keptA hg505 ha73.symm) (dK rfl) rfl (fun w523 hb524 hp525 hg526 hz527 => ?_)))
 refine qe (yO (zA (zE ?_)))
 refine qD rfl (zB (v := (.int .i64 (j : Int))) rfl) (qD rfl (yT rfl rfl (by omega)) (qD rfl (zC (v := (.int .i64 ((j : Int) + 1))) rfl) (qe (yR (⟨_, ?_, _, rfl, _, j + 1, u501, os ++ ([(⟨n423, n451, l200, l396⟩ : Cl)]), G453, (zF (x := 6) (zF (x := 5) (zF (x := 4) (zF (x := 2) (yF (x := 0) rfl) rfl) rfl) rfl) rfl), rfl, (hX507.write hp525 hg526 ((zS hlo30))), (dH (dH (dH (dH (dH (dH hlek63 hx131.le) hx148.le) hx205.le) hx401.le) hx428.le) hx456.le), (by omega), (tL hs0 (by omega) hli (by omega) (rdc_sp (by omega) hrn427 hrn455 hrl204 hrl400)), (ho503.keptA hg526 ha520.symm), ((ho487.keptA hg505 ha71.symm).keptA hg526 ha59), ((hb490.keptA hg505 ha72.symm).keptA hg526 ha29.symm), hb524, (zJ ha71.symm hw506 ho487.lt).symm, (zN ha72.symm hw506 hb490.lt).symm, ha520.symm⟩)))))
 omega
 refine (yC (i := 9) rfl rfl rfl (zH rfl _) (yL [(.int .i64 0), (.int .i64 0), (.slice none 0 0), (.slice none 0 0)] zr72 rfl hX191.pins (fun b535 w536 hk537 hb538 hp539 hl540 => ?_)))
 have hX541 := hX191.step hp539 hl540
 have ha548 : Apart (some b535) ov.ownBlock := zI (congrArg some hk537) ho192.lt
 have ha549 : Apart (some b535) u48.ownBlock := zI (congrArg some hk537) ho193.lt
 have ha551 : Apart (some b535) u144.ownBlock := zI (congrArg some hk537) ho195.lt
 have ha552 : Apart (some b535) (some b1) := zG (congrArg some hk537) hb196.lt
 have ha553 : Apart (some b535) (some b19) := zG (congrArg some hk537) hb197.lt
 have hlo554 : w.heap.size ≤ b535 := by have := hX191.size; omega
 have hq555 := hq198.below hl540
 refine ⟨fun _ => hq555, ?_⟩
 refine zR (i := 3) (by kernel_rfl) (yC (i := 3) rfl rfl rfl (zH rfl _) (zK (vs := [(.string ((partsB 58 ((partsB 59 s).getD j ByteArray.empty)).getD 1 ByteArray.empty))]) Tryz.func57 nm57 rfl rfl rfl ?_))
 refine dJ (jU (s := ((partsB 58 ((partsB 59 s).getD j ByteArray.empty)).getD 1 ByteArray.empty)) hX541.pins (by omega)) ?_
 rintro _ w559 ⟨u556, l557, G558, rfl, hr560, hrl561, hx562⟩
 refine ⟨_, rfl, ?_⟩
 have hX563 := hX541.tr hx562
 have hq571 := hq555.below hx562.below
 refine ⟨fun _ => hq571, ?_⟩
 refine zR (i := 7) (by kernel_rfl) (yC (i := 7) rfl rfl rfl (zH rfl _) (zK (vs := [(.string ((partsB 58 ((partsB 59 s).getD j ByteArray.empty)).getD 2 ByteArray.empty))]) Tryz.func57 nm57 rfl rfl rfl ?_))
 refine dJ (jU (s := ((partsB 58 ((partsB 59 s).getD j ByteArray.empty)).getD 2 ByteArray.empty)) hX563.pins (by omega)) ?_
 rintro _ w575 ⟨u572, l573, G574, rfl, hr576, hrl577, hx578⟩
 refine ⟨_, rfl, ?_⟩
 have hX579 := hX563.tr hx578
 have hq587 := hq571.below hx578.below
 refine ⟨fun _ => hq587, ?_⟩
 refine dT (i := 8) rfl rfl (by kernel_rfl) (fun _ _ => yY [(.int .i64 0), (.int .i64 0), (.slice none 0 0), (.slice none 0 0)] [(.int .i64 0), (.int .i64 0), u556, u572] [(2, u556, [u556]), (3, u572, [u572])] eS zr72 rfl pl72 rfl (List.forall_mem_cons.2 ⟨(yW hr560.one), (List.forall_mem_cons.2 ⟨(yW hr576.one), (fun _ h => by cases h)⟩)⟩) rfl) hq587 ?_
 refine zR (i := 10) (by kernel_rfl) (xQ (i := 10) rfl rfl rfl (zH rfl _) (yD (cs' := [(.int .i64 0), (.int .i64 0), u556, u572]) (us := [(.int .i64 0), (.int .i64 0), u556, u572]) (v := (.agg [(.int .i64 0), (.int .i64 0), u556, u572].toArray)) sz72 rfl rfl rfl (jB (by rfl) (by rfl) hr560.one hr576.one) hX579.pins ((hb538.ext hx562).ext hx578) (dK rfl) rfl (fun w588 hb589 hp590 hg591 hz592 => ?_)))
 have hX593 := hX579.write hp590 hg591 ((zS hlo554))
 have ho597 := (((ho195.below hl540).ext hx562).ext hx578).keptA hg591 ha551.symm
 refine ⟨fun h => absurd rfl h, ?_⟩
 refine yP (by kernel_rfl) (zA (zD (zE ?_)))
 have hg0 := qG 32 ((partsB 58 ((partsB 59 s).getD j ByteArray.empty)).getD 0 ByteArray.empty) _ (xE (d := ByteArray.empty) (show 0 < (partsB 32 ((partsB 58 ((partsB 59 s).getD j ByteArray.empty)).getD 0 ByteArray.empty)).length by omega))
 refine qD rfl (zB (v := u144) rfl) (qD rfl (zL eZ sz9 (v := u144) rfl rfl ho597.read (by omega) (by omega)) (qD rfl (xK (r := (partsB 32 ((partsB 58 ((partsB 59 s).getD j ByteArray.empty)).getD 0 ByteArray.empty)).getD 0 ByteArray.empty) rfl ag9 (z := 0) rfl ho597.read (Gadd.pins hX593.pins u144) (by omega) (by omega)) (qI rfl (zK (vs := [(.string ((partsB 32 ((partsB 58 ((partsB 59 s).getD j ByteArray.empty)).getD 0 ByteArray.empty)).getD 0 ByteArray.empty))]) Tryz.func58 nm58 rfl rfl rfl ?_))))
 refine dJ (jE (s := ((partsB 32 ((partsB 58 ((partsB 59 s).getD j ByteArray.empty)).getD 0 ByteArray.empty)).getD 0 ByteArray.empty)) hX593.pins (by omega)) ?_
 rintro _ w603 ⟨n600, ok601, G602, rfl, hrn604, hx605⟩
 refine ⟨_, rfl, ?_⟩
 have hX606 := hX593.tr hx605
 have hm614 := hrn604.lo
 have hm615 := hrn604.hi
 refine qD rfl (zB (v := (.tuple #[(.int .i64 n600), (.bool ok601)])) rfl) (qD rfl (yB (v := (.int .i64 n600)) rfl rfl) (qD rfl (yB (v := (.bool ok601)) rfl rfl) (qD rfl (zM (k := 0) rfl eS rfl nz3 rfl) (q0 rfl rfl rfl (yD (cs' := [(.int .i64 n600), (.int .i64 0), u556, u572]) (us := [(.int .i64 n600)]) (v := (.int .i64 n600)) sz3 rfl rfl rfl (yE (by rfl)) hX606.pins (hb589.ext hx605) (dK rfl) rfl (fun w616 hb617 hp618 hg619 hz620 => ?_))))))
 have hX621 := hX606.write hp618 hg619 ((zS hlo554))
 have ho625 := (ho597.ext hx605).keptA hg619 ha551.symm
 refine qe (zA (zD (zE ?_)))
 have hg1 := qG 32 ((partsB 58 ((partsB 59 s).getD j ByteArray.empty)).getD 0 ByteArray.empty) _ (xE (d := ByteArray.empty) (show 1 < (partsB 32 ((partsB 58 ((partsB 59 s).getD j ByteArray.empty)).getD 0 ByteArray.empty)).length by omega))
 refine qD rfl (zB (v := u144) rfl) (qD rfl (zL eZ sz9 (v := u144) rfl rfl ho625.read (by omega) (by omega)) (qD rfl (xK (r := (partsB 32 ((partsB 58 ((partsB 59 s).getD j ByteArray.empty)).getD 0 ByteArray.empty)).getD 1 ByteArray.empty) rfl ag9 (z := 1) rfl ho625.read (Gadd.pins hX621.pins u144) (by omega) (by omega)) (qI rfl (zK (vs := [(.string ((partsB 32 ((partsB 58 ((partsB 59 s).getD j ByteArray.empty)).getD 0 ByteArray.empty)).getD 1 ByteArray.empty))]) Tryz.func58 nm58 rfl rfl rfl ?_))))
 refine dJ (jE (s := ((partsB 32 ((partsB 58 ((partsB 59 s).getD j ByteArray.empty)).getD 0 ByteArray.empty)).getD 1 ByteArray.empty)) hX621.pins (by omega)) ?_
 rintro _ w631 ⟨n628, ok629, G630, rfl, hrn632, hx633⟩
 refine ⟨_, rfl, ?_⟩
 have hX634 := hX621.tr hx633
 have hm642 := hrn632.lo
 have hm643 := hrn632.hi
 refine qD rfl (zB (v := (.tuple #[(.int .i64 n628), (.bool ok629)])) rfl) (qD rfl (yB (v := (.int .i64 n628)) rfl rfl) (qD rfl (yB (v := (.bool ok629)) rfl rfl) (qD rfl (zM (k := 1) rfl eS rfl nz3 rfl) (q0 rfl rfl rfl (yD (cs' := [(.int .i64 n600), (.int .i64 n628), u556, u572]) (us := [(.int .i64 n628)]) (v := (.int .i64 n628)) sz3 rfl rfl rfl (yE (by rfl)) hX634.pins (hb617.ext hx633) (dK rfl) rfl (fun w644 hb645 hp646 hg647 hz648 => ?_))))))
 have hX649 := hX634.write hp646 hg647 ((zS hlo554))
 have hb655 := (((((((hb197.below hl540).ext hx562).ext hx578).keptA hg591 ha553.symm).ext hx605).keptA hg619 ha553.symm).ext hx633).keptA hg647 ha553.symm
 refine qe (zA (zE ?_))
 refine qD rfl (zM (k := 0) rfl eV rfl nz36 rfl) (qD rfl (zP (u := ov) ag36 rfl (hb655.cell (o := 0) rfl)) (qD rfl (zU (cs := [(.int .i64 n600), (.int .i64 n628), u556, u572]) ag72 sz72 rfl (fun j u hj => hb645.cell (by simpa using hj))) (qI rfl (xM (E := eClaim) (e := 72) [(.int .i64 n600), (.int .i64 n628), u556, u572] (⟨n600, n628, l557, l573⟩ : Cl) eU sz72 zr72 ⟨_, _, rfl, (hr560.mono (dH (dH hx578.le hx605.le) hx633.le)), (hr576.mono (dH hx605.le hx633.le))⟩ rfl (by decide) hX649.pins (fun u656 w657 ho658 hp659 hl660 hk661 => ?_)))))
 have hX662 := hX649.step hp659 hl660
 have ho663 := ((((((((ho192.below hl540).ext hx562).ext hx578).keptA hg591 ha548.symm).ext hx605).keptA hg619 ha548.symm).ext hx633).keptA hg647 ha548.symm).below hl660
 have ho664 := ((((((((ho193.below hl540).ext hx562).ext hx578).keptA hg591 ha549.symm).ext hx605).keptA hg619 ha549.symm).ext hx633).keptA hg647 ha549.symm).below hl660
 have hb667 := ((((((((hb196.below hl540).ext hx562).ext hx578).keptA hg591 ha552.symm).ext hx605).keptA hg619 ha552.symm).ext hx633).keptA hg647 ha552.symm).below hl660
 have hb668 := hb655.below hl660
 have ho677 := ho658.weaken hX649.size
 refine qI rfl (yH (E := eClaim) (v := ov) (u := u656) 64 eU ap72 (by decide) rfl rfl hX662.pins ho663 ho677.src (by first | omega | (rw [List.nil_append]; omega) | (rw [List.length_nil]; omega) | (rw [List.length_append]; omega) | (simp; done) | (simp; omega) | (simp only [List.length_cons, List.length_nil]; omega) | (simp only [List.length_append, List.length_cons, List.length_nil]; omega)) (by first | omega | (rw [List.nil_append]; omega) | (rw [List.length_nil]; omega) | (rw [List.length_append]; omega) | (simp; done) | (simp; omega) | (simp only [List.length_cons, List.length_nil]; omega) | (simp only [List.length_append, List.length_cons, List.length_nil]; omega)) (hX662.size) (fun u678 w679 ho680 hp681 hg682 hw683 => ?_))
 have hX684 := hX662.write hp681 hg682 ((yQ ho663))
 have ha697 : Apart (some b19) u678.ownBlock := zN ha73.symm hw683 hb668.lt
 have hm699 := la1 os (⟨n600, n628, l557, l573⟩ : Cl)
 refine qD rfl (zM (k := 0) rfl eV rfl nz36 rfl) (q0 rfl rfl rfl (yD (cs' := [u678]) (us := [u678]) (v := u678) sz36 rfl rfl (vL ho680.one) (yE ho680.one) hX684.pins (hb668.keptA hg682 ha73.symm) (dK rfl) rfl (fun w700 hb701 hp702 hg703 hz704 => ?_)))
 refine qe (yO (zA (zE ?_)))
 refine qD rfl (zB (v := (.int .i64 (j : Int))) rfl) (qD rfl (yT rfl rfl (by omega)) (qD rfl (zC (v := (.int .i64 ((j : Int) + 1))) rfl) (qe (yR (⟨_, ?_, _, rfl, _, j + 1, u678, os ++ ([(⟨n600, n628, l557, l573⟩ : Cl)]), G630, (zF (x := 6) (zF (x := 5) (zF (x := 4) (zF (x := 2) (yF (x := 0) rfl) rfl) rfl) rfl) rfl), rfl, (hX684.write hp702 hg703 ((zS hlo30))), (dH (dH (dH (dH (dH (dH hlek63 hx131.le) hx148.le) hx562.le) hx578.le) hx605.le) hx633.le), (by omega), (tL hs0 (by omega) hli (by omega) (rdc_sp (by omega) hrn604 hrn632 hrl561 hrl577)), (ho680.keptA hg703 ha697.symm), ((ho664.keptA hg682 ha71.symm).keptA hg703 ha59), ((hb667.keptA hg682 ha72.symm).keptA hg703 ha29.symm), hb701, (zJ ha71.symm hw683 ho664.lt).symm, (zN ha72.symm hw683 hb667.lt).symm, ha697.symm⟩)))))
 omega
 refine qs rfl rfl rfl rfl rfl rfl (qs rfl rfl rfl rfl rfl rfl (qD rfl (yN (v := (.bool false)) rfl rfl) (qe (zA ?_))))
 refine vP rfl rfl (wp_exit (yK (yU (yV (zA (zD (zD (zE ?_))))))))
 have hac : AllC s os := if h9 : s.size = 0 then allC_emp h9 hli else nW h9 hli (by first | omega | exact absurd (fV (by first | assumption | simp_all)) h9)
 have hlb := hli.lb
 refine qD rfl (zU (cs := [ov]) ag38 sz38 rfl (fun j u hj => hw70.cell (by simpa using hj))) ?_
 obtain ⟨G712, hle715, hX714, hr713, hf716⟩ := hw67.sealed hX66
 refine qI rfl (zK (vs := [(.agg [ov].toArray)]) Tryz.func49 nm49 rfl rfl rfl ?_)
 refine dJ (fL hX714.pins hr713 hlb) ?_
 rintro _ w721 ⟨G720, rfl, hx722⟩
 refine ⟨_, rfl, ?_⟩
 have hX723 := hX714.tr hx722
 have hb725 := (hw69.moreO hf716 ha72.symm).ext hx722
 have hb726 := (hw70.moreO hf716 ha73.symm).ext hx722
 refine qD rfl (xT rfl) (qD rfl (zB (v := (.bool (!(tdB os)))) rfl) (qbn (t := 80) rfl (fun h727 => ?_) (fun h727 => ?_)))
 refine qdg rfl rfl rfl rfl rfl rfl (zU (cs := [ov]) ag38 sz38 rfl (fun j u hj => hb726.cell (by simpa using hj))) (q1g rfl rfl rfl rfl rfl rfl (zK (vs := [(.agg [ov].toArray)]) Tryz.func50 nm50 rfl rfl rfl ?_))
 refine dJ (jT hX723.pins (hr713.mono hx722.le) hlb (nA h727)) ?_
 rintro _ w730 ⟨z728, G729, rfl, htx731, hx732⟩
 refine ⟨_, rfl, ?_⟩
 have hX733 := hX723.tr hx732
 have hb735 := hb725.ext hx732
 have hm737 := htx731.hi
 refine qdg rfl rfl rfl rfl rfl rfl (zB (v := (.string s)) rfl) (qdg rfl rfl rfl rfl rfl rfl (jO rfl rfl) (qD rfl (yN (v := (.bool (!(z728.toList == s.toList)))) rfl rfl) (qe (zA ?_))))
 refine xV rfl rfl (fun h738 => ?_) (fun h738 => ?_)
 refine wp_skip (zA (zD (zE ?_)))
 refine qD rfl (zU (cs := [ov]) ag38 sz38 rfl (fun j u hj => (hb726.ext hx732).cell (by simpa using hj))) (q0 rfl rfl rfl (yD (cs' := [ov]) (us := [ov]) (v := (.agg [ov].toArray)) sz38 rfl rfl rfl (yE hr713.one) hX733.pins hb735 (dK rfl) rfl (fun w739 hb740 hp741 hg742 hz743 => ?_)))
 refine qD rfl (zC (v := (.bool true)) rfl) (qe (zA ?_))
 exact wp_ret (zQ (xN (cs := [ov]) (v := (.bool true)) rfl rfl rfl rfl rfl ag38 sz38 (fun j u hj => by rw [Nat.zero_add]; exact hb740.cell hj) (⟨_, _, _, _, rfl, (hr713.mono (dH hx722.le hx732.le)), mN hac h727 (tE h727 htx731 ▸ h738), (hX733.write hp741 hg742 ((zS hlo8)))⟩)))
 refine zD (zE ?_)
 refine qD rfl (yY [(.slice none 0 0)] [(.slice none 0 0)] [] eV zr38 rfl pl38 rfl (fun _ h => by cases h) rfl) (q0 rfl rfl rfl (yD (cs' := [(.slice none 0 0)]) (us := [(.slice none 0 0)]) (v := (.agg [(.slice none 0 0)].toArray)) sz38 rfl rfl rfl (yE (by rfl)) hX733.pins hb735 (dK rfl) rfl (fun w747 hb748 hp749 hg750 hz751 => ?_)))
 refine qD rfl (zC (v := (.bool false)) rfl) (qe (zA ?_))
 exact wp_ret (zQ (xN (cs := [(.slice none 0 0)]) (v := (.bool false)) rfl rfl rfl rfl rfl ag38 sz38 (fun j u hj => by rw [Nat.zero_add]; exact hb748.cell hj) (⟨_, _, _, _, rfl, (yX _ _), mO hac h727 (tE h727 htx731 ▸ h738), (hX733.write hp749 hg750 ((zS hlo8)))⟩)))
 refine qs rfl rfl rfl rfl rfl rfl (qs rfl rfl rfl rfl rfl rfl (qs rfl rfl rfl rfl rfl rfl (qs rfl rfl rfl rfl rfl rfl (qD rfl (yG (v := (.bool true)) rfl rfl) (qe (zA ?_))))))
 refine qC rfl rfl (zD (zE ?_))
 refine qD rfl (yY [(.slice none 0 0)] [(.slice none 0 0)] [] eV zr38 rfl pl38 rfl (fun _ h => by cases h) rfl) (q0 rfl rfl rfl (yD (cs' := [(.slice none 0 0)]) (us := [(.slice none 0 0)]) (v := (.agg [(.slice none 0 0)].toArray)) sz38 rfl rfl rfl (yE (by rfl)) hX723.pins hb725 (dK rfl) rfl (fun w755 hb756 hp757 hg758 hz759 => ?_)))
 refine qD rfl (zC (v := (.bool false)) rfl) (qe (zA ?_))
 exact wp_ret (zQ (xN (cs := [(.slice none 0 0)]) (v := (.bool false)) rfl rfl rfl rfl rfl ag38 sz38 (fun j u hj => by rw [Nat.zero_add]; exact hb756.cell hj) (⟨_, _, _, _, rfl, (yX _ _), rdp_no hac h727, (hX723.write hp757 hg758 ((zS hlo8)))⟩)))
end PTD
end Go.Proofs.YtajkbplgbikgdaaGreatDoor
namespace Go.Proofs.YtajkbplgbikgdaaGreatDoor
namespace PTE
open Go.RowKit Go.GL Go.Proofs
open B1 C1 D1 E1 MK1 DR1 DR2 DV1
theorem pN {w0 w : World} {A0 G : Pin} {c : Nat} {cv v : Value} {code : List UInt8} {a s : Int} {cs : List Cl} {lo hi : Nat} {bs : List (Nat × List Value)} (hX0 : Ext noS A0 w0 G w) (hB : Bx G w c [cv, .int .i64 a, .int .u64 s]) (hc : RSl eByte G cv code) (ha : 0 ≤ a ∧ a + 20 ≤ 1000000) (hs : 0 ≤ s ∧ s < 18446744073709551616) (hcl : w0.heap.size ≤ c) (hd : DPrf 72 3 G w lo hi v cs) (hsz : hi ≤ w.heap.size) (hlo : w0.heap.size ≤ lo) (hch : hi ≤ c ∨ c < lo) (hsm : SmC cs) (hbs : BxL G w bs) (hbc : NotB bs (some c)) (hbv : ∀ p ∈ bs, hi ≤ p.1 ∨ p.1 < lo) :
  Calls Tryz.prog 134 [(.pointer (some ⟨c, 0, none⟩)), (.agg [v].toArray)].toArray w fun e w' => ∃ (u : Value) (qs : List Cl) (G' : Pin), e = .returned (.agg [u].toArray) ∧ RSl eClaim G' u qs ∧ LenB qs ∧ BxL G' w' bs ∧ Pin.le G G' ∧ Ext noS A0 w0 G' w' := by
 refine yM (n := 90) Tryz.func134 Tryz.ntmps134 rfl rfl ?_
 have hm := hc.max
 have hsl := hsm.len
 refine zD (zE ?_)
 refine qI rfl (xX [v] (v := (.agg [v].toArray)) rfl rfl hX0.pins (fun b1 w2 hk3 hb4 hp5 hl6 => ?_))
 have hX7 := hX0.step hp5 hl6
 have hb8 := hB.below hl6
 have hs10 := Nat.le_trans hsz hl6.size
 have hkb11 := hbs.below hl6
 have ha12 : Apart (some b1) (some c) := zG (congrArg some hk3) hB.lt
 have ha13 : hi ≤ b1 ∨ b1 < lo := Or.inl (by have e := Option.some.inj (congrArg some hk3); have := hsz; omega)
 have ha14 : NotB bs (some b1) := hbs.new (fun k hk => by rw [(congrArg some hk3)] at hk; cases hk; exact Nat.le_refl _)
 have hlo15 : w0.heap.size ≤ b1 := by have := hX0.size; omega
 refine qI rfl (yL [(.slice none 0 0)] zr38 rfl hX7.pins (fun b16 w17 hk18 hb19 hp20 hl21 => ?_))
 have hX22 := hX7.step hp20 hl21
 have hb23 := hb8.below hl21
 have hb24 := hb4.below hl21
 have hd25 := (hd.below hl6).below hl21
 have hs26 := Nat.le_trans hs10 hl21.size
 have hkb27 := hkb11.below hl21
 have ha28 : Apart (some b16) (some c) := zG (congrArg some hk18) hb8.lt
 have ha30 : hi ≤ b16 ∨ b16 < lo := Or.inl (by have e := Option.some.inj (congrArg some hk18); have := hs10; omega)
 have ha31 : NotB bs (some b16) := hkb11.new (fun k hk => by rw [(congrArg some hk18)] at hk; cases hk; exact Nat.le_refl _)
 have hlo32 : w0.heap.size ≤ b16 := by have := hX7.size; omega
 refine qe (zA (zD (zD (zE ?_))))
 refine qD rfl (zM (k := 0) rfl eV rfl nz36 rfl) (qD rfl (zP (u := v) ag36 rfl (hb24.cell (o := 0) rfl)) (qD rfl (DPrf.run_len hd25 eU rfl) (qD rfl (qN rfl rfl) (qD rfl (zB (v := (.bool (decide (((cs.length : Int) : Int) = 0)))) rfl) (qbd (p := ((cs.length : Int) : Int) = 0) (t := 10) rfl (fun h33 => ?_) (fun h33 => ?_))))))
 refine qs rfl rfl rfl rfl rfl rfl (qs rfl rfl rfl rfl rfl rfl (qD rfl (yG (v := (.bool true)) rfl rfl) (qe (zA ?_))))
 refine qC rfl rfl (zD (zE ?_))
 obtain ⟨G34, hle35, hp36, hr37, hf38⟩ := hd25.readR hX22.pins
 have hX39 := hX22.promise hle35 hp36 (fun b o x h => (hf38 b o x h).imp id (fun a => a.1)) hlo
 have hb40 := hb23.moreR hf38 hch
 have hkb43 := hkb27.moreR hf38 hbv
 refine qD rfl (zU (cs := [v]) ag38 sz38 rfl (fun j u hj => (hb24.moreR hf38 ha13).cell (by simpa using hj))) (q0 rfl rfl rfl (yD (cs' := [v]) (us := [v]) (v := (.agg [v].toArray)) sz38 rfl rfl rfl (yE hd.one) hX39.pins (hb19.moreR hf38 ha30) (dK rfl) rfl (fun w44 hb45 hp46 hg47 hz48 => ?_)))
 have hkb52 := hkb43.kept hg47 ha31
 refine qe (zA ?_)
 exact wp_ret (zQ (qJ (cs := [v]) rfl rfl rfl ag38 sz38 (fun j u hj => by rw [Nat.zero_add]; exact hb45.cell hj) (⟨_, _, _, rfl, hr37, hsm.lenb, hkb52, hle35, (hX39.write hp46 hg47 ((zS hlo32)))⟩)))
 refine qdg rfl rfl rfl rfl rfl rfl (zB (v := (.pointer (some ⟨c, 0, none⟩))) rfl) (q1g rfl rfl rfl rfl rfl rfl (zK (vs := [(.pointer (some ⟨c, 0, none⟩)), (.int .i64 2)]) Tryz.func52 nm52 rfl rfl rfl ?_))
 refine dJ (tJ hX22.pins hb23 hc (by omega) (by omega) (n := 2) (by omega)) ?_
 rintro _ w56 ⟨z53, a54, s55, rfl, hb57, hda58, hds59, hx60⟩
 refine ⟨_, rfl, ?_⟩
 have hX61 := hX22.trans hx60 (fun i hi => (zS hcl) i hi)
 have hb62 := hb24.extS hx60 (xJ ha12)
 have hb63 := hb19.extS hx60 (xJ ha28)
 have hd64 := hd25.extS hx60 (fun k h1 h2 h3 => by cases h3; have h4 := hch; omega)
 have hs65 := Nat.le_trans hs26 hx60.size
 have hkb66 := hkb27.turned hx60 hbc
 refine qD rfl (yN (v := (.bool z53)) rfl rfl) (qe (zA ?_))
 refine c_if rfl rfl (fun h67 => ?_) (fun h67 => ?_)
 refine zD (zE ?_)
 obtain ⟨G68, hle69, hp70, hr71, hf72⟩ := hd64.readR hX61.pins
 have hX73 := hX61.promise hle69 hp70 (fun b o x h => (hf72 b o x h).imp id (fun a => a.1)) hlo
 have hb74 := hb57.moreR hf72 hch
 have hkb77 := hkb66.moreR hf72 hbv
 refine qD rfl (zU (cs := [v]) ag38 sz38 rfl (fun j u hj => (hb62.moreR hf72 ha13).cell (by simpa using hj))) (q0 rfl rfl rfl (yD (cs' := [v]) (us := [v]) (v := (.agg [v].toArray)) sz38 rfl rfl rfl (yE hd.one) hX73.pins (hb63.moreR hf72 ha30) (dK rfl) rfl (fun w78 hb79 hp80 hg81 hz82 => ?_)))
 have hkb86 := hkb77.kept hg81 ha31
 refine qe (zA ?_)
 exact wp_ret (zQ (qJ (cs := [v]) rfl rfl rfl ag38 sz38 (fun j u hj => by rw [Nat.zero_add]; exact hb79.cell hj) (⟨_, _, _, rfl, hr71, hsm.lenb, hkb86, hle69, (hX73.write hp80 hg81 ((zS hlo32)))⟩)))
 refine wp_skip (zA (zD (zE ?_)))
 refine qD rfl (zB (v := (.pointer (some ⟨c, 0, none⟩))) rfl) (qD rfl (zM (k := 0) rfl eV rfl nz36 rfl) (qD rfl (zP (u := v) ag36 rfl (hb62.cell (o := 0) rfl)) (qD rfl (DPrf.run_len hd64 eU rfl) (qI rfl (zK (vs := [(.pointer (some ⟨c, 0, none⟩)), (.int .i64 (cs.length : Int))]) Tryz.func101 kC rfl rfl rfl ?_)))))
 refine dJ (qL hX61.pins hb57 hc (by omega) (by omega) (n := (cs.length : Int)) (by omega)) ?_
 rintro _ w91 ⟨z87, a89, s90, rfl, hz88, hb92, hda93, hds94, hx95⟩
 refine ⟨_, rfl, ?_⟩
 have hX96 := hX61.trans hx95 (fun i hi => (zS hcl) i hi)
 have hd99 := hd64.extS hx95 (fun k h1 h2 h3 => by cases h3; have h4 := hch; omega)
 have hs100 := Nat.le_trans hs65 hx95.size
 have hkb101 := hkb66.turned hx95 hbc
 refine qD rfl (zC (v := (.int .i64 z87)) rfl) (qe (zA (zD (zD (zE ?_)))))
 refine qD rfl (zB (v := (.pointer (some ⟨c, 0, none⟩))) rfl) (qI rfl (zK (vs := [(.pointer (some ⟨c, 0, none⟩)), (.int .i64 6)]) Tryz.func101 kC rfl rfl rfl ?_))
 refine dJ (qL hX96.pins hb92 hc (by omega) (by omega) (n := 6) (by omega)) ?_
 rintro _ w106 ⟨z102, a104, s105, rfl, hz103, hb107, hda108, hds109, hx110⟩
 refine ⟨_, rfl, ?_⟩
 have hX111 := hX96.trans hx110 (fun i hi => (zS hcl) i hi)
 have hb112 := (hb62.extS hx95 (xJ ha12)).extS hx110 (xJ ha12)
 have hb113 := (hb63.extS hx95 (xJ ha28)).extS hx110 (xJ ha28)
 have hd114 := hd99.extS hx110 (fun k h1 h2 h3 => by cases h3; have h4 := hch; omega)
 have hs115 := Nat.le_trans hs100 hx110.size
 have hkb116 := hkb101.turned hx110 hbc
 refine qe (zA ?_)
 refine yI (zD (zE ?_))
 refine qD rfl (qN rfl rfl) (qD rfl (zC (v := (.bool (decide ((z102 : Int) = 0)))) rfl) (qe (zA ?_)))
 refine yJ (p := (z102 : Int) = 0) rfl rfl (fun h117 => ?_) (fun h117 => ?_)
 have hkk : (z87).toNat < cs.length := by omega
 have hln := hsm.ln (z87).toNat hkk
 obtain ⟨G118, ps, y, u, hy, hu, hle119, hp120, hpl, hov121, hou122, hvr123, hur124, huv125, hry126, hra, hla, hf127⟩ := hd114.open hX111.pins hkk
 have hX128 := hX111.promise hle119 hp120 (fun b o x h => (hf127 b o x h).imp id (fun a => a.1)) hlo
 have hkb132 := hkb116.moreR hf127 hbv
 have ho133 := hov121.weaken hlo
 have hr136 := ho133.read
 refine xD (S := fun wz => BxR wz b1 [v] ∧ Pins (Gadd G118 w106 v) wz) (last := 8) (by kernel_rfl) rfl ?_
 have hl137 := bdr w106
 have hX139 := hX128.step (hX128.pins.below hl137) hl137
 have hb143 := (hb112.moreR hf127 ha13).below hl137
 have hkb145 := hkb132.below hl137
 have hq146 := (Gadd.pins hX128.pins v).below hl137
 refine dT (i := 0) rfl rfl (by kernel_rfl) (fun _ _ => zM (k := 0) rfl eV rfl nz36 rfl) ⟨hb143.reads, hq146⟩ ?_
 refine dT (i := 1) rfl rfl (by kernel_rfl) (fun _ hS => zP (u := v) ag36 rfl (hS.1 0 _ rfl)) ⟨hb143.reads, hq146⟩ ?_
 refine dT (i := 2) rfl rfl (by kernel_rfl) (fun _ _ => zB (v := (.int .i64 z87)) rfl) ⟨hb143.reads, hq146⟩ ?_
 refine dT (i := 3) rfl rfl (by kernel_rfl) (fun _ _ => zB (v := (.pointer (some ⟨c, 0, none⟩))) rfl) ⟨hb143.reads, hq146⟩ ?_
 refine zR (i := 4) (by kernel_rfl) (yC (i := 4) rfl rfl rfl (zH rfl _) (zK (vs := [(.pointer (some ⟨c, 0, none⟩)), (.int .i64 6)]) Tryz.func101 kC rfl rfl rfl ?_))
 refine dJ (qL hX139.pins ((hb107.moreR hf127 hch).below hl137) (hc.mono hle119) (by omega) (by omega) (n := 6) (by omega)) ?_
 rintro _ w151 ⟨z147, a149, s150, rfl, hz148, hb152, hda153, hds154, hx155⟩
 refine ⟨_, rfl, ?_⟩
 have hX156 := hX139.trans hx155 (fun i hi => (zS hcl) i hi)
 have ho157 := (ho133.below hl137).extS hx155 (notO (xC hvr123 hch))
 have hb159 := hb143.extS hx155 (xJ ha12)
 have hkb161 := hkb145.turned hx155 hbc
 have hq162 := Gadd.turn hq146 (dI hX156.pins (Pin.le_refl _)) hx155 (notO (xC hvr123 hch))
 refine ⟨fun _ => ⟨hb159.reads, hq162⟩, ?_⟩
 refine dT (i := 5) rfl rfl (by kernel_rfl) (fun _ _ => vN rfl rfl (by omega)) ⟨hb159.reads, hq162⟩ ?_
 refine zR (i := 6) (by kernel_rfl) (yC (i := 6) rfl rfl rfl (zH rfl _) (EO.run (zL eU sz72 (v := v) rfl rfl hr136 (by omega) (by omega)) ⟨fun _ => ⟨hb159.reads, hq162⟩, ?_⟩))
 refine dT (i := 7) rfl rfl (by kernel_rfl) (fun _ _ => yS (off := 0) eS rfl rfl nz3 (z := z87) (k := 0) rfl hr136 (by omega) (by omega)) ⟨hb159.reads, hq162⟩ ?_
 refine zR (i := 8) (by kernel_rfl) (xQ (i := 8) rfl rfl rfl (zH rfl _) (o_setC (v := v) (z := z87) (q := (z147 - 1)) 0 (by decide) sz3 rfl rfl hX156.pins ho157 (by omega) (by omega) (fun w163 ho164 hp165 hg166 hz167 => ?_)))
 have hX168 := hX156.write hp165 hg166 ((yQ ho157))
 have hkb173 := hkb161.kept hg166 (NotB.row hbv hvr123)
 have hm174 : (ps.set (z87).toNat (new4 0 (z147 - 1) (ps.getD (z87).toNat default))).length = ps.length := List.length_set ..
 have ho175 : Own eCl4 72 G118 w163 w0.heap.size v (ps.set (z87).toNat (new4 0 (z147 - 1) (ps.getD (z87).toNat default))) := ho164
 refine ⟨fun h => absurd rfl h, ?_⟩
 refine yP (by kernel_rfl) (yO (zA (zD (zE ?_))))
 refine qD rfl (zU (cs := [v]) ag38 sz38 rfl (fun j u hj => (hb159.keptA hg166 (xC hvr123 ha13).symm).cell (by simpa using hj))) (q0 rfl rfl rfl (yD (cs' := [v]) (us := [v]) (v := (.agg [v].toArray)) sz38 rfl rfl rfl (yE hd.one) hX168.pins ((((hb113.moreR hf127 ha30).below hl137).extS hx155 (xJ ha28)).keptA hg166 (xC hvr123 ha30).symm) (dK rfl) rfl (fun w176 hb177 hp178 hg179 hz180 => ?_)))
 have hkb186 := hkb173.kept hg179 ha31
 refine qe (zA ?_)
 refine wp_ret (zQ (qJ (cs := [v]) rfl rfl rfl ag38 sz38 (fun j u hj => by rw [Nat.zero_add]; exact hb177.cell hj) ?_))
 obtain ⟨G187, hle190, hX189, hr188, hf191⟩ := (ho175.keptA hg179 (xC hvr123 ha30)).sealed (hX168.write hp178 hg179 ((zS hlo32)))
 have hkb196 := hkb186.moreO hf191 (NotB.row hbv hvr123)
 obtain ⟨G197, hle200, hX199, hr198, hf201⟩ := ((((((hou122.weaken hlo).below hl137).extS hx155 (notO (xC hur124 hch))).keptA hg166 huv125).keptA hg179 (xC hur124 ha30)).moreO hle190 hf191 huv125).sealed hX189
 have hkb205 := hkb196.moreO hf201 (NotB.row hbv hur124)
 have hpc9 : ps.length = cs.length := hpl
 obtain ⟨_, hq9, hq8⟩ := kB hpc9 hsm (dH hle190 hle200) hu hla hr198 (by first | (have := hln.2; omega) | (rw [List.length_set]; have := hln.2; omega)) (by simp) (eD hpc9 hsm (dH hle190 hle200) hra) (hr188.mono hle200)
 exact ⟨_, _, _, rfl, hq9, hq8, hkb205, (dH (dH hle119 hle190) hle200), hX199⟩
 refine zD (zE ?_)
 refine qD rfl (qN rfl rfl) (qD rfl (zC (v := (.bool (decide ((z102 : Int) = 1)))) rfl) (qe (zA ?_)))
 refine yJ (p := (z102 : Int) = 1) rfl rfl (fun h206 => ?_) (fun h206 => ?_)
 have hkk : (z87).toNat < cs.length := by omega
 have hln := hsm.ln (z87).toNat hkk
 obtain ⟨G207, ps, y, u, hy, hu, hle208, hp209, hpl, hov210, hou211, hvr212, hur213, huv214, hry215, hra, hla, hf216⟩ := hd114.open hX111.pins hkk
 have hX217 := hX111.promise hle208 hp209 (fun b o x h => (hf216 b o x h).imp id (fun a => a.1)) hlo
 have hkb221 := hkb116.moreR hf216 hbv
 have ho222 := hov210.weaken hlo
 have hr225 := ho222.read
 refine xD (S := fun wz => BxR wz b1 [v] ∧ Pins (Gadd G207 w106 v) wz) (last := 8) (by kernel_rfl) rfl ?_
 have hl226 := bdr w106
 have hX228 := hX217.step (hX217.pins.below hl226) hl226
 have ho229 := ho222.below hl226
 have ho230 := (hou211.weaken hlo).below hl226
 have hb231 := (hb107.moreR hf216 hch).below hl226
 have hb232 := (hb112.moreR hf216 ha13).below hl226
 have hb233 := (hb113.moreR hf216 ha30).below hl226
 have hkb234 := hkb221.below hl226
 have hq235 := (Gadd.pins hX217.pins v).below hl226
 refine dT (i := 0) rfl rfl (by kernel_rfl) (fun _ _ => zM (k := 0) rfl eV rfl nz36 rfl) ⟨hb232.reads, hq235⟩ ?_
 refine dT (i := 1) rfl rfl (by kernel_rfl) (fun _ hS => zP (u := v) ag36 rfl (hS.1 0 _ rfl)) ⟨hb232.reads, hq235⟩ ?_
 refine dT (i := 2) rfl rfl (by kernel_rfl) (fun _ _ => zB (v := (.int .i64 z87)) rfl) ⟨hb232.reads, hq235⟩ ?_
 refine dT (i := 3) rfl rfl (by kernel_rfl) (fun _ _ => zB (v := (.pointer (some ⟨c, 0, none⟩))) rfl) ⟨hb232.reads, hq235⟩ ?_
 refine zR (i := 4) (by kernel_rfl) (yC (i := 4) rfl rfl rfl (zH rfl _) (xI (E := eInt) (e := 3) [(.int .i64 0), (.int .i64 1), (.int .i64 119), (.int .i64 120), (.int .i64 (-1))] [0, 1, 119, 120, (-1)] eR sz3 zr3 (kJ (by rfl) (kJ (by rfl) (kJ (by rfl) (kJ (by rfl) (kJ (by rfl) repsN))))) (kN (by rfl) (kN (by rfl) (kN (by rfl) (kN (by rfl) (kN (by rfl) onesN))))) rfl rfl rfl rfl (by decide) hX228.pins (fun u236 w237 ho238 hp239 hl240 hk241 => ?_)))
 have hb246 := hb232.below hl240
 have hkb248 := hkb234.below hl240
 have ha254 : NotB bs u236.ownBlock := hkb234.new (fun k hk => by rw [hk241] at hk; cases hk; exact Nat.le_refl _)
 have ho255 := ho238.weaken hX228.size
 have hq256 := hq235.below hl240
 refine ⟨fun _ => ⟨hb246.reads, hq256⟩, ?_⟩
 obtain ⟨G257, hle260, hX259, hr258, hf261⟩ := ho255.sealed (hX228.step hp239 hl240)
 have hkb267 := hkb248.moreO hf261 ha254
 refine zR (i := 5) (by kernel_rfl) (yC (i := 5) rfl rfl rfl (zH rfl _) (zK (vs := [(.pointer (some ⟨c, 0, none⟩)), u236]) Tryz.func68 nm68 rfl rfl rfl ?_))
 refine dJ (tC hX259.pins ((hb231.below hl240).moreO hf261 (zG hk241 hb231.lt).symm) (hc.mono (dH hle208 hle260)) (by omega) (by omega) hr258 (by simp)) ?_
 rintro _ w272 ⟨z268, a270, s271, rfl, hz269, hb273, hda274, hds275, hx276⟩
 refine ⟨_, rfl, ?_⟩
 have hX277 := hX259.trans hx276 (fun i hi => (zS hcl) i hi)
 have ho278 := ((ho229.below hl240).moreO hle260 hf261 (zI hk241 ho229.lt).symm).extS hx276 (notO (xC hvr212 hch))
 have hb280 := (hb246.moreO hf261 (zG hk241 hb232.lt).symm).extS hx276 (xJ ha12)
 have hkb282 := hkb267.turned hx276 hbc
 have hq283 := Gadd.turn hq256 (dI hX277.pins hle260) hx276 (notO (xC hvr212 hch))
 refine ⟨fun _ => ⟨hb280.reads, hq283⟩, ?_⟩
 refine zR (i := 6) (by kernel_rfl) (yC (i := 6) rfl rfl rfl (zH rfl _) (EO.run (zL eU sz72 (v := v) rfl rfl hr225 (by omega) (by omega)) ⟨fun _ => ⟨hb280.reads, hq283⟩, ?_⟩))
 refine dT (i := 7) rfl rfl (by kernel_rfl) (fun _ _ => yS (off := 1) eS rfl rfl nz3 (z := z87) (k := 0) rfl hr225 (by omega) (by omega)) ⟨hb280.reads, hq283⟩ ?_
 refine zR (i := 8) (by kernel_rfl) (xQ (i := 8) rfl rfl rfl (zH rfl _) (o_setC (v := v) (z := z87) (q := z268) 1 (by decide) sz3 rfl rfl hX277.pins ho278 (by omega) (by omega) (fun w284 ho285 hp286 hg287 hz288 => ?_)))
 have hX289 := hX277.write hp286 hg287 ((yQ ho278))
 have hkb294 := hkb282.kept hg287 (NotB.row hbv hvr212)
 have hm295 : (ps.set (z87).toNat (new4 1 z268 (ps.getD (z87).toNat default))).length = ps.length := List.length_set ..
 have ho296 : Own eCl4 72 G257 w284 w0.heap.size v (ps.set (z87).toNat (new4 1 z268 (ps.getD (z87).toNat default))) := ho285
 refine ⟨fun h => absurd rfl h, ?_⟩
 refine yP (by kernel_rfl) (yO (zA (zD (zE ?_))))
 refine qD rfl (zU (cs := [v]) ag38 sz38 rfl (fun j u hj => (hb280.keptA hg287 (xC hvr212 ha13).symm).cell (by simpa using hj))) (q0 rfl rfl rfl (yD (cs' := [v]) (us := [v]) (v := (.agg [v].toArray)) sz38 rfl rfl rfl (yE hd.one) hX289.pins ((((hb233.below hl240).moreO hf261 (zG hk241 hb233.lt).symm).extS hx276 (xJ ha28)).keptA hg287 (xC hvr212 ha30).symm) (dK rfl) rfl (fun w297 hb298 hp299 hg300 hz301 => ?_)))
 have hkb307 := hkb294.kept hg300 ha31
 refine qe (zA ?_)
 refine wp_ret (zQ (qJ (cs := [v]) rfl rfl rfl ag38 sz38 (fun j u hj => by rw [Nat.zero_add]; exact hb298.cell hj) ?_))
 obtain ⟨G308, hle311, hX310, hr309, hf312⟩ := (ho296.keptA hg300 (xC hvr212 ha30)).sealed (hX289.write hp299 hg300 ((zS hlo32)))
 have hkb317 := hkb307.moreO hf312 (NotB.row hbv hvr212)
 obtain ⟨G318, hle321, hX320, hr319, hf322⟩ := ((((((ho230.below hl240).moreO hle260 hf261 (zI hk241 ho230.lt).symm).extS hx276 (notO (xC hur213 hch))).keptA hg287 huv214).keptA hg300 (xC hur213 ha30)).moreO hle311 hf312 huv214).sealed hX310
 have hkb326 := hkb317.moreO hf322 (NotB.row hbv hur213)
 have hpc9 : ps.length = cs.length := hpl
 obtain ⟨_, hq9, hq8⟩ := kB hpc9 hsm (dH (dH hle260 hle311) hle321) hu hla hr319 (by first | (have := hln.2; omega) | (rw [List.length_set]; have := hln.2; omega)) (by simp) (eD hpc9 hsm (dH (dH hle260 hle311) hle321) hra) (hr309.mono hle321)
 exact ⟨_, _, _, rfl, hq9, hq8, hkb326, (dH (dH (dH hle208 hle260) hle311) hle321), hX320⟩
 refine zD (zE ?_)
 refine qD rfl (qN rfl rfl) (qD rfl (zC (v := (.bool (decide ((z102 : Int) = 2)))) rfl) (qe (zA ?_)))
 refine yJ (p := (z102 : Int) = 2) rfl rfl (fun h327 => ?_) (fun h327 => ?_)
 have hkk : (z87).toNat < cs.length := by omega
 have hln := hsm.ln (z87).toNat hkk
 obtain ⟨G328, ps, y, u, hy, hu, hle329, hp330, hpl, hov331, hou332, hvr333, hur334, huv335, hry336, hra, hla, hf337⟩ := hd114.open hX111.pins hkk
 have hX338 := hX111.promise hle329 hp330 (fun b o x h => (hf337 b o x h).imp id (fun a => a.1)) hlo
 have hkb342 := hkb116.moreR hf337 hbv
 have ho343 := hov331.weaken hlo
 have hr346 := ho343.read
 refine xD (S := fun wz => BxR wz b1 [v] ∧ Pins (Gadd G328 w106 v) wz) (last := 17) (by kernel_rfl) rfl ?_
 have hl347 := bdr w106
 have hX349 := hX338.step (hX338.pins.below hl347) hl347
 have ho350 := ho343.below hl347
 have ho351 := (hou332.weaken hlo).below hl347
 have hb352 := (hb107.moreR hf337 hch).below hl347
 have hb353 := (hb112.moreR hf337 ha13).below hl347
 have hb354 := (hb113.moreR hf337 ha30).below hl347
 have hkb355 := hkb342.below hl347
 have hq356 := (Gadd.pins hX338.pins v).below hl347
 refine dT (i := 0) rfl rfl (by kernel_rfl) (fun _ _ => zM (k := 0) rfl eV rfl nz36 rfl) ⟨hb353.reads, hq356⟩ ?_
 refine dT (i := 1) rfl rfl (by kernel_rfl) (fun _ hS => zP (u := v) ag36 rfl (hS.1 0 _ rfl)) ⟨hb353.reads, hq356⟩ ?_
 refine dT (i := 2) rfl rfl (by kernel_rfl) (fun _ _ => zB (v := (.int .i64 z87)) rfl) ⟨hb353.reads, hq356⟩ ?_
 refine dT (i := 3) rfl rfl (by kernel_rfl) (fun _ _ => zM (k := 0) rfl eV rfl nz36 rfl) ⟨hb353.reads, hq356⟩ ?_
 refine dT (i := 4) rfl rfl (by kernel_rfl) (fun _ hS => zP (u := v) ag36 rfl (hS.1 0 _ rfl)) ⟨hb353.reads, hq356⟩ ?_
 refine dT (i := 5) rfl rfl (by kernel_rfl) (fun _ _ => zB (v := (.int .i64 z87)) rfl) ⟨hb353.reads, hq356⟩ ?_
 refine dT (i := 6) rfl rfl (by kernel_rfl) (fun _ _ => zL eU sz72 (v := v) rfl rfl hr346 (by omega) (by omega)) ⟨hb353.reads, hq356⟩ ?_
 refine dT (i := 7) rfl rfl (by kernel_rfl) (fun _ _ => yS (off := 2) eS rfl rfl nz59 (z := z87) (k := 0) rfl hr346 (by omega) (by omega)) ⟨hb353.reads, hq356⟩ ?_
 obtain ⟨cs357, hrep358, hagg359, hcell360⟩ := qO (j := (z87).toNat) default (ho343.at (z := z87) (by omega) (by omega)) rfl
 obtain ⟨rfl, hone363⟩ := hrep358
 refine dT (i := 8) rfl rfl (by kernel_rfl) (fun _ hS => hcell360 2 y (by rw [hy]; rfl) ag59 rfl hS.2) ⟨hb353.reads, hq356⟩ ?_
 refine dT (i := 10) rfl rfl (by kernel_rfl) (fun _ _ => zB (v := (.pointer (some ⟨c, 0, none⟩))) rfl) ⟨hb353.reads, hq356⟩ ?_
 refine zR (i := 9) (by kernel_rfl) (yC (i := 9) rfl rfl rfl (zH rfl _) (zK (vs := [y]) Tryz.func114 nm114 rfl rfl rfl ?_))
 refine dJ (gT hX349.pins hry336 (by omega)) ?_
 rintro _ w366 ⟨u364, G365, rfl, ho367, hx368⟩
 refine ⟨_, rfl, ?_⟩
 have hX369 := hX349.tr hx368
 have hb373 := hb353.ext hx368
 have hkb375 := hkb355.ext hx368
 have ha376 : Apart u364.ownBlock v.ownBlock := zV ho367.lt ho350.lt
 have ha377 : Apart u364.ownBlock u.ownBlock := zV ho367.lt ho351.lt
 have ha380 : Apart u364.ownBlock (some b16) := zX ho367.lt hb354.lt
 have ha381 : NotB bs u364.ownBlock := hkb355.new (fun k hk => (ho367.lt k hk).1)
 have ho382 := ho367.weaken hX349.size
 have hq383 := hq356.below hx368.below
 refine ⟨fun _ => ⟨hb373.reads, hq383⟩, ?_⟩
 refine zR (i := 11) (by kernel_rfl) (yC (i := 11) rfl rfl rfl (zH rfl _) (zK (vs := [(.pointer (some ⟨c, 0, none⟩)), (.int .i64 4)]) Tryz.func101 kC rfl rfl rfl ?_))
 refine dJ (qL hX369.pins (hb352.ext hx368) (hc.mono (dH hle329 hx368.le)) (by omega) (by omega) (n := 4) (by omega)) ?_
 rintro _ w388 ⟨z384, a386, s387, rfl, hz385, hb389, hda390, hds391, hx392⟩
 refine ⟨_, rfl, ?_⟩
 have hX393 := hX369.trans hx392 (fun i hi => (zS hcl) i hi)
 have hb397 := hb373.extS hx392 (xJ ha12)
 have hkb399 := hkb375.turned hx392 hbc
 have hq400 := Gadd.turn hq383 (dI hX393.pins hx368.le) hx392 (notO (xC hvr333 hch))
 refine ⟨fun _ => ⟨hb397.reads, hq400⟩, ?_⟩
 refine dT (i := 12) rfl rfl (by kernel_rfl) (fun _ _ => vN rfl rfl (by omega)) ⟨hb397.reads, hq400⟩ ?_
 refine zR (i := 13) (by kernel_rfl) (yC (i := 13) rfl rfl rfl (zH rfl _) (xI (E := eInt) (e := 3) [(.int .i64 (z384 - 1))] [z384 - 1] eR sz3 zr3 (by exact qQ (by rfl)) (yE (by rfl)) rfl rfl rfl rfl (by decide) hX393.pins (fun u401 w402 ho403 hp404 hl405 hk406 => ?_)))
 have hX407 := hX393.step hp404 hl405
 have ho408 := ((ho350.ext hx368).extS hx392 (notO (xC hvr333 hch))).below hl405
 have ho409 := ((ho351.ext hx368).extS hx392 (notO (xC hur334 hch))).below hl405
 have ho410 := (ho382.extS hx392 (notO (zX ho367.lt hb352.lt))).below hl405
 have hb412 := hb397.below hl405
 have hb413 := ((hb354.ext hx368).extS hx392 (xJ ha28)).below hl405
 have hkb414 := hkb399.below hl405
 have ha421 : NotB bs u401.ownBlock := hkb399.new (fun k hk => by rw [hk406] at hk; cases hk; exact Nat.le_refl _)
 have ho422 := ho403.weaken hX393.size
 have hq423 := hq400.below hl405
 refine ⟨fun _ => ⟨hb412.reads, hq423⟩, ?_⟩
 refine zR (i := 14) (by kernel_rfl) (yC (i := 14) rfl rfl rfl (zH rfl _) (yH (E := eInt) (v := u364) (u := u401) 8 eR ap3 (by decide) rfl rfl hX407.pins ho410 ho422.src (by first | omega | (rw [List.nil_append]; omega) | (rw [List.length_nil]; omega) | (rw [List.length_append]; omega) | (simp; done) | (simp; omega) | (simp only [List.length_cons, List.length_nil]; omega) | (simp only [List.length_append, List.length_cons, List.length_nil]; omega)) (by first | omega | (rw [List.nil_append]; omega) | (rw [List.length_nil]; omega) | (rw [List.length_append]; omega) | (simp; done) | (simp; omega) | (simp only [List.length_cons, List.length_nil]; omega) | (simp only [List.length_append, List.length_cons, List.length_nil]; omega)) (hX407.size) (fun u424 w425 ho426 hp427 hg428 hw429 => ?_)))
 have hX430 := hX407.write hp427 hg428 ((yQ ho410))
 have ho431 := ho408.keptA hg428 ha376.symm
 have hb435 := hb412.keptA hg428 (zX ho367.lt hb353.lt).symm
 have hkb437 := hkb414.kept hg428 ha381
 have ha438 : Apart v.ownBlock u424.ownBlock := zJ ha376.symm hw429 ho408.lt
 have ha444 : NotB bs u424.ownBlock := NotB.app ha381 hkb414 hw429
 have hm445 := la1 ((cs.getD (z87).toNat default).r) (z384 - 1)
 have hq446 := Gadd.turn hq423 (dI hX430.pins hx368.le) (Ext.one hp427 hg428) (notO ha376.symm)
 refine ⟨fun _ => ⟨hb435.reads, hq446⟩, ?_⟩
 refine zR (i := 15) (by kernel_rfl) (yC (i := 15) rfl rfl rfl (zH rfl _) (EO.run (zL eU sz72 (v := v) rfl rfl hr346 (by omega) (by omega)) ⟨fun _ => ⟨hb435.reads, hq446⟩, ?_⟩))
 refine dT (i := 16) rfl rfl (by kernel_rfl) (fun _ _ => yS (off := 2) eS rfl rfl nz59 (z := z87) (k := 0) rfl hr346 (by omega) (by omega)) ⟨hb435.reads, hq446⟩ ?_
 refine zR (i := 17) (by kernel_rfl) (xQ (i := 17) rfl rfl rfl (zH rfl _) (o_setV (v := v) (z := z87) (q := u424) ho426.one sz59 rfl rfl hX430.pins ho431 (by omega) (by omega) (fun w447 ho448 hp449 hg450 hz451 => ?_)))
 have hX452 := hX430.write hp449 hg450 ((yQ ho431))
 have hkb458 := hkb437.kept hg450 (NotB.row hbv hvr333)
 refine ⟨fun h => absurd rfl h, ?_⟩
 refine yP (by kernel_rfl) (yO (zA (zD (zE ?_))))
 refine qD rfl (zU (cs := [v]) ag38 sz38 rfl (fun j u hj => (hb435.keptA hg450 (xC hvr333 ha13).symm).cell (by simpa using hj))) (q0 rfl rfl rfl (yD (cs' := [v]) (us := [v]) (v := (.agg [v].toArray)) sz38 rfl rfl rfl (yE hd.one) hX452.pins ((hb413.keptA hg428 ha380.symm).keptA hg450 (xC hvr333 ha30).symm) (dK rfl) rfl (fun w459 hb460 hp461 hg462 hz463 => ?_)))
 have hkb470 := hkb458.kept hg462 ha31
 refine qe (zA ?_)
 refine wp_ret (zQ (qJ (cs := [v]) rfl rfl rfl ag38 sz38 (fun j u hj => by rw [Nat.zero_add]; exact hb460.cell hj) ?_))
 obtain ⟨G471, hle474, hX473, hr472, hf475⟩ := (ho448.keptA hg462 (xC hvr333 ha30)).sealed (hX452.write hp461 hg462 ((zS hlo32)))
 have hkb481 := hkb470.moreO hf475 (NotB.row hbv hvr333)
 obtain ⟨G482, hle485, hX484, hr483, hf486⟩ := ((((ho409.keptA hg428 ha377.symm).keptA hg450 huv335).keptA hg462 (xC hur334 ha30)).moreO hle474 hf475 huv335).sealed hX473
 have hkb491 := hkb481.moreO hf486 (NotB.row hbv hur334)
 obtain ⟨G492, hle495, hX494, hr493, hf496⟩ := ((((ho426.keptA hg450 ha438.symm).keptA hg462 (zN ha380.symm hw429 hb413.lt).symm).moreO hle474 hf475 ha438.symm).moreO hle485 hf486 (zJ ha377.symm hw429 ho409.lt).symm).sealed hX484
 have hkb500 := hkb491.moreO hf496 ha444
 have hpc9 : ps.length = cs.length := hpl
 obtain ⟨_, hq9, hq8⟩ := kB hpc9 hsm (dH (dH (dH hx368.le hle474) hle485) hle495) hu hla (hr483.mono hle495) (by first | (have := hln.2; omega) | (rw [List.length_set]; have := hln.2; omega)) (by simp) (doneB_row (by have := hln.1; simp only [List.length_append, List.length_cons, List.length_nil]; omega) hpc9 hsm (by omega) (dH (dH (dH hx368.le hle474) hle485) hle495) hra hr493) (hr472.mono (dH hle485 hle495))
 exact ⟨_, _, _, rfl, hq9, hq8, hkb500, (dH (dH (dH (dH hle329 hx368.le) hle474) hle485) hle495), hX494⟩
 refine zD (zE ?_)
 refine qD rfl (qN rfl rfl) (qD rfl (zC (v := (.bool (decide ((z102 : Int) = 3)))) rfl) (qe (zA ?_)))
 refine yJ (p := (z102 : Int) = 3) rfl rfl (fun h501 => ?_) (fun h501 => ?_)
 refine zD (zE ?_)
 have hkk : (z87).toNat < cs.length := by omega
 have hln := hsm.ln (z87).toNat hkk
 obtain ⟨G502, ps, y, u, hy, hu, hle503, hp504, hpl, hov505, hou506, hvr507, hur508, huv509, hry510, hra, hla, hf511⟩ := hd114.open hX111.pins hkk
 have hX512 := hX111.promise hle503 hp504 (fun b o x h => (hf511 b o x h).imp id (fun a => a.1)) hlo
 have hb514 := hb112.moreR hf511 ha13
 have hb515 := hb113.moreR hf511 ha30
 have hkb516 := hkb116.moreR hf511 hbv
 have ho517 := hov505.weaken hlo
 have ho518 := hou506.weaken hlo
 refine qD rfl (zM (k := 0) rfl eV rfl nz36 rfl) (qD rfl (zP (u := v) ag36 rfl (hb514.cell (o := 0) rfl)) (qD rfl (zB (v := (.int .i64 z87)) rfl) (qD rfl (zL eU sz72 (v := v) rfl rfl ho517.read (by omega) (by omega)) (qD rfl (yS (off := 3) eS rfl rfl nz59 (z := z87) (k := 0) rfl ho517.read (by omega) (by omega)) ?_))))
 obtain ⟨cs519, hrep520, hagg521, hcell522⟩ := qO (j := (z87).toNat) default (ho517.at (z := z87) (by omega) (by omega)) rfl
 obtain ⟨rfl, hone525⟩ := hrep520
 refine qD rfl (hcell522 3 u (by rw [hu]; rfl) ag59 rfl (Gadd.pins hX512.pins v)) (qD rfl (run_len eR (v := u) rfl ho518.read) (qD rfl (qV rfl rfl) (qe (zA ?_))))
 refine yJ (p := (0 : Int) < (((cs.getD (z87).toNat default).l).length : Int)) rfl rfl (fun h526 => ?_) (fun h526 => ?_)
 have hr529 := ho517.read
 refine xD (S := fun wz => BxR wz b1 [v] ∧ Pins (Gadd G502 w106 v) wz ∧ Pins (Gadd G502 w106 u) wz) (last := 11) (by kernel_rfl) rfl ?_
 have hl531 := bdr w106
 have hX533 := hX512.step (hX512.pins.below hl531) hl531
 have hb537 := hb514.below hl531
 have hkb539 := hkb516.below hl531
 have hq540 := (Gadd.pins hX512.pins v).below hl531
 have hq541 := (Gadd.pins hX512.pins u).below hl531
 refine dT (i := 0) rfl rfl (by kernel_rfl) (fun _ _ => zM (k := 0) rfl eV rfl nz36 rfl) ⟨hb537.reads, hq540, hq541⟩ ?_
 refine dT (i := 1) rfl rfl (by kernel_rfl) (fun _ hS => zP (u := v) ag36 rfl (hS.1 0 _ rfl)) ⟨hb537.reads, hq540, hq541⟩ ?_
 refine dT (i := 2) rfl rfl (by kernel_rfl) (fun _ _ => zB (v := (.int .i64 z87)) rfl) ⟨hb537.reads, hq540, hq541⟩ ?_
 refine dT (i := 3) rfl rfl (by kernel_rfl) (fun _ _ => zL eU sz72 (v := v) rfl rfl hr529 (by omega) (by omega)) ⟨hb537.reads, hq540, hq541⟩ ?_
 refine dT (i := 4) rfl rfl (by kernel_rfl) (fun _ _ => yS (off := 3) eS rfl rfl nz59 (z := z87) (k := 0) rfl hr529 (by omega) (by omega)) ⟨hb537.reads, hq540, hq541⟩ ?_
 obtain ⟨cs542, hrep543, hagg544, hcell545⟩ := qO (j := (z87).toNat) default (ho517.at (z := z87) (by omega) (by omega)) rfl
 obtain ⟨rfl, hone548⟩ := hrep543
 refine dT (i := 5) rfl rfl (by kernel_rfl) (fun _ hS => hcell545 3 u (by rw [hu]; rfl) ag59 rfl hS.2.1) ⟨hb537.reads, hq540, hq541⟩ ?_
 refine dT (i := 6) rfl rfl (by kernel_rfl) (fun _ _ => zB (v := (.pointer (some ⟨c, 0, none⟩))) rfl) ⟨hb537.reads, hq540, hq541⟩ ?_
 refine dT (i := 7) rfl rfl (by kernel_rfl) (fun _ _ => zB (v := (.int .i64 z87)) rfl) ⟨hb537.reads, hq540, hq541⟩ ?_
 refine dT (i := 8) rfl rfl (by kernel_rfl) (fun _ _ => yT rfl rfl (by omega)) ⟨hb537.reads, hq540, hq541⟩ ?_
 refine zR (i := 9) (by kernel_rfl) (yC (i := 9) rfl rfl rfl (zH rfl _) (zK (vs := [(.pointer (some ⟨c, 0, none⟩)), (.int .i64 (z87 + 1))]) Tryz.func101 kC rfl rfl rfl ?_))
 refine dJ (qL hX533.pins ((hb107.moreR hf511 hch).below hl531) (hc.mono hle503) (by omega) (by omega) (n := (z87 + 1)) (by omega)) ?_
 rintro _ w553 ⟨z549, a551, s552, rfl, hz550, hb554, hda555, hds556, hx557⟩
 refine ⟨_, rfl, ?_⟩
 have hX558 := hX533.trans hx557 (fun i hi => (zS hcl) i hi)
 have ho560 := (ho518.below hl531).extS hx557 (notO (xC hur508 hch))
 have hb561 := hb537.extS hx557 (xJ ha12)
 have hkb563 := hkb539.turned hx557 hbc
 have hq564 := Gadd.turn hq540 (dI hX558.pins (Pin.le_refl _)) hx557 (notO (xC hvr507 hch))
 have hq565 := Gadd.turn hq541 (dI hX558.pins (Pin.le_refl _)) hx557 (notO (xC hur508 hch))
 refine ⟨fun _ => ⟨hb561.reads, hq564, hq565⟩, ?_⟩
 refine dT (i := 10) rfl rfl (by kernel_rfl) (fun _ _ => zL eR sz3 (v := u) rfl rfl ho518.read (by omega) (by omega)) ⟨hb561.reads, hq564, hq565⟩ ?_
 refine zR (i := 11) (by kernel_rfl) (xQ (i := 11) rfl rfl rfl (zH rfl _) (kO (E := eInt) (v := u) (u := (.int .i64 z549)) (z := 0) (z549) sz3 rfl rfl rfl rfl hX558.pins ho560 (by omega) (by omega) (fun w566 ho567 hp568 hg569 hz570 => ?_)))
 have hX571 := hX558.write hp568 hg569 ((yQ ho560))
 have hkb576 := hkb563.kept hg569 (NotB.row hbv hur508)
 refine ⟨fun h => absurd rfl h, ?_⟩
 refine yP (by kernel_rfl) (yO (zA (zD (zE ?_))))
 refine qD rfl (zU (cs := [v]) ag38 sz38 rfl (fun j u hj => (hb561.keptA hg569 (xC hur508 ha13).symm).cell (by simpa using hj))) (q0 rfl rfl rfl (yD (cs' := [v]) (us := [v]) (v := (.agg [v].toArray)) sz38 rfl rfl rfl (yE hd.one) hX571.pins (((hb515.below hl531).extS hx557 (xJ ha28)).keptA hg569 (xC hur508 ha30).symm) (dK rfl) rfl (fun w577 hb578 hp579 hg580 hz581 => ?_)))
 have hkb587 := hkb576.kept hg580 ha31
 refine qe (zA ?_)
 refine wp_ret (zQ (qJ (cs := [v]) rfl rfl rfl ag38 sz38 (fun j u hj => by rw [Nat.zero_add]; exact hb578.cell hj) ?_))
 obtain ⟨G588, hle591, hX590, hr589, hf592⟩ := ((((ho517.below hl531).extS hx557 (notO (xC hvr507 hch))).keptA hg569 huv509.symm).keptA hg580 (xC hvr507 ha30)).sealed (hX571.write hp579 hg580 ((zS hlo32)))
 have hkb597 := hkb587.moreO hf592 (NotB.row hbv hvr507)
 obtain ⟨G598, hle601, hX600, hr599, hf602⟩ := ((ho567.keptA hg580 (xC hur508 ha30)).moreO hle591 hf592 huv509).sealed hX590
 have hkb606 := hkb597.moreO hf602 (NotB.row hbv hur508)
 have hpc9 : ps.length = cs.length := hpl
 obtain ⟨_, hq9, hq8⟩ := kB hpc9 hsm (dH hle591 hle601) hu hla hr599 (by first | (have := hln.2; omega) | (rw [List.length_set]; have := hln.2; omega)) (by simp) (pJ hpc9 hsm (dH hle591 hle601) hra) (hr589.mono hle601)
 exact ⟨_, _, _, rfl, hq9, hq8, hkb606, (dH (dH hle503 hle591) hle601), hX600⟩
 refine wp_skip (yO (zA (zD (zE ?_))))
 refine qD rfl (zU (cs := [v]) ag38 sz38 rfl (fun j u hj => hb514.cell (by simpa using hj))) (q0 rfl rfl rfl (yD (cs' := [v]) (us := [v]) (v := (.agg [v].toArray)) sz38 rfl rfl rfl (yE hd.one) hX512.pins hb515 (dK rfl) rfl (fun w607 hb608 hp609 hg610 hz611 => ?_)))
 have hkb617 := hkb516.kept hg610 ha31
 refine qe (zA ?_)
 refine wp_ret (zQ (qJ (cs := [v]) rfl rfl rfl ag38 sz38 (fun j u hj => by rw [Nat.zero_add]; exact hb608.cell hj) ?_))
 obtain ⟨G618, hle621, hX620, hr619, hf622⟩ := (ho517.keptA hg610 (xC hvr507 ha30)).sealed (hX512.write hp609 hg610 ((zS hlo32)))
 have hkb627 := hkb617.moreO hf622 (NotB.row hbv hvr507)
 obtain ⟨G628, hle631, hX630, hr629, hf632⟩ := ((ho518.keptA hg610 (xC hur508 ha30)).moreO hle621 hf622 huv509).sealed hX620
 have hkb636 := hkb627.moreO hf632 (NotB.row hbv hur508)
 have hpc9 : ps.length = cs.length := hpl
 obtain ⟨_, hq9, hq8⟩ := kB hpc9 hsm (dH hle621 hle631) hu hla hr629 (by first | (have := hln.2; omega) | (rw [List.length_set]; have := hln.2; omega)) (by simp) (pJ hpc9 hsm (dH hle621 hle631) hra) (hr619.mono hle631)
 exact ⟨_, _, _, rfl, hq9, hq8, hkb636, (dH (dH hle503 hle621) hle631), hX630⟩
 refine zD (zE ?_)
 refine qD rfl (qN rfl rfl) (qD rfl (zC (v := (.bool (decide ((z102 : Int) = 4)))) rfl) (qe (zA ?_)))
 refine yJ (p := (z102 : Int) = 4) rfl rfl (fun h637 => ?_) (fun h637 => ?_)
 refine zE ?_
 obtain ⟨G638, hle639, hp640, hr641, hf642⟩ := hd114.readR hX111.pins
 have hX643 := hX111.promise hle639 hp640 (fun b o x h => (hf642 b o x h).imp id (fun a => a.1)) hlo
 have hb644 := hb107.moreR hf642 hch
 have hb645 := hb112.moreR hf642 ha13
 have hkb647 := hkb116.moreR hf642 hbv
 refine qD rfl (zM (k := 0) rfl eV rfl nz36 rfl) (qD rfl (zP (u := v) ag36 rfl (hb645.cell (o := 0) rfl)) (qD rfl (zB (v := (.int .i64 z87)) rfl) ?_))
 obtain ⟨u648, hr649, hl650⟩ := qR hr641 (lo := none) (hi := (some (z87))) (0) ((z87).toNat) (Or.inl ⟨rfl, rfl⟩) (Or.inr ⟨_, rfl, (by omega), rfl⟩) (by omega) (by omega)
 refine qD rfl (hl650 eU sz72 rfl rfl rfl) (qD rfl (zM (k := 0) rfl eV rfl nz36 rfl) (q0 rfl rfl rfl (yD (cs' := [u648]) (us := [u648]) (v := u648) sz36 rfl rfl (vL hr649.one) (yE hr649.one) hX643.pins hb645 (dK rfl) rfl (fun w651 hb652 hp653 hg654 hz655 => ?_))))
 have hX656 := hX643.write hp653 hg654 ((zS hlo15))
 have hkb659 := hkb647.kept hg654 ha14
 refine qe (yO (zA (zD (zE ?_))))
 refine qD rfl (zU (cs := [u648]) ag38 sz38 rfl (fun j u hj => hb652.cell (by simpa using hj))) (q0 rfl rfl rfl (yD (cs' := [u648]) (us := [u648]) (v := (.agg [u648].toArray)) sz38 rfl rfl rfl (yE hr649.one) hX656.pins ((hb113.moreR hf642 ha30).keptA hg654 (zG (congrArg some hk18) hb4.lt)) (dK rfl) rfl (fun w660 hb661 hp662 hg663 hz664 => ?_)))
 have hkb668 := hkb659.kept hg663 ha31
 refine qe (zA ?_)
 exact wp_ret (zQ (qJ (cs := [u648]) rfl rfl rfl ag38 sz38 (fun j u hj => by rw [Nat.zero_add]; exact hb661.cell hj) (⟨_, _, _, rfl, hr649, (lenB_take hsm.lenb _), hkb668, hle639, (hX656.write hp662 hg663 ((zS hlo32)))⟩)))
 refine wp_skip (yO (zA (zD (zE ?_))))
 obtain ⟨G669, hle670, hp671, hr672, hf673⟩ := hd114.readR hX111.pins
 have hX674 := hX111.promise hle670 hp671 (fun b o x h => (hf673 b o x h).imp id (fun a => a.1)) hlo
 have hb675 := hb107.moreR hf673 hch
 have hkb678 := hkb116.moreR hf673 hbv
 refine qD rfl (zU (cs := [v]) ag38 sz38 rfl (fun j u hj => (hb112.moreR hf673 ha13).cell (by simpa using hj))) (q0 rfl rfl rfl (yD (cs' := [v]) (us := [v]) (v := (.agg [v].toArray)) sz38 rfl rfl rfl (yE hd.one) hX674.pins (hb113.moreR hf673 ha30) (dK rfl) rfl (fun w679 hb680 hp681 hg682 hz683 => ?_)))
 have hkb687 := hkb678.kept hg682 ha31
 refine qe (zA ?_)
 exact wp_ret (zQ (qJ (cs := [v]) rfl rfl rfl ag38 sz38 (fun j u hj => by rw [Nat.zero_add]; exact hb680.cell hj) (⟨_, _, _, rfl, hr672, hsm.lenb, hkb687, hle670, (hX674.write hp681 hg682 ((zS hlo32)))⟩)))
end PTE
end Go.Proofs.YtajkbplgbikgdaaGreatDoor
namespace Go.Proofs.YtajkbplgbikgdaaGreatDoor
namespace P1
open Go.RowKit Go.GL Go.Proofs
open B1 C1 E1
variable {G : Pin} {v u cr cl : Value} {ns bs : List Nd} {y : Int}
theorem jY {w : World} {xs : List Int} {n : Int} (hP : Pins G w) (hv : RSl eInt G v xs) :
  Calls Tryz.prog 287 [v, (.int .i64 n)].toArray w fun e w' => e = .returned (.bool (decide (n ∈ xs))) ∧ w' = w := by
 refine yM (n := 18) Tryz.func287 Tryz.ntmps287 rfl rfl ?_
 have hX0 := exr noS hP
 have hm := hv.max
 refine zD (zE ?_)
 refine qD rfl (zC (v := (.bool false)) rfl) (qe (zA (zD (zD (zE ?_)))))
 refine qD rfl (zC (v := (.int .i64 0)) rfl) (qe (zA ?_))
 refine yI (yZ (fun (k : Nat) (en : Nat → Value) (W : World) => ∃ (env1 : Nat → Value) (j : Nat), en = (upd (upd (upd env1 0 v) 1 (.int .i64 n)) 5 (.int .i64 (j : Int))) ∧ k = xs.length - j ∧ Ext noS G w G W ∧ (j ≤ xs.length) ∧ (W = w) ∧ (∀ i, i < j → xs.getD i 0 ≠ n)) _ ⟨_, 0, (zF (x := 5) (zF (x := 1) (yF (x := 0) rfl) rfl) rfl), rfl, hX0, Nat.zero_le _, rfl, (fun i hi => absurd hi (Nat.not_lt_zero i))⟩ ?_)
 rintro k1 _ w2 ⟨env1, j, rfl, hk3, hX4, hj, hw, hp⟩
 subst hw
 refine zD (zD (zE ?_))
 refine qD rfl (zB (v := (.int .i64 (j : Int))) rfl) (qD rfl (zB (v := v) rfl) (qD rfl (run_len eR (v := v) rfl hv) (qD rfl (xB rfl rfl) (qe (zA ?_)))))
 refine yJ (p := ((j : Int) : Int) < (xs.length : Int)) rfl rfl (fun h5 => ?_) (fun h5 => ?_)
 refine wp_skip (zA (zD ?_))
 refine yI (zD (zE ?_))
 refine qD rfl (zB (v := v) rfl) (qD rfl (zB (v := (.int .i64 (j : Int))) rfl) (qD rfl (zL eR sz3 (v := v) rfl rfl hv (by omega) (by omega)) (qD rfl (zZ (r := xs.getD j 0) rfl ag3 (z := (j : Int)) rfl hv hX4.pins (by omega) (by omega)) (qD rfl (zB (v := (.int .i64 n)) rfl) (qD rfl (qN rfl rfl) (qe (zA ?_)))))))
 refine yJ (p := (xs.getD j 0 : Int) = n) rfl rfl (fun h6 => ?_) (fun h6 => ?_)
 refine zD (zE ?_)
 refine qD rfl (zC (v := (.bool true)) rfl) (qe (zA ?_))
 exact wp_ret (zQ (yA (v := (.bool true)) rfl rfl rfl (⟨congrArg (fun z => Ending.returned (Value.bool z)) ((decide_eq_true (by rw [← h6]; exact jD (by omega))).symm), rfl⟩)))
 refine wp_skip (yO (zA (zE ?_)))
 refine qD rfl (zB (v := (.int .i64 (j : Int))) rfl) (qD rfl (yT rfl rfl (by omega)) (qD rfl (zC (v := (.int .i64 ((j : Int) + 1))) rfl) (qe (yR (⟨_, ?_, _, rfl, _, j + 1, (zF (x := 5) (zF (x := 1) (yF (x := 0) rfl) rfl) rfl), rfl, hX4, (by omega), rfl, (fun i hi => if h3 : i = j then h3 ▸ h6 else hp i (by omega))⟩)))))
 omega
 refine wp_exit (yK (yU (yV (zA (zD (zE ?_))))))
 refine qD rfl (zC (v := (.bool false)) rfl) (qe (zA ?_))
 exact wp_ret (zQ (yA (v := (.bool false)) rfl rfl rfl (⟨congrArg (fun z => Ending.returned (Value.bool z)) ((decide_eq_false (not_mem_of (d := 0) (fun i hi => hp i (by omega)))).symm), rfl⟩)))
theorem pT {w : World} {c : Cl} {r : Int} (hP : Pins G w) (hu : RSl eNode G u ns) (hv : RSl eNode G v bs) (hx : 0 ≤ r ∧ r < ns.length) (hy : 0 ≤ y ∧ y < bs.length) :
  Calls Tryz.prog 246 [(.agg [u].toArray), (.agg [v].toArray), (.int .i64 r), (.agg [(.int .i64 c.a), (.int .i64 c.b), cr, cl].toArray), (.int .i64 y)].toArray w fun e w' => ∃ G', e = .returned (.bool (decide ((c.a, c.b) ∈ rightsP ns bs r y))) ∧ Ext noS G w G' w' := by
 refine yM (n := 43) Tryz.func246 Tryz.ntmps246 rfl rfl ?_
 have hX0 := exr noS hP
 refine zD (zE ?_)
 refine qI rfl (xX [u] (v := (.agg [u].toArray)) rfl rfl hX0.pins (fun b1 w2 hk3 hb4 hp5 hl6 => ?_))
 have hlo8 : w.heap.size ≤ b1 := by have := hX0.size; omega
 obtain ⟨G9, hle10, hX11, hbp12, hf13⟩ := hb4.shut (hX0.step hp5 hl6) hlo8
 refine qI rfl (xX [v] (v := (.agg [v].toArray)) rfl rfl hX11.pins (fun b14 w15 hk16 hb17 hp18 hl19 => ?_))
 have hlo21 : w.heap.size ≤ b14 := by have := hX11.size; omega
 obtain ⟨G22, hle23, hX24, hbp25, hf26⟩ := hb17.shut (hX11.step hp18 hl19) hlo21
 refine qI rfl (xX [(.int .i64 c.a), (.int .i64 c.b), cr, cl] (v := (.agg [(.int .i64 c.a), (.int .i64 c.b), cr, cl].toArray)) rfl rfl hX24.pins (fun b27 w28 hk29 hb30 hp31 hl32 => ?_))
 have hlo34 : w.heap.size ≤ b27 := by have := hX24.size; omega
 obtain ⟨G35, hle36, hX37, hbp38, hf39⟩ := hb30.shut (hX24.step hp31 hl32) hlo34
 refine qD rfl (zC (v := (.bool false)) rfl) (qe (zA (zD ?_)))
 refine xD (S := fun wz => Pins G35 wz) (last := 33) (by kernel_rfl) rfl ?_
 have hl40 := bdr w28
 have hX42 := hX37.step (hX37.pins.below hl40) hl40
 refine dT (i := 0) rfl rfl (by kernel_rfl) (fun _ _ => zM (k := 1) rfl eS rfl nz3 rfl) hX42.pins ?_
 refine dT (i := 1) rfl rfl (by kernel_rfl) (fun _ hS => zP (u := (.int .i64 c.b)) ag3 rfl (hS _ _ _ (hbp38 1 _ rfl))) hX42.pins ?_
 refine dT (i := 2) rfl rfl (by kernel_rfl) (fun _ _ => zB (v := (.int .i64 y)) rfl) hX42.pins ?_
 refine dT (i := 3) rfl rfl (by kernel_rfl) (fun _ _ => qN rfl rfl) hX42.pins ?_
 refine dT (i := 4) rfl rfl (by kernel_rfl) (fun _ _ => zB (v := (.bool (decide ((c.b : Int) = y)))) rfl) hX42.pins ?_
 refine drbd (p := (c.b : Int) = y) (t := 15) rfl (fun h43 => ?_) (fun h43 => ?_)
 refine zW (i := 5) rfl rfl rfl (zO rfl rfl rfl rfl) (by kernel_rfl) (fun _ _ => zM (k := 0) rfl eY rfl nz24 rfl) hX42.pins (zW (i := 6) rfl rfl rfl (zO rfl rfl rfl rfl) (by kernel_rfl) (fun _ hS => zP (u := u) ag24 rfl ((dI hS (dH hle23 hle36)) _ _ _ (hbp12 0 _ rfl))) hX42.pins (zW (i := 7) rfl rfl rfl (zO rfl rfl rfl rfl) (by kernel_rfl) (fun _ _ => zB (v := (.int .i64 r)) rfl) hX42.pins (zW (i := 8) rfl rfl rfl (zO rfl rfl rfl rfl) (by kernel_rfl) (fun _ _ => zL eT sz65 (v := u) rfl rfl hu (by omega) (by omega)) hX42.pins (zW (i := 9) rfl rfl rfl (zO rfl rfl rfl rfl) (by kernel_rfl) (fun _ _ => yS (off := 0) eX rfl rfl nz59 (z := r) (k := 0) rfl hu (by omega) (by omega)) hX42.pins ?_))))
 obtain ⟨u44, hr45, hl46⟩ := vO (hu.at (z := r) (by omega) (by omega)) (j := (r).toNat) rfl
 have hm47 := hr45.max
 refine zW (i := 10) rfl rfl rfl (zO rfl rfl rfl rfl) (by kernel_rfl) (fun _ hS => hl46 ag59 rfl (dI hS (dH (dH hle10 hle23) hle36))) hX42.pins (zW (i := 11) rfl rfl rfl (zO rfl rfl rfl rfl) (by kernel_rfl) (fun _ _ => zM (k := 0) rfl eS rfl nz3 rfl) hX42.pins (zW (i := 12) rfl rfl rfl (zO rfl rfl rfl rfl) (by kernel_rfl) (fun _ hS => zP (u := (.int .i64 c.a)) ag3 rfl (hS _ _ _ (hbp38 0 _ rfl))) hX42.pins (zR (i := 13) (by kernel_rfl) (yC (i := 13) rfl rfl rfl (zO rfl rfl rfl rfl) (zK (vs := [u44, (.int .i64 c.a)]) Tryz.func287 sR rfl rfl rfl ?_)))))
 refine dJ (jY hX42.pins (hr45.mono (dH (dH hle10 hle23) hle36))) ?_
 rintro _ _ ⟨rfl, rfl⟩
 refine ⟨_, rfl, ?_⟩
 refine ⟨fun _ => hX42.pins, ?_⟩
 refine dT (i := 14) rfl rfl (by kernel_rfl) (fun _ _ => yG (v := (.bool (decide (c.a ∈ ((ns.getD (r).toNat default).l))))) rfl rfl) hX42.pins ?_
 refine dT (i := 15) rfl rfl (by kernel_rfl) (fun _ _ => zB (v := (.bool (decide (c.a ∈ ((ns.getD (r).toNat default).l))))) rfl) hX42.pins ?_
 refine drbd (p := (c.a ∈ ((ns.getD (r).toNat default).l))) (t := 26) rfl (fun h48 => ?_) (fun h48 => ?_)
 refine zT (i := 16) rfl rfl (zY rfl rfl rfl rfl rfl) (by kernel_rfl) hX42.pins (zT (i := 17) rfl rfl (zY rfl rfl rfl rfl rfl) (by kernel_rfl) hX42.pins (zT (i := 18) rfl rfl (zY rfl rfl rfl rfl rfl) (by kernel_rfl) hX42.pins (zT (i := 19) rfl rfl (zY rfl rfl rfl rfl rfl) (by kernel_rfl) hX42.pins (zT (i := 20) rfl rfl (zY rfl rfl rfl rfl rfl) (by kernel_rfl) hX42.pins (zT (i := 21) rfl rfl (xA rfl rfl rfl rfl) (by kernel_rfl) hX42.pins (zT (i := 22) rfl rfl (xA rfl rfl rfl rfl) (by kernel_rfl) hX42.pins (zT (i := 23) rfl rfl (xA rfl rfl rfl rfl) (by kernel_rfl) hX42.pins (zT (i := 24) rfl rfl (xA rfl rfl rfl rfl) (by kernel_rfl) hX42.pins (zT (i := 25) rfl rfl (xA rfl rfl rfl rfl) (by kernel_rfl) hX42.pins (zT (i := 26) rfl rfl (xA rfl rfl rfl rfl) (by kernel_rfl) hX42.pins (zT (i := 27) rfl rfl (xA rfl rfl rfl rfl) (by kernel_rfl) hX42.pins (zT (i := 28) rfl rfl (xA rfl rfl rfl rfl) (by kernel_rfl) hX42.pins (zT (i := 29) rfl rfl (xA rfl rfl rfl rfl) (by kernel_rfl) hX42.pins (zT (i := 30) rfl rfl (zY rfl rfl rfl rfl rfl) (by kernel_rfl) hX42.pins (dT (i := 31) rfl rfl (by kernel_rfl) (fun _ _ => yG (v := (.bool true)) rfl rfl) hX42.pins ?_)))))))))))))))
 refine dT (i := 32) rfl rfl (by kernel_rfl) (fun _ _ => zC (v := (.bool true)) rfl) hX42.pins ?_
 exact yP (by kernel_rfl) (zA (wp_ret (zQ (yA (v := (.bool true)) rfl rfl rfl (⟨_, congrArg (fun z => Ending.returned (Value.bool z)) (decide_eq_true (mem_rights.2 (by first | exact Or.inl ⟨by omega, by assumption⟩ | exact Or.inr ⟨by omega, by assumption⟩))).symm, hX42⟩)))))
 refine zW (i := 16) rfl rfl rfl (zO rfl rfl rfl rfl) (by kernel_rfl) (fun _ _ => zM (k := 0) rfl eS rfl nz3 rfl) hX42.pins (zW (i := 17) rfl rfl rfl (zO rfl rfl rfl rfl) (by kernel_rfl) (fun _ hS => zP (u := (.int .i64 c.a)) ag3 rfl (hS _ _ _ (hbp38 0 _ rfl))) hX42.pins (zW (i := 18) rfl rfl rfl (zO rfl rfl rfl rfl) (by kernel_rfl) (fun _ _ => zB (v := (.int .i64 r)) rfl) hX42.pins (zW (i := 19) rfl rfl rfl (zO rfl rfl rfl rfl) (by kernel_rfl) (fun _ _ => qN rfl rfl) hX42.pins (zW (i := 20) rfl rfl rfl (zO rfl rfl rfl rfl) (by kernel_rfl) (fun _ _ => zB (v := (.bool (decide ((c.a : Int) = r)))) rfl) hX42.pins (drbd (p := (c.a : Int) = r) (t := 31) rfl (fun h49 => ?_) (fun h49 => ?_))))))
 refine zW (i := 21) rfl rfl rfl (zO rfl rfl rfl rfl) (by kernel_rfl) (fun _ _ => zM (k := 0) rfl eY rfl nz24 rfl) hX42.pins (zW (i := 22) rfl rfl rfl (zO rfl rfl rfl rfl) (by kernel_rfl) (fun _ hS => zP (u := v) ag24 rfl ((dI hS hle36) _ _ _ (hbp25 0 _ rfl))) hX42.pins (zW (i := 23) rfl rfl rfl (zO rfl rfl rfl rfl) (by kernel_rfl) (fun _ _ => zB (v := (.int .i64 y)) rfl) hX42.pins (zW (i := 24) rfl rfl rfl (zO rfl rfl rfl rfl) (by kernel_rfl) (fun _ _ => zL eT sz65 (v := v) rfl rfl hv (by omega) (by omega)) hX42.pins (zW (i := 25) rfl rfl rfl (zO rfl rfl rfl rfl) (by kernel_rfl) (fun _ _ => yS (off := 1) eX rfl rfl nz59 (z := y) (k := 0) rfl hv (by omega) (by omega)) hX42.pins ?_))))
 obtain ⟨u50, hr51, hl52⟩ := vH (hv.at (z := y) (by omega) (by omega)) (j := (y).toNat) rfl
 have hm53 := hr51.max
 refine zW (i := 26) rfl rfl rfl (zO rfl rfl rfl rfl) (by kernel_rfl) (fun _ hS => hl52 ag59 rfl (dI hS (dH (dH hle10 hle23) hle36))) hX42.pins (zW (i := 27) rfl rfl rfl (zO rfl rfl rfl rfl) (by kernel_rfl) (fun _ _ => zM (k := 1) rfl eS rfl nz3 rfl) hX42.pins (zW (i := 28) rfl rfl rfl (zO rfl rfl rfl rfl) (by kernel_rfl) (fun _ hS => zP (u := (.int .i64 c.b)) ag3 rfl (hS _ _ _ (hbp38 1 _ rfl))) hX42.pins (zR (i := 29) (by kernel_rfl) (yC (i := 29) rfl rfl rfl (zO rfl rfl rfl rfl) (zK (vs := [u50, (.int .i64 c.b)]) Tryz.func287 sR rfl rfl rfl ?_)))))
 refine dJ (jY hX42.pins (hr51.mono (dH (dH hle10 hle23) hle36))) ?_
 rintro _ _ ⟨rfl, rfl⟩
 refine ⟨_, rfl, ?_⟩
 refine ⟨fun _ => hX42.pins, ?_⟩
 refine zW (i := 30) rfl rfl rfl (zO rfl rfl rfl rfl) (by kernel_rfl) (fun _ _ => yG (v := (.bool (decide (c.b ∈ ((bs.getD (y).toNat default).r))))) rfl rfl) hX42.pins (dT (i := 31) rfl rfl (by kernel_rfl) (fun _ _ => yN (v := (.bool (decide (c.b ∈ ((bs.getD (y).toNat default).r))))) rfl rfl) hX42.pins ?_)
 refine dT (i := 32) rfl rfl (by kernel_rfl) (fun _ _ => zC (v := (.bool (decide (c.b ∈ ((bs.getD (y).toNat default).r))))) rfl) hX42.pins ?_
 exact yP (by kernel_rfl) (zA (wp_ret (zQ (yA (v := (.bool (decide (c.b ∈ ((bs.getD (y).toNat default).r))))) rfl rfl rfl (⟨_, congrArg (fun z => Ending.returned (Value.bool z)) (decide_eq_decide.2 ⟨fun g => mem_rights.2 (by first | exact Or.inr ⟨by omega, g⟩ | exact Or.inl ⟨by omega, g⟩), fun g => by rcases mem_rights.1 g with ⟨g1, g2⟩ | ⟨g1, g2⟩ <;> first | exact g2 | contradiction | omega⟩), hX42⟩)))))
 refine zT (i := 21) rfl rfl (zY rfl rfl rfl rfl rfl) (by kernel_rfl) hX42.pins (zT (i := 22) rfl rfl (zY rfl rfl rfl rfl rfl) (by kernel_rfl) hX42.pins (zT (i := 23) rfl rfl (zY rfl rfl rfl rfl rfl) (by kernel_rfl) hX42.pins (zT (i := 24) rfl rfl (zY rfl rfl rfl rfl rfl) (by kernel_rfl) hX42.pins (zT (i := 25) rfl rfl (zY rfl rfl rfl rfl rfl) (by kernel_rfl) hX42.pins (zT (i := 26) rfl rfl (zY rfl rfl rfl rfl rfl) (by kernel_rfl) hX42.pins (zT (i := 27) rfl rfl (zY rfl rfl rfl rfl rfl) (by kernel_rfl) hX42.pins (zT (i := 28) rfl rfl (zY rfl rfl rfl rfl rfl) (by kernel_rfl) hX42.pins (zT (i := 29) rfl rfl (zY rfl rfl rfl rfl rfl) (by kernel_rfl) hX42.pins (zW (i := 30) rfl rfl rfl (zO rfl rfl rfl rfl) (by kernel_rfl) (fun _ _ => yN (v := (.bool false)) rfl rfl) hX42.pins (dT (i := 31) rfl rfl (by kernel_rfl) (fun _ _ => yN (v := (.bool false)) rfl rfl) hX42.pins ?_))))))))))
 refine dT (i := 32) rfl rfl (by kernel_rfl) (fun _ _ => zC (v := (.bool false)) rfl) hX42.pins ?_
 exact yP (by kernel_rfl) (zA (wp_ret (zQ (yA (v := (.bool false)) rfl rfl rfl (⟨_, congrArg (fun z => Ending.returned (Value.bool z)) (decide_eq_false (fun g => by rcases mem_rights.1 g with ⟨g1, g2⟩ | ⟨g1, g2⟩ <;> first | contradiction | omega)).symm, hX42⟩)))))
 refine zT (i := 5) rfl rfl (zY rfl rfl rfl rfl rfl) (by kernel_rfl) hX42.pins (zT (i := 6) rfl rfl (zY rfl rfl rfl rfl rfl) (by kernel_rfl) hX42.pins (zT (i := 7) rfl rfl (zY rfl rfl rfl rfl rfl) (by kernel_rfl) hX42.pins (zT (i := 8) rfl rfl (zY rfl rfl rfl rfl rfl) (by kernel_rfl) hX42.pins (zT (i := 9) rfl rfl (zY rfl rfl rfl rfl rfl) (by kernel_rfl) hX42.pins (zT (i := 10) rfl rfl (zY rfl rfl rfl rfl rfl) (by kernel_rfl) hX42.pins (zT (i := 11) rfl rfl (zY rfl rfl rfl rfl rfl) (by kernel_rfl) hX42.pins (zT (i := 12) rfl rfl (zY rfl rfl rfl rfl rfl) (by kernel_rfl) hX42.pins (zT (i := 13) rfl rfl (zY rfl rfl rfl rfl rfl) (by kernel_rfl) hX42.pins (dT (i := 14) rfl rfl (by kernel_rfl) (fun _ _ => yN (v := (.bool false)) rfl rfl) hX42.pins ?_)))))))))
 refine dT (i := 15) rfl rfl (by kernel_rfl) (fun _ _ => zB (v := (.bool false)) rfl) hX42.pins ?_
 refine zW (i := 16) rfl rfl rfl (zO rfl rfl rfl rfl) (by kernel_rfl) (fun _ _ => zM (k := 0) rfl eS rfl nz3 rfl) hX42.pins (zW (i := 17) rfl rfl rfl (zO rfl rfl rfl rfl) (by kernel_rfl) (fun _ hS => zP (u := (.int .i64 c.a)) ag3 rfl (hS _ _ _ (hbp38 0 _ rfl))) hX42.pins (zW (i := 18) rfl rfl rfl (zO rfl rfl rfl rfl) (by kernel_rfl) (fun _ _ => zB (v := (.int .i64 r)) rfl) hX42.pins (zW (i := 19) rfl rfl rfl (zO rfl rfl rfl rfl) (by kernel_rfl) (fun _ _ => qN rfl rfl) hX42.pins (zW (i := 20) rfl rfl rfl (zO rfl rfl rfl rfl) (by kernel_rfl) (fun _ _ => zB (v := (.bool (decide ((c.a : Int) = r)))) rfl) hX42.pins (drbd (p := (c.a : Int) = r) (t := 31) rfl (fun h54 => ?_) (fun h54 => ?_))))))
 refine zW (i := 21) rfl rfl rfl (zO rfl rfl rfl rfl) (by kernel_rfl) (fun _ _ => zM (k := 0) rfl eY rfl nz24 rfl) hX42.pins (zW (i := 22) rfl rfl rfl (zO rfl rfl rfl rfl) (by kernel_rfl) (fun _ hS => zP (u := v) ag24 rfl ((dI hS hle36) _ _ _ (hbp25 0 _ rfl))) hX42.pins (zW (i := 23) rfl rfl rfl (zO rfl rfl rfl rfl) (by kernel_rfl) (fun _ _ => zB (v := (.int .i64 y)) rfl) hX42.pins (zW (i := 24) rfl rfl rfl (zO rfl rfl rfl rfl) (by kernel_rfl) (fun _ _ => zL eT sz65 (v := v) rfl rfl hv (by omega) (by omega)) hX42.pins (zW (i := 25) rfl rfl rfl (zO rfl rfl rfl rfl) (by kernel_rfl) (fun _ _ => yS (off := 1) eX rfl rfl nz59 (z := y) (k := 0) rfl hv (by omega) (by omega)) hX42.pins ?_))))
 obtain ⟨u55, hr56, hl57⟩ := vH (hv.at (z := y) (by omega) (by omega)) (j := (y).toNat) rfl
 have hm58 := hr56.max
 refine zW (i := 26) rfl rfl rfl (zO rfl rfl rfl rfl) (by kernel_rfl) (fun _ hS => hl57 ag59 rfl (dI hS (dH (dH hle10 hle23) hle36))) hX42.pins (zW (i := 27) rfl rfl rfl (zO rfl rfl rfl rfl) (by kernel_rfl) (fun _ _ => zM (k := 1) rfl eS rfl nz3 rfl) hX42.pins (zW (i := 28) rfl rfl rfl (zO rfl rfl rfl rfl) (by kernel_rfl) (fun _ hS => zP (u := (.int .i64 c.b)) ag3 rfl (hS _ _ _ (hbp38 1 _ rfl))) hX42.pins (zR (i := 29) (by kernel_rfl) (yC (i := 29) rfl rfl rfl (zO rfl rfl rfl rfl) (zK (vs := [u55, (.int .i64 c.b)]) Tryz.func287 sR rfl rfl rfl ?_)))))
 refine dJ (jY hX42.pins (hr56.mono (dH (dH hle10 hle23) hle36))) ?_
 rintro _ _ ⟨rfl, rfl⟩
 refine ⟨_, rfl, ?_⟩
 refine ⟨fun _ => hX42.pins, ?_⟩
 refine zW (i := 30) rfl rfl rfl (zO rfl rfl rfl rfl) (by kernel_rfl) (fun _ _ => yG (v := (.bool (decide (c.b ∈ ((bs.getD (y).toNat default).r))))) rfl rfl) hX42.pins (dT (i := 31) rfl rfl (by kernel_rfl) (fun _ _ => yN (v := (.bool (decide (c.b ∈ ((bs.getD (y).toNat default).r))))) rfl rfl) hX42.pins ?_)
 refine dT (i := 32) rfl rfl (by kernel_rfl) (fun _ _ => zC (v := (.bool (decide (c.b ∈ ((bs.getD (y).toNat default).r))))) rfl) hX42.pins ?_
 exact yP (by kernel_rfl) (zA (wp_ret (zQ (yA (v := (.bool (decide (c.b ∈ ((bs.getD (y).toNat default).r))))) rfl rfl rfl (⟨_, congrArg (fun z => Ending.returned (Value.bool z)) (decide_eq_decide.2 ⟨fun g => mem_rights.2 (by first | exact Or.inr ⟨by omega, g⟩ | exact Or.inl ⟨by omega, g⟩), fun g => by rcases mem_rights.1 g with ⟨g1, g2⟩ | ⟨g1, g2⟩ <;> first | exact g2 | contradiction | omega⟩), hX42⟩)))))
 refine zT (i := 21) rfl rfl (zY rfl rfl rfl rfl rfl) (by kernel_rfl) hX42.pins (zT (i := 22) rfl rfl (zY rfl rfl rfl rfl rfl) (by kernel_rfl) hX42.pins (zT (i := 23) rfl rfl (zY rfl rfl rfl rfl rfl) (by kernel_rfl) hX42.pins (zT (i := 24) rfl rfl (zY rfl rfl rfl rfl rfl) (by kernel_rfl) hX42.pins (zT (i := 25) rfl rfl (zY rfl rfl rfl rfl rfl) (by kernel_rfl) hX42.pins (zT (i := 26) rfl rfl (zY rfl rfl rfl rfl rfl) (by kernel_rfl) hX42.pins (zT (i := 27) rfl rfl (zY rfl rfl rfl rfl rfl) (by kernel_rfl) hX42.pins (zT (i := 28) rfl rfl (zY rfl rfl rfl rfl rfl) (by kernel_rfl) hX42.pins (zT (i := 29) rfl rfl (zY rfl rfl rfl rfl rfl) (by kernel_rfl) hX42.pins (zW (i := 30) rfl rfl rfl (zO rfl rfl rfl rfl) (by kernel_rfl) (fun _ _ => yN (v := (.bool false)) rfl rfl) hX42.pins (dT (i := 31) rfl rfl (by kernel_rfl) (fun _ _ => yN (v := (.bool false)) rfl rfl) hX42.pins ?_))))))))))
 refine dT (i := 32) rfl rfl (by kernel_rfl) (fun _ _ => zC (v := (.bool false)) rfl) hX42.pins ?_
 exact yP (by kernel_rfl) (zA (wp_ret (zQ (yA (v := (.bool false)) rfl rfl rfl (⟨_, congrArg (fun z => Ending.returned (Value.bool z)) (decide_eq_false (fun g => by rcases mem_rights.1 g with ⟨g1, g2⟩ | ⟨g1, g2⟩ <;> first | contradiction | omega)).symm, hX42⟩)))))
theorem l15Left_spec {w : World} {c : Cl} {r : Int} (hP : Pins G w) (hu : RSl eNode G u ns) (hv : RSl eNode G v bs) (hx : 0 ≤ y ∧ y < ns.length) (hy : 0 ≤ r ∧ r < bs.length) :
  Calls Tryz.prog 247 [(.agg [u].toArray), (.agg [v].toArray), (.int .i64 r), (.agg [(.int .i64 c.a), (.int .i64 c.b), cr, cl].toArray), (.int .i64 y)].toArray w fun e w' => ∃ G', e = .returned (.bool (decide ((c.a, c.b) ∈ leftsP ns bs y r))) ∧ Ext noS G w G' w' := by
 refine yM (n := 43) Tryz.func247 Tryz.ntmps247 rfl rfl ?_
 have hX0 := exr noS hP
 refine zD (zE ?_)
 refine qI rfl (xX [u] (v := (.agg [u].toArray)) rfl rfl hX0.pins (fun b1 w2 hk3 hb4 hp5 hl6 => ?_))
 have hlo8 : w.heap.size ≤ b1 := by have := hX0.size; omega
 obtain ⟨G9, hle10, hX11, hbp12, hf13⟩ := hb4.shut (hX0.step hp5 hl6) hlo8
 refine qI rfl (xX [v] (v := (.agg [v].toArray)) rfl rfl hX11.pins (fun b14 w15 hk16 hb17 hp18 hl19 => ?_))
 have hlo21 : w.heap.size ≤ b14 := by have := hX11.size; omega
 obtain ⟨G22, hle23, hX24, hbp25, hf26⟩ := hb17.shut (hX11.step hp18 hl19) hlo21
 refine qI rfl (xX [(.int .i64 c.a), (.int .i64 c.b), cr, cl] (v := (.agg [(.int .i64 c.a), (.int .i64 c.b), cr, cl].toArray)) rfl rfl hX24.pins (fun b27 w28 hk29 hb30 hp31 hl32 => ?_))
 have hlo34 : w.heap.size ≤ b27 := by have := hX24.size; omega
 obtain ⟨G35, hle36, hX37, hbp38, hf39⟩ := hb30.shut (hX24.step hp31 hl32) hlo34
 refine qD rfl (zC (v := (.bool false)) rfl) (qe (zA (zD ?_)))
 refine xD (S := fun wz => Pins G35 wz) (last := 33) (by kernel_rfl) rfl ?_
 have hl40 := bdr w28
 have hX42 := hX37.step (hX37.pins.below hl40) hl40
 refine dT (i := 0) rfl rfl (by kernel_rfl) (fun _ _ => zM (k := 1) rfl eS rfl nz3 rfl) hX42.pins ?_
 refine dT (i := 1) rfl rfl (by kernel_rfl) (fun _ hS => zP (u := (.int .i64 c.b)) ag3 rfl (hS _ _ _ (hbp38 1 _ rfl))) hX42.pins ?_
 refine dT (i := 2) rfl rfl (by kernel_rfl) (fun _ _ => zB (v := (.int .i64 r)) rfl) hX42.pins ?_
 refine dT (i := 3) rfl rfl (by kernel_rfl) (fun _ _ => qN rfl rfl) hX42.pins ?_
 refine dT (i := 4) rfl rfl (by kernel_rfl) (fun _ _ => zB (v := (.bool (decide ((c.b : Int) = r)))) rfl) hX42.pins ?_
 refine drbd (p := (c.b : Int) = r) (t := 15) rfl (fun h43 => ?_) (fun h43 => ?_)
 refine zW (i := 5) rfl rfl rfl (zO rfl rfl rfl rfl) (by kernel_rfl) (fun _ _ => zM (k := 0) rfl eY rfl nz24 rfl) hX42.pins (zW (i := 6) rfl rfl rfl (zO rfl rfl rfl rfl) (by kernel_rfl) (fun _ hS => zP (u := u) ag24 rfl ((dI hS (dH hle23 hle36)) _ _ _ (hbp12 0 _ rfl))) hX42.pins (zW (i := 7) rfl rfl rfl (zO rfl rfl rfl rfl) (by kernel_rfl) (fun _ _ => zB (v := (.int .i64 y)) rfl) hX42.pins (zW (i := 8) rfl rfl rfl (zO rfl rfl rfl rfl) (by kernel_rfl) (fun _ _ => zL eT sz65 (v := u) rfl rfl hu (by omega) (by omega)) hX42.pins (zW (i := 9) rfl rfl rfl (zO rfl rfl rfl rfl) (by kernel_rfl) (fun _ _ => yS (off := 0) eX rfl rfl nz59 (z := y) (k := 0) rfl hu (by omega) (by omega)) hX42.pins ?_))))
 obtain ⟨u44, hr45, hl46⟩ := vO (hu.at (z := y) (by omega) (by omega)) (j := (y).toNat) rfl
 have hm47 := hr45.max
 refine zW (i := 10) rfl rfl rfl (zO rfl rfl rfl rfl) (by kernel_rfl) (fun _ hS => hl46 ag59 rfl (dI hS (dH (dH hle10 hle23) hle36))) hX42.pins (zW (i := 11) rfl rfl rfl (zO rfl rfl rfl rfl) (by kernel_rfl) (fun _ _ => zM (k := 0) rfl eS rfl nz3 rfl) hX42.pins (zW (i := 12) rfl rfl rfl (zO rfl rfl rfl rfl) (by kernel_rfl) (fun _ hS => zP (u := (.int .i64 c.a)) ag3 rfl (hS _ _ _ (hbp38 0 _ rfl))) hX42.pins (zR (i := 13) (by kernel_rfl) (yC (i := 13) rfl rfl rfl (zO rfl rfl rfl rfl) (zK (vs := [u44, (.int .i64 c.a)]) Tryz.func287 sR rfl rfl rfl ?_)))))
 refine dJ (jY hX42.pins (hr45.mono (dH (dH hle10 hle23) hle36))) ?_
 rintro _ _ ⟨rfl, rfl⟩
 refine ⟨_, rfl, ?_⟩
 refine ⟨fun _ => hX42.pins, ?_⟩
 refine dT (i := 14) rfl rfl (by kernel_rfl) (fun _ _ => yG (v := (.bool (decide (c.a ∈ ((ns.getD (y).toNat default).l))))) rfl rfl) hX42.pins ?_
 refine dT (i := 15) rfl rfl (by kernel_rfl) (fun _ _ => zB (v := (.bool (decide (c.a ∈ ((ns.getD (y).toNat default).l))))) rfl) hX42.pins ?_
 refine drbd (p := (c.a ∈ ((ns.getD (y).toNat default).l))) (t := 26) rfl (fun h48 => ?_) (fun h48 => ?_)
 refine zT (i := 16) rfl rfl (zY rfl rfl rfl rfl rfl) (by kernel_rfl) hX42.pins (zT (i := 17) rfl rfl (zY rfl rfl rfl rfl rfl) (by kernel_rfl) hX42.pins (zT (i := 18) rfl rfl (zY rfl rfl rfl rfl rfl) (by kernel_rfl) hX42.pins (zT (i := 19) rfl rfl (zY rfl rfl rfl rfl rfl) (by kernel_rfl) hX42.pins (zT (i := 20) rfl rfl (zY rfl rfl rfl rfl rfl) (by kernel_rfl) hX42.pins (zT (i := 21) rfl rfl (xA rfl rfl rfl rfl) (by kernel_rfl) hX42.pins (zT (i := 22) rfl rfl (xA rfl rfl rfl rfl) (by kernel_rfl) hX42.pins (zT (i := 23) rfl rfl (xA rfl rfl rfl rfl) (by kernel_rfl) hX42.pins (zT (i := 24) rfl rfl (xA rfl rfl rfl rfl) (by kernel_rfl) hX42.pins (zT (i := 25) rfl rfl (xA rfl rfl rfl rfl) (by kernel_rfl) hX42.pins (zT (i := 26) rfl rfl (xA rfl rfl rfl rfl) (by kernel_rfl) hX42.pins (zT (i := 27) rfl rfl (xA rfl rfl rfl rfl) (by kernel_rfl) hX42.pins (zT (i := 28) rfl rfl (xA rfl rfl rfl rfl) (by kernel_rfl) hX42.pins (zT (i := 29) rfl rfl (xA rfl rfl rfl rfl) (by kernel_rfl) hX42.pins (zT (i := 30) rfl rfl (zY rfl rfl rfl rfl rfl) (by kernel_rfl) hX42.pins (dT (i := 31) rfl rfl (by kernel_rfl) (fun _ _ => yG (v := (.bool true)) rfl rfl) hX42.pins ?_)))))))))))))))
 refine dT (i := 32) rfl rfl (by kernel_rfl) (fun _ _ => zC (v := (.bool true)) rfl) hX42.pins ?_
 exact yP (by kernel_rfl) (zA (wp_ret (zQ (yA (v := (.bool true)) rfl rfl rfl (⟨_, congrArg (fun z => Ending.returned (Value.bool z)) (decide_eq_true (mem_lefts.2 (by first | exact Or.inl ⟨by omega, by assumption⟩ | exact Or.inr ⟨by omega, by assumption⟩))).symm, hX42⟩)))))
 refine zW (i := 16) rfl rfl rfl (zO rfl rfl rfl rfl) (by kernel_rfl) (fun _ _ => zM (k := 0) rfl eS rfl nz3 rfl) hX42.pins (zW (i := 17) rfl rfl rfl (zO rfl rfl rfl rfl) (by kernel_rfl) (fun _ hS => zP (u := (.int .i64 c.a)) ag3 rfl (hS _ _ _ (hbp38 0 _ rfl))) hX42.pins (zW (i := 18) rfl rfl rfl (zO rfl rfl rfl rfl) (by kernel_rfl) (fun _ _ => zB (v := (.int .i64 y)) rfl) hX42.pins (zW (i := 19) rfl rfl rfl (zO rfl rfl rfl rfl) (by kernel_rfl) (fun _ _ => qN rfl rfl) hX42.pins (zW (i := 20) rfl rfl rfl (zO rfl rfl rfl rfl) (by kernel_rfl) (fun _ _ => zB (v := (.bool (decide ((c.a : Int) = y)))) rfl) hX42.pins (drbd (p := (c.a : Int) = y) (t := 31) rfl (fun h49 => ?_) (fun h49 => ?_))))))
 refine zW (i := 21) rfl rfl rfl (zO rfl rfl rfl rfl) (by kernel_rfl) (fun _ _ => zM (k := 0) rfl eY rfl nz24 rfl) hX42.pins (zW (i := 22) rfl rfl rfl (zO rfl rfl rfl rfl) (by kernel_rfl) (fun _ hS => zP (u := v) ag24 rfl ((dI hS hle36) _ _ _ (hbp25 0 _ rfl))) hX42.pins (zW (i := 23) rfl rfl rfl (zO rfl rfl rfl rfl) (by kernel_rfl) (fun _ _ => zB (v := (.int .i64 r)) rfl) hX42.pins (zW (i := 24) rfl rfl rfl (zO rfl rfl rfl rfl) (by kernel_rfl) (fun _ _ => zL eT sz65 (v := v) rfl rfl hv (by omega) (by omega)) hX42.pins (zW (i := 25) rfl rfl rfl (zO rfl rfl rfl rfl) (by kernel_rfl) (fun _ _ => yS (off := 1) eX rfl rfl nz59 (z := r) (k := 0) rfl hv (by omega) (by omega)) hX42.pins ?_))))
 obtain ⟨u50, hr51, hl52⟩ := vH (hv.at (z := r) (by omega) (by omega)) (j := (r).toNat) rfl
 have hm53 := hr51.max
 refine zW (i := 26) rfl rfl rfl (zO rfl rfl rfl rfl) (by kernel_rfl) (fun _ hS => hl52 ag59 rfl (dI hS (dH (dH hle10 hle23) hle36))) hX42.pins (zW (i := 27) rfl rfl rfl (zO rfl rfl rfl rfl) (by kernel_rfl) (fun _ _ => zM (k := 1) rfl eS rfl nz3 rfl) hX42.pins (zW (i := 28) rfl rfl rfl (zO rfl rfl rfl rfl) (by kernel_rfl) (fun _ hS => zP (u := (.int .i64 c.b)) ag3 rfl (hS _ _ _ (hbp38 1 _ rfl))) hX42.pins (zR (i := 29) (by kernel_rfl) (yC (i := 29) rfl rfl rfl (zO rfl rfl rfl rfl) (zK (vs := [u50, (.int .i64 c.b)]) Tryz.func287 sR rfl rfl rfl ?_)))))
 refine dJ (jY hX42.pins (hr51.mono (dH (dH hle10 hle23) hle36))) ?_
 rintro _ _ ⟨rfl, rfl⟩
 refine ⟨_, rfl, ?_⟩
 refine ⟨fun _ => hX42.pins, ?_⟩
 refine zW (i := 30) rfl rfl rfl (zO rfl rfl rfl rfl) (by kernel_rfl) (fun _ _ => yG (v := (.bool (decide (c.b ∈ ((bs.getD (r).toNat default).r))))) rfl rfl) hX42.pins (dT (i := 31) rfl rfl (by kernel_rfl) (fun _ _ => yN (v := (.bool (decide (c.b ∈ ((bs.getD (r).toNat default).r))))) rfl rfl) hX42.pins ?_)
 refine dT (i := 32) rfl rfl (by kernel_rfl) (fun _ _ => zC (v := (.bool (decide (c.b ∈ ((bs.getD (r).toNat default).r))))) rfl) hX42.pins ?_
 exact yP (by kernel_rfl) (zA (wp_ret (zQ (yA (v := (.bool (decide (c.b ∈ ((bs.getD (r).toNat default).r))))) rfl rfl rfl (⟨_, congrArg (fun z => Ending.returned (Value.bool z)) (decide_eq_decide.2 ⟨fun g => mem_lefts.2 (by first | exact Or.inr ⟨by omega, g⟩ | exact Or.inl ⟨by omega, g⟩), fun g => by rcases mem_lefts.1 g with ⟨g1, g2⟩ | ⟨g1, g2⟩ <;> first | exact g2 | contradiction | omega⟩), hX42⟩)))))
 refine zT (i := 21) rfl rfl (zY rfl rfl rfl rfl rfl) (by kernel_rfl) hX42.pins (zT (i := 22) rfl rfl (zY rfl rfl rfl rfl rfl) (by kernel_rfl) hX42.pins (zT (i := 23) rfl rfl (zY rfl rfl rfl rfl rfl) (by kernel_rfl) hX42.pins (zT (i := 24) rfl rfl (zY rfl rfl rfl rfl rfl) (by kernel_rfl) hX42.pins (zT (i := 25) rfl rfl (zY rfl rfl rfl rfl rfl) (by kernel_rfl) hX42.pins (zT (i := 26) rfl rfl (zY rfl rfl rfl rfl rfl) (by kernel_rfl) hX42.pins (zT (i := 27) rfl rfl (zY rfl rfl rfl rfl rfl) (by kernel_rfl) hX42.pins (zT (i := 28) rfl rfl (zY rfl rfl rfl rfl rfl) (by kernel_rfl) hX42.pins (zT (i := 29) rfl rfl (zY rfl rfl rfl rfl rfl) (by kernel_rfl) hX42.pins (zW (i := 30) rfl rfl rfl (zO rfl rfl rfl rfl) (by kernel_rfl) (fun _ _ => yN (v := (.bool false)) rfl rfl) hX42.pins (dT (i := 31) rfl rfl (by kernel_rfl) (fun _ _ => yN (v := (.bool false)) rfl rfl) hX42.pins ?_))))))))))
 refine dT (i := 32) rfl rfl (by kernel_rfl) (fun _ _ => zC (v := (.bool false)) rfl) hX42.pins ?_
 exact yP (by kernel_rfl) (zA (wp_ret (zQ (yA (v := (.bool false)) rfl rfl rfl (⟨_, congrArg (fun z => Ending.returned (Value.bool z)) (decide_eq_false (fun g => by rcases mem_lefts.1 g with ⟨g1, g2⟩ | ⟨g1, g2⟩ <;> first | contradiction | omega)).symm, hX42⟩)))))
 refine zT (i := 5) rfl rfl (zY rfl rfl rfl rfl rfl) (by kernel_rfl) hX42.pins (zT (i := 6) rfl rfl (zY rfl rfl rfl rfl rfl) (by kernel_rfl) hX42.pins (zT (i := 7) rfl rfl (zY rfl rfl rfl rfl rfl) (by kernel_rfl) hX42.pins (zT (i := 8) rfl rfl (zY rfl rfl rfl rfl rfl) (by kernel_rfl) hX42.pins (zT (i := 9) rfl rfl (zY rfl rfl rfl rfl rfl) (by kernel_rfl) hX42.pins (zT (i := 10) rfl rfl (zY rfl rfl rfl rfl rfl) (by kernel_rfl) hX42.pins (zT (i := 11) rfl rfl (zY rfl rfl rfl rfl rfl) (by kernel_rfl) hX42.pins (zT (i := 12) rfl rfl (zY rfl rfl rfl rfl rfl) (by kernel_rfl) hX42.pins (zT (i := 13) rfl rfl (zY rfl rfl rfl rfl rfl) (by kernel_rfl) hX42.pins (dT (i := 14) rfl rfl (by kernel_rfl) (fun _ _ => yN (v := (.bool false)) rfl rfl) hX42.pins ?_)))))))))
 refine dT (i := 15) rfl rfl (by kernel_rfl) (fun _ _ => zB (v := (.bool false)) rfl) hX42.pins ?_
 refine zW (i := 16) rfl rfl rfl (zO rfl rfl rfl rfl) (by kernel_rfl) (fun _ _ => zM (k := 0) rfl eS rfl nz3 rfl) hX42.pins (zW (i := 17) rfl rfl rfl (zO rfl rfl rfl rfl) (by kernel_rfl) (fun _ hS => zP (u := (.int .i64 c.a)) ag3 rfl (hS _ _ _ (hbp38 0 _ rfl))) hX42.pins (zW (i := 18) rfl rfl rfl (zO rfl rfl rfl rfl) (by kernel_rfl) (fun _ _ => zB (v := (.int .i64 y)) rfl) hX42.pins (zW (i := 19) rfl rfl rfl (zO rfl rfl rfl rfl) (by kernel_rfl) (fun _ _ => qN rfl rfl) hX42.pins (zW (i := 20) rfl rfl rfl (zO rfl rfl rfl rfl) (by kernel_rfl) (fun _ _ => zB (v := (.bool (decide ((c.a : Int) = y)))) rfl) hX42.pins (drbd (p := (c.a : Int) = y) (t := 31) rfl (fun h54 => ?_) (fun h54 => ?_))))))
 refine zW (i := 21) rfl rfl rfl (zO rfl rfl rfl rfl) (by kernel_rfl) (fun _ _ => zM (k := 0) rfl eY rfl nz24 rfl) hX42.pins (zW (i := 22) rfl rfl rfl (zO rfl rfl rfl rfl) (by kernel_rfl) (fun _ hS => zP (u := v) ag24 rfl ((dI hS hle36) _ _ _ (hbp25 0 _ rfl))) hX42.pins (zW (i := 23) rfl rfl rfl (zO rfl rfl rfl rfl) (by kernel_rfl) (fun _ _ => zB (v := (.int .i64 r)) rfl) hX42.pins (zW (i := 24) rfl rfl rfl (zO rfl rfl rfl rfl) (by kernel_rfl) (fun _ _ => zL eT sz65 (v := v) rfl rfl hv (by omega) (by omega)) hX42.pins (zW (i := 25) rfl rfl rfl (zO rfl rfl rfl rfl) (by kernel_rfl) (fun _ _ => yS (off := 1) eX rfl rfl nz59 (z := r) (k := 0) rfl hv (by omega) (by omega)) hX42.pins ?_))))
 obtain ⟨u55, hr56, hl57⟩ := vH (hv.at (z := r) (by omega) (by omega)) (j := (r).toNat) rfl
 have hm58 := hr56.max
 refine zW (i := 26) rfl rfl rfl (zO rfl rfl rfl rfl) (by kernel_rfl) (fun _ hS => hl57 ag59 rfl (dI hS (dH (dH hle10 hle23) hle36))) hX42.pins (zW (i := 27) rfl rfl rfl (zO rfl rfl rfl rfl) (by kernel_rfl) (fun _ _ => zM (k := 1) rfl eS rfl nz3 rfl) hX42.pins (zW (i := 28) rfl rfl rfl (zO rfl rfl rfl rfl) (by kernel_rfl) (fun _ hS => zP (u := (.int .i64 c.b)) ag3 rfl (hS _ _ _ (hbp38 1 _ rfl))) hX42.pins (zR (i := 29) (by kernel_rfl) (yC (i := 29) rfl rfl rfl (zO rfl rfl rfl rfl) (zK (vs := [u55, (.int .i64 c.b)]) Tryz.func287 sR rfl rfl rfl ?_)))))
 refine dJ (jY hX42.pins (hr56.mono (dH (dH hle10 hle23) hle36))) ?_
 rintro _ _ ⟨rfl, rfl⟩
 refine ⟨_, rfl, ?_⟩
 refine ⟨fun _ => hX42.pins, ?_⟩
 refine zW (i := 30) rfl rfl rfl (zO rfl rfl rfl rfl) (by kernel_rfl) (fun _ _ => yG (v := (.bool (decide (c.b ∈ ((bs.getD (r).toNat default).r))))) rfl rfl) hX42.pins (dT (i := 31) rfl rfl (by kernel_rfl) (fun _ _ => yN (v := (.bool (decide (c.b ∈ ((bs.getD (r).toNat default).r))))) rfl rfl) hX42.pins ?_)
 refine dT (i := 32) rfl rfl (by kernel_rfl) (fun _ _ => zC (v := (.bool (decide (c.b ∈ ((bs.getD (r).toNat default).r))))) rfl) hX42.pins ?_
 exact yP (by kernel_rfl) (zA (wp_ret (zQ (yA (v := (.bool (decide (c.b ∈ ((bs.getD (r).toNat default).r))))) rfl rfl rfl (⟨_, congrArg (fun z => Ending.returned (Value.bool z)) (decide_eq_decide.2 ⟨fun g => mem_lefts.2 (by first | exact Or.inr ⟨by omega, g⟩ | exact Or.inl ⟨by omega, g⟩), fun g => by rcases mem_lefts.1 g with ⟨g1, g2⟩ | ⟨g1, g2⟩ <;> first | exact g2 | contradiction | omega⟩), hX42⟩)))))
 refine zT (i := 21) rfl rfl (zY rfl rfl rfl rfl rfl) (by kernel_rfl) hX42.pins (zT (i := 22) rfl rfl (zY rfl rfl rfl rfl rfl) (by kernel_rfl) hX42.pins (zT (i := 23) rfl rfl (zY rfl rfl rfl rfl rfl) (by kernel_rfl) hX42.pins (zT (i := 24) rfl rfl (zY rfl rfl rfl rfl rfl) (by kernel_rfl) hX42.pins (zT (i := 25) rfl rfl (zY rfl rfl rfl rfl rfl) (by kernel_rfl) hX42.pins (zT (i := 26) rfl rfl (zY rfl rfl rfl rfl rfl) (by kernel_rfl) hX42.pins (zT (i := 27) rfl rfl (zY rfl rfl rfl rfl rfl) (by kernel_rfl) hX42.pins (zT (i := 28) rfl rfl (zY rfl rfl rfl rfl rfl) (by kernel_rfl) hX42.pins (zT (i := 29) rfl rfl (zY rfl rfl rfl rfl rfl) (by kernel_rfl) hX42.pins (zW (i := 30) rfl rfl rfl (zO rfl rfl rfl rfl) (by kernel_rfl) (fun _ _ => yN (v := (.bool false)) rfl rfl) hX42.pins (dT (i := 31) rfl rfl (by kernel_rfl) (fun _ _ => yN (v := (.bool false)) rfl rfl) hX42.pins ?_))))))))))
 refine dT (i := 32) rfl rfl (by kernel_rfl) (fun _ _ => zC (v := (.bool false)) rfl) hX42.pins ?_
 exact yP (by kernel_rfl) (zA (wp_ret (zQ (yA (v := (.bool false)) rfl rfl rfl (⟨_, congrArg (fun z => Ending.returned (Value.bool z)) (decide_eq_false (fun g => by rcases mem_lefts.1 g with ⟨g1, g2⟩ | ⟨g1, g2⟩ <;> first | contradiction | omega)).symm, hX42⟩)))))
end P1
end Go.Proofs.YtajkbplgbikgdaaGreatDoor
namespace Go.Proofs.YtajkbplgbikgdaaGreatDoor
namespace PF2
open Go.RowKit Go.GL Go.Proofs
open B1 P1
theorem pl72 : (Tryz.prog.underlying 72).bind (placesD Tryz.prog) = some [(0, 1), (1, 1), (2, 1), (3, 1)] := by kernel_rfl
theorem pU {w : World} {G : Pin} {u v p : Value} {L : List Cl} {ns bs : List Nd} {x y : Nat} (hP : Pins G w) (hu : RSl eNode G u ns) (hv : RSl eNode G v bs) (hp : RSl eClaim G p L) (hga : GoodP ns) (hgb : GoodP bs) (hx : x < ns.length) (hy : y < bs.length) (hj : JustP ns bs L x y) :
  Calls Tryz.prog 190 [(.agg [u].toArray), (.agg [v].toArray), p, (.int .i64 (x : Int)), (.int .i64 (y : Int))].toArray w fun e w' => ∃ (r l : Value) (G' : Pin), e = .returned (.agg [.int .i64 (claimOf ns bs L x y).a, .int .i64 (claimOf ns bs L x y).b, r, l].toArray) ∧ Own eInt 3 G' w' w.heap.size r (claimOf ns bs L x y).r ∧ Own eInt 3 G' w' w.heap.size l (claimOf ns bs L x y).l ∧ Apart r.ownBlock l.ownBlock ∧ Ext noS G w G' w' := by
 refine yM (n := 96) Tryz.func190 Tryz.ntmps190 rfl rfl ?_
 have hX0 := exr noS hP
 have hmu := hu.max
 have hmv := hv.max
 have hmp := hp.max
 have hlx := hga.lenr (i := x) (by omega)
 have hly := hgb.lenl (i := y) (by omega)
 refine zD (zE ?_)
 refine qI rfl (xX [u] (v := (.agg [u].toArray)) rfl rfl hX0.pins (fun b1 w2 hk3 hb4 hp5 hl6 => ?_))
 have hlo8 : w.heap.size ≤ b1 := by have := hX0.size; omega
 obtain ⟨G9, hle10, hX11, hbp12, hf13⟩ := hb4.shut (hX0.step hp5 hl6) hlo8
 refine qI rfl (xX [v] (v := (.agg [v].toArray)) rfl rfl hX11.pins (fun b14 w15 hk16 hb17 hp18 hl19 => ?_))
 have hlo21 : w.heap.size ≤ b14 := by have := hX11.size; omega
 obtain ⟨G22, hle23, hX24, hbp25, hf26⟩ := hb17.shut (hX11.step hp18 hl19) hlo21
 refine qI rfl (yL [(.int .i64 0), (.int .i64 0), (.slice none 0 0), (.slice none 0 0)] zr72 rfl hX24.pins (fun b27 w28 hk29 hb30 hp31 hl32 => ?_))
 have hX33 := hX24.step hp31 hl32
 have hlo34 : w.heap.size ≤ b27 := by have := hX24.size; omega
 refine qe (zA (zD (zE ?_)))
 refine qD rfl (zB (v := (.int .i64 (x : Int))) rfl) (qD rfl (zB (v := (.int .i64 (y : Int))) rfl) (qI rfl (xF (E := eInt) (e := 3) eR sz3 hX33.pins (fun u35 w36 ho37 hp38 hl39 hk40 => ?_))))
 have hX41 := hX33.step hp38 hl39
 have hb42 := hb30.below hl39
 have ho44 := ho37.weaken hX33.size
 refine qI rfl (xF (E := eInt) (e := 3) eR sz3 hX41.pins (fun u45 w46 ho47 hp48 hl49 hk50 => ?_))
 have hX51 := hX41.step hp48 hl49
 have ho52 := ho44.below hl49
 have hb53 := hb42.below hl49
 have ho56 := ho47.weaken hX41.size
 refine qD rfl (yY [(.int .i64 0), (.int .i64 0), (.slice none 0 0), (.slice none 0 0)] [(.int .i64 (x : Int)), (.int .i64 (y : Int)), u35, u45] [(0, (.int .i64 (x : Int)), [(.int .i64 (x : Int))]), (1, (.int .i64 (y : Int)), [(.int .i64 (y : Int))]), (2, u35, [u35]), (3, u45, [u45])] eS zr72 rfl pl72 rfl (List.forall_mem_cons.2 ⟨rfl, (List.forall_mem_cons.2 ⟨rfl, (List.forall_mem_cons.2 ⟨(yW ho52.one), (List.forall_mem_cons.2 ⟨(yW ho56.one), (fun _ h => by cases h)⟩)⟩)⟩)⟩) rfl) (qI rfl (yL [(.int .i64 0), (.int .i64 0), (.slice none 0 0), (.slice none 0 0)] zr72 rfl hX51.pins (fun b57 w58 hk59 hb60 hp61 hl62 => ?_)))
 have hX63 := hX51.step hp61 hl62
 have ho64 := ho52.below hl62
 have ho65 := ho56.below hl62
 have ha67 : Apart (some b57) u35.ownBlock := zI (congrArg some hk59) ho52.lt
 have ha68 : Apart (some b57) u45.ownBlock := zI (congrArg some hk59) ho56.lt
 have ha69 : Apart (some b57) (some b27) := zG (congrArg some hk59) hb53.lt
 have hlo70 : w.heap.size ≤ b57 := by have := hX51.size; omega
 refine q0 rfl rfl rfl (yD (cs' := [(.int .i64 (x : Int)), (.int .i64 (y : Int)), u35, u45]) (us := [(.int .i64 (x : Int)), (.int .i64 (y : Int)), u35, u45]) (v := (.agg [(.int .i64 (x : Int)), (.int .i64 (y : Int)), u35, u45].toArray)) sz72 rfl rfl rfl (jB (by rfl) (by rfl) ho64.one ho65.one) hX63.pins hb60 (dK rfl) rfl (fun w71 hb72 hp73 hg74 hz75 => ?_))
 refine qe (zA (zD (zD (zE ?_))))
 refine qD rfl (zC (v := (.int .i64 0)) rfl) (qe (zA ?_))
 refine yI (yZ (fun (k : Nat) (en : Nat → Value) (W : World) => ∃ (env1 : Nat → Value) (i : Nat) (rv : Value) (rs : List Int) (GLi : Pin), en = (upd (upd (upd (upd (upd (upd (upd (upd env1 2 p) 3 (.int .i64 (x : Int))) 4 (.int .i64 (y : Int))) 5 (.pointer (some ⟨b1, 0, none⟩))) 6 (.pointer (some ⟨b14, 0, none⟩))) 10 (.pointer (some ⟨b27, 0, none⟩))) 11 (.pointer (some ⟨b57, 0, none⟩))) 12 (.int .i64 (i : Int))) ∧ k = (ns.getD x default).r.length - i ∧ Ext noS G w GLi W ∧ Pin.le G22 GLi ∧ (i ≤ (ns.getD x default).r.length) ∧ (rs = ((ns.getD x default).r.take i).map (fun r => lowL L (rightsP ns bs r y))) ∧ (Own eInt 3 GLi W w.heap.size rv (rs)) ∧ (Own eInt 3 GLi W w.heap.size u45 ([])) ∧ (Bx GLi W b27 [(.int .i64 0), (.int .i64 0), (.slice none 0 0), (.slice none 0 0)]) ∧ (Bx GLi W b57 [(.int .i64 (x : Int)), (.int .i64 (y : Int)), rv, u45]) ∧ (Apart rv.ownBlock u45.ownBlock) ∧ (Apart rv.ownBlock (some b27)) ∧ (Apart rv.ownBlock (some b57))) _ ⟨_, 0, u35, [], G22, (zF (x := 12) (zF (x := 11) (zF (x := 10) (zF (x := 6) (zF (x := 5) (zF (x := 4) (zF (x := 3) (yF (x := 2) rfl) rfl) rfl) rfl) rfl) rfl) rfl) rfl), rfl, (hX63.write hp73 hg74 ((zS hlo70))), Pin.le_refl _, Nat.zero_le _, rfl, (ho64.keptA hg74 ha67.symm), (ho65.keptA hg74 ha68.symm), ((hb53.below hl62).keptA hg74 ha69.symm), hb72, (zI hk50 ho44.lt).symm, (zG hk40 hb30.lt), ha67.symm⟩ ?_)
 rintro k80 _ w81 ⟨env1, i, rv, rs, GLi, rfl, hk82, hX83, hlek80, hji, hrs, hw84, hw85, hw86, hw87, ha88, ha89, ha90⟩
 have hrsl : rs.length ≤ (ns.getD x default).r.length := by rw [hrs, List.length_map, List.length_take]; omega
 refine zD (zD (zE ?_))
 refine qD rfl (zB (v := (.int .i64 (i : Int))) rfl) (qD rfl (zM (k := 0) rfl eY rfl nz24 rfl) (qD rfl (zP (u := u) ag24 rfl ((dI hX83.pins (dH hle23 hlek80)) _ _ _ (hbp12 0 _ rfl))) (qD rfl (zB (v := (.int .i64 (x : Int))) rfl) (qD rfl (zL eT sz65 (v := u) rfl rfl hu (by omega) (by omega)) (qD rfl (yS (off := 1) eX rfl rfl nz59 (z := (x : Int)) (k := 0) rfl hu (by omega) (by omega)) ?_)))))
 obtain ⟨u91, hr92, hl93⟩ := vH (hu.at (z := (x : Int)) (by omega) (by omega)) (j := x) rfl
 have hm94 := hr92.max
 refine qD rfl (hl93 ag59 rfl (dI hX83.pins (dH (dH hle10 hle23) hlek80))) (qD rfl (run_len eR (v := u91) rfl hr92) (qD rfl (xB rfl rfl) (qe (zA ?_))))
 refine yJ (p := ((i : Int) : Int) < (((ns.getD x default).r).length : Int)) rfl rfl (fun h95 => ?_) (fun h95 => ?_)
 have hki := hga.optsOk.right (j := x) (i := i) (by omega) (by omega)
 have hloi := hj.r _ (xE (d := (0 : Int)) (show i < (ns.getD x default).r.length by omega))
 refine wp_skip (zA (zD ?_))
 refine yI (zD (zE ?_))
 refine qD rfl (zC (v := (.int .i64 0)) rfl) (qe (zA (zD ?_)))
 refine yI (yZ (fun (k : Nat) (en : Nat → Value) (W : World) => ∃ (env1 : Nat → Value) (ni : Nat) (GNi : Pin), en = (upd (upd (upd (upd (upd (upd (upd (upd (upd env1 2 p) 3 (.int .i64 (x : Int))) 4 (.int .i64 (y : Int))) 5 (.pointer (some ⟨b1, 0, none⟩))) 6 (.pointer (some ⟨b14, 0, none⟩))) 10 (.pointer (some ⟨b27, 0, none⟩))) 11 (.pointer (some ⟨b57, 0, none⟩))) 12 (.int .i64 (i : Int))) 13 (.int .i64 (ni : Int))) ∧ k = L.length - ni ∧ Ext noS G w GNi W ∧ Pin.le GLi GNi ∧ (∀ q, q < ni → prC (L.getD q default) ∉ rightsP ns bs ((ns.getD x default).r.getD i 0) y) ∧ (Own eInt 3 GNi W w.heap.size rv (rs)) ∧ (Own eInt 3 GNi W w.heap.size u45 ([])) ∧ (Bx GNi W b27 [(.int .i64 0), (.int .i64 0), (.slice none 0 0), (.slice none 0 0)]) ∧ (Bx GNi W b57 [(.int .i64 (x : Int)), (.int .i64 (y : Int)), rv, u45])) _ ⟨_, 0, GLi, (zF (x := 13) (zF (x := 12) (zF (x := 11) (zF (x := 10) (zF (x := 6) (zF (x := 5) (zF (x := 4) (zF (x := 3) (yF (x := 2) rfl) rfl) rfl) rfl) rfl) rfl) rfl) rfl) rfl), rfl, hX83, Pin.le_refl _, (fun i hi => absurd hi (Nat.not_lt_zero i)), hw84, hw85, hw86, hw87⟩ ?_)
 rintro k96 _ w97 ⟨env1, ni, GNi, rfl, hk98, hX99, hlek96, hmi, hw100, hw101, hw102, hw103⟩
 have hnli := low_len hloi hmi
 refine zD (zD ?_)
 refine xD (S := fun wz => Pins GNi wz) (last := 18) (by kernel_rfl) rfl ?_
 have hl104 := bdr w97
 have hX106 := hX99.step (hX99.pins.below hl104) hl104
 refine dT (i := 0) rfl rfl (by kernel_rfl) (fun _ hS => zU (cs := [u]) ag26 sz26 rfl (fun j u hj => (dI hS (dH (dH hle23 hlek80) hlek96)) _ _ _ (hbp12 _ _ (by simpa using hj)))) hX106.pins ?_
 refine dT (i := 1) rfl rfl (by kernel_rfl) (fun _ hS => zU (cs := [v]) ag26 sz26 rfl (fun j u hj => (dI hS (dH hlek80 hlek96)) _ _ _ (hbp25 _ _ (by simpa using hj)))) hX106.pins ?_
 refine dT (i := 2) rfl rfl (by kernel_rfl) (fun _ _ => zM (k := 0) rfl eY rfl nz24 rfl) hX106.pins ?_
 refine dT (i := 3) rfl rfl (by kernel_rfl) (fun _ hS => zP (u := u) ag24 rfl ((dI hS (dH (dH hle23 hlek80) hlek96)) _ _ _ (hbp12 0 _ rfl))) hX106.pins ?_
 refine dT (i := 4) rfl rfl (by kernel_rfl) (fun _ _ => zB (v := (.int .i64 (x : Int))) rfl) hX106.pins ?_
 refine dT (i := 5) rfl rfl (by kernel_rfl) (fun _ _ => zL eT sz65 (v := u) rfl rfl hu (by omega) (by omega)) hX106.pins ?_
 refine dT (i := 6) rfl rfl (by kernel_rfl) (fun _ _ => yS (off := 1) eX rfl rfl nz59 (z := (x : Int)) (k := 0) rfl hu (by omega) (by omega)) hX106.pins ?_
 obtain ⟨u111, hr112, hl113⟩ := vH (hu.at (z := (x : Int)) (by omega) (by omega)) (j := x) rfl
 have hm114 := hr112.max
 refine dT (i := 7) rfl rfl (by kernel_rfl) (fun _ hS => hl113 ag59 rfl (dI hS (dH (dH (dH hle10 hle23) hlek80) hlek96))) hX106.pins ?_
 refine dT (i := 8) rfl rfl (by kernel_rfl) (fun _ _ => zB (v := (.int .i64 (i : Int))) rfl) hX106.pins ?_
 refine dT (i := 9) rfl rfl (by kernel_rfl) (fun _ _ => zL eR sz3 (v := u111) rfl rfl hr112 (by omega) (by omega)) hX106.pins ?_
 refine dT (i := 10) rfl rfl (by kernel_rfl) (fun _ hS => zZ (r := ((ns.getD x default).r).getD i 0) rfl ag3 (z := (i : Int)) rfl hr112 (dI hS (dH (dH (dH hle10 hle23) hlek80) hlek96)) (by omega) (by omega)) hX106.pins ?_
 refine dT (i := 11) rfl rfl (by kernel_rfl) (fun _ _ => zB (v := p) rfl) hX106.pins ?_
 refine dT (i := 12) rfl rfl (by kernel_rfl) (fun _ _ => zB (v := (.int .i64 (ni : Int))) rfl) hX106.pins ?_
 refine dT (i := 13) rfl rfl (by kernel_rfl) (fun _ _ => zL eU sz72 (v := p) rfl rfl hp (by omega) (by omega)) hX106.pins ?_
 obtain ⟨cs115, hrep116, hagg117, hcell118⟩ := qO (j := ni) default (hp.at (z := (ni : Int)) (by omega) (by omega)) rfl
 obtain ⟨u119, u121, rfl, hr120, hr122⟩ := hrep116
 have hm123 := hr120.max
 have hm124 := hr122.max
 refine dT (i := 14) rfl rfl (by kernel_rfl) (fun _ hS => hagg117 ag72 sz72 rfl (dI hS (dH (dH (dH hle10 hle23) hlek80) hlek96))) hX106.pins ?_
 refine dT (i := 15) rfl rfl (by kernel_rfl) (fun _ _ => zB (v := (.int .i64 (y : Int))) rfl) hX106.pins ?_
 refine zR (i := 16) (by kernel_rfl) (yC (i := 16) rfl rfl rfl (zH rfl _) (zK (vs := [(.agg [u].toArray), (.agg [v].toArray), (.int .i64 (((ns.getD x default).r).getD i 0)), (.agg [(.int .i64 ((L.getD ni default).a)), (.int .i64 ((L.getD ni default).b)), u119, u121].toArray), (.int .i64 (y : Int))]) Tryz.func246 nm246 rfl rfl rfl ?_))
 refine dJ (pT (c := (L.getD ni default)) hX106.pins (hu.mono (dH (dH (dH hle10 hle23) hlek80) hlek96)) (hv.mono (dH (dH (dH hle10 hle23) hlek80) hlek96)) (by omega) (by omega)) ?_
 rintro _ w126 ⟨G125, rfl, hx127⟩
 refine ⟨_, rfl, ?_⟩
 have hX128 := hX106.tr hx127
 have ho129 := (hw100.below hl104).ext hx127
 have ho130 := (hw101.below hl104).ext hx127
 have hb131 := (hw102.below hl104).ext hx127
 have hb132 := (hw103.below hl104).ext hx127
 refine ⟨fun _ => (dI hX128.pins hx127.le), ?_⟩
 refine dT (i := 17) rfl rfl (by kernel_rfl) (fun _ _ => xT rfl) (dI hX128.pins hx127.le) ?_
 refine yP (by kernel_rfl) (zA (xV rfl rfl (fun h133 => ?_) (fun h133 => ?_)))
 replace h133 := of_decide_eq_true h133
 refine wp_exit (yK (yU (yV (zA (zE ?_)))))
 refine qD rfl (zM (k := 2) rfl eS rfl nz59 rfl) (qD rfl (zP (u := rv) ag59 rfl (hb132.cell (o := 2) rfl)) (qD rfl (zB (v := (.int .i64 (ni : Int))) rfl) (qI rfl (xI (E := eInt) (e := 3) [(.int .i64 (ni : Int))] [(ni : Int)] eR sz3 zr3 (by exact qQ (by rfl)) (yE (by rfl)) rfl rfl rfl rfl (by decide) hX128.pins (fun u134 w135 ho136 hp137 hl138 hk139 => ?_)))))
 have hX140 := hX128.step hp137 hl138
 have ho141 := ho129.below hl138
 have ho142 := ho130.below hl138
 have hb143 := hb131.below hl138
 have hb144 := hb132.below hl138
 have ho149 := ho136.weaken hX128.size
 refine qI rfl (yH (E := eInt) (v := rv) (u := u134) 8 eR ap3 (by decide) rfl rfl hX140.pins ho141 ho149.src (by first | omega | (rw [List.nil_append]; omega) | (rw [List.length_nil]; omega) | (rw [List.length_append]; omega) | (simp; done) | (simp; omega) | (simp only [List.length_append, List.length_cons, List.length_nil]; omega)) (by first | omega | (rw [List.nil_append]; omega) | (rw [List.length_nil]; omega) | (rw [List.length_append]; omega) | (simp; done) | (simp; omega) | (simp only [List.length_append, List.length_cons, List.length_nil]; omega)) (hX140.size) (fun u150 w151 ho152 hp153 hg154 hw155 => ?_))
 have hX156 := hX140.write hp153 hg154 ((yQ ho141))
 have ha164 : Apart (some b57) u150.ownBlock := zN ha90.symm hw155 hb144.lt
 have hm165 := la1 rs (ni : Int)
 refine qD rfl (zM (k := 2) rfl eS rfl nz59 rfl) (q0 rfl rfl rfl (yD (cs' := [(.int .i64 (x : Int)), (.int .i64 (y : Int)), u150, u45]) (us := [u150]) (v := u150) sz59 rfl rfl (vL ho152.one) (yE ho152.one) hX156.pins (hb144.keptA hg154 ha90.symm) (dK rfl) rfl (fun w166 hb167 hp168 hg169 hz170 => ?_)))
 refine qe (yO (zA (zE ?_)))
 refine qD rfl (zB (v := (.int .i64 (i : Int))) rfl) (qD rfl (yT rfl rfl (by omega)) (qD rfl (zC (v := (.int .i64 ((i : Int) + 1))) rfl) (qe (yR (⟨_, ?_, _, rfl, _, i + 1, u150, rs ++ ([(ni : Int)]), G125, (zF (x := 12) (zF (x := 11) (zF (x := 10) (zF (x := 6) (zF (x := 5) (zF (x := 4) (zF (x := 3) (yF (x := 2) rfl) rfl) rfl) rfl) rfl) rfl) rfl) rfl), rfl, (hX156.write hp168 hg169 ((zS hlo70))), (dH (dH hlek80 hlek96) hx127.le), (by omega), (by rw [hrs, low_at hnli.1 h133 hmi]; exact map_next (f := (fun r => lowL L (rightsP ns bs r y))) 0 (by omega)), (ho152.keptA hg169 ha164.symm), ((ho142.keptA hg154 ha88.symm).keptA hg169 ha68.symm), ((hb143.keptA hg154 ha89.symm).keptA hg169 ha69.symm), hb167, (zJ ha88.symm hw155 ho142.lt).symm, (zN ha89.symm hw155 hb143.lt).symm, ha164.symm⟩)))))
 omega
 replace h133 := of_decide_eq_false h133
 refine wp_skip (zA (yI (zE (qD rfl (zB (v := (.int .i64 (ni : Int))) rfl) (qD rfl (yT rfl rfl (by omega)) (qD rfl (zC (v := (.int .i64 ((ni : Int) + 1))) rfl) (qe (yO (yR (⟨_, ?_, _, rfl, _, ni + 1, G125, (zF (x := 13) (zF (x := 12) (zF (x := 11) (zF (x := 10) (zF (x := 6) (zF (x := 5) (zF (x := 4) (zF (x := 3) (yF (x := 2) rfl) rfl) rfl) rfl) rfl) rfl) rfl) rfl) rfl), rfl, hX128, (dH hlek96 hx127.le), (fun q hq => if h3 : q = ni then h3 ▸ h133 else hmi q (by omega)), ho129, ho130, hb131, hb132⟩))))))))))
 omega
 refine wp_exit (yK (yU (yV (zA (zD (zD (zE ?_)))))))
 refine qD rfl (zC (v := (.int .i64 0)) rfl) (qe (zA ?_))
 refine yI (yZ (fun (k : Nat) (en : Nat → Value) (W : World) => ∃ (env1 : Nat → Value) (j : Nat) (lv : Value) (ls : List Int) (GLj : Pin), en = (upd (upd (upd (upd (upd (upd (upd (upd env1 2 p) 3 (.int .i64 (x : Int))) 4 (.int .i64 (y : Int))) 5 (.pointer (some ⟨b1, 0, none⟩))) 6 (.pointer (some ⟨b14, 0, none⟩))) 10 (.pointer (some ⟨b27, 0, none⟩))) 11 (.pointer (some ⟨b57, 0, none⟩))) 14 (.int .i64 (j : Int))) ∧ k = (bs.getD y default).l.length - j ∧ Ext noS G w GLj W ∧ Pin.le GLi GLj ∧ (j ≤ (bs.getD y default).l.length) ∧ (ls = ((bs.getD y default).l.take j).map (fun r => lowL L (leftsP ns bs x r))) ∧ (Own eInt 3 GLj W w.heap.size lv (ls)) ∧ (Own eInt 3 GLj W w.heap.size rv (rs)) ∧ (Bx GLj W b27 [(.int .i64 0), (.int .i64 0), (.slice none 0 0), (.slice none 0 0)]) ∧ (Bx GLj W b57 [(.int .i64 (x : Int)), (.int .i64 (y : Int)), rv, lv]) ∧ (Apart lv.ownBlock rv.ownBlock) ∧ (Apart lv.ownBlock (some b27)) ∧ (Apart lv.ownBlock (some b57))) _ ⟨_, 0, u45, [], GLi, (zF (x := 14) (zF (x := 11) (zF (x := 10) (zF (x := 6) (zF (x := 5) (zF (x := 4) (zF (x := 3) (yF (x := 2) rfl) rfl) rfl) rfl) rfl) rfl) rfl) rfl), rfl, hX83, Pin.le_refl _, Nat.zero_le _, rfl, hw85, hw84, hw86, hw87, ha88.symm, (zG hk50 hb42.lt), ha68.symm⟩ ?_)
 rintro k175 _ w176 ⟨env1, j, lv, ls, GLj, rfl, hk177, hX178, hlek175, hjj, hls, hw179, hw180, hw181, hw182, ha183, ha184, ha185⟩
 have hlsl : ls.length ≤ (bs.getD y default).l.length := by rw [hls, List.length_map, List.length_take]; omega
 refine zD (zD (zE ?_))
 refine qD rfl (zB (v := (.int .i64 (j : Int))) rfl) (qD rfl (zM (k := 0) rfl eY rfl nz24 rfl) (qD rfl (zP (u := v) ag24 rfl ((dI hX178.pins (dH hlek80 hlek175)) _ _ _ (hbp25 0 _ rfl))) (qD rfl (zB (v := (.int .i64 (y : Int))) rfl) (qD rfl (zL eT sz65 (v := v) rfl rfl hv (by omega) (by omega)) (qD rfl (yS (off := 0) eX rfl rfl nz59 (z := (y : Int)) (k := 0) rfl hv (by omega) (by omega)) ?_)))))
 obtain ⟨u186, hr187, hl188⟩ := vO (hv.at (z := (y : Int)) (by omega) (by omega)) (j := y) rfl
 have hm189 := hr187.max
 refine qD rfl (hl188 ag59 rfl (dI hX178.pins (dH (dH (dH hle10 hle23) hlek80) hlek175))) (qD rfl (run_len eR (v := u186) rfl hr187) (qD rfl (xB rfl rfl) (qe (zA ?_))))
 refine yJ (p := ((j : Int) : Int) < (((bs.getD y default).l).length : Int)) rfl rfl (fun h190 => ?_) (fun h190 => ?_)
 have hki := hgb.optsOk.left (j := y) (i := j) (by omega) (by omega)
 have hloj := hj.l _ (xE (d := (0 : Int)) (show j < (bs.getD y default).l.length by omega))
 refine wp_skip (zA (zD ?_))
 refine yI (zD (zE ?_))
 refine qD rfl (zC (v := (.int .i64 0)) rfl) (qe (zA (zD ?_)))
 refine yI (yZ (fun (k : Nat) (en : Nat → Value) (W : World) => ∃ (env1 : Nat → Value) (nj : Nat) (GNj : Pin), en = (upd (upd (upd (upd (upd (upd (upd (upd (upd env1 2 p) 3 (.int .i64 (x : Int))) 4 (.int .i64 (y : Int))) 5 (.pointer (some ⟨b1, 0, none⟩))) 6 (.pointer (some ⟨b14, 0, none⟩))) 10 (.pointer (some ⟨b27, 0, none⟩))) 11 (.pointer (some ⟨b57, 0, none⟩))) 14 (.int .i64 (j : Int))) 15 (.int .i64 (nj : Int))) ∧ k = L.length - nj ∧ Ext noS G w GNj W ∧ Pin.le GLj GNj ∧ (∀ q, q < nj → prC (L.getD q default) ∉ leftsP ns bs x ((bs.getD y default).l.getD j 0)) ∧ (Own eInt 3 GNj W w.heap.size lv (ls)) ∧ (Own eInt 3 GNj W w.heap.size rv (rs)) ∧ (Bx GNj W b27 [(.int .i64 0), (.int .i64 0), (.slice none 0 0), (.slice none 0 0)]) ∧ (Bx GNj W b57 [(.int .i64 (x : Int)), (.int .i64 (y : Int)), rv, lv])) _ ⟨_, 0, GLj, (zF (x := 15) (zF (x := 14) (zF (x := 11) (zF (x := 10) (zF (x := 6) (zF (x := 5) (zF (x := 4) (zF (x := 3) (yF (x := 2) rfl) rfl) rfl) rfl) rfl) rfl) rfl) rfl) rfl), rfl, hX178, Pin.le_refl _, (fun i hi => absurd hi (Nat.not_lt_zero i)), hw179, hw180, hw181, hw182⟩ ?_)
 rintro k191 _ w192 ⟨env1, nj, GNj, rfl, hk193, hX194, hlek191, hmj, hw195, hw196, hw197, hw198⟩
 have hnlj := low_len hloj hmj
 refine zD (zD ?_)
 refine xD (S := fun wz => Pins GNj wz) (last := 18) (by kernel_rfl) rfl ?_
 have hl199 := bdr w192
 have hX201 := hX194.step (hX194.pins.below hl199) hl199
 refine dT (i := 0) rfl rfl (by kernel_rfl) (fun _ hS => zU (cs := [u]) ag26 sz26 rfl (fun j u hj => (dI hS (dH (dH (dH hle23 hlek80) hlek175) hlek191)) _ _ _ (hbp12 _ _ (by simpa using hj)))) hX201.pins ?_
 refine dT (i := 1) rfl rfl (by kernel_rfl) (fun _ hS => zU (cs := [v]) ag26 sz26 rfl (fun j u hj => (dI hS (dH (dH hlek80 hlek175) hlek191)) _ _ _ (hbp25 _ _ (by simpa using hj)))) hX201.pins ?_
 refine dT (i := 2) rfl rfl (by kernel_rfl) (fun _ _ => zM (k := 0) rfl eY rfl nz24 rfl) hX201.pins ?_
 refine dT (i := 3) rfl rfl (by kernel_rfl) (fun _ hS => zP (u := v) ag24 rfl ((dI hS (dH (dH hlek80 hlek175) hlek191)) _ _ _ (hbp25 0 _ rfl))) hX201.pins ?_
 refine dT (i := 4) rfl rfl (by kernel_rfl) (fun _ _ => zB (v := (.int .i64 (y : Int))) rfl) hX201.pins ?_
 refine dT (i := 5) rfl rfl (by kernel_rfl) (fun _ _ => zL eT sz65 (v := v) rfl rfl hv (by omega) (by omega)) hX201.pins ?_
 refine dT (i := 6) rfl rfl (by kernel_rfl) (fun _ _ => yS (off := 0) eX rfl rfl nz59 (z := (y : Int)) (k := 0) rfl hv (by omega) (by omega)) hX201.pins ?_
 obtain ⟨u206, hr207, hl208⟩ := vO (hv.at (z := (y : Int)) (by omega) (by omega)) (j := y) rfl
 have hm209 := hr207.max
 refine dT (i := 7) rfl rfl (by kernel_rfl) (fun _ hS => hl208 ag59 rfl (dI hS (dH (dH (dH (dH hle10 hle23) hlek80) hlek175) hlek191))) hX201.pins ?_
 refine dT (i := 8) rfl rfl (by kernel_rfl) (fun _ _ => zB (v := (.int .i64 (j : Int))) rfl) hX201.pins ?_
 refine dT (i := 9) rfl rfl (by kernel_rfl) (fun _ _ => zL eR sz3 (v := u206) rfl rfl hr207 (by omega) (by omega)) hX201.pins ?_
 refine dT (i := 10) rfl rfl (by kernel_rfl) (fun _ hS => zZ (r := ((bs.getD y default).l).getD j 0) rfl ag3 (z := (j : Int)) rfl hr207 (dI hS (dH (dH (dH (dH hle10 hle23) hlek80) hlek175) hlek191)) (by omega) (by omega)) hX201.pins ?_
 refine dT (i := 11) rfl rfl (by kernel_rfl) (fun _ _ => zB (v := p) rfl) hX201.pins ?_
 refine dT (i := 12) rfl rfl (by kernel_rfl) (fun _ _ => zB (v := (.int .i64 (nj : Int))) rfl) hX201.pins ?_
 refine dT (i := 13) rfl rfl (by kernel_rfl) (fun _ _ => zL eU sz72 (v := p) rfl rfl hp (by omega) (by omega)) hX201.pins ?_
 obtain ⟨cs210, hrep211, hagg212, hcell213⟩ := qO (j := nj) default (hp.at (z := (nj : Int)) (by omega) (by omega)) rfl
 obtain ⟨u214, u216, rfl, hr215, hr217⟩ := hrep211
 have hm218 := hr215.max
 have hm219 := hr217.max
 refine dT (i := 14) rfl rfl (by kernel_rfl) (fun _ hS => hagg212 ag72 sz72 rfl (dI hS (dH (dH (dH (dH hle10 hle23) hlek80) hlek175) hlek191))) hX201.pins ?_
 refine dT (i := 15) rfl rfl (by kernel_rfl) (fun _ _ => zB (v := (.int .i64 (x : Int))) rfl) hX201.pins ?_
 refine zR (i := 16) (by kernel_rfl) (yC (i := 16) rfl rfl rfl (zH rfl _) (zK (vs := [(.agg [u].toArray), (.agg [v].toArray), (.int .i64 (((bs.getD y default).l).getD j 0)), (.agg [(.int .i64 ((L.getD nj default).a)), (.int .i64 ((L.getD nj default).b)), u214, u216].toArray), (.int .i64 (x : Int))]) Tryz.func247 nm247 rfl rfl rfl ?_))
 refine dJ (l15Left_spec (c := (L.getD nj default)) hX201.pins (hu.mono (dH (dH (dH (dH hle10 hle23) hlek80) hlek175) hlek191)) (hv.mono (dH (dH (dH (dH hle10 hle23) hlek80) hlek175) hlek191)) (by omega) (by omega)) ?_
 rintro _ w221 ⟨G220, rfl, hx222⟩
 refine ⟨_, rfl, ?_⟩
 have hX223 := hX201.tr hx222
 have ho224 := (hw195.below hl199).ext hx222
 have ho225 := (hw196.below hl199).ext hx222
 have hb226 := (hw197.below hl199).ext hx222
 have hb227 := (hw198.below hl199).ext hx222
 refine ⟨fun _ => (dI hX223.pins hx222.le), ?_⟩
 refine dT (i := 17) rfl rfl (by kernel_rfl) (fun _ _ => xT rfl) (dI hX223.pins hx222.le) ?_
 refine yP (by kernel_rfl) (zA (xV rfl rfl (fun h228 => ?_) (fun h228 => ?_)))
 replace h228 := of_decide_eq_true h228
 refine wp_exit (yK (yU (yV (zA (zE ?_)))))
 refine qD rfl (zM (k := 3) rfl eS rfl nz59 rfl) (qD rfl (zP (u := lv) ag59 rfl (hb227.cell (o := 3) rfl)) (qD rfl (zB (v := (.int .i64 (nj : Int))) rfl) (qI rfl (xI (E := eInt) (e := 3) [(.int .i64 (nj : Int))] [(nj : Int)] eR sz3 zr3 (by exact qQ (by rfl)) (yE (by rfl)) rfl rfl rfl rfl (by decide) hX223.pins (fun u229 w230 ho231 hp232 hl233 hk234 => ?_)))))
 have hX235 := hX223.step hp232 hl233
 have ho236 := ho224.below hl233
 have ho237 := ho225.below hl233
 have hb238 := hb226.below hl233
 have hb239 := hb227.below hl233
 have ho244 := ho231.weaken hX223.size
 refine qI rfl (yH (E := eInt) (v := lv) (u := u229) 8 eR ap3 (by decide) rfl rfl hX235.pins ho236 ho244.src (by first | omega | (rw [List.nil_append]; omega) | (rw [List.length_nil]; omega) | (rw [List.length_append]; omega) | (simp; done) | (simp; omega) | (simp only [List.length_append, List.length_cons, List.length_nil]; omega)) (by first | omega | (rw [List.nil_append]; omega) | (rw [List.length_nil]; omega) | (rw [List.length_append]; omega) | (simp; done) | (simp; omega) | (simp only [List.length_append, List.length_cons, List.length_nil]; omega)) (hX235.size) (fun u245 w246 ho247 hp248 hg249 hw250 => ?_))
 have hX251 := hX235.write hp248 hg249 ((yQ ho236))
 have ha259 : Apart (some b57) u245.ownBlock := zN ha185.symm hw250 hb239.lt
 have hm260 := la1 ls (nj : Int)
 refine qD rfl (zM (k := 3) rfl eS rfl nz59 rfl) (q0 rfl rfl rfl (yD (cs' := [(.int .i64 (x : Int)), (.int .i64 (y : Int)), rv, u245]) (us := [u245]) (v := u245) sz59 rfl rfl (vL ho247.one) (yE ho247.one) hX251.pins (hb239.keptA hg249 ha185.symm) (dK rfl) rfl (fun w261 hb262 hp263 hg264 hz265 => ?_)))
 refine qe (yO (zA (zE ?_)))
 refine qD rfl (zB (v := (.int .i64 (j : Int))) rfl) (qD rfl (yT rfl rfl (by omega)) (qD rfl (zC (v := (.int .i64 ((j : Int) + 1))) rfl) (qe (yR (⟨_, ?_, _, rfl, _, j + 1, u245, ls ++ ([(nj : Int)]), G220, (zF (x := 14) (zF (x := 11) (zF (x := 10) (zF (x := 6) (zF (x := 5) (zF (x := 4) (zF (x := 3) (yF (x := 2) rfl) rfl) rfl) rfl) rfl) rfl) rfl) rfl), rfl, (hX251.write hp263 hg264 ((zS hlo70))), (dH (dH hlek175 hlek191) hx222.le), (by omega), (by rw [hls, low_at hnlj.1 h228 hmj]; exact map_next (f := (fun r => lowL L (leftsP ns bs x r))) 0 (by omega)), (ho247.keptA hg264 ha259.symm), ((ho237.keptA hg249 ha183.symm).keptA hg264 ha90), ((hb238.keptA hg249 ha184.symm).keptA hg264 ha69.symm), hb262, (zJ ha183.symm hw250 ho237.lt).symm, (zN ha184.symm hw250 hb238.lt).symm, ha259.symm⟩)))))
 omega
 replace h228 := of_decide_eq_false h228
 refine wp_skip (zA (yI (zE (qD rfl (zB (v := (.int .i64 (nj : Int))) rfl) (qD rfl (yT rfl rfl (by omega)) (qD rfl (zC (v := (.int .i64 ((nj : Int) + 1))) rfl) (qe (yO (yR (⟨_, ?_, _, rfl, _, nj + 1, G220, (zF (x := 15) (zF (x := 14) (zF (x := 11) (zF (x := 10) (zF (x := 6) (zF (x := 5) (zF (x := 4) (zF (x := 3) (yF (x := 2) rfl) rfl) rfl) rfl) rfl) rfl) rfl) rfl) rfl), rfl, hX223, (dH hlek191 hx222.le), (fun q hq => if h3 : q = nj then h3 ▸ h228 else hmj q (by omega)), ho224, ho225, hb226, hb227⟩))))))))))
 omega
 refine wp_exit (yK (yU (yV (zA (zD (zE ?_))))))
 refine qD rfl (zU (cs := [(.int .i64 (x : Int)), (.int .i64 (y : Int)), rv, lv]) ag72 sz72 rfl (fun j u hj => hw182.cell (by simpa using hj))) (q0 rfl rfl rfl (yD (cs' := [(.int .i64 (x : Int)), (.int .i64 (y : Int)), rv, lv]) (us := [(.int .i64 (x : Int)), (.int .i64 (y : Int)), rv, lv]) (v := (.agg [(.int .i64 (x : Int)), (.int .i64 (y : Int)), rv, lv].toArray)) sz72 rfl rfl rfl (jB (by rfl) (by rfl) hw180.one hw179.one) hX178.pins hw181 (dK rfl) rfl (fun w270 hb271 hp272 hg273 hz274 => ?_)))
 refine qe (zA ?_)
 refine wp_ret (zQ (qJ (cs := [(.int .i64 (x : Int)), (.int .i64 (y : Int)), rv, lv]) rfl rfl rfl ag72 sz72 (fun j u hj => by rw [Nat.zero_add]; exact hb271.cell hj) ?_))
 rw [fQ (by omega)] at hrs hls
 exact ⟨_, _, _, rfl, (by rw [show (claimOf ns bs L x y).r = rs from hrs.symm]; exact (hw180.keptA hg273 ha89)), (by rw [show (claimOf ns bs L x y).l = ls from hls.symm]; exact (hw179.keptA hg273 ha184)), ha183.symm, (hX178.write hp272 hg273 ((zS hlo34)))⟩
end PF2
end Go.Proofs.YtajkbplgbikgdaaGreatDoor
namespace Go.Proofs.YtajkbplgbikgdaaGreatDoor
namespace PF3
open Go.RowKit Go.GL Go.Proofs
open B1 C1 D1 E1 OR1 SF1 P1 PF2
theorem nP : (Tryz.prog.underlying 119).bind (placesD Tryz.prog) = some [(0, 1), (1, 1)] := by kernel_rfl
theorem l15True_spec {w : World} {G : Pin} {u v : Value} {ns bs : List Nd} (hP : Pins G w) (hu : RSl eNode G u ns) (hv : RSl eNode G v bs) (hga : GoodP ns) (hgb : GoodP bs) :
  Calls Tryz.prog 143 [(.agg [u].toArray), (.agg [v].toArray)].toArray w fun e w' => ∃ (r : Value) (G' : Pin), e = .returned r ∧ RSl eClaim G' r (fullL ns bs) ∧ Ext noS G w G' w' := by
 refine yM (n := 57) Tryz.func143 Tryz.ntmps143 rfl rfl ?_
 have hX0 := exr noS hP
 have hmu := hu.max
 have hmv := hv.max
 have hla := hga.lo
 have hlb := hgb.lo
 have hha := hga.hi
 have hhb := hgb.hi
 have hpb := pair_book (vX hga) (vX hgb) (by omega)
 have e1 := hpb.ok1.len
 have e2 := hpb.ok2.len
 have e3 := hpb.ok1.hi
 simp only [List.length_nil, Nat.zero_add] at e3
 refine zD (zE ?_)
 refine qI rfl (xX [u] (v := (.agg [u].toArray)) rfl rfl hX0.pins (fun b1 w2 hk3 hb4 hp5 hl6 => ?_))
 have hlo8 : w.heap.size ≤ b1 := by have := hX0.size; omega
 obtain ⟨G9, hle10, hX11, hbp12, hf13⟩ := hb4.shut (hX0.step hp5 hl6) hlo8
 refine qI rfl (xX [v] (v := (.agg [v].toArray)) rfl rfl hX11.pins (fun b14 w15 hk16 hb17 hp18 hl19 => ?_))
 have hlo21 : w.heap.size ≤ b14 := by have := hX11.size; omega
 obtain ⟨G22, hle23, hX24, hbp25, hf26⟩ := hb17.shut (hX11.step hp18 hl19) hlo21
 refine qD rfl (zC (v := (.slice none 0 0)) rfl) (qe (zA (zD (zE ?_))))
 refine qD rfl (yY [(.slice none 0 0), (.slice none 0 0)] [(.slice none 0 0), (.slice none 0 0)] [] dA zr119 rfl nP rfl (fun _ h => by cases h) rfl) (qI rfl (xX [(.slice none 0 0), (.slice none 0 0)] (v := (.agg [(.slice none 0 0), (.slice none 0 0)].toArray)) rfl rfl hX24.pins (fun b27 w28 hk29 hb30 hp31 hl32 => ?_)))
 have hX33 := hX24.step hp31 hl32
 have hlo34 : w.heap.size ≤ b27 := by have := hX24.size; omega
 refine qD rfl (zC (v := (.pointer (some ⟨b27, 0, none⟩))) rfl) (qe (zA (zD ?_)))
 refine xD (S := fun wz => Pins G22 wz) (last := 8) (by kernel_rfl) rfl ?_
 have hl35 := bdr w28
 have hX37 := hX33.step (hX33.pins.below hl35) hl35
 refine dT (i := 0) rfl rfl (by kernel_rfl) (fun _ _ => zB (v := (.pointer (some ⟨b27, 0, none⟩))) rfl) hX37.pins ?_
 refine dT (i := 1) rfl rfl (by kernel_rfl) (fun _ hS => zU (cs := [u]) ag26 sz26 rfl (fun j u hj => (dI hS hle23) _ _ _ (hbp12 _ _ (by simpa using hj)))) hX37.pins ?_
 refine dT (i := 3) rfl rfl (by kernel_rfl) (fun _ _ => zB (v := (.pointer (some ⟨b27, 0, none⟩))) rfl) hX37.pins ?_
 refine dT (i := 4) rfl rfl (by kernel_rfl) (fun _ hS => zU (cs := [v]) ag26 sz26 rfl (fun j u hj => hS _ _ _ (hbp25 _ _ (by simpa using hj)))) hX37.pins ?_
 refine zR (i := 2) (by kernel_rfl) (yC (i := 2) rfl rfl rfl (zH rfl _) (zK (vs := [(.pointer (some ⟨b27, 0, none⟩)), (.agg [u].toArray)]) Tryz.func76 nm76 rfl rfl rfl ?_))
 refine dJ (pQ hX37.pins ⟨(hb30.below hl35), (Own.nil _ _ _ _ _), (Own.nil _ _ _ _ _), apart_none.symm, apart_none.symm, apart_none⟩ qT (hu.mono (dH hle10 hle23)) (vX hga) (by first | omega | (simp; omega))) ?_
 rintro _ w42 ⟨u47, u39, v40, G41, rfl, hr48, hbk43, hx44, hlu45, hlv46⟩
 refine ⟨_, rfl, ?_⟩
 have hin49 : ∀ i, inS b27 (.slice none 0 0) (.slice none 0 0) i → w.heap.size ≤ i ∨ noS i := kU (zS hlo34) (kQ _ _) (kQ _ _)
 have hX50 := hX37.trans hx44 hin49
 have hb51 := hbk43.bx
 have ho52 := hbk43.ou
 have ho53 := hbk43.ov
 have ha54 := hbk43.abu
 have ha55 := hbk43.abv
 have ha56 := hbk43.auv
 have hlo57 := xZ hlu45 hin49 hX37.size
 have hlo58 := xZ hlv46 hin49 hX37.size
 refine ⟨fun _ => (dI hX50.pins hx44.le), ?_⟩
 refine zR (i := 5) (by kernel_rfl) (yC (i := 5) rfl rfl rfl (zH rfl _) (zK (vs := [(.pointer (some ⟨b27, 0, none⟩)), (.agg [v].toArray)]) Tryz.func76 nm76 rfl rfl rfl ?_))
 refine dJ (pQ hX50.pins ⟨hb51, ho52, ho53, ha54, ha55, ha56⟩ hpb.ok1.book (hv.mono (dH (dH hle10 hle23) hx44.le)) (vX hgb) (by first | omega | (simp; omega))) ?_
 rintro _ w62 ⟨u67, u59, v60, G61, rfl, hr68, hbk63, hx64, hlu65, hlv66⟩
 refine ⟨_, rfl, ?_⟩
 have hin69 : ∀ i, inS b27 u39 v40 i → w.heap.size ≤ i ∨ noS i := kU (zS hlo34) hlo57 hlo58
 have hX70 := hX50.trans hx64 hin69
 have hb71 := hbk63.bx
 have ho72 := hbk63.ou
 have ho73 := hbk63.ov
 have ha74 := hbk63.abu
 have ha75 := hbk63.abv
 have ha76 := hbk63.auv
 have hlo77 := xZ hlu65 hin69 hX50.size
 have hlo78 := xZ hlv66 hin69 hX50.size
 refine ⟨fun _ => (dI hX70.pins (dH hx44.le hx64.le)), ?_⟩
 refine dT (i := 6) rfl rfl (by kernel_rfl) (fun _ _ => zC (v := u47) rfl) (dI hX70.pins (dH hx44.le hx64.le)) ?_
 refine dT (i := 7) rfl rfl (by kernel_rfl) (fun _ _ => zC (v := u67) rfl) (dI hX70.pins (dH hx44.le hx64.le)) ?_
 refine yP (by kernel_rfl) (zA (zD (zE ?_)))
 refine qD rfl (zB (v := (.pointer (some ⟨b27, 0, none⟩))) rfl) (qI rfl (zK (vs := [(.pointer (some ⟨b27, 0, none⟩))]) Tryz.func140 nm140 rfl rfl rfl ?_))
 refine dJ (sT hX70.pins ⟨hb71, ho72, ho73, ha74, ha75, ha76⟩ hpb.ok2.book) ?_
 rintro _ w82 ⟨b79, u80, G81, rfl, hb83, ho84, hlo85, ha86, hx87⟩
 refine ⟨_, rfl, ?_⟩
 have hX88 := hX70.tr hx87
 have ho89 := ho72.ext hx87
 have ho90 := ho73.ext hx87
 have hb91 := hb71.ext hx87
 have ha92 : Apart u80.ownBlock u59.ownBlock := zV ho84.lt ho72.lt
 have ha94 : Apart u80.ownBlock v60.ownBlock := zV ho84.lt ho73.lt
 have ha96 : Apart u80.ownBlock (some b27) := zX ho84.lt hb71.lt
 have hlo98 := Nat.le_trans hX70.size hlo85
 have ho99 := ho84.weaken hX70.size
 refine qD rfl (zC (v := (.pointer (some ⟨b79, 0, none⟩))) rfl) (qe (zA (zD (zE ?_))))
 refine qI rfl (xF (E := eClaim) (e := 72) eU sz72 hX88.pins (fun u100 w101 ho102 hp103 hl104 hk105 => ?_))
 have hX106 := hX88.step hp103 hl104
 have ho107 := ho89.below hl104
 have ho108 := ho90.below hl104
 have ho109 := ho99.below hl104
 have hb110 := hb91.below hl104
 have hb111 := hb83.below hl104
 have ha112 : Apart u100.ownBlock u59.ownBlock := zI hk105 ho89.lt
 have ha113 : Apart u100.ownBlock v60.ownBlock := zI hk105 ho90.lt
 have ha114 : Apart u100.ownBlock u80.ownBlock := zI hk105 ho99.lt
 have ha115 : Apart u100.ownBlock (some b27) := zG hk105 hb91.lt
 have ha116 : Apart u100.ownBlock (some b79) := zG hk105 hb83.lt
 have ho117 := ho102.weaken hX88.size
 refine qD rfl (zC (v := u100) rfl) (qe (zA (zD (zD (zE ?_)))))
 refine qD rfl (zC (v := (.int .i64 0)) rfl) (qe (zA ?_))
 refine yI ?_
 have hlok : Lo w noS u80.ownBlock := (yQ ho109)
 refine yZ (fun (k : Nat) (en : Nat → Value) (W : World) => ∃ (env1 : Nat → Value) (i : Nat) (ov : Value) (os : List Cl) (kq : List Int) (GL1 : Pin), en = (upd (upd (upd (upd (upd (upd (upd (upd env1 2 (.pointer (some ⟨b1, 0, none⟩))) 3 (.pointer (some ⟨b14, 0, none⟩))) 4 (.slice none 0 0)) 6 u47) 7 u67) 8 (.pointer (some ⟨b79, 0, none⟩))) 9 ov) 10 (.int .i64 (i : Int))) ∧ k = ns.length - i ∧ Ext noS G w GL1 W ∧ Pin.le G81 GL1 ∧ (i ≤ ns.length) ∧ (os = rowL ns bs i) ∧ (KAll _ kq) ∧ (Own eClaim 72 GL1 W w.heap.size ov (os)) ∧ (Own eInt 3 GL1 W 0 u80 (kq)) ∧ (Own eNode 65 GL1 W 0 u59 ((addM ((addM ([]) ([]) ns).2.1) ((addM ([]) ([]) ns).2.2) bs).2.1)) ∧ (Own eInt 3 GL1 W 0 v60 ((addM ((addM ([]) ([]) ns).2.1) ((addM ([]) ([]) ns).2.2) bs).2.2)) ∧ (Bx GL1 W b27 [u59, v60]) ∧ (Bx GL1 W b79 [(.pointer (some ⟨b27, 0, none⟩)), u80]) ∧ (Apart ov.ownBlock u80.ownBlock) ∧ (Apart ov.ownBlock u59.ownBlock) ∧ (Apart ov.ownBlock v60.ownBlock) ∧ (Apart ov.ownBlock (some b27)) ∧ (Apart ov.ownBlock (some b79))) _ ⟨_, 0, u100, [], List.replicate (((addM ((addM ([]) ([]) ns).2.1) ((addM ([]) ([]) ns).2.2) bs).2.1).length * ((addM ((addM ([]) ([]) ns).2.1) ((addM ([]) ([]) ns).2.2) bs).2.1).length) 0, G81, (zF (x := 10) (zF (x := 9) (zF (x := 8) (zF (x := 7) (zF (x := 6) (zF (x := 4) (zF (x := 3) (yF (x := 2) rfl) rfl) rfl) rfl) rfl) rfl) rfl) rfl), rfl, hX106, Pin.le_refl _, Nat.zero_le _, rfl, KAll.zero, ho117, (ho109.weaken (Nat.zero_le _)), ho107, ho108, hb110, hb111, ha114, ha112, ha113, ha115, ha116⟩ ?_
 rintro k118 _ w119 ⟨env1, i, ov, os, kq, GL1, rfl, hk120, hX121, hlek118, hi, hos, hka1, hw122, hw123, hw124, hw125, hw126, hw127, ha128, ha129, ha130, ha131, ha132⟩
 refine zD (zD (zE ?_))
 refine qD rfl (zB (v := (.int .i64 (i : Int))) rfl) (qD rfl (zM (k := 0) rfl eY rfl nz24 rfl) (qD rfl (zP (u := u) ag24 rfl ((dI hX121.pins (dH (dH (dH (dH hle23 hx44.le) hx64.le) hx87.le) hlek118)) _ _ _ (hbp12 0 _ rfl))) (qD rfl (run_len eT (v := u) rfl hu) (qD rfl (xB rfl rfl) (qe (zA ?_))))))
 refine yJ (p := ((i : Int) : Int) < (ns.length : Int)) rfl rfl (fun h133 => ?_) (fun h133 => ?_)
 refine wp_skip (zA (zD ?_))
 refine yI (zD (zE ?_))
 refine qD rfl (zC (v := (.int .i64 0)) rfl) (qe (zA ?_))
 refine yI (yZ (fun (k : Nat) (en : Nat → Value) (W : World) => ∃ (env1 : Nat → Value) (j : Nat) (ov2 : Value) (os2 : List Cl) (kq2 : List Int) (GL2 : Pin), en = (upd (upd (upd (upd (upd (upd (upd (upd (upd env1 2 (.pointer (some ⟨b1, 0, none⟩))) 3 (.pointer (some ⟨b14, 0, none⟩))) 4 (.slice none 0 0)) 6 u47) 7 u67) 8 (.pointer (some ⟨b79, 0, none⟩))) 9 ov2) 10 (.int .i64 (i : Int))) 11 (.int .i64 (j : Int))) ∧ k = bs.length - j ∧ Ext noS G w GL2 W ∧ Pin.le GL1 GL2 ∧ (j ≤ bs.length) ∧ (os2 = colL ns bs (rowL ns bs i) i j) ∧ (KAll _ kq2) ∧ (Own eClaim 72 GL2 W w.heap.size ov2 (os2)) ∧ (Own eInt 3 GL2 W 0 u80 (kq2)) ∧ (Own eNode 65 GL2 W 0 u59 ((addM ((addM ([]) ([]) ns).2.1) ((addM ([]) ([]) ns).2.2) bs).2.1)) ∧ (Own eInt 3 GL2 W 0 v60 ((addM ((addM ([]) ([]) ns).2.1) ((addM ([]) ([]) ns).2.2) bs).2.2)) ∧ (Bx GL2 W b27 [u59, v60]) ∧ (Bx GL2 W b79 [(.pointer (some ⟨b27, 0, none⟩)), u80]) ∧ (Apart ov2.ownBlock u80.ownBlock) ∧ (Apart ov2.ownBlock u59.ownBlock) ∧ (Apart ov2.ownBlock v60.ownBlock) ∧ (Apart ov2.ownBlock (some b27)) ∧ (Apart ov2.ownBlock (some b79))) _ ⟨_, 0, ov, os, kq, GL1, (zF (x := 11) (zF (x := 10) (zF (x := 9) (zF (x := 8) (zF (x := 7) (zF (x := 6) (zF (x := 4) (zF (x := 3) (yF (x := 2) rfl) rfl) rfl) rfl) rfl) rfl) rfl) rfl) rfl), rfl, hX121, Pin.le_refl _, Nat.zero_le _, hos, hka1, hw122, hw123, hw124, hw125, hw126, hw127, ha128, ha129, ha130, ha131, ha132⟩ ?_)
 rintro k134 _ w135 ⟨env1, j, ov2, os2, kq2, GL2, rfl, hk136, hX137, hlek134, hj, hos2, hka2, hw138, hw139, hw140, hw141, hw142, hw143, ha144, ha145, ha146, ha147, ha148⟩
 refine zD (zD (zE ?_))
 refine qD rfl (zB (v := (.int .i64 (j : Int))) rfl) (qD rfl (zM (k := 0) rfl eY rfl nz24 rfl) (qD rfl (zP (u := v) ag24 rfl ((dI hX137.pins (dH (dH (dH (dH hx44.le hx64.le) hx87.le) hlek118) hlek134)) _ _ _ (hbp25 0 _ rfl))) (qD rfl (run_len eT (v := v) rfl hv) (qD rfl (xB rfl rfl) (qe (zA ?_))))))
 refine yJ (p := ((j : Int) : Int) < (bs.length : Int)) rfl rfl (fun h149 => ?_) (fun h149 => ?_)
 have hT := trueAt hga.optsOk hgb.optsOk (x := i) (k := j) (by omega) (by omega)
 have hcb := col_bound hga.hi hgb.hi (x := i) (k := j) (by omega) (by omega)
 rw [← hos2] at hT hcb
 refine wp_skip (zA (zD ?_))
 refine yI (zD (xD (S := fun wz => Pins GL2 wz) (last := 10) (by kernel_rfl) rfl ?_))
 have hl150 := bdr w135
 have hX152 := hX137.step (hX137.pins.below hl150) hl150
 have ho155 := hw140.below hl150
 have ho156 := hw141.below hl150
 have hb157 := hw142.below hl150
 have hb158 := hw143.below hl150
 refine dT (i := 0) rfl rfl (by kernel_rfl) (fun _ _ => zB (v := (.pointer (some ⟨b79, 0, none⟩))) rfl) hX152.pins ?_
 refine dT (i := 1) rfl rfl (by kernel_rfl) (fun _ _ => zB (v := u47) rfl) hX152.pins ?_
 refine dT (i := 2) rfl rfl (by kernel_rfl) (fun _ _ => zB (v := (.int .i64 (i : Int))) rfl) hX152.pins ?_
 refine dT (i := 3) rfl rfl (by kernel_rfl) (fun _ _ => zL eR sz3 (v := u47) rfl rfl hr48 (by omega) (by omega)) hX152.pins ?_
 refine dT (i := 4) rfl rfl (by kernel_rfl) (fun _ hS => zZ (r := ((addM ([]) ([]) ns).1).getD i 0) rfl ag3 (z := (i : Int)) rfl hr48 (dI hS (dH (dH (dH hx64.le hx87.le) hlek118) hlek134)) (by omega) (by omega)) hX152.pins ?_
 refine dT (i := 5) rfl rfl (by kernel_rfl) (fun _ _ => zB (v := u67) rfl) hX152.pins ?_
 refine dT (i := 6) rfl rfl (by kernel_rfl) (fun _ _ => zB (v := (.int .i64 (j : Int))) rfl) hX152.pins ?_
 refine dT (i := 7) rfl rfl (by kernel_rfl) (fun _ _ => zL eR sz3 (v := u67) rfl rfl hr68 (by omega) (by omega)) hX152.pins ?_
 refine dT (i := 8) rfl rfl (by kernel_rfl) (fun _ hS => zZ (r := ((addM ((addM ([]) ([]) ns).2.1) ((addM ([]) ([]) ns).2.2) bs).1).getD j 0) rfl ag3 (z := (j : Int)) rfl hr68 (dI hS (dH (dH hx87.le hlek118) hlek134)) (by omega) (by omega)) hX152.pins ?_
 refine zR (i := 9) (by kernel_rfl) (yC (i := 9) rfl rfl rfl (zH rfl _) (zK (vs := [(.pointer (some ⟨b79, 0, none⟩)), (.int .i64 (((addM ([]) ([]) ns).1).getD i 0)), (.int .i64 (((addM ((addM ([]) ([]) ns).2.1) ((addM ([]) ([]) ns).2.2) bs).1).getD j 0))]) Tryz.func141 nm141 rfl rfl rfl ?_))
 refine dJ (geq_spec hX152.pins ⟨⟨hb157, ho155, ho156, ha74, ha75, ha76⟩, hb158, (hw139.below hl150), ha86, ha96.symm, ha92.symm, ha94.symm⟩ (hpb.p1 _ (by omega)) (hpb.p2 _ (by omega)) hka2.1 hpb.ok2.book (hka2.2 _)) ?_
 rintro _ w161 ⟨ks159, G160, rfl, hd162, hr163, hx164⟩
 refine ⟨_, rfl, ?_⟩
 have hX165 := hX152.trans hx164 (fun i hi => hlok i hi)
 have ho166 := (hw138.below hl150).extS hx164 (notO ha144)
 have ho167 := ho155.extS hx164 (notO ha92.symm)
 have ho168 := ho156.extS hx164 (notO ha94.symm)
 have hb169 := hb157.extS hx164 (xJ ha96.symm)
 have hb170 := hb158.extS hx164 (xJ ha86)
 have hkl172 := hr163.len
 have hka173 := KAll.res hka2 hr163
 refine ⟨fun _ => (dI hX165.pins hx164.le), ?_⟩
 refine yP (by kernel_rfl) (zA (c_if rfl rfl (fun h174 => ?_) (fun h174 => ?_)))
 refine zE ?_
 have hjp := (hT.just hga.optsOk hgb.optsOk (by omega) (by omega)).2 ((hpb.ge i j (by omega) (by omega)).symm.trans h174)
 refine qD rfl (zB (v := ov2) rfl) (qD rfl (zU (cs := [u]) ag26 sz26 rfl (fun j u hj => (dI hX165.pins (dH (dH (dH (dH (dH (dH hle23 hx44.le) hx64.le) hx87.le) hlek118) hlek134) hx164.le)) _ _ _ (hbp12 _ _ (by simpa using hj)))) (qD rfl (zU (cs := [v]) ag26 sz26 rfl (fun j u hj => (dI hX165.pins (dH (dH (dH (dH (dH hx44.le hx64.le) hx87.le) hlek118) hlek134) hx164.le)) _ _ _ (hbp25 _ _ (by simpa using hj)))) (qD rfl (zB (v := ov2) rfl) (qD rfl (zB (v := (.int .i64 (i : Int))) rfl) (qD rfl (zB (v := (.int .i64 (j : Int))) rfl) (qI rfl (zK (vs := [(.agg [u].toArray), (.agg [v].toArray), ov2, (.int .i64 (i : Int)), (.int .i64 (j : Int))]) Tryz.func190 nm190 rfl rfl rfl ?_)))))))
 refine dJ (pU (Gadd.pins hX165.pins ov2) ((hu.mono (dH (dH (dH (dH (dH (dH (dH hle10 hle23) hx44.le) hx64.le) hx87.le) hlek118) hlek134) hx164.le)).mono (Gadd.le _ _ _)) ((hv.mono (dH (dH (dH (dH (dH (dH (dH hle10 hle23) hx44.le) hx64.le) hx87.le) hlek118) hlek134) hx164.le)).mono (Gadd.le _ _ _)) ho166.read hga hgb (by omega) (by omega) hjp) ?_
 rintro _ w178 ⟨r175, l176, G177, rfl, ho179, ho180, ha181, hx182⟩
 refine ⟨_, rfl, ?_⟩
 have hx183 := deep_back hX165.pins hx182
 have ho184 := ho179.anti flat_int (dH (Gadd.le G160 w161 ov2) hx182.le)
 have ho185 := ho180.anti flat_int (dH (Gadd.le G160 w161 ov2) hx182.le)
 have ho199 := ho184.weaken hX165.size
 have ho206 := ho185.weaken hX165.size
 obtain ⟨G207, hle210, hX209, hr208, hf211⟩ := ho199.sealed (hX165.step hx183.pins hx183.below)
 obtain ⟨G219, hle222, hX221, hr220, hf223⟩ := (ho206.moreO hle210 hf211 ha181.symm).sealed hX209
 refine qI rfl (xM (E := eClaim) (e := 72) [(.int .i64 ((claimOf ns bs os2 i j).a)), (.int .i64 ((claimOf ns bs os2 i j).b)), r175, l176] (⟨(claimOf ns bs os2 i j).a, (claimOf ns bs os2 i j).b, (claimOf ns bs os2 i j).r, (claimOf ns bs os2 i j).l⟩ : Cl) eU sz72 zr72 ⟨_, _, rfl, (hr208.mono hle222), hr220⟩ rfl (by decide) hX221.pins (fun u230 w231 ho232 hp233 hl234 hk235 => ?_))
 have hX236 := hX221.step hp233 hl234
 have ho237 := (((ho166.below hx183.below).moreO hle210 hf211 (zV ho184.lt ho166.lt).symm).moreO hle222 hf223 (zV ho185.lt ho166.lt).symm).below hl234
 have ho238 := (((hd162.ok.below hx183.below).moreO hle210 hf211 (zV ho184.lt hd162.ok.lt).symm).moreO hle222 hf223 (zV ho185.lt hd162.ok.lt).symm).below hl234
 have ho239 := (((ho167.below hx183.below).moreO hle210 hf211 (zV ho184.lt ho167.lt).symm).moreO hle222 hf223 (zV ho185.lt ho167.lt).symm).below hl234
 have ho240 := (((ho168.below hx183.below).moreO hle210 hf211 (zV ho184.lt ho168.lt).symm).moreO hle222 hf223 (zV ho185.lt ho168.lt).symm).below hl234
 have hb241 := (((hb169.below hx183.below).moreO hf211 (zX ho184.lt hb169.lt).symm).moreO hf223 (zX ho185.lt hb169.lt).symm).below hl234
 have hb242 := (((hb170.below hx183.below).moreO hf211 (zX ho184.lt hb170.lt).symm).moreO hf223 (zX ho185.lt hb170.lt).symm).below hl234
 have ho249 := ho232.weaken hX221.size
 refine qI rfl (yH (E := eClaim) (v := ov2) (u := u230) 64 eU ap72 (by decide) rfl rfl hX236.pins ho237 ho249.src (by first | omega | (rw [List.nil_append]; omega) | (rw [List.length_nil]; omega) | (rw [List.length_append]; omega) | (simp; done) | (simp; omega) | (simp only [List.length_append, List.length_cons, List.length_nil]; omega)) (by first | omega | (rw [List.nil_append]; omega) | (rw [List.length_nil]; omega) | (rw [List.length_append]; omega) | (simp; done) | (simp; omega) | (simp only [List.length_append, List.length_cons, List.length_nil]; omega)) (hX236.size) (fun u250 w251 ho252 hp253 hg254 hw255 => ?_))
 have hm269 := la1 os2 (⟨(claimOf ns bs os2 i j).a, (claimOf ns bs os2 i j).b, (claimOf ns bs os2 i j).r, (claimOf ns bs os2 i j).l⟩ : Cl)
 refine qD rfl (zC (v := u250) rfl) (qe (yO (zA (zE ?_))))
 refine qD rfl (zB (v := (.int .i64 (j : Int))) rfl) (qD rfl (yT rfl rfl (by omega)) (qD rfl (zC (v := (.int .i64 ((j : Int) + 1))) rfl) (qe (yR (⟨_, ?_, _, rfl, _, j + 1, u250, os2 ++ ([(⟨(claimOf ns bs os2 i j).a, (claimOf ns bs os2 i j).b, (claimOf ns bs os2 i j).r, (claimOf ns bs os2 i j).l⟩ : Cl)]), ks159, G219, (zF (x := 11) (zF (x := 10) (zF (x := 9) (zF (x := 8) (zF (x := 7) (zF (x := 6) (zF (x := 4) (zF (x := 3) (yF (x := 2) rfl) rfl) rfl) rfl) rfl) rfl) rfl) rfl) rfl), rfl, (hX236.write hp253 hg254 ((yQ ho237))), (dH (dH (dH hlek134 hx164.le) hle210) hle222), (by omega), (next_y hos2 ((hpb.ge i j (by omega) (by omega)).symm.trans h174)), hka173, ho252, (ho238.keptA hg254 ha144.symm), (ho239.keptA hg254 ha145.symm), (ho240.keptA hg254 ha146.symm), (hb241.keptA hg254 ha147.symm), (hb242.keptA hg254 ha148.symm), (zJ ha144.symm hw255 ho238.lt).symm, (zJ ha145.symm hw255 ho239.lt).symm, (zJ ha146.symm hw255 ho240.lt).symm, (zN ha147.symm hw255 hb241.lt).symm, (zN ha148.symm hw255 hb242.lt).symm⟩)))))
 omega
 refine wp_skip (yO (zA (zE ?_)))
 refine qD rfl (zB (v := (.int .i64 (j : Int))) rfl) (qD rfl (yT rfl rfl (by omega)) (qD rfl (zC (v := (.int .i64 ((j : Int) + 1))) rfl) (qe (yR (⟨_, ?_, _, rfl, _, j + 1, ov2, os2, ks159, G160, (zF (x := 11) (zF (x := 10) (zF (x := 9) (zF (x := 8) (zF (x := 7) (zF (x := 6) (zF (x := 4) (zF (x := 3) (yF (x := 2) rfl) rfl) rfl) rfl) rfl) rfl) rfl) rfl) rfl), rfl, hX165, (dH hlek134 hx164.le), (by omega), (next_n hos2 ((hpb.ge i j (by omega) (by omega)).symm.trans h174)), hka173, ho166, hd162.ok, ho167, ho168, hb169, hb170, ha144, ha145, ha146, ha147, ha148⟩)))))
 omega
 refine wp_exit (yK (yU (yV (yO (zA (zE ?_))))))
 refine qD rfl (zB (v := (.int .i64 (i : Int))) rfl) (qD rfl (yT rfl rfl (by omega)) (qD rfl (zC (v := (.int .i64 ((i : Int) + 1))) rfl) (qe (yR ?_))))
 have hjn : j = bs.length := by omega
 rw [hjn] at hos2
 refine ⟨_, ?_, _, rfl, _, i + 1, ov2, os2, kq2, GL2, (zF (x := 10) (zF (x := 9) (zF (x := 8) (zF (x := 7) (zF (x := 6) (zF (x := 4) (zF (x := 3) (yF (x := 2) rfl) rfl) rfl) rfl) rfl) rfl) rfl) rfl), rfl, hX137, (dH hlek118 hlek134), (by omega), hos2, hka2, hw138, hw139, hw140, hw141, hw142, hw143, ha144, ha145, ha146, ha147, ha148⟩
 omega
 refine wp_exit (yK (yU (yV (zA (zD (zE ?_))))))
 refine qD rfl (zB (v := ov) rfl) (qD rfl (zC (v := ov) rfl) (qe (zA ?_)))
 refine wp_ret (zQ (yA (v := ov) rfl rfl rfl ?_))
 obtain ⟨G270, hle273, hX272, hr271, hf274⟩ := hw122.sealed hX121
 have hin : i = ns.length := by omega
 rw [hin] at hos
 exact ⟨_, _, rfl, (by rw [show fullL ns bs = os from hos.symm]; exact hr271), hX272⟩
end PF3
end Go.Proofs.YtajkbplgbikgdaaGreatDoor
namespace Go.Proofs.YtajkbplgbikgdaaGreatDoor
namespace LX3
open Go.RowKit Go.GL Go.Proofs
open B1 C1 D1 E1
theorem mk3 : (Tryz.prog.info? 3).map (fun i => (i.size, i.bytes, i.zero)) = some (1, 8, some (.int .i64 0)) := by kernel_rfl
theorem mk4 : (Tryz.prog.info? 4).map (fun i => (i.size, i.bytes, i.zero)) = some (1, 1, some (.bool false)) := by kernel_rfl
theorem pl72 : (Tryz.prog.underlying 72).bind (placesD Tryz.prog) = some [(0, 1), (1, 1), (2, 1), (3, 1)] := by kernel_rfl
theorem l15Cut_dspec {w : World} {G : Pin} {p : Value} {L : List Cl} (hP : Pins G w) (hp : RSl eClaim G p L) (hL : LOk L) :
  Calls Tryz.prog 142 [p].toArray w fun e w' => ∃ (u : Value) (G' : Pin), e = .returned u ∧ DPrf 72 3 G' w' w.heap.size w'.heap.size u (cutL L) ∧ Ext noS G w G' w' := by
 refine yM (n := 125) Tryz.func142 Tryz.ntmps142 rfl rfl ?_
 have hX0 := exr noS hP
 have hlv0 : Lvs 3 G w w.heap.size w.heap.size [] := Lvs.nil
 have hLp := hL.pos
 have hLh := hL.hi
 have hrl : (List.replicate L.length false).length = L.length := by simp
 refine zD (zE ?_)
 refine qD rfl (zC (v := (.slice none 0 0)) rfl) (qe (zA (zD (zE ?_))))
 refine qD rfl (zB (v := p) rfl) (qD rfl (run_len eU (v := p) rfl hp) (qI rfl (rA (E := eBool) false 1 (.bool false) dD mk4 (fun _ => rfl) rfl rfl hX0.pins (by omega) (by omega) (by omega) (fun u1 w2 ho3 hp4 hl5 hk6 => ?_))))
 have hX7 := hX0.step hp4 hl5
 have hlv8 := (hlv0.below hl5).top
 have ha9 : ApL [] u1.ownBlock := ApL.fresh hlv0 (fun k hk => by rw [hk6] at hk; cases hk; exact Nat.le_refl _)
 have ho10 : Own eBool 4 G w2 w.heap.size u1 (List.replicate L.length false) := ho3.weaken hX0.size
 have hm11 : (List.replicate L.length false).length = L.length := List.length_replicate ..
 refine qD rfl (zC (v := u1) rfl) (qe (zA (zD (zE ?_))))
 refine qD rfl (zB (v := u1) rfl) (qD rfl (zB (v := p) rfl) (qD rfl (run_len eU (v := p) rfl hp) (qD rfl (vN rfl rfl (by omega)) (qD rfl (zL dD sz4 (v := u1) rfl rfl ho10.read (by omega) (by omega)) (q0 rfl rfl rfl (kO (E := eBool) (v := u1) (u := (.bool true)) (z := ((L.length : Int) - 1)) (true) sz4 rfl rfl rfl rfl hX7.pins ho10 (by omega) (by omega) (fun w12 ho13 hp14 hg15 hz16 => ?_)))))))
 have hlv18 := (hlv8.kept hg15 ha9).top
 refine qe (zA (zD (zD (zE ?_))))
 refine qD rfl (zB (v := p) rfl) (qD rfl (run_len eU (v := p) rfl hp) (qD rfl (vN rfl rfl (by omega)) (qD rfl (zC (v := (.int .i64 ((L.length : Int) - 1))) rfl) (qe (zA ?_)))))
 refine yI (yZ (fun (k : Nat) (en : Nat → Value) (W : World) => ∃ (env1 : Nat → Value) (z : Int) (nd : List Bool), en = (upd (upd (upd (upd env1 0 p) 2 (.slice none 0 0)) 3 u1) 4 (.int .i64 z)) ∧ k = (z + 1).toNat ∧ Ext noS G w G W ∧ (-1 ≤ z ∧ z ≤ (L.length : Int) - 1) ∧ (nd.length = L.length) ∧ (nd = needZ L z) ∧ (Own eBool 4 G W w.heap.size u1 (nd)) ∧ (Lvs 3 G W w.heap.size W.heap.size []) ∧ (ApL [] u1.ownBlock)) _ ⟨_, ((L.length : Int) - 1), (List.replicate L.length false).set ((L.length : Int) - 1).toNat true, (zF (x := 4) (zF (x := 3) (zF (x := 2) (yF (x := 0) rfl) rfl) rfl) rfl), rfl, (hX7.write hp14 hg15 ((yQ ho10))), (by omega), (by simp), (needZ_start L).symm, ho13, hlv18, ha9⟩ ?_)
 rintro k19 _ w20 ⟨env1, z, nd, rfl, hk21, hX22, hz, hndl, hnd, hw23, hlv24, ha25⟩
 refine zD (zD (zE ?_))
 refine qD rfl (zB (v := (.int .i64 z)) rfl) (qD rfl (rT rfl rfl) (qe (zA ?_)))
 refine yJ (p := (0 : Int) ≤ z) rfl rfl (fun h26 => ?_) (fun h26 => ?_)
 have hlz := hL.ln z.toNat (by omega)
 refine wp_skip (zA (zD ?_))
 refine yI (zD (zD (zE ?_)))
 refine qD rfl (zC (v := (.int .i64 0)) rfl) (qe (zA ?_))
 refine yI (c_cutE (fun (en : Nat → Value) (W : World) => ∃ (env1 : Nat → Value) (q1 : Nat) (nd2 : List Bool), en = (upd (upd (upd (upd (upd env1 0 p) 2 (.slice none 0 0)) 3 u1) 4 (.int .i64 z)) 5 (.int .i64 (q1 : Int))) ∧ Ext noS G w G W ∧ (q1 ≤ (L.getD z.toNat default).r.length) ∧ (nd2.length = L.length) ∧ (nd2 = halfN nd (L.getD z.toNat default).r z.toNat) ∧ (Own eBool 4 G W w.heap.size u1 (nd2)) ∧ (Lvs 3 G W w.heap.size W.heap.size []) ∧ (ApL [] u1.ownBlock)) 2 ?_ ?_)
 ·rintro _ w28 ⟨env1, q1, nd2, rfl, hX30, hq1, hl2, hh1, hw31, hlv32, ha33⟩
  refine yV (zA (zD (zE ?_)))
  refine qD rfl (zC (v := (.int .i64 0)) rfl) (qe (zA ?_))
  refine yI (c_cutE (fun (en : Nat → Value) (W : World) => ∃ (env1 : Nat → Value) (q2 : Nat) (nd3 : List Bool), en = (upd (upd (upd (upd (upd env1 0 p) 2 (.slice none 0 0)) 3 u1) 4 (.int .i64 z)) 6 (.int .i64 (q2 : Int))) ∧ Ext noS G w G W ∧ (q2 ≤ (L.getD z.toNat default).l.length) ∧ (nd3.length = L.length) ∧ (nd3 = halfN nd2 (L.getD z.toNat default).l z.toNat) ∧ (Own eBool 4 G W w.heap.size u1 (nd3)) ∧ (Lvs 3 G W w.heap.size W.heap.size []) ∧ (ApL [] u1.ownBlock)) 4 ?_ ?_)
  ·rintro _ w35 ⟨env1, q2, nd3, rfl, hX37, hq2, hl3, hh2, hw38, hlv39, ha40⟩
   refine yV (yO (zA (zE ?_)))
   refine qD rfl (zB (v := (.int .i64 z)) rfl) (qD rfl (vN rfl rfl (by omega)) (qD rfl (zC (v := (.int .i64 (z - 1))) rfl) (qe (yR (⟨_, ?_, _, rfl, _, z - 1, nd3, (zF (x := 4) (zF (x := 3) (zF (x := 2) (yF (x := 0) rfl) rfl) rfl) rfl), rfl, hX37, (by omega), hl3, (by rw [needZ_step (by omega) (by omega), ← hnd]; exact half_step hh1 hh2), hw38, hlv39, ha40⟩)))))
   omega
  refine yZ (fun (k : Nat) (en : Nat → Value) (W : World) => ∃ (env1 : Nat → Value) (q2 : Nat) (nd3 : List Bool), en = (upd (upd (upd (upd (upd env1 0 p) 2 (.slice none 0 0)) 3 u1) 4 (.int .i64 z)) 6 (.int .i64 (q2 : Int))) ∧ k = (L.getD z.toNat default).l.length - q2 ∧ Ext noS G w G W ∧ (q2 ≤ (L.getD z.toNat default).l.length) ∧ (nd3.length = L.length) ∧ ((q2 = 0 ∨ nd2.getD z.toNat false = true) ∧ nd3 = needAll nd2 ((L.getD z.toNat default).l.take q2)) ∧ (Own eBool 4 G W w.heap.size u1 (nd3)) ∧ (Lvs 3 G W w.heap.size W.heap.size []) ∧ (ApL [] u1.ownBlock)) _ ⟨_, 0, nd2, (zF (x := 6) (zF (x := 4) (zF (x := 3) (zF (x := 2) (yF (x := 0) rfl) rfl) rfl) rfl) rfl), rfl, hX30, Nat.zero_le _, hl2, (pE _ _ z.toNat), hw31, hlv32, ha33⟩ ?_
  rintro k34 _ w35 ⟨env1, q2, nd3, rfl, hk36, hX37, hq2, hl3, hr2, hw38, hlv39, ha40⟩
  refine zD (zD (zE ?_))
  refine qD rfl (zB (v := u1) rfl) (qD rfl (zB (v := (.int .i64 z)) rfl) (qD rfl (zL dD sz4 (v := u1) rfl rfl hw38.read (by omega) (by omega)) (qD rfl (jK (r := nd3.getD (z).toNat false) rfl ag4 (z := z) rfl hw38.read (Gadd.pins hX37.pins u1) (by omega) (by omega)) (qD rfl (zB (v := (.bool (nd3.getD (z).toNat false))) rfl) (qb (t := 55) rfl (fun h41 => ?_) (fun h41 => ?_))))))
  refine qdg rfl rfl rfl rfl rfl rfl (zB (v := (.int .i64 (q2 : Int))) rfl) (qdg rfl rfl rfl rfl rfl rfl (zB (v := p) rfl) (qdg rfl rfl rfl rfl rfl rfl (zB (v := (.int .i64 z)) rfl) (qdg rfl rfl rfl rfl rfl rfl (zL eU sz72 (v := p) rfl rfl hp (by omega) (by omega)) (qdg rfl rfl rfl rfl rfl rfl (yS (off := 3) eS rfl rfl nz59 (z := z) (k := 0) rfl hp (by omega) (by omega)) ?_))))
  obtain ⟨cs42, hrep43, hagg44, hcell45⟩ := qO (j := (z).toNat) default (hp.at (z := z) (by omega) (by omega)) rfl
  obtain ⟨u46, u48, rfl, hr47, hr49⟩ := hrep43
  have hm50 := hr47.max
  have hm51 := hr49.max
  refine qdg rfl rfl rfl rfl rfl rfl (hcell45 3 _ rfl ag59 rfl hX37.pins) (qdg rfl rfl rfl rfl rfl rfl (run_len eR (v := u48) rfl hr49) (qdg rfl rfl rfl rfl rfl rfl (xB rfl rfl) (qD rfl (yG (v := (.bool (decide (((q2 : Int) : Int) < (((L.getD (z).toNat default).l).length : Int))))) rfl rfl) (qe (zA ?_)))))
  refine yJ (p := ((q2 : Int) : Int) < (((L.getD (z).toNat default).l).length : Int)) rfl rfl (fun h52 => ?_) (fun h52 => ?_)
  refine wp_skip (zA (zD ?_))
  refine yI (zE ?_)
  have hwz2 := hL.l (j := z.toNat) (q := q2) (by omega) (by omega)
  refine qD rfl (zB (v := u1) rfl) (qD rfl (zB (v := p) rfl) (qD rfl (zB (v := (.int .i64 z)) rfl) (qD rfl (zL eU sz72 (v := p) rfl rfl hp (by omega) (by omega)) (qD rfl (yS (off := 3) eS rfl rfl nz59 (z := z) (k := 0) rfl hp (by omega) (by omega)) ?_))))
  obtain ⟨cs53, hrep54, hagg55, hcell56⟩ := qO (j := (z).toNat) default (hp.at (z := z) (by omega) (by omega)) rfl
  obtain ⟨u57, u59, rfl, hr58, hr60⟩ := hrep54
  have hm61 := hr58.max
  have hm62 := hr60.max
  refine qD rfl (hcell56 3 _ rfl ag59 rfl hX37.pins) (qD rfl (zB (v := (.int .i64 (q2 : Int))) rfl) (qD rfl (zL eR sz3 (v := u59) rfl rfl hr60 (by omega) (by omega)) (qD rfl (zZ (r := ((L.getD (z).toNat default).l).getD q2 0) rfl ag3 (z := (q2 : Int)) rfl hr60 hX37.pins (by omega) (by omega)) (qD rfl (zL dD sz4 (v := u1) rfl rfl hw38.read (by omega) (by omega)) (q0 rfl rfl rfl (kO (E := eBool) (v := u1) (u := (.bool true)) (z := (((L.getD (z).toNat default).l).getD q2 0)) (true) sz4 rfl rfl rfl rfl hX37.pins hw38 (by omega) (by omega) (fun w63 ho64 hp65 hg66 hz67 => ?_)))))))
  have hlv69 := (hlv39.kept hg66 ha40).top
  refine qe (yO (zA (zE ?_)))
  refine qD rfl (zB (v := (.int .i64 (q2 : Int))) rfl) (qD rfl (yT rfl rfl (by omega)) (qD rfl (zC (v := (.int .i64 ((q2 : Int) + 1))) rfl) (qe (yR (⟨_, ?_, _, rfl, _, q2 + 1, nd3.set ((L.getD z.toNat default).l.getD q2 0).toNat true, (zF (x := 6) (zF (x := 4) (zF (x := 3) (zF (x := 2) (yF (x := 0) rfl) rfl) rfl) rfl) rfl), rfl, (hX37.write hp65 hg66 ((yQ hw38))), (by omega), ((List.length_set ..).trans hl3), (sZ hr2 (by omega) h41), ho64, hlv69, ha40⟩)))))
  omega
  exact wp_exit (yK (yU (gK ⟨_, q2, nd3, (zF (x := 6) (zF (x := 4) (zF (x := 3) (zF (x := 2) (yF (x := 0) rfl) rfl) rfl) rfl) rfl), hX37, hq2, hl3, (half_end hr2 h41 (by omega)), hw38, hlv39, ha40⟩)))
  refine qs rfl rfl rfl rfl rfl rfl (qs rfl rfl rfl rfl rfl rfl (qs rfl rfl rfl rfl rfl rfl (qs rfl rfl rfl rfl rfl rfl (qs rfl rfl rfl rfl rfl rfl (qs rfl rfl rfl rfl rfl rfl (qs rfl rfl rfl rfl rfl rfl (qs rfl rfl rfl rfl rfl rfl (qD rfl (yN (v := (.bool false)) rfl rfl) (qe (zA ?_))))))))))
  exact vP rfl rfl (wp_exit (yK (yU (gK ⟨_, q2, nd3, (zF (x := 6) (zF (x := 4) (zF (x := 3) (zF (x := 2) (yF (x := 0) rfl) rfl) rfl) rfl) rfl), hX37, hq2, hl3, (sY hr2 h41), hw38, hlv39, ha40⟩))))
 refine yZ (fun (k : Nat) (en : Nat → Value) (W : World) => ∃ (env1 : Nat → Value) (q1 : Nat) (nd2 : List Bool), en = (upd (upd (upd (upd (upd env1 0 p) 2 (.slice none 0 0)) 3 u1) 4 (.int .i64 z)) 5 (.int .i64 (q1 : Int))) ∧ k = (L.getD z.toNat default).r.length - q1 ∧ Ext noS G w G W ∧ (q1 ≤ (L.getD z.toNat default).r.length) ∧ (nd2.length = L.length) ∧ ((q1 = 0 ∨ nd.getD z.toNat false = true) ∧ nd2 = needAll nd ((L.getD z.toNat default).r.take q1)) ∧ (Own eBool 4 G W w.heap.size u1 (nd2)) ∧ (Lvs 3 G W w.heap.size W.heap.size []) ∧ (ApL [] u1.ownBlock)) _ ⟨_, 0, nd, (zF (x := 5) (zF (x := 4) (zF (x := 3) (zF (x := 2) (yF (x := 0) rfl) rfl) rfl) rfl) rfl), rfl, hX22, Nat.zero_le _, hndl, (pE _ _ z.toNat), hw23, hlv24, ha25⟩ ?_
 rintro k27 _ w28 ⟨env1, q1, nd2, rfl, hk29, hX30, hq1, hl2, hr1, hw31, hlv32, ha33⟩
 refine zD (zD (zE ?_))
 refine qD rfl (zB (v := u1) rfl) (qD rfl (zB (v := (.int .i64 z)) rfl) (qD rfl (zL dD sz4 (v := u1) rfl rfl hw31.read (by omega) (by omega)) (qD rfl (jK (r := nd2.getD (z).toNat false) rfl ag4 (z := z) rfl hw31.read (Gadd.pins hX30.pins u1) (by omega) (by omega)) (qD rfl (zB (v := (.bool (nd2.getD (z).toNat false))) rfl) (qb (t := 29) rfl (fun h70 => ?_) (fun h70 => ?_))))))
 refine qdg rfl rfl rfl rfl rfl rfl (zB (v := (.int .i64 (q1 : Int))) rfl) (qdg rfl rfl rfl rfl rfl rfl (zB (v := p) rfl) (qdg rfl rfl rfl rfl rfl rfl (zB (v := (.int .i64 z)) rfl) (qdg rfl rfl rfl rfl rfl rfl (zL eU sz72 (v := p) rfl rfl hp (by omega) (by omega)) (qdg rfl rfl rfl rfl rfl rfl (yS (off := 2) eS rfl rfl nz59 (z := z) (k := 0) rfl hp (by omega) (by omega)) ?_))))
 obtain ⟨cs71, hrep72, hagg73, hcell74⟩ := qO (j := (z).toNat) default (hp.at (z := z) (by omega) (by omega)) rfl
 obtain ⟨u75, u77, rfl, hr76, hr78⟩ := hrep72
 have hm79 := hr76.max
 have hm80 := hr78.max
 refine qdg rfl rfl rfl rfl rfl rfl (hcell74 2 _ rfl ag59 rfl hX30.pins) (qdg rfl rfl rfl rfl rfl rfl (run_len eR (v := u75) rfl hr76) (qdg rfl rfl rfl rfl rfl rfl (xB rfl rfl) (qD rfl (yG (v := (.bool (decide (((q1 : Int) : Int) < (((L.getD (z).toNat default).r).length : Int))))) rfl rfl) (qe (zA ?_)))))
 refine yJ (p := ((q1 : Int) : Int) < (((L.getD (z).toNat default).r).length : Int)) rfl rfl (fun h81 => ?_) (fun h81 => ?_)
 refine wp_skip (zA (zD ?_))
 refine yI (zE ?_)
 have hwz1 := hL.r (j := z.toNat) (q := q1) (by omega) (by omega)
 refine qD rfl (zB (v := u1) rfl) (qD rfl (zB (v := p) rfl) (qD rfl (zB (v := (.int .i64 z)) rfl) (qD rfl (zL eU sz72 (v := p) rfl rfl hp (by omega) (by omega)) (qD rfl (yS (off := 2) eS rfl rfl nz59 (z := z) (k := 0) rfl hp (by omega) (by omega)) ?_))))
 obtain ⟨cs82, hrep83, hagg84, hcell85⟩ := qO (j := (z).toNat) default (hp.at (z := z) (by omega) (by omega)) rfl
 obtain ⟨u86, u88, rfl, hr87, hr89⟩ := hrep83
 have hm90 := hr87.max
 have hm91 := hr89.max
 refine qD rfl (hcell85 2 _ rfl ag59 rfl hX30.pins) (qD rfl (zB (v := (.int .i64 (q1 : Int))) rfl) (qD rfl (zL eR sz3 (v := u86) rfl rfl hr87 (by omega) (by omega)) (qD rfl (zZ (r := ((L.getD (z).toNat default).r).getD q1 0) rfl ag3 (z := (q1 : Int)) rfl hr87 hX30.pins (by omega) (by omega)) (qD rfl (zL dD sz4 (v := u1) rfl rfl hw31.read (by omega) (by omega)) (q0 rfl rfl rfl (kO (E := eBool) (v := u1) (u := (.bool true)) (z := (((L.getD (z).toNat default).r).getD q1 0)) (true) sz4 rfl rfl rfl rfl hX30.pins hw31 (by omega) (by omega) (fun w92 ho93 hp94 hg95 hz96 => ?_)))))))
 have hlv98 := (hlv32.kept hg95 ha33).top
 refine qe (yO (zA (zE ?_)))
 refine qD rfl (zB (v := (.int .i64 (q1 : Int))) rfl) (qD rfl (yT rfl rfl (by omega)) (qD rfl (zC (v := (.int .i64 ((q1 : Int) + 1))) rfl) (qe (yR (⟨_, ?_, _, rfl, _, q1 + 1, nd2.set ((L.getD z.toNat default).r.getD q1 0).toNat true, (zF (x := 5) (zF (x := 4) (zF (x := 3) (zF (x := 2) (yF (x := 0) rfl) rfl) rfl) rfl) rfl), rfl, (hX30.write hp94 hg95 ((yQ hw31))), (by omega), ((List.length_set ..).trans hl2), (sZ hr1 (by omega) h70), ho93, hlv98, ha33⟩)))))
 omega
 exact wp_exit (yK (yU (gK ⟨_, q1, nd2, (zF (x := 5) (zF (x := 4) (zF (x := 3) (zF (x := 2) (yF (x := 0) rfl) rfl) rfl) rfl) rfl), hX30, hq1, hl2, (half_end hr1 h70 (by omega)), hw31, hlv32, ha33⟩)))
 refine qs rfl rfl rfl rfl rfl rfl (qs rfl rfl rfl rfl rfl rfl (qs rfl rfl rfl rfl rfl rfl (qs rfl rfl rfl rfl rfl rfl (qs rfl rfl rfl rfl rfl rfl (qs rfl rfl rfl rfl rfl rfl (qs rfl rfl rfl rfl rfl rfl (qs rfl rfl rfl rfl rfl rfl (qD rfl (yN (v := (.bool false)) rfl rfl) (qe (zA ?_))))))))))
 exact vP rfl rfl (wp_exit (yK (yU (gK ⟨_, q1, nd2, (zF (x := 5) (zF (x := 4) (zF (x := 3) (zF (x := 2) (yF (x := 0) rfl) rfl) rfl) rfl) rfl), hX30, hq1, hl2, (sY hr1 h70), hw31, hlv32, ha33⟩))))
 refine wp_exit (yK (yU (yV (zA (zD (zE ?_))))))
 refine qD rfl (zB (v := p) rfl) (qD rfl (run_len eU (v := p) rfl hp) (qI rfl (rA (E := eInt) 0 8 (.int .i64 0) eR mk3 (fun _ => rfl) rfl rfl hX22.pins (by omega) (by omega) (by omega) (fun u99 w100 ho101 hp102 hl103 hk104 => ?_))))
 have hX105 := hX22.step hp102 hl103
 have ho106 := hw23.below hl103
 have hlv107 := (hlv24.below hl103).top
 have ha109 : ApL [] u99.ownBlock := ApL.fresh hlv24 (fun k hk => by rw [hk104] at hk; cases hk; exact Nat.le_refl _)
 have ho110 : Own eInt 3 G w100 w.heap.size u99 (List.replicate L.length 0) := ho101.weaken hX22.size
 have hm111 : (List.replicate L.length 0).length = L.length := List.length_replicate ..
 refine qD rfl (zC (v := u99) rfl) (qe (zA (zD (zE ?_))))
 refine qI rfl (xF (E := eCl4) (e := 72) eU sz72 hX105.pins (fun u112 w113 ho114 hp115 hl116 hk117 => ?_))
 have ho119 := ho106.below hl116
 have ho120 := ho110.below hl116
 have hlv121 := (hlv107.below hl116).top
 have ha122 : Apart u112.ownBlock u1.ownBlock := zI hk117 ho106.lt
 have ha123 : Apart u112.ownBlock u99.ownBlock := zI hk117 ho110.lt
 have ha124 : ApL [] u112.ownBlock := ApL.fresh hlv107 (fun k hk => by rw [hk117] at hk; cases hk; exact Nat.le_refl _)
 have ho125 := ho114.weaken hX105.size
 refine qD rfl (zC (v := u112) rfl) (qe (zA (zD (zD (zE ?_)))))
 refine qD rfl (zC (v := (.int .i64 0)) rfl) (qe (zA ?_))
 refine yI (yZ (fun (k : Nat) (en : Nat → Value) (W : World) => ∃ (env1 : Nat → Value) (kc : Nat) (ats : List Int) (ov : Value) (ps : List C4) (os : List Cl) (LV : List Leaf) (GL4 : Pin), en = (upd (upd (upd (upd (upd (upd env1 0 p) 2 (.slice none 0 0)) 3 u1) 7 u99) 8 ov) 9 (.int .i64 (kc : Int))) ∧ k = L.length - kc ∧ Ext noS G w GL4 W ∧ Pin.le G GL4 ∧ (kc ≤ L.length) ∧ (ats.length = L.length) ∧ (cutN L nd kc = (ats, os)) ∧ (ps.length = os.length) ∧ (ps.map ab4 = os.map prC) ∧ (LV = lvC ps os) ∧ (Own eInt 3 GL4 W w.heap.size u99 (ats)) ∧ (Own eCl4 72 GL4 W w.heap.size ov (ps)) ∧ (Own eBool 4 GL4 W w.heap.size u1 (nd)) ∧ (Apart u99.ownBlock ov.ownBlock) ∧ (Apart ov.ownBlock u1.ownBlock) ∧ (Lvs 3 GL4 W w.heap.size W.heap.size LV) ∧ (ApL LV u99.ownBlock) ∧ (ApL LV ov.ownBlock) ∧ (ApL LV u1.ownBlock)) _ ⟨_, 0, List.replicate L.length 0, u112, [], [], [], G, (zF (x := 9) (zF (x := 8) (zF (x := 7) (zF (x := 3) (zF (x := 2) (yF (x := 0) rfl) rfl) rfl) rfl) rfl) rfl), rfl, (hX105.step hp115 hl116), Pin.le_refl _, Nat.zero_le _, (by simp), rfl, rfl, rfl, rfl, ho120, ho125, ho119, ha123.symm, ha122, hlv121, ha109, ha124, ha25⟩ ?_)
 rintro k126 _ w127 ⟨env1, kc, ats, ov, ps, os, LV, GL4, rfl, hk128, hX129, hlek126, hk, hat, hc, hpl, hab, hLV, hw130, hw131, hw132, ha133, ha134, hlv135, ha136, ha137, ha138⟩
 have hcl := (gZ L nd kc).2
 rw [hc] at hcl
 have hcl2 : os.length ≤ kc := hcl
 refine zD (zD (zE ?_))
 refine qD rfl (zB (v := (.int .i64 (kc : Int))) rfl) (qD rfl (zB (v := p) rfl) (qD rfl (run_len eU (v := p) rfl hp) (qD rfl (xB rfl rfl) (qe (zA ?_)))))
 refine yJ (p := ((kc : Int) : Int) < (L.length : Int)) rfl rfl (fun h139 => ?_) (fun h139 => ?_)
 have hlk := hL.ln kc (by omega)
 refine wp_skip (zA (zD ?_))
 refine yI (zD (zE ?_))
 refine qD rfl (zB (v := u1) rfl) (qD rfl (zB (v := (.int .i64 (kc : Int))) rfl) (qD rfl (zL dD sz4 (v := u1) rfl rfl hw132.read (by omega) (by omega)) (qD rfl (jK (r := nd.getD kc false) rfl ag4 (z := (kc : Int)) rfl hw132.read (Gadd.pins hX129.pins u1) (by omega) (by omega)) (qe (zA ?_)))))
 refine c_if rfl rfl (fun h140 => ?_) (fun h140 => ?_)
 refine zD (zE ?_)
 refine qD rfl (zB (v := u99) rfl) (qD rfl (zB (v := (.int .i64 (kc : Int))) rfl) (qD rfl (zB (v := ov) rfl) (qD rfl (run_len eU (v := ov) rfl hw131.read) (qD rfl (zL eR sz3 (v := u99) rfl rfl hw130.read (by omega) (by omega)) (q0 rfl rfl rfl (kO (E := eInt) (v := u99) (u := (.int .i64 (ps.length : Int))) (z := (kc : Int)) ((ps.length : Int)) sz3 rfl rfl rfl rfl hX129.pins hw130 (by omega) (by omega) (fun w141 ho142 hp143 hg144 hz145 => ?_)))))))
 have hX146 := hX129.write hp143 hg144 ((yQ hw130))
 have hlv149 := (hlv135.kept hg144 ha136).top
 refine qe (zA ?_)
 refine xD (S := fun wz => Pins GL4 wz) (last := 29) (by kernel_rfl) rfl ?_
 have hl150 := bdr w141
 have hX152 := hX146.step (hX146.pins.below hl150) hl150
 have ho153 := ho142.below hl150
 have ho154 := (hw131.keptA hg144 ha133.symm).below hl150
 have ho155 := (hw132.keptA hg144 (zI hk104 hw23.lt).symm).below hl150
 have hlv156 := (hlv149.below hl150).top
 refine dT (i := 0) rfl rfl (by kernel_rfl) (fun _ _ => zB (v := ov) rfl) hX152.pins ?_
 refine dT (i := 1) rfl rfl (by kernel_rfl) (fun _ _ => zB (v := p) rfl) hX152.pins ?_
 refine dT (i := 2) rfl rfl (by kernel_rfl) (fun _ _ => zB (v := (.int .i64 (kc : Int))) rfl) hX152.pins ?_
 refine dT (i := 3) rfl rfl (by kernel_rfl) (fun _ _ => zL eU sz72 (v := p) rfl rfl hp (by omega) (by omega)) hX152.pins ?_
 refine dT (i := 4) rfl rfl (by kernel_rfl) (fun _ _ => yS (off := 0) eS rfl rfl nz3 (z := (kc : Int)) (k := 0) rfl hp (by omega) (by omega)) hX152.pins ?_
 obtain ⟨cs157, hrep158, hagg159, hcell160⟩ := qO (j := kc) default (hp.at (z := (kc : Int)) (by omega) (by omega)) rfl
 obtain ⟨u161, u163, rfl, hr162, hr164⟩ := hrep158
 have hm165 := hr162.max
 have hm166 := hr164.max
 refine dT (i := 5) rfl rfl (by kernel_rfl) (fun _ hS => hcell160 0 _ rfl ag3 rfl (dI hS hlek126)) hX152.pins ?_
 refine dT (i := 6) rfl rfl (by kernel_rfl) (fun _ _ => zB (v := p) rfl) hX152.pins ?_
 refine dT (i := 7) rfl rfl (by kernel_rfl) (fun _ _ => zB (v := (.int .i64 (kc : Int))) rfl) hX152.pins ?_
 refine dT (i := 8) rfl rfl (by kernel_rfl) (fun _ _ => zL eU sz72 (v := p) rfl rfl hp (by omega) (by omega)) hX152.pins ?_
 refine dT (i := 9) rfl rfl (by kernel_rfl) (fun _ _ => yS (off := 1) eS rfl rfl nz3 (z := (kc : Int)) (k := 0) rfl hp (by omega) (by omega)) hX152.pins ?_
 obtain ⟨cs167, hrep168, hagg169, hcell170⟩ := qO (j := kc) default (hp.at (z := (kc : Int)) (by omega) (by omega)) rfl
 obtain ⟨u171, u173, rfl, hr172, hr174⟩ := hrep168
 have hm175 := hr172.max
 have hm176 := hr174.max
 refine dT (i := 10) rfl rfl (by kernel_rfl) (fun _ hS => hcell170 1 _ rfl ag3 rfl (dI hS hlek126)) hX152.pins ?_
 refine dT (i := 11) rfl rfl (by kernel_rfl) (fun _ _ => zB (v := u99) rfl) hX152.pins ?_
 refine dT (i := 12) rfl rfl (by kernel_rfl) (fun _ _ => zB (v := p) rfl) hX152.pins ?_
 refine dT (i := 13) rfl rfl (by kernel_rfl) (fun _ _ => zB (v := (.int .i64 (kc : Int))) rfl) hX152.pins ?_
 refine dT (i := 14) rfl rfl (by kernel_rfl) (fun _ _ => zL eU sz72 (v := p) rfl rfl hp (by omega) (by omega)) hX152.pins ?_
 refine dT (i := 15) rfl rfl (by kernel_rfl) (fun _ _ => yS (off := 2) eS rfl rfl nz59 (z := (kc : Int)) (k := 0) rfl hp (by omega) (by omega)) hX152.pins ?_
 obtain ⟨cs177, hrep178, hagg179, hcell180⟩ := qO (j := kc) default (hp.at (z := (kc : Int)) (by omega) (by omega)) rfl
 obtain ⟨u181, u183, rfl, hr182, hr184⟩ := hrep178
 have hm185 := hr182.max
 have hm186 := hr184.max
 refine dT (i := 16) rfl rfl (by kernel_rfl) (fun _ hS => hcell180 2 _ rfl ag59 rfl (dI hS hlek126)) hX152.pins ?_
 refine dT (i := 18) rfl rfl (by kernel_rfl) (fun _ _ => zB (v := u99) rfl) hX152.pins ?_
 refine dT (i := 19) rfl rfl (by kernel_rfl) (fun _ _ => zB (v := p) rfl) hX152.pins ?_
 refine dT (i := 20) rfl rfl (by kernel_rfl) (fun _ _ => zB (v := (.int .i64 (kc : Int))) rfl) hX152.pins ?_
 refine dT (i := 21) rfl rfl (by kernel_rfl) (fun _ _ => zL eU sz72 (v := p) rfl rfl hp (by omega) (by omega)) hX152.pins ?_
 refine dT (i := 22) rfl rfl (by kernel_rfl) (fun _ _ => yS (off := 3) eS rfl rfl nz59 (z := (kc : Int)) (k := 0) rfl hp (by omega) (by omega)) hX152.pins ?_
 obtain ⟨cs187, hrep188, hagg189, hcell190⟩ := qO (j := kc) default (hp.at (z := (kc : Int)) (by omega) (by omega)) rfl
 obtain ⟨u191, u193, rfl, hr192, hr194⟩ := hrep188
 have hm195 := hr192.max
 have hm196 := hr194.max
 refine dT (i := 23) rfl rfl (by kernel_rfl) (fun _ hS => hcell190 3 _ rfl ag59 rfl (dI hS hlek126)) hX152.pins ?_
 refine zR (i := 17) (by kernel_rfl) (yC (i := 17) rfl rfl rfl (zH rfl _) (zK (vs := [u99, u181]) Tryz.func77 nm77 rfl rfl rfl ?_))
 refine dJ (qX hX152.pins (Gadd.pins hX152.pins u99) ho153.read (hr182.mono hlek126) (by omega) (fun i hi => by have h := hL.r (j := kc) (by omega) hi; rw [List.length_set]; omega)) ?_
 rintro _ w199 ⟨u197, G198, rfl, ho200, hx201⟩
 refine ⟨_, rfl, ?_⟩
 have hX202 := hX152.tr hx201
 have ho203 := ho153.ext hx201
 have ho204 := ho154.ext hx201
 have ho205 := ho155.ext hx201
 have hlv206 := (hlv156.ext hx201).top
 have ha208 : Apart u197.ownBlock ov.ownBlock := zV ho200.lt ho154.lt
 have ha210 : ApL LV u197.ownBlock := ApL.fresh hlv156 (fun k hk => (ho200.lt k hk).1)
 have ho211 := ho200.weaken hX152.size
 refine ⟨fun _ => (dI hX202.pins hx201.le), ?_⟩
 refine zR (i := 24) (by kernel_rfl) (yC (i := 24) rfl rfl rfl (zH rfl _) (zK (vs := [u99, u193]) Tryz.func77 nm77 rfl rfl rfl ?_))
 refine dJ (qX hX202.pins (Gadd.pins hX202.pins u99) ho203.read (hr194.mono (dH hlek126 hx201.le)) (by omega) (fun i hi => by have h := hL.l (j := kc) (by omega) hi; rw [List.length_set]; omega)) ?_
 rintro _ w214 ⟨u212, G213, rfl, ho215, hx216⟩
 refine ⟨_, rfl, ?_⟩
 have hX217 := hX202.tr hx216
 have ho221 := ho211.ext hx216
 have hlv222 := (hlv206.ext hx216).top
 have ha224 : Apart u212.ownBlock ov.ownBlock := zV ho215.lt ho204.lt
 have ha227 : ApL LV u212.ownBlock := ApL.fresh hlv206 (fun k hk => (ho215.lt k hk).1)
 have ho228 := ho215.weaken hX202.size
 refine ⟨fun _ => (dI hX217.pins (dH hx201.le hx216.le)), ?_⟩
 refine dT (i := 25) rfl rfl (by kernel_rfl) (fun _ _ => yY [(.int .i64 0), (.int .i64 0), (.slice none 0 0), (.slice none 0 0)] [(.int .i64 ((L.getD kc default).a)), (.int .i64 ((L.getD kc default).b)), u197, u212] [(0, (.int .i64 ((L.getD kc default).a)), [(.int .i64 ((L.getD kc default).a))]), (1, (.int .i64 ((L.getD kc default).b)), [(.int .i64 ((L.getD kc default).b))]), (2, u197, [u197]), (3, u212, [u212])] eS zr72 rfl pl72 rfl (List.forall_mem_cons.2 ⟨rfl, (List.forall_mem_cons.2 ⟨rfl, (List.forall_mem_cons.2 ⟨(yW ho221.one), (List.forall_mem_cons.2 ⟨(yW ho228.one), (fun _ h => by cases h)⟩)⟩)⟩)⟩) rfl) (dI hX217.pins (dH hx201.le hx216.le)) ?_
 refine zR (i := 26) (by kernel_rfl) (yC (i := 26) rfl rfl rfl (zH rfl _) (xM (E := eCl4) (e := 72) [(.int .i64 ((L.getD kc default).a)), (.int .i64 ((L.getD kc default).b)), u197, u212] (((L.getD kc default).a, (L.getD kc default).b, u197, u212) : C4) eU sz72 zr72 ⟨rfl, ho221.one, ho228.one⟩ rfl (by decide) hX217.pins (fun u229 w230 ho231 hp232 hl233 hk234 => ?_)))
 have hX235 := hX217.step hp232 hl233
 have ho236 := (ho203.ext hx216).below hl233
 have ho237 := (ho204.ext hx216).below hl233
 have ho238 := (ho205.ext hx216).below hl233
 have ho239 := ho221.below hl233
 have ho240 := ho228.below hl233
 have hlv241 := (hlv222.below hl233).top
 have ho248 := ho231.weaken hX217.size
 refine ⟨fun _ => (dI hX235.pins (dH hx201.le hx216.le)), ?_⟩
 refine zR (i := 27) (by kernel_rfl) (yC (i := 27) rfl rfl rfl (zH rfl _) (yH (E := eCl4) (v := ov) (u := u229) 64 eU ap72 (by decide) rfl rfl hX235.pins ho237 ho248.src (by first | omega | (rw [List.nil_append]; omega) | (rw [List.length_nil]; omega) | (rw [List.length_append]; omega) | (simp; done) | (simp; omega) | (simp only [List.length_cons, List.length_nil]; omega) | (simp only [List.length_append, List.length_cons, List.length_nil]; omega)) (by first | omega | (rw [List.nil_append]; omega) | (rw [List.length_nil]; omega) | (rw [List.length_append]; omega) | (simp; done) | (simp; omega) | (simp only [List.length_cons, List.length_nil]; omega) | (simp only [List.length_append, List.length_cons, List.length_nil]; omega)) (hX235.size) (fun u249 w250 ho251 hp252 hg253 hw254 => ?_)))
 have hX255 := hX235.write hp252 hg253 ((yQ ho237))
 have ho256 := ho236.keptA hg253 ha133
 have ho257 := ho238.keptA hg253 ha134.symm
 have hlv261 := (hlv241.kept hg253 ha137).top
 have ha262 : Apart u99.ownBlock u249.ownBlock := zJ ha133 hw254 ho236.lt
 have ha263 : Apart u1.ownBlock u249.ownBlock := zJ ha134.symm hw254 ho238.lt
 have ha267 : ApL LV u249.ownBlock := ApL.app hlv241 ha137 hw254
 have hm268 := la1 ps (((L.getD kc default).a, (L.getD kc default).b, u197, u212) : C4)
 refine ⟨fun _ => (dI hX255.pins (dH hx201.le hx216.le)), ?_⟩
 refine dT (i := 28) rfl rfl (by kernel_rfl) (fun _ _ => zC (v := u249) rfl) (dI hX255.pins (dH hx201.le hx216.le)) ?_
 refine yP (by kernel_rfl) (yO (zA (zE ?_)))
 refine qD rfl (zB (v := (.int .i64 (kc : Int))) rfl) (qD rfl (yT rfl rfl (by omega)) (qD rfl (zC (v := (.int .i64 ((kc : Int) + 1))) rfl) (qe (yR ?_))))
 have hlv269 := hlv261.add (ho239.keptA hg253 ha208) ha210
 have ha270 : ApL (LV ++ [(u197, atL ((ats).set kc (ps.length : Int)) ((L.getD kc default).r))]) u99.ownBlock := ha136.add (zV ho200.lt ho153.lt)
 have ha271 : ApL (LV ++ [(u197, atL ((ats).set kc (ps.length : Int)) ((L.getD kc default).r))]) u1.ownBlock := ha138.add (zV ho200.lt ho155.lt)
 have ha272 : ApL (LV ++ [(u197, atL ((ats).set kc (ps.length : Int)) ((L.getD kc default).r))]) u212.ownBlock := ha227.add (zV ho215.lt ho211.lt).symm
 have ha273 : ApL (LV ++ [(u197, atL ((ats).set kc (ps.length : Int)) ((L.getD kc default).r))]) u249.ownBlock := ha267.add (zJ ha208 hw254 ho239.lt)
 have hlv274 := hlv269.add (ho240.keptA hg253 ha224) ha272
 have ha275 : ApL ((LV ++ [(u197, atL ((ats).set kc (ps.length : Int)) ((L.getD kc default).r))]) ++ [(u212, atL ((ats).set kc (ps.length : Int)) ((L.getD kc default).l))]) u99.ownBlock := ha270.add (zV ho215.lt ho203.lt)
 have ha276 : ApL ((LV ++ [(u197, atL ((ats).set kc (ps.length : Int)) ((L.getD kc default).r))]) ++ [(u212, atL ((ats).set kc (ps.length : Int)) ((L.getD kc default).l))]) u1.ownBlock := ha271.add (zV ho215.lt ho205.lt)
 have ha277 : ApL ((LV ++ [(u197, atL ((ats).set kc (ps.length : Int)) ((L.getD kc default).r))]) ++ [(u212, atL ((ats).set kc (ps.length : Int)) ((L.getD kc default).l))]) u249.ownBlock := ha273.add (zJ ha224 hw254 ho240.lt)
 refine ⟨_, ?_, _, rfl, _, kc + 1, (ats).set kc (ps.length : Int), u249, ps ++ ([(((L.getD kc default).a, (L.getD kc default).b, u197, u212) : C4)]), os ++ [(⟨(L.getD kc default).a, (L.getD kc default).b, atL ((ats).set kc (ps.length : Int)) ((L.getD kc default).r), atL ((ats).set kc (ps.length : Int)) ((L.getD kc default).l)⟩ : Cl)], (LV ++ [(u197, atL ((ats).set kc (ps.length : Int)) ((L.getD kc default).r))]) ++ [(u212, atL ((ats).set kc (ps.length : Int)) ((L.getD kc default).l))], G213, (zF (x := 9) (zF (x := 8) (zF (x := 7) (zF (x := 3) (zF (x := 2) (yF (x := 0) rfl) rfl) rfl) rfl) rfl) rfl), rfl, hX255, (dH (dH hlek126 hx201.le) hx216.le), (by omega), ((List.length_set ..).trans hat), ((mV hc h140).trans (by rw [hpl])), (by simp [hpl]), (ab_snoc (c := (⟨(L.getD kc default).a, (L.getD kc default).b, atL ((ats).set kc (ps.length : Int)) ((L.getD kc default).r), atL ((ats).set kc (ps.length : Int)) ((L.getD kc default).l)⟩ : Cl)) hab rfl), (lvC_snoc (c := (⟨(L.getD kc default).a, (L.getD kc default).b, atL ((ats).set kc (ps.length : Int)) ((L.getD kc default).r), atL ((ats).set kc (ps.length : Int)) ((L.getD kc default).l)⟩ : Cl)) hLV hpl), ho256, ho251, ho257, ha262, ha263.symm, hlv274, ha275, ha277, ha276⟩
 omega
 refine wp_skip (yO (zA (zE ?_)))
 refine qD rfl (zB (v := (.int .i64 (kc : Int))) rfl) (qD rfl (yT rfl rfl (by omega)) (qD rfl (zC (v := (.int .i64 ((kc : Int) + 1))) rfl) (qe (yR (⟨_, ?_, _, rfl, _, kc + 1, ats, ov, ps, os, LV, GL4, (zF (x := 9) (zF (x := 8) (zF (x := 7) (zF (x := 3) (zF (x := 2) (yF (x := 0) rfl) rfl) rfl) rfl) rfl) rfl), rfl, hX129, hlek126, (by omega), hat, (cut_no hc h140), hpl, hab, hLV, hw130, hw131, hw132, ha133, ha134, hlv135, ha136, ha137, ha138⟩)))))
 omega
 refine wp_exit (yK (yU (yV (zA (zD (zE ?_))))))
 refine qD rfl (zB (v := ov) rfl) (qD rfl (zC (v := ov) rfl) (qe (zA ?_)))
 refine wp_ret (zQ (yA (v := ov) rfl rfl rfl ?_))
 have hkn : kc = L.length := by omega
 rw [hkn, hnd, needZ_end (show z = -1 by omega)] at hc
 have hcut : cutL L = os := by unfold cutL; rw [hc]
 have hap := ha137
 have hlv := hlv135
 rw [hLV] at hap hlv
 rw [hcut]
 exact ⟨_, _, rfl, ⟨ps, hpl, hab, hw131, fun k hk => (hw131.lt k hk).2, hlv, hap⟩, hX129⟩
end LX3
end Go.Proofs.YtajkbplgbikgdaaGreatDoor
namespace Go.Proofs.YtajkbplgbikgdaaGreatDoor
namespace LX4
open Go.RowKit Go.GL Go.Proofs
open B1 C1 D1 E1 OR1 SF1 P1 PF2 PF3 LX3
theorem pl38 : (Tryz.prog.underlying 38).bind (placesD Tryz.prog) = some [(0, 1)] := by kernel_rfl
theorem qK {w : World} {G : Pin} {u v : Value} {ns bs : List Nd} (hP : Pins G w) (hu : RSl eNode G u ns) (hv : RSl eNode G v bs) :
  Calls Tryz.prog 100 [(.agg [u].toArray), (.agg [v].toArray)].toArray w fun e w' => ∃ (u : Value) (G' : Pin), e = .returned (.tuple #[.agg [u].toArray, .bool (prfB ns bs)]) ∧ DPrf 72 3 G' w' w.heap.size w'.heap.size u (prfL ns bs) ∧ Ext noS G w G' w' := by
 refine yM (n := 32) Tryz.func100 Tryz.ntmps100 rfl rfl ?_
 have hX0 := exr noS hP
 refine zD (zE ?_)
 refine qI rfl (xX [u] (v := (.agg [u].toArray)) rfl rfl hX0.pins (fun b1 w2 hk3 hb4 hp5 hl6 => ?_))
 have hlo8 : w.heap.size ≤ b1 := by have := hX0.size; omega
 obtain ⟨G9, hle10, hX11, hbp12, hf13⟩ := hb4.shut (hX0.step hp5 hl6) hlo8
 refine qI rfl (xX [v] (v := (.agg [v].toArray)) rfl rfl hX11.pins (fun b14 w15 hk16 hb17 hp18 hl19 => ?_))
 have hlo21 : w.heap.size ≤ b14 := by have := hX11.size; omega
 obtain ⟨G22, hle23, hX24, hbp25, hf26⟩ := hb17.shut (hX11.step hp18 hl19) hlo21
 refine qI rfl (yL [(.slice none 0 0)] zr38 rfl hX24.pins (fun b27 w28 hk29 hb30 hp31 hl32 => ?_))
 have hX33 := hX24.step hp31 hl32
 have hlo34 : w.heap.size ≤ b27 := by have := hX24.size; omega
 refine qD rfl (zC (v := (.bool false)) rfl) (qe (zA (zD (zD (zE ?_)))))
 refine qD rfl (zU (cs := [u]) ag26 sz26 rfl (fun j u hj => (dI hX33.pins hle23) _ _ _ (hbp12 _ _ (by simpa using hj)))) (qI rfl (zK (vs := [(.agg [u].toArray)]) Tryz.func74 nm74 rfl rfl rfl ?_))
 refine dJ (rY hX33.pins (hu.mono (dH hle10 hle23))) ?_
 rintro _ w36 ⟨G35, rfl, hx37⟩
 refine ⟨_, rfl, ?_⟩
 have hX38 := hX33.tr hx37
 have hb39 := hb30.ext hx37
 refine qD rfl (xT rfl) (qD rfl (zB (v := (.bool (!(decP (GoodS ns))))) rfl) (qbn (t := 10) rfl (fun h40 => ?_) (fun h40 => ?_)))
 refine qdg rfl rfl rfl rfl rfl rfl (zU (cs := [v]) ag26 sz26 rfl (fun j u hj => (dI hX38.pins hx37.le) _ _ _ (hbp25 _ _ (by simpa using hj)))) (q1g rfl rfl rfl rfl rfl rfl (zK (vs := [(.agg [v].toArray)]) Tryz.func74 nm74 rfl rfl rfl ?_))
 refine dJ (rY hX38.pins (hv.mono (dH (dH hle10 hle23) hx37.le))) ?_
 rintro _ w42 ⟨G41, rfl, hx43⟩
 refine ⟨_, rfl, ?_⟩
 have hX44 := hX38.tr hx43
 have hb45 := hb39.ext hx43
 refine qdg rfl rfl rfl rfl rfl rfl (xT rfl) (qD rfl (yN (v := (.bool (!(decP (GoodS bs))))) rfl rfl) (qD rfl (zB (v := (.bool (!(decP (GoodS bs))))) rfl) (qbn (t := 15) rfl (fun h46 => ?_) (fun h46 => ?_))))
 have hga : GoodP ns := goodB_true.1 ((mU ns).symm.trans h40)
 have hgb : GoodP bs := goodB_true.1 ((mU bs).symm.trans h46)
 have hla := hga.lo
 have hlb := hgb.lo
 have hha := hga.hi
 have hhb := hgb.hi
 refine qdg rfl rfl rfl rfl rfl rfl (zU (cs := [u]) ag26 sz26 rfl (fun j u hj => (dI hX44.pins (dH (dH hle23 hx37.le) hx43.le)) _ _ _ (hbp12 _ _ (by simpa using hj)))) (qdg rfl rfl rfl rfl rfl rfl (zU (cs := [v]) ag26 sz26 rfl (fun j u hj => (dI hX44.pins (dH hx37.le hx43.le)) _ _ _ (hbp25 _ _ (by simpa using hj)))) (q1g rfl rfl rfl rfl rfl rfl (zK (vs := [(.agg [u].toArray), (.agg [v].toArray)]) Tryz.func99 nm99 rfl rfl rfl ?_)))
 refine dJ (jX hX44.pins (hu.mono (dH (dH (dH hle10 hle23) hx37.le) hx43.le)) (hv.mono (dH (dH (dH hle10 hle23) hx37.le) hx43.le)) ⟨vX hga, hla⟩ ⟨vX hgb, hlb⟩ (by omega)) ?_
 rintro _ w48 ⟨G47, rfl, hx49⟩
 refine ⟨_, rfl, ?_⟩
 have hX50 := hX44.tr hx49
 have hb51 := hb45.ext hx49
 refine qdg rfl rfl rfl rfl rfl rfl (xT rfl) (qD rfl (yN (v := (.bool (!(decP (geG (gOf ns) (gOf bs)))))) rfl rfl) (qe (zA ?_)))
 refine xV rfl rfl (fun h52 => ?_) (fun h52 => ?_)
 refine wp_skip (zA (zD (zE ?_)))
 have hge := decP_true.1 h52
 refine qD rfl (zU (cs := [u]) ag26 sz26 rfl (fun j u hj => (dI hX50.pins (dH (dH (dH hle23 hx37.le) hx43.le) hx49.le)) _ _ _ (hbp12 _ _ (by simpa using hj)))) (qD rfl (zU (cs := [v]) ag26 sz26 rfl (fun j u hj => (dI hX50.pins (dH (dH hx37.le hx43.le) hx49.le)) _ _ _ (hbp25 _ _ (by simpa using hj)))) (qI rfl (zK (vs := [(.agg [u].toArray), (.agg [v].toArray)]) Tryz.func143 nm143 rfl rfl rfl ?_)))
 refine dJ (l15True_spec hX50.pins (hu.mono (dH (dH (dH (dH hle10 hle23) hx37.le) hx43.le) hx49.le)) (hv.mono (dH (dH (dH (dH hle10 hle23) hx37.le) hx43.le) hx49.le)) hga hgb) ?_
 rintro _ w55 ⟨u53, G54, rfl, hr56, hx57⟩
 refine ⟨_, rfl, ?_⟩
 have hX58 := hX50.tr hx57
 have hb59 := hb51.ext hx57
 refine qI rfl (zK (vs := [u53]) Tryz.func142 nm142 rfl rfl rfl ?_)
 refine dJ (l15Cut_dspec hX58.pins hr56 (full_ok hga hgb hge)) ?_
 rintro _ w62 ⟨u60, G61, rfl, hd63, hx64⟩
 refine ⟨_, rfl, ?_⟩
 have hX65 := hX58.tr hx64
 have hb66 := hb59.ext hx64
 have hone67 := hd63.one
 have hm68 := hd63.len
 refine qD rfl (zC (v := u60) rfl) (qe (zA (zD (zD (zE ?_)))))
 refine qD rfl (zB (v := u60) rfl) (qD rfl (DPrf.run_len hd63 eU rfl) (qD rfl (qV rfl rfl) (qe (zA ?_))))
 refine yJ (p := (200 : Int) < ((cutL (fullL ns bs)).length : Int)) rfl rfl (fun h69 => ?_) (fun h69 => ?_)
 refine zD (zE ?_)
 refine qD rfl (yY [(.slice none 0 0)] [(.slice none 0 0)] [] eV zr38 rfl pl38 rfl (fun _ h => by cases h) rfl) (q0 rfl rfl rfl (yD (cs' := [(.slice none 0 0)]) (us := [(.slice none 0 0)]) (v := (.agg [(.slice none 0 0)].toArray)) sz38 rfl rfl rfl (yE (by rfl)) hX65.pins hb66 (dK rfl) rfl (fun w70 hb71 hp72 hg73 hz74 => ?_)))
 have hs77 := Nat.le_trans (Nat.le_refl w62.heap.size) hg73.size
 refine qD rfl (zC (v := (.bool false)) rfl) (qe (zA ?_))
 refine wp_ret (zQ (xN (cs := [(.slice none 0 0)]) (v := (.bool false)) rfl rfl rfl rfl rfl ag38 sz38 (fun j u hj => by rw [Nat.zero_add]; exact hb71.cell hj) ?_))
 obtain ⟨e1, e2⟩ := @gP ns bs (fun g => absurd g.le (by omega))
 rw [e1, e2]
 exact ⟨_, _, rfl, DPrf.nil, (hX65.write hp72 hg73 ((zS hlo34)))⟩
 refine wp_skip (zA (zD (zE ?_)))
 refine qD rfl (zB (v := u60) rfl) (qD rfl (yY [(.slice none 0 0)] [u60] [(0, u60, [u60])] eV zr38 rfl pl38 rfl (List.forall_mem_cons.2 ⟨(yW hone67), (fun _ h => by cases h)⟩) rfl) (q0 rfl rfl rfl (yD (cs' := [u60]) (us := [u60]) (v := (.agg [u60].toArray)) sz38 rfl rfl rfl (yE hone67) hX65.pins hb66 (dK rfl) rfl (fun w78 hb79 hp80 hg81 hz82 => ?_))))
 have hs85 := Nat.le_trans (Nat.le_refl w62.heap.size) hg81.size
 refine qD rfl (zC (v := (.bool true)) rfl) (qe (zA ?_))
 refine wp_ret (zQ (xN (cs := [u60]) (v := (.bool true)) rfl rfl rfl rfl rfl ag38 sz38 (fun j u hj => by rw [Nat.zero_add]; exact hb79.cell hj) ?_))
 obtain ⟨e1, e2⟩ := @mQ ns bs ⟨hga, hgb, hge, by omega⟩
 rw [e1, e2]
 exact ⟨_, _, rfl, ((hd63.kept hg81 (Or.inr hb59.lt)).wide hX58.size hs85), (hX65.write hp80 hg81 ((zS hlo34)))⟩
 refine zD (zE ?_)
 refine qD rfl (yY [(.slice none 0 0)] [(.slice none 0 0)] [] eV zr38 rfl pl38 rfl (fun _ h => by cases h) rfl) (q0 rfl rfl rfl (yD (cs' := [(.slice none 0 0)]) (us := [(.slice none 0 0)]) (v := (.agg [(.slice none 0 0)].toArray)) sz38 rfl rfl rfl (yE (by rfl)) hX50.pins hb51 (dK rfl) rfl (fun w86 hb87 hp88 hg89 hz90 => ?_)))
 refine qD rfl (zC (v := (.bool false)) rfl) (qe (zA ?_))
 refine wp_ret (zQ (xN (cs := [(.slice none 0 0)]) (v := (.bool false)) rfl rfl rfl rfl rfl ag38 sz38 (fun j u hj => by rw [Nat.zero_add]; exact hb87.cell hj) ?_))
 obtain ⟨e1, e2⟩ := @gP ns bs (fun g => decP_false.1 h52 g.ge)
 rw [e1, e2]
 exact ⟨_, _, rfl, DPrf.nil, (hX50.write hp88 hg89 ((zS hlo34)))⟩
 refine qs rfl rfl rfl rfl rfl rfl (qs rfl rfl rfl rfl rfl rfl (qs rfl rfl rfl rfl rfl rfl (qs rfl rfl rfl rfl rfl rfl (qD rfl (yG (v := (.bool true)) rfl rfl) (qe (zA ?_))))))
 refine qC rfl rfl (zD (zE ?_))
 refine qD rfl (yY [(.slice none 0 0)] [(.slice none 0 0)] [] eV zr38 rfl pl38 rfl (fun _ h => by cases h) rfl) (q0 rfl rfl rfl (yD (cs' := [(.slice none 0 0)]) (us := [(.slice none 0 0)]) (v := (.agg [(.slice none 0 0)].toArray)) sz38 rfl rfl rfl (yE (by rfl)) hX44.pins hb45 (dK rfl) rfl (fun w92 hb93 hp94 hg95 hz96 => ?_)))
 refine qD rfl (zC (v := (.bool false)) rfl) (qe (zA ?_))
 refine wp_ret (zQ (xN (cs := [(.slice none 0 0)]) (v := (.bool false)) rfl rfl rfl rfl rfl ag38 sz38 (fun j u hj => by rw [Nat.zero_add]; exact hb93.cell hj) ?_))
 obtain ⟨e1, e2⟩ := @gP ns bs (fun g => goodB_false.1 ((mU bs).symm.trans h46) g.gb)
 rw [e1, e2]
 exact ⟨_, _, rfl, DPrf.nil, (hX44.write hp94 hg95 ((zS hlo34)))⟩
 refine qs rfl rfl rfl rfl rfl rfl (qs rfl rfl rfl rfl rfl rfl (qs rfl rfl rfl rfl rfl rfl (qD rfl (yG (v := (.bool true)) rfl rfl) (qD rfl (zB (v := (.bool true)) rfl) (qs rfl rfl rfl rfl rfl rfl (qs rfl rfl rfl rfl rfl rfl (qs rfl rfl rfl rfl rfl rfl (qs rfl rfl rfl rfl rfl rfl (qD rfl (yG (v := (.bool true)) rfl rfl) (qe (zA ?_)))))))))))
 refine qC rfl rfl (zD (zE ?_))
 refine qD rfl (yY [(.slice none 0 0)] [(.slice none 0 0)] [] eV zr38 rfl pl38 rfl (fun _ h => by cases h) rfl) (q0 rfl rfl rfl (yD (cs' := [(.slice none 0 0)]) (us := [(.slice none 0 0)]) (v := (.agg [(.slice none 0 0)].toArray)) sz38 rfl rfl rfl (yE (by rfl)) hX38.pins hb39 (dK rfl) rfl (fun w98 hb99 hp100 hg101 hz102 => ?_)))
 refine qD rfl (zC (v := (.bool false)) rfl) (qe (zA ?_))
 refine wp_ret (zQ (xN (cs := [(.slice none 0 0)]) (v := (.bool false)) rfl rfl rfl rfl rfl ag38 sz38 (fun j u hj => by rw [Nat.zero_add]; exact hb99.cell hj) ?_))
 obtain ⟨e1, e2⟩ := @gP ns bs (fun g => goodB_false.1 ((mU ns).symm.trans h40) g.ga)
 rw [e1, e2]
 exact ⟨_, _, rfl, DPrf.nil, (hX38.write hp100 hg101 ((zS hlo34)))⟩
end LX4
end Go.Proofs.YtajkbplgbikgdaaGreatDoor
