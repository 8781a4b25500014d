/- Texts of this claim in one file: AR6, AR7, AR8, AR9, AR10, AR11, AR12, LSF. -/
import Derived.Test.YtdongckiecjbaaaGreatDoorSg6
import Derived.Test.YtdongckiecjbaaaGreatDoorChecked
set_option maxRecDepth 20000
set_option maxHeartbeats 2000000
namespace Go.Proofs.YtdongckiecjbaaaGreatDoor
namespace AR6
open Go.RowKit Go.GL Go.Proofs
open B1 AR4 AR5
theorem mk3 : (Tryz.prog.info? 3).map (fun i => (i.size, i.bytes, i.zero)) = some (1, 8, some (.int .i64 0)) := by kernel_rfl
variable {G : Pin} {u v : Value} {L R : List (List Int)}
theorem rJ {w : World} (hP : Pins G w) (hu : RSl (eSl eInt) G u L) (hv : RSl (eSl eInt) G v R) (hg : LgP L R) (hL : AcL L) (hR : AcL R) :
  Calls Tryz.prog 38 [(.agg [u, v].toArray)].toArray w fun e w' => ∃ (x : Value) (G' : Pin), e = .returned (.tuple #[x, .bool true]) ∧ Ext noS G w G' w' := by
 refine yD (n := 89) Tryz.func38 Tryz.ntmps38 rfl rfl ?_
 have hX0 := exr noS hP
 have hmu := hu.max
 have hmv := hv.max
 have hglo := hg.lo
 have hghi := hg.hi
 have hgle := hg.len
 have hlr := hg.len.symm
 have hln := hg.lens
 have hbL := fun (i : Nat) (hi : i < L.length) (k : Int) (hk : k ∈ L.getD i []) => (show 0 ≤ k ∧ k < 500000 by have := hL i hi k hk; omega)
 have hbR := fun (i : Nat) (hi : i < L.length) (k : Int) (hk : k ∈ R.getD i []) => (show 0 ≤ k ∧ k < 500000 by have := hR i (by omega) k hk; omega)
 refine zE (zF ?_)
 refine qI rfl (xY [u, v] (v := (.agg [u, v].toArray)) rfl rfl hX0.pins (fun b1 w2 hk3 hb4 hp5 hl6 => ?_))
 have hX7 := hX0.step hp5 hl6
 have hlo8 : w.heap.size ≤ b1 := by have := hX0.size; omega
 obtain ⟨G9, hle10, hX11, hbp12, hf13⟩ := hb4.shut hX7 hlo8
 refine qD rfl (zD (v := (.slice none 0 0)) rfl) (qD rfl (zD (v := (.bool false)) rfl) (qe (zA (zE (zF ?_)))))
 refine qI rfl (yR (E := (eSl eInt)) (e := 44) eT sz44 hX11.pins (fun u14 w15 ho16 hp17 hl18 hk19 => ?_))
 have hX20 := hX11.step hp17 hl18
 have ho21 := ho16.weaken hX11.size
 refine qI rfl (yN [(.slice none 0 0)] zr29 rfl hX20.pins (fun b22 w23 hk24 hb25 hp26 hl27 => ?_))
 have hX28 := hX20.step hp26 hl27
 have ho29 := ho21.below hl27
 have ha30 : Apart (some b22) u14.ownBlock := zI (congrArg some hk24) ho21.lt
 have hlo31 : w.heap.size ≤ b22 := by have := hX20.size; omega
 refine q0 rfl rfl rfl (o_stp (cs' := [u14]) (us := [u14]) (v := u14) sz29 rfl rfl (qP ho29.one) (yO ho29.one) hX28.pins hb25 (dP rfl) rfl (fun w32 hb33 hp34 hg35 hz36 => ?_))
 have hX37 := hX28.write hp34 hg35 ((yG hlo31))
 have ho38 := ho29.keptA hg35 ha30.symm
 refine qe (zA (zE (zE (zF ?_))))
 refine qD rfl (zN (k := 0) rfl eW rfl nz29 rfl) (qD rfl (zM (u := u) ag29 rfl (hX37.pins _ _ _ (hbp12 0 _ rfl))) (qD rfl (zP eT (v := u) rfl hu) (qD rfl (zB (v := (.int .i64 0)) rfl) (qe (zA ?_)))))
 refine zX (yM (fun (k : Nat) (en : Nat → Value) (W : World) => ∃ (env1 : Nat → Value) (j : Nat) (nv : Value) (N2 : List (List Int)) (GL1 : Pin), en = (upd (upd (upd (upd (upd (upd env1 1 (.pointer (some ⟨b1, 0, none⟩))) 2 (.slice none 0 0)) 3 (.bool false)) 4 (.pointer (some ⟨b22, 0, none⟩))) 19 (.int .i64 (L.length : Int))) 20 (.int .i64 (j : Int))) ∧ k = L.length - j ∧ Ext noS G w GL1 W ∧ Pin.le G9 GL1 ∧ (j ≤ L.length) ∧ (N2 = arN (L.take j) (R.take j)) ∧ (N2.length = 2 * j) ∧ (Own (eSl eInt) 44 GL1 W w.heap.size nv (N2)) ∧ (Bx GL1 W b22 [nv]) ∧ (Apart nv.ownBlock (some b22))) _ ⟨_, 0, u14, [], G9, (zC (x := 20) (zC (x := 19) (zC (x := 4) (zC (x := 3) (zC (x := 2) (zS (x := 1) rfl) rfl) rfl) rfl) rfl) rfl), rfl, hX37, Pin.le_refl _, Nat.zero_le _, rfl, rfl, ho38, hb33, ha30.symm⟩ ?_)
 rintro k39 _ w40 ⟨env1, j, nv, N2, GL1, rfl, hk41, hX42, hlek39, hj, hN2, hNl, hw43, hw44, ha45⟩
 refine zE (zF ?_)
 refine qD rfl (yQ rfl rfl) (qe (zA (zE ?_)))
 refine yF (p := ((j : Int) : Int) < (L.length : Int)) rfl rfl (fun h46 => ?_) (fun h46 => ?_)
 have hlj := hln j (by omega)
 refine wp_skip (zA (zE ?_))
 refine zX (zE (zF ?_))
 refine qD rfl (zB (v := (.int .i64 (j : Int))) rfl) (qD rfl (zD (v := (.int .i64 (j : Int))) rfl) (qe (zA (zE (zF ?_)))))
 refine qI rfl (yR (E := eInt) (e := 3) eR sz3 hX42.pins (fun u47 w48 ho49 hp50 hl51 hk52 => ?_))
 have hX53 := hX42.step hp50 hl51
 have ho54 := hw43.below hl51
 have hb55 := hw44.below hl51
 have ha56 : Apart u47.ownBlock nv.ownBlock := zI hk52 hw43.lt
 have ha57 : Apart u47.ownBlock (some b22) := zK hk52 hw44.lt
 have ho58 := ho49.weaken hX42.size
 refine qI rfl (yR (E := eInt) (e := 3) eR sz3 hX53.pins (fun u59 w60 ho61 hp62 hl63 hk64 => ?_))
 have hX65 := hX53.step hp62 hl63
 have ho66 := ho54.below hl63
 have ho67 := ho58.below hl63
 have hb68 := hb55.below hl63
 have ha69 : Apart u59.ownBlock nv.ownBlock := zI hk64 ho54.lt
 have ha70 : Apart u59.ownBlock u47.ownBlock := zI hk64 ho58.lt
 have ha71 : Apart u59.ownBlock (some b22) := zK hk64 hb55.lt
 have ho72 := ho61.weaken hX53.size
 refine qD rfl (zD (v := u47) rfl) (qD rfl (zD (v := u59) rfl) (qe (zA (zE (zE (zF ?_))))))
 refine qD rfl (zN (k := 0) rfl eW rfl nz29 rfl) (qD rfl (zM (u := u) ag29 rfl ((dN hX65.pins hlek39) _ _ _ (hbp12 0 _ rfl))) (qD rfl (zB (v := (.int .i64 (j : Int))) rfl) (qD rfl (zL eT sz44 (v := u) rfl rfl hu (by omega) (by omega)) ?_)))
 obtain ⟨u73, hr74, hl75⟩ := vR (hu.at (z := (j : Int)) (by omega) (by omega)) (j := j) rfl
 have hm76 := hr74.max
 refine qD rfl (hl75 ag44 rfl (dN hX65.pins (dM hle10 hlek39))) (qD rfl (zP eR (v := u73) rfl hr74) (qD rfl (zB (v := (.int .i64 0)) rfl) (qe (zA ?_))))
 refine zX (yM (fun (k : Nat) (en : Nat → Value) (W : World) => ∃ (env1 : Nat → Value) (qa : Nat) (ov1 : Value) (os1 : List Int) (Gqa : Pin), en = (upd (upd (upd (upd (upd (upd (upd (upd (upd (upd (upd (upd env1 1 (.pointer (some ⟨b1, 0, none⟩))) 2 (.slice none 0 0)) 3 (.bool false)) 4 (.pointer (some ⟨b22, 0, none⟩))) 5 (.int .i64 (j : Int))) 6 ov1) 7 u59) 19 (.int .i64 (L.length : Int))) 20 (.int .i64 (j : Int))) 29 u73) 30 (.int .i64 ((L.getD j []).length : Int))) 31 (.int .i64 (qa : Int))) ∧ k = (L.getD j []).length - qa ∧ Ext noS G w Gqa W ∧ Pin.le GL1 Gqa ∧ (qa ≤ (L.getD j []).length) ∧ (os1 = arS 1 ((L.getD j []).take qa)) ∧ (Own eInt 3 Gqa W w.heap.size ov1 (os1)) ∧ (Own (eSl eInt) 44 Gqa W w.heap.size nv (N2)) ∧ (Own eInt 3 Gqa W w.heap.size u59 ([])) ∧ (Bx Gqa W b22 [nv]) ∧ (Apart ov1.ownBlock nv.ownBlock) ∧ (Apart ov1.ownBlock u59.ownBlock) ∧ (Apart ov1.ownBlock (some b22))) _ ⟨_, 0, u47, [], GL1, (zC (x := 31) (zC (x := 30) (zC (x := 29) (zC (x := 20) (zC (x := 19) (zC (x := 7) (zC (x := 6) (zC (x := 5) (zC (x := 4) (zC (x := 3) (zC (x := 2) (zS (x := 1) rfl) rfl) rfl) rfl) rfl) rfl) rfl) rfl) rfl) rfl) rfl) rfl), rfl, hX65, Pin.le_refl _, Nat.zero_le _, rfl, ho67, ho66, ho72, hb68, ha56, ha70.symm, ha57⟩ ?_)
 rintro k77 _ w78 ⟨env1, qa, ov1, os1, Gqa, rfl, hk79, hX80, hlek77, hqa, hos1, hw81, hw82, hw83, hw84, ha85, ha86, ha87⟩
 have hos1l : os1.length ≤ (L.getD j []).length := by rw [hos1]; unfold arS; rw [List.length_map, List.length_take]; omega
 refine zE (zF ?_)
 refine qD rfl (yQ rfl rfl) (qe (zA (zE ?_)))
 refine yF (p := ((qa : Int) : Int) < ((L.getD j []).length : Int)) rfl rfl (fun h88 => ?_) (fun h88 => ?_)
 have hkqa := hbL j (by omega) _ (yX (d := (0 : Int)) (show qa < (L.getD j []).length by omega))
 refine wp_skip (zA (zE ?_))
 refine zX (zE (zF ?_))
 refine qD rfl (zL eR sz3 (v := u73) rfl rfl hr74 (by omega) (by omega)) (qD rfl (zO (r := (L.getD j []).getD qa 0) rfl ag3 (z := (qa : Int)) rfl hr74 (dN hX80.pins (dM (dM hle10 hlek39) hlek77)) (by omega) (by omega)) (qD rfl (zD (v := (.int .i64 ((L.getD j []).getD qa 0))) rfl) (qe (zA (zF ?_)))))
 refine qD rfl (zB (v := ov1) rfl) (qD rfl (zB (v := (.int .i64 ((L.getD j []).getD qa 0))) rfl) (qD rfl (jR rfl rfl (by omega)) (qD rfl (yH rfl rfl (by omega)) (qI rfl (yL (E := eInt) (e := 3) [(.int .i64 ((2 * ((L.getD j []).getD qa 0)) + 1))] [(2 * ((L.getD j []).getD qa 0)) + 1] eR sz3 zr3 (by exact xM (by rfl)) (yO (by rfl)) rfl rfl rfl rfl (by decide) hX80.pins (fun u89 w90 ho91 hp92 hl93 hk94 => ?_))))))
 have hX95 := hX80.step hp92 hl93
 have ho96 := hw81.below hl93
 have ho97 := hw82.below hl93
 have ho98 := hw83.below hl93
 have hb99 := hw84.below hl93
 have ho104 := ho91.weaken hX80.size
 refine qI rfl (zU (E := eInt) (v := ov1) (u := u89) 8 eR ap3 (by decide) rfl rfl hX95.pins ho96 ho104.src (by first | omega | (rw [List.nil_append]; omega) | (rw [List.length_nil]; omega) | (rw [List.length_append]; omega) | (simp; done) | (simp; omega) | (simp only [List.length_cons, List.length_nil]; omega) | (simp only [List.length_append, List.length_cons, List.length_nil]; omega)) (by first | omega | (rw [List.nil_append]; omega) | (rw [List.length_nil]; omega) | (rw [List.length_append]; omega) | (simp; done) | (simp; omega) | (simp only [List.length_cons, List.length_nil]; omega) | (simp only [List.length_append, List.length_cons, List.length_nil]; omega)) (hX95.size) (fun u105 w106 ho107 hp108 hg109 hw110 => ?_))
 have hX111 := hX95.write hp108 hg109 ((yB ho96))
 have ho112 := ho97.keptA hg109 ha85.symm
 have ho113 := ho98.keptA hg109 ha86.symm
 have hb115 := hb99.keptA hg109 ha87.symm
 have ha116 : Apart nv.ownBlock u105.ownBlock := zH ha85.symm hw110 ho97.lt
 have ha117 : Apart u59.ownBlock u105.ownBlock := zH ha86.symm hw110 ho98.lt
 have ha119 : Apart (some b22) u105.ownBlock := zJ ha87.symm hw110 hb99.lt
 have hm120 := la1 os1 ((2 * ((L.getD j []).getD qa 0)) + 1)
 refine qD rfl (zD (v := u105) rfl) (qe (yC (zA (zF ?_))))
 refine qD rfl (yH rfl rfl (by omega)) (qD rfl (zB (v := (.int .i64 ((qa : Int) + 1))) rfl) (qe (yE (⟨_, ?_, _, rfl, _, qa + 1, u105, os1 ++ ([(2 * ((L.getD j []).getD qa 0)) + 1]), Gqa, (zC (x := 31) (zC (x := 30) (zC (x := 29) (zC (x := 20) (zC (x := 19) (zC (x := 7) (zC (x := 6) (zC (x := 5) (zC (x := 4) (zC (x := 3) (zC (x := 2) (zS (x := 1) rfl) rfl) rfl) rfl) rfl) rfl) rfl) rfl) rfl) rfl) rfl) rfl), rfl, hX111, hlek77, (by omega), (by rw [hos1]; exact arS_next (by omega)), ho107, ho112, ho113, hb115, ha116.symm, ha117.symm, ha119.symm⟩))))
 omega
 refine wp_exit (zZ (yJ (yI (zA (zE (zE (zF ?_)))))))
 refine qD rfl (zN (k := 1) rfl eW rfl nz29 rfl) (qD rfl (zM (u := v) ag29 rfl ((dN hX80.pins (dM hlek39 hlek77)) _ _ _ (hbp12 1 _ rfl))) (qD rfl (zB (v := (.int .i64 (j : Int))) rfl) (qD rfl (zL eT sz44 (v := v) rfl rfl hv (by omega) (by omega)) ?_)))
 obtain ⟨u121, hr122, hl123⟩ := vR (hv.at (z := (j : Int)) (by omega) (by omega)) (j := j) rfl
 have hm124 := hr122.max
 refine qD rfl (hl123 ag44 rfl (dN hX80.pins (dM (dM hle10 hlek39) hlek77))) (qD rfl (zP eR (v := u121) rfl hr122) (qD rfl (zB (v := (.int .i64 0)) rfl) (qe (zA ?_))))
 refine zX (yM (fun (k : Nat) (en : Nat → Value) (W : World) => ∃ (env1 : Nat → Value) (qb : Nat) (ov2 : Value) (os2 : List Int) (Gqb : Pin), en = (upd (upd (upd (upd (upd (upd (upd (upd (upd (upd (upd env1 1 (.pointer (some ⟨b1, 0, none⟩))) 2 (.slice none 0 0)) 3 (.bool false)) 4 (.pointer (some ⟨b22, 0, none⟩))) 6 ov1) 7 ov2) 19 (.int .i64 (L.length : Int))) 20 (.int .i64 (j : Int))) 46 u121) 47 (.int .i64 ((R.getD j []).length : Int))) 48 (.int .i64 (qb : Int))) ∧ k = (R.getD j []).length - qb ∧ Ext noS G w Gqb W ∧ Pin.le Gqa Gqb ∧ (qb ≤ (R.getD j []).length) ∧ (os2 = arS 0 ((R.getD j []).take qb)) ∧ (Own eInt 3 Gqb W w.heap.size ov2 (os2)) ∧ (Own eInt 3 Gqb W w.heap.size ov1 (os1)) ∧ (Own (eSl eInt) 44 Gqb W w.heap.size nv (N2)) ∧ (Bx Gqb W b22 [nv]) ∧ (Apart ov2.ownBlock ov1.ownBlock) ∧ (Apart ov2.ownBlock nv.ownBlock) ∧ (Apart ov2.ownBlock (some b22))) _ ⟨_, 0, u59, [], Gqa, (zC (x := 48) (zC (x := 47) (zC (x := 46) (zC (x := 20) (zC (x := 19) (zC (x := 7) (zC (x := 6) (zC (x := 4) (zC (x := 3) (zC (x := 2) (zS (x := 1) rfl) rfl) rfl) rfl) rfl) rfl) rfl) rfl) rfl) rfl) rfl), rfl, hX80, Pin.le_refl _, Nat.zero_le _, rfl, hw83, hw81, hw82, hw84, ha86.symm, ha69, ha71⟩ ?_)
 rintro k125 _ w126 ⟨env1, qb, ov2, os2, Gqb, rfl, hk127, hX128, hlek125, hqb, hos2, hw129, hw130, hw131, hw132, ha133, ha134, ha135⟩
 have hos2l : os2.length ≤ (R.getD j []).length := by rw [hos2]; unfold arS; rw [List.length_map, List.length_take]; omega
 refine zE (zF ?_)
 refine qD rfl (yQ rfl rfl) (qe (zA (zE ?_)))
 refine yF (p := ((qb : Int) : Int) < ((R.getD j []).length : Int)) rfl rfl (fun h136 => ?_) (fun h136 => ?_)
 have hkqb := hbR j (by omega) _ (yX (d := (0 : Int)) (show qb < (R.getD j []).length by omega))
 refine wp_skip (zA (zE ?_))
 refine zX (zE (zF ?_))
 refine qD rfl (zL eR sz3 (v := u121) rfl rfl hr122 (by omega) (by omega)) (qD rfl (zO (r := (R.getD j []).getD qb 0) rfl ag3 (z := (qb : Int)) rfl hr122 (dN hX128.pins (dM (dM (dM hle10 hlek39) hlek77) hlek125)) (by omega) (by omega)) (qD rfl (zD (v := (.int .i64 ((R.getD j []).getD qb 0))) rfl) (qe (zA (zF ?_)))))
 refine qD rfl (zB (v := ov2) rfl) (qD rfl (zB (v := (.int .i64 ((R.getD j []).getD qb 0))) rfl) (qD rfl (jR rfl rfl (by omega)) (qI rfl (yL (E := eInt) (e := 3) [(.int .i64 (2 * ((R.getD j []).getD qb 0)))] [2 * ((R.getD j []).getD qb 0)] eR sz3 zr3 (by exact xM (by rfl)) (yO (by rfl)) rfl rfl rfl rfl (by decide) hX128.pins (fun u137 w138 ho139 hp140 hl141 hk142 => ?_)))))
 have hX143 := hX128.step hp140 hl141
 have ho144 := hw129.below hl141
 have ho145 := hw130.below hl141
 have ho146 := hw131.below hl141
 have hb147 := hw132.below hl141
 have ho152 := ho139.weaken hX128.size
 refine qI rfl (zU (E := eInt) (v := ov2) (u := u137) 8 eR ap3 (by decide) rfl rfl hX143.pins ho144 ho152.src (by first | omega | (rw [List.nil_append]; omega) | (rw [List.length_nil]; omega) | (rw [List.length_append]; omega) | (simp; done) | (simp; omega) | (simp only [List.length_cons, List.length_nil]; omega) | (simp only [List.length_append, List.length_cons, List.length_nil]; omega)) (by first | omega | (rw [List.nil_append]; omega) | (rw [List.length_nil]; omega) | (rw [List.length_append]; omega) | (simp; done) | (simp; omega) | (simp only [List.length_cons, List.length_nil]; omega) | (simp only [List.length_append, List.length_cons, List.length_nil]; omega)) (hX143.size) (fun u153 w154 ho155 hp156 hg157 hw158 => ?_))
 have hX159 := hX143.write hp156 hg157 ((yB ho144))
 have ho160 := ho145.keptA hg157 ha133.symm
 have ho161 := ho146.keptA hg157 ha134.symm
 have hb163 := hb147.keptA hg157 ha135.symm
 have ha164 : Apart ov1.ownBlock u153.ownBlock := zH ha133.symm hw158 ho145.lt
 have ha165 : Apart nv.ownBlock u153.ownBlock := zH ha134.symm hw158 ho146.lt
 have ha167 : Apart (some b22) u153.ownBlock := zJ ha135.symm hw158 hb147.lt
 have hm168 := la1 os2 (2 * ((R.getD j []).getD qb 0))
 refine qD rfl (zD (v := u153) rfl) (qe (yC (zA (zF ?_))))
 refine qD rfl (yH rfl rfl (by omega)) (qD rfl (zB (v := (.int .i64 ((qb : Int) + 1))) rfl) (qe (yE (⟨_, ?_, _, rfl, _, qb + 1, u153, os2 ++ ([2 * ((R.getD j []).getD qb 0)]), Gqb, (zC (x := 48) (zC (x := 47) (zC (x := 46) (zC (x := 20) (zC (x := 19) (zC (x := 7) (zC (x := 6) (zC (x := 4) (zC (x := 3) (zC (x := 2) (zS (x := 1) rfl) rfl) rfl) rfl) rfl) rfl) rfl) rfl) rfl) rfl) rfl), rfl, hX159, hlek125, (by omega), (by rw [hos2]; exact nT (by omega)), ho155, ho160, ho161, hb163, ha164.symm, ha165.symm, ha167.symm⟩))))
 omega
 refine wp_exit (zZ (yJ (yI (zA (zF ?_)))))
 refine qD rfl (zM (u := nv) ag29 rfl (hw132.cell (o := 0) rfl)) (qD rfl (zB (v := ov1) rfl) (qD rfl (zB (v := ov2) rfl) ?_))
 obtain ⟨G169, hle172, hX171, hr170, hf173⟩ := hw130.sealed hX128
 have ho174 := hw129.moreO hle172 hf173 ha133
 have ho175 := hw131.moreO hle172 hf173 ha85.symm
 have hb176 := hw132.moreO hf173 ha87.symm
 obtain ⟨G177, hle180, hX179, hr178, hf181⟩ := ho174.sealed hX171
 have ho182 := ho175.moreO hle180 hf181 ha134.symm
 have hb183 := hb176.moreO hf181 ha135.symm
 refine qI rfl (yL (E := (eSl eInt)) (e := 44) [ov1, ov2] [os1, os2] eT sz44 zr44 (by exact reps2 (⟨_, rfl, (hr170.mono hle180)⟩) (⟨_, rfl, hr178⟩)) (xO hr170.one hr178.one) rfl rfl rfl rfl (by decide) hX179.pins (fun u184 w185 ho186 hp187 hl188 hk189 => ?_))
 have hX190 := hX179.step hp187 hl188
 have ho191 := ho182.below hl188
 have hb192 := hb183.below hl188
 have ho195 := ho186.weaken hX179.size
 refine qI rfl (zU (E := (eSl eInt)) (v := nv) (u := u184) 24 eT ap44 (by decide) rfl rfl hX190.pins ho191 ho195.src (by first | omega | (rw [List.nil_append]; omega) | (rw [List.length_nil]; omega) | (rw [List.length_append]; omega) | (simp; done) | (simp; omega) | (simp only [List.length_cons, List.length_nil]; omega) | (simp only [List.length_append, List.length_cons, List.length_nil]; omega)) (by first | omega | (rw [List.nil_append]; omega) | (rw [List.length_nil]; omega) | (rw [List.length_append]; omega) | (simp; done) | (simp; omega) | (simp only [List.length_cons, List.length_nil]; omega) | (simp only [List.length_append, List.length_cons, List.length_nil]; omega)) (hX190.size) (fun u196 w197 ho198 hp199 hg200 hw201 => ?_))
 have hX202 := hX190.write hp199 hg200 ((yB ho191))
 have hb204 := hb192.keptA hg200 ha45.symm
 have ha206 : Apart (some b22) u196.ownBlock := zJ ha45.symm hw201 hb192.lt
 have hm207 : (N2 ++ ([os1, os2])).length = N2.length + 2 := List.length_append
 refine q0 rfl rfl rfl (o_stp (cs' := [u196]) (us := [u196]) (v := u196) sz29 rfl rfl (qP ho198.one) (yO ho198.one) hX202.pins hb204 (dP rfl) rfl (fun w208 hb209 hp210 hg211 hz212 => ?_))
 have hX213 := hX202.write hp210 hg211 ((yG hlo31))
 have ho214 := ho198.keptA hg211 ha206.symm
 refine qe (yC (zA (zF ?_)))
 refine qD rfl (yH rfl rfl (by omega)) (qD rfl (zB (v := (.int .i64 ((j : Int) + 1))) rfl) (qe (yE (⟨_, ?_, _, rfl, _, j + 1, u196, N2 ++ ([os1, os2]), G177, (zC (x := 20) (zC (x := 19) (zC (x := 4) (zC (x := 3) (zC (x := 2) (zS (x := 1) rfl) rfl) rfl) rfl) rfl) rfl), rfl, hX213, (dM (dM (dM (dM hlek39 hlek77) hlek125) hle172) hle180), (by omega), (by rw [hos1, hos2, qA (by omega), qA (by omega), hN2]; exact arN_next hlr (by omega)), (by simp only [List.length_append, List.length_cons, List.length_nil]; omega), ho214, hb209, ha206.symm⟩))))
 omega
 refine wp_exit (zZ (yJ (yI (zA (zE (zF ?_))))))
 have hjn : j = L.length := by omega
 rw [hjn, List.take_length, hlr, List.take_length] at hN2
 obtain ⟨G215, hle218, hX217, hr216, hf219⟩ := hw43.sealed hX42
 have hb220 := hw44.moreO hf219 ha45.symm
 have hok := arN_ok hlr hL hR
 have hal := jJ hlr
 have hr221 : RSl (eSl eInt) G215 nv (arN L R) := by rw [← hN2]; exact hr216
 obtain ⟨G222, hle223, hX224, hbp225, hf226⟩ := hb220.shut hX217 hlo31
 refine qD rfl (zM (u := nv) ag29 rfl (hX224.pins _ _ _ (hbp225 0 _ rfl))) (qD rfl (zP eT (v := nv) rfl hr221) (qI rfl (kQ (E := eInt) 0 8 (.int .i64 0) eR mk3 (fun _ => rfl) rfl rfl hX224.pins (by omega) (by omega) (by omega) (fun u227 w228 ho229 hp230 hl231 hk232 => ?_))))
 have hX233 := hX224.step hp230 hl231
 have ho234 : Own eInt 3 G222 w228 w.heap.size u227 (List.replicate ((arN L R).length) 0) := ho229.weaken hX224.size
 have hm235 : (List.replicate ((arN L R).length) 0).length = ((arN L R).length) := List.length_replicate ..
 refine qI rfl (yN [(.slice none 0 0)] zr44 rfl hX233.pins (fun b236 w237 hk238 hb239 hp240 hl241 => ?_))
 have hX242 := hX233.step hp240 hl241
 have ho243 := ho234.below hl241
 have ha244 : Apart (some b236) u227.ownBlock := zI (congrArg some hk238) ho234.lt
 have hlo245 : w.heap.size ≤ b236 := by have := hX233.size; omega
 refine q0 rfl rfl rfl (o_stp (cs' := [u227]) (us := [u227]) (v := u227) sz44 rfl rfl (qP ho243.one) (yO ho243.one) hX242.pins hb239 (dP rfl) rfl (fun w246 hb247 hp248 hg249 hz250 => ?_))
 have hX251 := hX242.write hp248 hg249 ((yG hlo245))
 have ho252 := ho243.keptA hg249 ha244.symm
 obtain ⟨G253, hle254, hX255, hbp256, hf257⟩ := hb247.shut hX251 hlo245
 have ho258 := ho252.moreA hle254 hf257 ha244.symm
 refine qe (zA (zE (zF ?_)))
 refine qD rfl (zM (u := nv) ag29 rfl ((dN hX255.pins hle254) _ _ _ (hbp225 0 _ rfl))) (qD rfl (zP eT (v := nv) rfl hr221) (qI rfl (kQ (E := eInt) 0 8 (.int .i64 0) eR mk3 (fun _ => rfl) rfl rfl hX255.pins (by omega) (by omega) (by omega) (fun u259 w260 ho261 hp262 hl263 hk264 => ?_))))
 have hX265 := hX255.step hp262 hl263
 have ho266 := ho258.below hl263
 have ha267 : Apart u259.ownBlock u227.ownBlock := zI hk264 ho258.lt
 have ho268 : Own eInt 3 G253 w260 w.heap.size u259 (List.replicate ((arN L R).length) 0) := ho261.weaken hX255.size
 have hm269 : (List.replicate ((arN L R).length) 0).length = ((arN L R).length) := List.length_replicate ..
 refine qI rfl (yN [(.slice none 0 0)] zr44 rfl hX265.pins (fun b270 w271 hk272 hb273 hp274 hl275 => ?_))
 have hX276 := hX265.step hp274 hl275
 have ho277 := ho266.below hl275
 have ho278 := ho268.below hl275
 have ha279 : Apart (some b270) u227.ownBlock := zI (congrArg some hk272) ho266.lt
 have ha280 : Apart (some b270) u259.ownBlock := zI (congrArg some hk272) ho268.lt
 have hlo281 : w.heap.size ≤ b270 := by have := hX265.size; omega
 refine q0 rfl rfl rfl (o_stp (cs' := [u259]) (us := [u259]) (v := u259) sz44 rfl rfl (qP ho278.one) (yO ho278.one) hX276.pins hb273 (dP rfl) rfl (fun w282 hb283 hp284 hg285 hz286 => ?_))
 have hX287 := hX276.write hp284 hg285 ((yG hlo281))
 have ho288 := ho277.keptA hg285 ha279.symm
 have ho289 := ho278.keptA hg285 ha280.symm
 obtain ⟨G290, hle291, hX292, hbp293, hf294⟩ := hb283.shut hX287 hlo281
 have ho295 := ho288.moreA hle291 hf294 ha279.symm
 have ho296 := ho289.moreA hle291 hf294 ha280.symm
 refine qe (zA (zE (zF ?_)))
 refine qI rfl (yN [(.nilFunc)] zr41 rfl hX292.pins (fun b297 w298 hk299 hb300 hp301 hl302 => ?_))
 have hX303 := hX292.step hp301 hl302
 have ho304 := ho295.below hl302
 have ho305 := ho296.below hl302
 have ha306 : Apart (some b297) u227.ownBlock := zI (congrArg some hk299) ho295.lt
 have ha307 : Apart (some b297) u259.ownBlock := zI (congrArg some hk299) ho296.lt
 have hlo308 : w.heap.size ≤ b297 := by have := hX292.size; omega
 refine qe (zA (zE (zF ?_)))
 refine qD rfl (r_makeFunc [(.pointer (some ⟨b270, 0, none⟩)), (.pointer (some ⟨b22, 0, none⟩)), (.pointer (some ⟨b297, 0, none⟩)), (.pointer (some ⟨b236, 0, none⟩))] rfl) (q0 rfl rfl rfl (o_stp (cs' := [(.func (.func 53) #[] #[(.pointer (some ⟨b270, 0, none⟩)), (.pointer (some ⟨b22, 0, none⟩)), (.pointer (some ⟨b297, 0, none⟩)), (.pointer (some ⟨b236, 0, none⟩))])]) (us := [(.func (.func 53) #[] #[(.pointer (some ⟨b270, 0, none⟩)), (.pointer (some ⟨b22, 0, none⟩)), (.pointer (some ⟨b297, 0, none⟩)), (.pointer (some ⟨b236, 0, none⟩))])]) (v := (.func (.func 53) #[] #[(.pointer (some ⟨b270, 0, none⟩)), (.pointer (some ⟨b22, 0, none⟩)), (.pointer (some ⟨b297, 0, none⟩)), (.pointer (some ⟨b236, 0, none⟩))])) sz41 rfl rfl rfl (yO (by rfl)) hX303.pins hb300 (dP rfl) rfl (fun w309 hb310 hp311 hg312 hz313 => ?_)))
 have hX314 := hX303.write hp311 hg312 ((yG hlo308))
 have ho315 := ho304.keptA hg312 ha306.symm
 have ho316 := ho305.keptA hg312 ha307.symm
 obtain ⟨G317, hle318, hX319, hbp320, hf321⟩ := hb310.shut hX314 hlo308
 have ho322 := ho315.moreA hle318 hf321 ha306.symm
 have ho323 := ho316.moreA hle318 hf321 ha307.symm
 refine qe (zA (zE (zE (zF ?_))))
 refine qD rfl (zM (u := nv) ag29 rfl ((dN hX319.pins (dM (dM hle254 hle291) hle318)) _ _ _ (hbp225 0 _ rfl))) (qD rfl (zP eT (v := nv) rfl hr221) (qD rfl (zB (v := (.int .i64 0)) rfl) (qe (zA ?_))))
 refine zX (yM (fun (k : Nat) (en : Nat → Value) (W : World) => ∃ (env1 : Nat → Value) (x : Nat) (ps2 : List Int) (ts2 : List Int) (GL4 : Pin), en = (upd (upd (upd (upd (upd env1 12 (.pointer (some ⟨b236, 0, none⟩))) 13 (.pointer (some ⟨b270, 0, none⟩))) 14 (.pointer (some ⟨b297, 0, none⟩))) 72 (.int .i64 ((arN L R).length : Int))) 73 (.int .i64 (x : Int))) ∧ k = (arN L R).length - x ∧ Ext noS G w GL4 W ∧ Pin.le G317 GL4 ∧ (x ≤ (arN L R).length) ∧ (PhV ps2) ∧ (TuV ts2) ∧ (PhLe (List.replicate (arN L R).length 0) ps2) ∧ (ps2.length = (arN L R).length) ∧ (ts2.length = (arN L R).length) ∧ (Own eInt 3 GL4 W w.heap.size u259 (ps2)) ∧ (Own eInt 3 GL4 W w.heap.size u227 (ts2))) _ ⟨_, 0, List.replicate ((arN L R).length) 0, List.replicate ((arN L R).length) 0, G317, (zC (x := 73) (zC (x := 72) (zC (x := 14) (zC (x := 13) (zS (x := 12) rfl) rfl) rfl) rfl) rfl), rfl, hX319, Pin.le_refl _, Nat.zero_le _, (PhV.zero _), (TuV.zero _), (PhLe.refl _), (by simp), (by simp), ho323, ho322⟩ ?_)
 rintro k324 _ w325 ⟨env1, x, ps2, ts2, GL4, rfl, hk326, hX327, hlek324, hx9, hV, hT, hPL, hp2, ht2, hw328, hw329⟩
 refine zE (zF ?_)
 refine qD rfl (yQ rfl rfl) (qe (zA (zE ?_)))
 refine yF (p := ((x : Int) : Int) < ((arN L R).length : Int)) rfl rfl (fun h330 => ?_) (fun h330 => ?_)
 refine wp_skip (zA (zE ?_))
 refine zX (zE (zF ?_))
 refine qD rfl (zB (v := (.int .i64 (x : Int))) rfl) (qD rfl (zD (v := (.int .i64 (x : Int))) rfl) (qe (zA (zE (zF ?_)))))
 refine qD rfl (zM (u := u259) ag44 rfl ((dN hX327.pins (dM hle318 hlek324)) _ _ _ (hbp293 0 _ rfl))) (qD rfl (zB (v := (.int .i64 (x : Int))) rfl) (qD rfl (zL eR sz3 (v := u259) rfl rfl hw328.read (by omega) (by omega)) (qD rfl (zO (r := ps2.getD x 0) rfl ag3 (z := (x : Int)) rfl hw328.read (Gadd.pins hX327.pins u259) (by omega) (by omega)) (qD rfl (jN rfl rfl) (qD rfl (zB (v := (.bool (decide ((ps2.getD x 0 : Int) = 0)))) rfl) (qbd (p := (ps2.getD x 0 : Int) = 0) (t := 81) rfl (fun h331 => ?_) (fun h331 => ?_)))))))
 refine qdg rfl rfl rfl rfl rfl rfl (zM (u := (.func (.func 53) #[] #[(.pointer (some ⟨b270, 0, none⟩)), (.pointer (some ⟨b22, 0, none⟩)), (.pointer (some ⟨b297, 0, none⟩)), (.pointer (some ⟨b236, 0, none⟩))])) ag41 rfl ((dN hX327.pins hlek324) _ _ _ (hbp320 0 _ rfl))) (qdg rfl rfl rfl rfl rfl rfl (zB (v := (.int .i64 (x : Int))) rfl) (q1g rfl rfl rfl rfl rfl rfl (o_callc (cs := [(.pointer (some ⟨b270, 0, none⟩)), (.pointer (some ⟨b22, 0, none⟩)), (.pointer (some ⟨b297, 0, none⟩)), (.pointer (some ⟨b236, 0, none⟩))]) (vs := [(.int .i64 (x : Int))]) Tryz.func53 nm53 rfl rfl rfl ?_)))
 refine dO (mU (x / 2 + 1) (s := x) (z := (x : Int)) (by omega) hX327.pins (hr221.mono (dM (dM (dM (dM hle223 hle254) hle291) hle318) hlek324)) (PinB.mono hbp293 (dM hle318 hlek324)) (PinB.mono hbp225 (dM (dM (dM hle254 hle291) hle318) hlek324)) (PinB.mono hbp320 hlek324) (PinB.mono hbp256 (dM (dM hle291 hle318) hlek324)) (hw328.weaken (Nat.zero_le _)) (hw329.weaken (Nat.zero_le _)) ha267 hok (by omega) (by omega) (by omega) (by omega) hV hT (hPL.all _) (by omega)) ?_
 rintro _ w335 ⟨psn332, tsn333, G334, rfl, ho336, ho337, hv338, hv339, hv340, hv341, hx342⟩
 refine ⟨_, rfl, ?_⟩
 have hX343 := hX327.trans hx342 (lo_two hw328 hw329)
 have ho344 := ho336.up (lo := w.heap.size) (fun k hk => (hw328.lt k hk).1)
 have ho345 := ho337.up (lo := w.heap.size) (fun k hk => (hw329.lt k hk).1)
 refine qdg rfl rfl rfl rfl rfl rfl (qE rfl) (qD rfl (yW (v := (.bool false)) rfl rfl) (qe (zA ?_)))
 refine qQ rfl rfl (wp_skip (yC (zA (zF ?_))))
 refine qD rfl (yH rfl rfl (by omega)) (qD rfl (zB (v := (.int .i64 ((x : Int) + 1))) rfl) (qe (yE (⟨_, ?_, _, rfl, _, x + 1, psn332, tsn333, G334, (zC (x := 73) (zC (x := 72) (zC (x := 14) (zC (x := 13) (zS (x := 12) rfl) rfl) rfl) rfl) rfl), rfl, hX343, (dM hlek324 hx342.le), (by omega), hv338, hv339, (hPL.trans hv340), (hv340.1.trans hp2), (hv341.trans ht2), ho344, ho345⟩))))
 omega
 refine qs rfl rfl rfl rfl rfl rfl (qs rfl rfl rfl rfl rfl rfl (qs rfl rfl rfl rfl rfl rfl (qs rfl rfl rfl rfl rfl rfl (qD rfl (yS (v := (.bool false)) rfl rfl) (qe (zA ?_))))))
 refine qQ rfl rfl (wp_skip (yC (zA (zF ?_))))
 refine qD rfl (yH rfl rfl (by omega)) (qD rfl (zB (v := (.int .i64 ((x : Int) + 1))) rfl) (qe (yE (⟨_, ?_, _, rfl, _, x + 1, ps2, ts2, GL4, (zC (x := 73) (zC (x := 72) (zC (x := 14) (zC (x := 13) (zS (x := 12) rfl) rfl) rfl) rfl) rfl), rfl, hX327, hlek324, (by omega), hV, hT, hPL, hp2, ht2, hw328, hw329⟩))))
 omega
 refine wp_exit (zZ (yJ (yI (zA (zE (zF ?_))))))
 refine qD rfl (zM (u := u227) ag44 rfl ((dN hX327.pins (dM (dM hle291 hle318) hlek324)) _ _ _ (hbp256 0 _ rfl))) (qD rfl (zD (v := u227) rfl) (qD rfl (zD (v := (.bool true)) rfl) (qe (zA ?_))))
 exact wp_ret (zW (tG (v := u227) (u := (.bool true)) rfl rfl rfl rfl rfl (⟨_, _, rfl, hX327⟩)))
theorem kW {w : World} (hP : Pins G w) (hu : RSl (eSl eInt) G u L) (hv : RSl (eSl eInt) G v R) (hg : LgP L R) (hL : AcL L) (hR : AcL R) :
  Calls Tryz.prog 17 [(.agg [u, v].toArray)].toArray w fun e w' => ∃ G', e = .returned (.bool true) ∧ Ext noS G w G' w' := by
 refine yD (n := 14) Tryz.func17 Tryz.ntmps17 rfl rfl ?_
 have hX0 := exr noS hP
 have hmu := hu.max
 have hmv := hv.max
 have hglo := hg.lo
 have hghi := hg.hi
 have hgle := hg.len
 refine zE (zF ?_)
 refine qI rfl (xY [u, v] (v := (.agg [u, v].toArray)) rfl rfl hX0.pins (fun b1 w2 hk3 hb4 hp5 hl6 => ?_))
 have hX7 := hX0.step hp5 hl6
 have hlo8 : w.heap.size ≤ b1 := by have := hX0.size; omega
 obtain ⟨G9, hle10, hX11, hbp12, hf13⟩ := hb4.shut hX7 hlo8
 refine qD rfl (zD (v := (.bool false)) rfl) (qe (zA (zE (zE (zF ?_)))))
 refine qD rfl (yK (cs := [u, v]) ag31 sz31 rfl (fun j u hj => hX11.pins _ _ _ (hbp12 _ _ (by simpa using hj)))) (qI rfl (zR (vs := [(.agg [u, v].toArray)]) Tryz.func37 nm37 rfl rfl rfl ?_))
 refine dO (mT hX11.pins (hu.mono hle10) (hv.mono hle10) hg) ?_
 rintro _ w15 ⟨G14, rfl, hx16⟩
 refine ⟨_, rfl, ?_⟩
 have hX17 := hX11.tr hx16
 refine qD rfl (qE rfl) (qe (zA ?_))
 refine qQ rfl rfl (wp_skip (zA (zE (zF ?_))))
 refine qD rfl (yK (cs := [u, v]) ag31 sz31 rfl (fun j u hj => (dN hX17.pins hx16.le) _ _ _ (hbp12 _ _ (by simpa using hj)))) (qI rfl (zR (vs := [(.agg [u, v].toArray)]) Tryz.func38 nm38 rfl rfl rfl ?_))
 refine dO (rJ hX17.pins (hu.mono (dM hle10 hx16.le)) (hv.mono (dM hle10 hx16.le)) hg hL hR) ?_
 rintro _ w20 ⟨x18, G19, rfl, hx21⟩
 refine ⟨_, rfl, ?_⟩
 have hX22 := hX17.tr hx21
 refine qD rfl (zB (v := (.tuple #[x18, (.bool true)])) rfl) (qD rfl (xA (v := x18) rfl rfl) (qD rfl (xA (v := (.bool true)) rfl rfl) (qD rfl (zD (v := x18) rfl) (qD rfl (zD (v := (.bool true)) rfl) (qe (zA (zE (zF ?_))))))))
 refine qD rfl (zB (v := (.bool true)) rfl) (qD rfl (zD (v := (.bool true)) rfl) (qe (zA ?_)))
 exact wp_ret (zW (zT (v := (.bool true)) rfl rfl rfl (⟨_, rfl, hX22⟩)))
end AR6
end Go.Proofs.YtdongckiecjbaaaGreatDoor
namespace Go.Proofs.YtdongckiecjbaaaGreatDoor
namespace AR7
open Go.RowKit Go.GL Go.Proofs
open B1 C1 D1 E1
theorem pl31 : (Tryz.prog.underlying 31).bind (placesD Tryz.prog) = some [(0, 1), (1, 1)] := by kernel_rfl
variable {G : Pin} {v : Value} {ns : List Nd}
theorem rN {w : World} (hP : Pins G w) (hv : RSl eNode G v ns) :
  Calls Tryz.prog 16 [(.agg [v].toArray)].toArray w fun e w' => ∃ G', e = .returned (.bool (decP (GoodS ns))) ∧ Ext noS G w G' w' := by
 refine yD (n := 5) Tryz.func16 Tryz.ntmps16 rfl rfl ?_
 have hX0 := exr noS hP
 refine zE (zF ?_)
 refine qI rfl (xY [v] (v := (.agg [v].toArray)) rfl rfl hX0.pins (fun b1 w2 hk3 hb4 hp5 hl6 => ?_))
 have hX7 := hX0.step hp5 hl6
 have hlo8 : w.heap.size ≤ b1 := by have := hX0.size; omega
 obtain ⟨G9, hle10, hX11, hbp12, hf13⟩ := hb4.shut hX7 hlo8
 refine qD rfl (zD (v := (.bool false)) rfl) (qe (zA (zE (zF ?_))))
 refine qD rfl (yK (cs := [v]) ag26 sz26 rfl (fun j u hj => hX11.pins _ _ _ (hbp12 _ _ (by simpa using hj)))) (qI rfl (zR (vs := [(.agg [v].toArray)]) Tryz.func36 nm36 rfl rfl rfl ?_))
 refine dO (sX hX11.pins (hv.mono hle10)) ?_
 rintro _ w15 ⟨G14, rfl, hx16⟩
 refine ⟨_, rfl, ?_⟩
 have hX17 := hX11.tr hx16
 refine qD rfl (zD (v := (.bool (decP (GoodS ns)))) rfl) (qe (zA ?_))
 exact wp_ret (zW (zT (v := (.bool (decP (GoodS ns)))) rfl rfl rfl (⟨_, rfl, hX17⟩)))
theorem kF {w : World} {xs : List Int} (hP : Pins G w) (hv : RSl eInt G v xs) (hs : xs.length ≤ 1048576) :
  Calls Tryz.prog 15 [v].toArray w fun e w' => ∃ (u : Value) (G' : Pin), e = .returned u ∧ Own eInt 3 G' w' w.heap.size u xs ∧ Ext noS G w G' w' := by
 refine yD (n := 8) Tryz.func15 Tryz.ntmps15 rfl rfl ?_
 have hX0 := exr noS hP
 refine zE (zF ?_)
 refine qD rfl (zD (v := (.slice none 0 0)) rfl) (qe (zA (zE (zE (zF ?_)))))
 refine qD rfl (zB (v := v) rfl) (qD rfl (sP eR hv rfl rfl) (qe (zA ?_)))
 refine c_if rfl rfl (fun h1 => ?_) (fun h1 => ?_)
 refine zE (zF ?_)
 refine qD rfl (zD (v := (.slice none 0 0)) rfl) (qe (zA ?_))
 refine wp_ret (zW (zT (v := (.slice none 0 0)) rfl rfl rfl ?_))
 have hx0 := nil_of hv h1
 subst hx0
 exact ⟨_, _, rfl, Own.nil _ _ _ _ _, hX0⟩
 refine wp_skip (zA (zE (zF ?_)))
 refine qI rfl (yR (E := eInt) (e := 3) eR sz3 hX0.pins (fun u2 w3 ho4 hp5 hl6 hk7 => ?_))
 have hX8 := hX0.step hp5 hl6
 have ho9 := ho4.weaken hX0.size
 refine qD rfl (zB (v := v) rfl) (qI rfl (zU (E := eInt) (v := u2) (u := v) 8 eR ap3 (by decide) rfl rfl hX8.pins ho9 ((hv.mono (Pin.le_refl _)).src hX8.pins (by decide)) (by first | omega | (rw [List.nil_append]; omega) | (rw [List.length_nil]; omega) | (rw [List.length_append]; omega) | (simp; done) | (simp; omega) | (simp only [List.length_cons, List.length_nil]; omega) | (simp only [List.length_append, List.length_cons, List.length_nil]; omega)) (by first | omega | (rw [List.nil_append]; omega) | (rw [List.length_nil]; omega) | (rw [List.length_append]; omega) | (simp; done) | (simp; omega) | (simp only [List.length_cons, List.length_nil]; omega) | (simp only [List.length_append, List.length_cons, List.length_nil]; omega)) (hX8.size) (fun u10 w11 ho12 hp13 hg14 hw15 => ?_)))
 have hX16 := hX8.write hp13 hg14 ((yB ho9))
 have hm17 := la2 ([]) xs
 refine qD rfl (zD (v := u10) rfl) (qe (zA ?_))
 exact wp_ret (zW (zT (v := u10) rfl rfl rfl (⟨_, _, rfl, ho12, hX16⟩)))
theorem jT {w : World} (hP : Pins G w) (hv : RSl eNode G v ns) :
  Calls Tryz.prog 8 [(.agg [v].toArray)].toArray w fun e w' => ∃ (u v : Value) (G' : Pin), e = .returned (.tuple #[.agg [u, v].toArray, .bool (lpOk ns)]) ∧ RSl (eSl eInt) G' u (lpL ns) ∧ RSl (eSl eInt) G' v (lpR ns) ∧ Ext noS G w G' w' := by
 refine yD (n := 51) Tryz.func8 Tryz.ntmps8 rfl rfl ?_
 have hX0 := exr noS hP
 refine zE (zF ?_)
 refine qI rfl (xY [v] (v := (.agg [v].toArray)) rfl rfl hX0.pins (fun b1 w2 hk3 hb4 hp5 hl6 => ?_))
 have hX7 := hX0.step hp5 hl6
 have hlo8 : w.heap.size ≤ b1 := by have := hX0.size; omega
 obtain ⟨G9, hle10, hX11, hbp12, hf13⟩ := hb4.shut hX7 hlo8
 refine qI rfl (yN [(.slice none 0 0), (.slice none 0 0)] zr31 rfl hX11.pins (fun b14 w15 hk16 hb17 hp18 hl19 => ?_))
 have hX20 := hX11.step hp18 hl19
 have hlo21 : w.heap.size ≤ b14 := by have := hX11.size; omega
 refine qD rfl (zD (v := (.bool false)) rfl) (qe (zA (zE (zE (zF ?_)))))
 refine qD rfl (yK (cs := [v]) ag26 sz26 rfl (fun j u hj => hX20.pins _ _ _ (hbp12 _ _ (by simpa using hj)))) (qI rfl (zR (vs := [(.agg [v].toArray)]) Tryz.func16 nm16 rfl rfl rfl ?_))
 refine dO (rN hX20.pins (hv.mono hle10)) ?_
 rintro _ w23 ⟨G22, rfl, hx24⟩
 refine ⟨_, rfl, ?_⟩
 have hX25 := hX20.tr hx24
 have hb26 := hb17.ext hx24
 refine qD rfl (qE rfl) (qD rfl (zB (v := (.bool (!(decP (GoodS ns))))) rfl) (qbn (t := 9) rfl (fun h27 => ?_) (fun h27 => ?_)))
 refine qdg rfl rfl rfl rfl rfl rfl (zN (k := 0) rfl eU rfl nz24 rfl) (qdg rfl rfl rfl rfl rfl rfl (zM (u := v) ag24 rfl ((dN hX25.pins hx24.le) _ _ _ (hbp12 0 _ rfl))) (qdg rfl rfl rfl rfl rfl rfl (zP eS (v := v) rfl hv) (qdg rfl rfl rfl rfl rfl rfl (jC rfl rfl) (qD rfl (yS (v := (.bool (decide ((36 : Int) < (ns.length : Int))))) rfl rfl) (qe (zA ?_))))))
 refine yF (p := (36 : Int) < (ns.length : Int)) rfl rfl (fun h28 => ?_) (fun h28 => ?_)
 refine zE (zF ?_)
 refine qD rfl (xR [(.slice none 0 0), (.slice none 0 0)] [(.slice none 0 0), (.slice none 0 0)] [] eW zr31 rfl pl31 rfl (fun _ h => by cases h) rfl) (q0 rfl rfl rfl (o_stp (cs' := [(.slice none 0 0), (.slice none 0 0)]) (us := [(.slice none 0 0), (.slice none 0 0)]) (v := (.agg [(.slice none 0 0), (.slice none 0 0)].toArray)) sz31 rfl rfl rfl (xO (by rfl) (by rfl)) hX25.pins hb26 (dP rfl) rfl (fun w29 hb30 hp31 hg32 hz33 => ?_)))
 have hX34 := hX25.write hp31 hg32 ((yG hlo21))
 refine qD rfl (zD (v := (.bool false)) rfl) (qe (zA ?_))
 refine wp_ret (zW (vL (cs := [(.slice none 0 0), (.slice none 0 0)]) (v := (.bool false)) rfl rfl rfl rfl rfl ag31 sz31 (fun j u hj => by rw [Nat.zero_add]; exact hb30.cell hj) ?_))
 obtain ⟨e1, e2, e3⟩ := lp_no (ns := ns) (Or.inr h28)
 rw [e1, e2, e3]
 exact ⟨_, _, _, rfl, qR _ _, qR _ _, hX34⟩
 refine wp_skip (zA (zE (zF ?_)))
 refine qD rfl (xR [(.slice none 0 0), (.slice none 0 0)] [(.slice none 0 0), (.slice none 0 0)] [] eW zr31 rfl pl31 rfl (fun _ h => by cases h) rfl) ?_
 have hsm := mF (goodB_true.1 ((pQ ns).symm.trans h27))
 have hln := hsm.len
 refine qI rfl (yN [(.slice none 0 0), (.slice none 0 0)] zr31 rfl hX25.pins (fun b35 w36 hk37 hb38 hp39 hl40 => ?_))
 have hX41 := hX25.step hp39 hl40
 have hb42 := hb26.below hl40
 have ha43 : Apart (some b35) (some b14) := zK (congrArg some hk37) hb26.lt
 have hlo44 : w.heap.size ≤ b35 := by have := hX25.size; omega
 refine q0 rfl rfl rfl (o_stp (cs' := [(.slice none 0 0), (.slice none 0 0)]) (us := [(.slice none 0 0), (.slice none 0 0)]) (v := (.agg [(.slice none 0 0), (.slice none 0 0)].toArray)) sz31 rfl rfl rfl (xO (by rfl) (by rfl)) hX41.pins hb38 (dP rfl) rfl (fun w45 hb46 hp47 hg48 hz49 => ?_))
 have hX50 := hX41.write hp47 hg48 ((yG hlo44))
 have hb51 := hb42.keptA hg48 ha43.symm
 refine qe (zA (zE (zE (zF ?_))))
 refine qD rfl (zD (v := (.int .i64 0)) rfl) (qe (zA ?_))
 refine zX (yM (fun (k : Nat) (en : Nat → Value) (W : World) => ∃ (env1 : Nat → Value) (j : Nat) (lu : Value) (rv : Value) (ls : List (List Int)) (rs : List (List Int)) (GL1 : Pin), en = (upd (upd (upd (upd (upd env1 1 (.pointer (some ⟨b1, 0, none⟩))) 2 (.pointer (some ⟨b14, 0, none⟩))) 3 (.bool false)) 4 (.pointer (some ⟨b35, 0, none⟩))) 5 (.int .i64 (j : Int))) ∧ k = ns.length - j ∧ Ext noS G w GL1 W ∧ Pin.le G22 GL1 ∧ (j ≤ ns.length) ∧ (ls = (ns.take j).map Nd.l) ∧ (rs = (ns.take j).map Nd.r) ∧ (ls.length = j) ∧ (rs.length = j) ∧ (Own (eSl eInt) 44 GL1 W w.heap.size lu (ls)) ∧ (Own (eSl eInt) 44 GL1 W w.heap.size rv (rs)) ∧ (Bx GL1 W b14 [(.slice none 0 0), (.slice none 0 0)]) ∧ (Bx GL1 W b35 [lu, rv]) ∧ (Apart lu.ownBlock rv.ownBlock) ∧ (Apart lu.ownBlock (some b14)) ∧ (Apart lu.ownBlock (some b35)) ∧ (Apart rv.ownBlock (some b14)) ∧ (Apart rv.ownBlock (some b35))) _ ⟨_, 0, (.slice none 0 0), (.slice none 0 0), [], [], G22, (zC (x := 5) (zC (x := 4) (zC (x := 3) (zC (x := 2) (zS (x := 1) rfl) rfl) rfl) rfl) rfl), rfl, hX50, Pin.le_refl _, Nat.zero_le _, rfl, rfl, rfl, rfl, (Own.nil _ _ _ _ _), (Own.nil _ _ _ _ _), hb51, hb46, apart_none, apart_none, apart_none, apart_none, apart_none⟩ ?_)
 rintro k52 _ w53 ⟨env1, j, lu, rv, ls, rs, GL1, rfl, hk54, hX55, hlek52, hj, hls, hrs, hll, hrl, hw56, hw57, hw58, hw59, ha60, ha61, ha62, ha63, ha64⟩
 refine zE (zE (zF ?_))
 refine qD rfl (zB (v := (.int .i64 (j : Int))) rfl) (qD rfl (zN (k := 0) rfl eU rfl nz24 rfl) (qD rfl (zM (u := v) ag24 rfl ((dN hX55.pins (dM hx24.le hlek52)) _ _ _ (hbp12 0 _ rfl))) (qD rfl (zP eS (v := v) rfl hv) (qD rfl (yQ rfl rfl) (qe (zA ?_))))))
 refine yF (p := ((j : Int) : Int) < (ns.length : Int)) rfl rfl (fun h65 => ?_) (fun h65 => ?_)
 have hso := hsm.opts j (by omega)
 refine wp_skip (zA (zE ?_))
 refine zX (zE (yZ (S := fun wz => BxR wz b35 [lu, rv] ∧ Pins GL1 wz) (last := 13) (by kernel_rfl) rfl ?_))
 have hl66 := bdr w53
 have hp67 := hX55.pins.below hl66
 have hX68 := hX55.step hp67 hl66
 have ho69 := hw56.below hl66
 have ho70 := hw57.below hl66
 have hb71 := hw58.below hl66
 have hb72 := hw59.below hl66
 refine dT (i := 0) rfl rfl (by kernel_rfl) (fun _ _ => zN (k := 0) rfl eW rfl nz29 rfl) ⟨hb72.reads, hX68.pins⟩ ?_
 refine dT (i := 1) rfl rfl (by kernel_rfl) (fun _ hS => zM (u := lu) ag29 rfl (hS.1 0 _ rfl)) ⟨hb72.reads, hX68.pins⟩ ?_
 refine dT (i := 3) rfl rfl (by kernel_rfl) (fun _ _ => zN (k := 0) rfl eU rfl nz24 rfl) ⟨hb72.reads, hX68.pins⟩ ?_
 refine dT (i := 4) rfl rfl (by kernel_rfl) (fun _ hS => zM (u := v) ag24 rfl ((dN hS.2 (dM hx24.le hlek52)) _ _ _ (hbp12 0 _ rfl))) ⟨hb72.reads, hX68.pins⟩ ?_
 refine dT (i := 5) rfl rfl (by kernel_rfl) (fun _ _ => zB (v := (.int .i64 (j : Int))) rfl) ⟨hb72.reads, hX68.pins⟩ ?_
 refine dT (i := 6) rfl rfl (by kernel_rfl) (fun _ _ => zL eS sz46 (v := v) rfl rfl hv (by omega) (by omega)) ⟨hb72.reads, hX68.pins⟩ ?_
 refine dT (i := 7) rfl rfl (by kernel_rfl) (fun _ _ => xG (off := 0) eV rfl rfl nz44 (z := (j : Int)) (k := 0) rfl hv (by omega) (by omega)) ⟨hb72.reads, hX68.pins⟩ ?_
 obtain ⟨u73, hr74, hl75⟩ := kK (hv.at (z := (j : Int)) (by omega) (by omega)) (j := j) rfl
 have hm76 := hr74.max
 refine dT (i := 8) rfl rfl (by kernel_rfl) (fun _ hS => hl75 ag44 rfl (dN hS.2 (dM (dM hle10 hx24.le) hlek52))) ⟨hb72.reads, hX68.pins⟩ ?_
 refine zQ (i := 2) (by kernel_rfl) (zV (i := 2) rfl rfl rfl (zG rfl _) (yR (E := eInt) (e := 3) eR sz3 hX68.pins (fun u77 w78 ho79 hp80 hl81 hk82 => ?_)))
 have hX83 := hX68.step hp80 hl81
 have ho84 := ho69.below hl81
 have ho85 := ho70.below hl81
 have hb86 := hb71.below hl81
 have hb87 := hb72.below hl81
 have ha88 : Apart u77.ownBlock lu.ownBlock := zI hk82 ho69.lt
 have ha89 : Apart u77.ownBlock rv.ownBlock := zI hk82 ho70.lt
 have ha90 : Apart u77.ownBlock (some b14) := zK hk82 hb71.lt
 have ha91 : Apart u77.ownBlock (some b35) := zK hk82 hb72.lt
 have ho92 := ho79.weaken hX68.size
 refine ⟨fun _ => ⟨hb87.reads, hX83.pins⟩, ?_⟩
 refine zQ (i := 9) (by kernel_rfl) (zV (i := 9) rfl rfl rfl (zG rfl _) (zU (E := eInt) (v := u77) (u := u73) 8 eR ap3 (by decide) rfl rfl hX83.pins ho92 ((hr74.mono (dM (dM hle10 hx24.le) hlek52)).src hX83.pins (by decide)) (by first | omega | (rw [List.nil_append]; omega) | (rw [List.length_nil]; omega) | (rw [List.length_append]; omega) | (simp; done) | (simp; omega) | (simp only [List.length_cons, List.length_nil]; omega) | (simp only [List.length_append, List.length_cons, List.length_nil]; omega)) (by first | omega | (rw [List.nil_append]; omega) | (rw [List.length_nil]; omega) | (rw [List.length_append]; omega) | (simp; done) | (simp; omega) | (simp only [List.length_cons, List.length_nil]; omega) | (simp only [List.length_append, List.length_cons, List.length_nil]; omega)) (hX83.size) (fun u93 w94 ho95 hp96 hg97 hw98 => ?_)))
 have hX99 := hX83.write hp96 hg97 ((yB ho92))
 have ho100 := ho84.keptA hg97 ha88.symm
 have ho101 := ho85.keptA hg97 ha89.symm
 have hb102 := hb86.keptA hg97 ha90.symm
 have hb103 := hb87.keptA hg97 ha91.symm
 have ha104 : Apart lu.ownBlock u93.ownBlock := zH ha88.symm hw98 ho84.lt
 have ha105 : Apart rv.ownBlock u93.ownBlock := zH ha89.symm hw98 ho85.lt
 have ha106 : Apart (some b14) u93.ownBlock := zJ ha90.symm hw98 hb86.lt
 have ha107 : Apart (some b35) u93.ownBlock := zJ ha91.symm hw98 hb87.lt
 have hm108 := la2 ([]) ((ns.getD j default).l)
 refine ⟨fun _ => ⟨hb103.reads, hX99.pins⟩, ?_⟩
 obtain ⟨G109, hle112, hX111, hr110, hf113⟩ := ho95.sealed hX99
 have ho114 := ho100.moreO hle112 hf113 ha104
 have ho115 := ho101.moreO hle112 hf113 ha105
 have hb116 := hb102.moreO hf113 ha106
 have hb117 := hb103.moreO hf113 ha107
 refine zQ (i := 10) (by kernel_rfl) (zV (i := 10) rfl rfl rfl (zG rfl _) (yL (E := (eSl eInt)) (e := 44) [u93] [([]) ++ ((ns.getD j default).l)] eT sz44 zr44 (by exact xM (⟨_, rfl, hr110⟩)) (yO hr110.one) rfl rfl rfl rfl (by decide) hX111.pins (fun u118 w119 ho120 hp121 hl122 hk123 => ?_)))
 have hX124 := hX111.step hp121 hl122
 have ho125 := ho114.below hl122
 have ho126 := ho115.below hl122
 have hb127 := hb116.below hl122
 have hb128 := hb117.below hl122
 have ho133 := ho120.weaken hX111.size
 refine ⟨fun _ => ⟨hb128.reads, (dN hX124.pins hle112)⟩, ?_⟩
 refine zQ (i := 11) (by kernel_rfl) (zV (i := 11) rfl rfl rfl (zG rfl _) (zU (E := (eSl eInt)) (v := lu) (u := u118) 24 eT ap44 (by decide) rfl rfl hX124.pins ho125 ho133.src (by first | omega | (rw [List.nil_append]; omega) | (rw [List.length_nil]; omega) | (rw [List.length_append]; omega) | (simp; done) | (simp; omega) | (simp only [List.length_cons, List.length_nil]; omega) | (simp only [List.length_append, List.length_cons, List.length_nil]; omega)) (by first | omega | (rw [List.nil_append]; omega) | (rw [List.length_nil]; omega) | (rw [List.length_append]; omega) | (simp; done) | (simp; omega) | (simp only [List.length_cons, List.length_nil]; omega) | (simp only [List.length_append, List.length_cons, List.length_nil]; omega)) (hX124.size) (fun u134 w135 ho136 hp137 hg138 hw139 => ?_)))
 have hX140 := hX124.write hp137 hg138 ((yB ho125))
 have ho141 := ho126.keptA hg138 ha60.symm
 have hb143 := hb127.keptA hg138 ha61.symm
 have hb144 := hb128.keptA hg138 ha62.symm
 have ha145 : Apart rv.ownBlock u134.ownBlock := zH ha60.symm hw139 ho126.lt
 have ha147 : Apart (some b14) u134.ownBlock := zJ ha61.symm hw139 hb127.lt
 have ha148 : Apart (some b35) u134.ownBlock := zJ ha62.symm hw139 hb128.lt
 have hm149 := la1 ls (([]) ++ ((ns.getD j default).l))
 refine ⟨fun _ => ⟨hb144.reads, (dN hX140.pins hle112)⟩, ?_⟩
 refine dT (i := 12) rfl rfl (by kernel_rfl) (fun _ _ => zN (k := 0) rfl eW rfl nz29 rfl) ⟨hb144.reads, (dN hX140.pins hle112)⟩ ?_
 refine zQ (i := 13) (by kernel_rfl) (xX (i := 13) rfl rfl rfl (zG rfl _) (o_stp (cs' := [u134, rv]) (us := [u134]) (v := u134) sz29 rfl rfl (qP ho136.one) (yO ho136.one) hX140.pins hb144 (dP rfl) rfl (fun w150 hb151 hp152 hg153 hz154 => ?_)))
 have hX155 := hX140.write hp152 hg153 ((yG hlo44))
 have ho156 := ho141.keptA hg153 ha64
 have ho157 := ho136.keptA hg153 ha148.symm
 have hb158 := hb143.keptA hg153 ha43.symm
 refine ⟨fun h => absurd rfl h, ?_⟩
 refine yP (by kernel_rfl) (zA (yZ (S := fun wz => BxR wz b35 [u134, rv] ∧ Pins G109 wz) (last := 13) (by kernel_rfl) rfl ?_))
 have hl159 := bdr w150
 have hp160 := hX155.pins.below hl159
 have hX161 := hX155.step hp160 hl159
 have ho162 := ho156.below hl159
 have ho163 := ho157.below hl159
 have hb164 := hb158.below hl159
 have hb165 := hb151.below hl159
 refine dT (i := 0) rfl rfl (by kernel_rfl) (fun _ _ => zN (k := 1) rfl eW rfl nz29 rfl) ⟨hb165.reads, hX161.pins⟩ ?_
 refine dT (i := 1) rfl rfl (by kernel_rfl) (fun _ hS => zM (u := rv) ag29 rfl (hS.1 1 _ rfl)) ⟨hb165.reads, hX161.pins⟩ ?_
 refine dT (i := 3) rfl rfl (by kernel_rfl) (fun _ _ => zN (k := 0) rfl eU rfl nz24 rfl) ⟨hb165.reads, hX161.pins⟩ ?_
 refine dT (i := 4) rfl rfl (by kernel_rfl) (fun _ hS => zM (u := v) ag24 rfl ((dN hS.2 (dM (dM hx24.le hlek52) hle112)) _ _ _ (hbp12 0 _ rfl))) ⟨hb165.reads, hX161.pins⟩ ?_
 refine dT (i := 5) rfl rfl (by kernel_rfl) (fun _ _ => zB (v := (.int .i64 (j : Int))) rfl) ⟨hb165.reads, hX161.pins⟩ ?_
 refine dT (i := 6) rfl rfl (by kernel_rfl) (fun _ _ => zL eS sz46 (v := v) rfl rfl hv (by omega) (by omega)) ⟨hb165.reads, hX161.pins⟩ ?_
 refine dT (i := 7) rfl rfl (by kernel_rfl) (fun _ _ => xG (off := 1) eV rfl rfl nz44 (z := (j : Int)) (k := 0) rfl hv (by omega) (by omega)) ⟨hb165.reads, hX161.pins⟩ ?_
 obtain ⟨u166, hr167, hl168⟩ := kR (hv.at (z := (j : Int)) (by omega) (by omega)) (j := j) rfl
 have hm169 := hr167.max
 refine dT (i := 8) rfl rfl (by kernel_rfl) (fun _ hS => hl168 ag44 rfl (dN hS.2 (dM (dM (dM hle10 hx24.le) hlek52) hle112))) ⟨hb165.reads, hX161.pins⟩ ?_
 refine zQ (i := 2) (by kernel_rfl) (zV (i := 2) rfl rfl rfl (zG rfl _) (yR (E := eInt) (e := 3) eR sz3 hX161.pins (fun u170 w171 ho172 hp173 hl174 hk175 => ?_)))
 have hX176 := hX161.step hp173 hl174
 have ho177 := ho162.below hl174
 have ho178 := ho163.below hl174
 have hb179 := hb164.below hl174
 have hb180 := hb165.below hl174
 have ha181 : Apart u170.ownBlock rv.ownBlock := zI hk175 ho162.lt
 have ha182 : Apart u170.ownBlock u134.ownBlock := zI hk175 ho163.lt
 have ha183 : Apart u170.ownBlock (some b14) := zK hk175 hb164.lt
 have ha184 : Apart u170.ownBlock (some b35) := zK hk175 hb165.lt
 have ho185 := ho172.weaken hX161.size
 refine ⟨fun _ => ⟨hb180.reads, hX176.pins⟩, ?_⟩
 refine zQ (i := 9) (by kernel_rfl) (zV (i := 9) rfl rfl rfl (zG rfl _) (zU (E := eInt) (v := u170) (u := u166) 8 eR ap3 (by decide) rfl rfl hX176.pins ho185 ((hr167.mono (dM (dM (dM hle10 hx24.le) hlek52) hle112)).src hX176.pins (by decide)) (by first | omega | (rw [List.nil_append]; omega) | (rw [List.length_nil]; omega) | (rw [List.length_append]; omega) | (simp; done) | (simp; omega) | (simp only [List.length_cons, List.length_nil]; omega) | (simp only [List.length_append, List.length_cons, List.length_nil]; omega)) (by first | omega | (rw [List.nil_append]; omega) | (rw [List.length_nil]; omega) | (rw [List.length_append]; omega) | (simp; done) | (simp; omega) | (simp only [List.length_cons, List.length_nil]; omega) | (simp only [List.length_append, List.length_cons, List.length_nil]; omega)) (hX176.size) (fun u186 w187 ho188 hp189 hg190 hw191 => ?_)))
 have hX192 := hX176.write hp189 hg190 ((yB ho185))
 have ho193 := ho177.keptA hg190 ha181.symm
 have ho194 := ho178.keptA hg190 ha182.symm
 have hb195 := hb179.keptA hg190 ha183.symm
 have hb196 := hb180.keptA hg190 ha184.symm
 have ha197 : Apart rv.ownBlock u186.ownBlock := zH ha181.symm hw191 ho177.lt
 have ha198 : Apart u134.ownBlock u186.ownBlock := zH ha182.symm hw191 ho178.lt
 have ha199 : Apart (some b14) u186.ownBlock := zJ ha183.symm hw191 hb179.lt
 have ha200 : Apart (some b35) u186.ownBlock := zJ ha184.symm hw191 hb180.lt
 have hm201 := la2 ([]) ((ns.getD j default).r)
 refine ⟨fun _ => ⟨hb196.reads, hX192.pins⟩, ?_⟩
 obtain ⟨G202, hle205, hX204, hr203, hf206⟩ := ho188.sealed hX192
 have ho207 := ho193.moreO hle205 hf206 ha197
 have ho208 := ho194.moreO hle205 hf206 ha198
 have hb209 := hb195.moreO hf206 ha199
 have hb210 := hb196.moreO hf206 ha200
 refine zQ (i := 10) (by kernel_rfl) (zV (i := 10) rfl rfl rfl (zG rfl _) (yL (E := (eSl eInt)) (e := 44) [u186] [([]) ++ ((ns.getD j default).r)] eT sz44 zr44 (by exact xM (⟨_, rfl, hr203⟩)) (yO hr203.one) rfl rfl rfl rfl (by decide) hX204.pins (fun u211 w212 ho213 hp214 hl215 hk216 => ?_)))
 have hX217 := hX204.step hp214 hl215
 have ho218 := ho207.below hl215
 have ho219 := ho208.below hl215
 have hb220 := hb209.below hl215
 have hb221 := hb210.below hl215
 have ho226 := ho213.weaken hX204.size
 refine ⟨fun _ => ⟨hb221.reads, (dN hX217.pins hle205)⟩, ?_⟩
 refine zQ (i := 11) (by kernel_rfl) (zV (i := 11) rfl rfl rfl (zG rfl _) (zU (E := (eSl eInt)) (v := rv) (u := u211) 24 eT ap44 (by decide) rfl rfl hX217.pins ho218 ho226.src (by first | omega | (rw [List.nil_append]; omega) | (rw [List.length_nil]; omega) | (rw [List.length_append]; omega) | (simp; done) | (simp; omega) | (simp only [List.length_cons, List.length_nil]; omega) | (simp only [List.length_append, List.length_cons, List.length_nil]; omega)) (by first | omega | (rw [List.nil_append]; omega) | (rw [List.length_nil]; omega) | (rw [List.length_append]; omega) | (simp; done) | (simp; omega) | (simp only [List.length_cons, List.length_nil]; omega) | (simp only [List.length_append, List.length_cons, List.length_nil]; omega)) (hX217.size) (fun u227 w228 ho229 hp230 hg231 hw232 => ?_)))
 have hX233 := hX217.write hp230 hg231 ((yB ho218))
 have ho234 := ho219.keptA hg231 ha145.symm
 have hb236 := hb220.keptA hg231 ha63.symm
 have hb237 := hb221.keptA hg231 ha64.symm
 have ha238 : Apart u134.ownBlock u227.ownBlock := zH ha145.symm hw232 ho219.lt
 have ha240 : Apart (some b14) u227.ownBlock := zJ ha63.symm hw232 hb220.lt
 have ha241 : Apart (some b35) u227.ownBlock := zJ ha64.symm hw232 hb221.lt
 have hm242 := la1 rs (([]) ++ ((ns.getD j default).r))
 refine ⟨fun _ => ⟨hb237.reads, (dN hX233.pins hle205)⟩, ?_⟩
 refine dT (i := 12) rfl rfl (by kernel_rfl) (fun _ _ => zN (k := 1) rfl eW rfl nz29 rfl) ⟨hb237.reads, (dN hX233.pins hle205)⟩ ?_
 refine zQ (i := 13) (by kernel_rfl) (xX (i := 13) rfl rfl rfl (zG rfl _) (o_stp (cs' := [u134, u227]) (us := [u227]) (v := u227) sz29 rfl rfl (qP ho229.one) (yO ho229.one) hX233.pins hb237 (dP rfl) rfl (fun w243 hb244 hp245 hg246 hz247 => ?_)))
 have hX248 := hX233.write hp245 hg246 ((yG hlo44))
 have ho249 := ho234.keptA hg246 ha148.symm
 have ho250 := ho229.keptA hg246 ha241.symm
 have hb251 := hb236.keptA hg246 ha43.symm
 refine ⟨fun h => absurd rfl h, ?_⟩
 refine yP (by kernel_rfl) (yC (zA (zF ?_)))
 refine qD rfl (zB (v := (.int .i64 (j : Int))) rfl) (qD rfl (yH rfl rfl (by omega)) (qD rfl (zD (v := (.int .i64 ((j : Int) + 1))) rfl) (qe (yE (⟨_, ?_, _, rfl, _, j + 1, u134, u227, ls ++ [[] ++ (ns.getD j default).l], rs ++ [[] ++ (ns.getD j default).r], G202, (zC (x := 5) (zC (x := 4) (zC (x := 3) (zC (x := 2) (zS (x := 1) rfl) rfl) rfl) rfl) rfl), rfl, hX248, (dM (dM hlek52 hle112) hle205), (by omega), (by rw [hls]; exact vS (f := Nd.l) default (by omega)), (by rw [hrs]; exact vS (f := Nd.r) default (by omega)), (by simp; omega), (by simp; omega), ho249, ho250, hb251, hb244, ha238, ha147.symm, ha148.symm, ha240.symm, ha241.symm⟩)))))
 omega
 refine wp_exit (zZ (yJ (yI (zA (zE (zF ?_))))))
 refine qD rfl (yK (cs := [lu, rv]) ag31 sz31 rfl (fun j u hj => hw59.cell (by simpa using hj))) (q0 rfl rfl rfl (o_stp (cs' := [lu, rv]) (us := [lu, rv]) (v := (.agg [lu, rv].toArray)) sz31 rfl rfl rfl (xO hw56.one hw57.one) hX55.pins hw58 (dP rfl) rfl (fun w252 hb253 hp254 hg255 hz256 => ?_)))
 have hX257 := hX55.write hp254 hg255 ((yG hlo21))
 have ho258 := hw56.keptA hg255 ha61
 have ho259 := hw57.keptA hg255 ha63
 refine qD rfl (zD (v := (.bool true)) rfl) (qe (zA ?_))
 refine wp_ret (zW (vL (cs := [lu, rv]) (v := (.bool true)) rfl rfl rfl rfl rfl ag31 sz31 (fun j u hj => by rw [Nat.zero_add]; exact hb253.cell hj) ?_))
 obtain ⟨G261, hle264, hX263, hr262, hf265⟩ := ho258.sealed hX257
 have ho266 := ho259.moreO hle264 hf265 ha60.symm
 obtain ⟨G269, hle272, hX271, hr270, hf273⟩ := ho266.sealed hX263
 obtain ⟨e1, e2, e3⟩ := pK (ns := ns) ((pQ ns).symm.trans h27) h28
 rw [e1, e2, e3]
 rw [qA (by omega)] at hls hrs
 rw [← hls, ← hrs]
 exact ⟨_, _, _, rfl, (hr262.mono hle272), hr270, hX271⟩
 refine qs rfl rfl rfl rfl rfl rfl (qs rfl rfl rfl rfl rfl rfl (qs rfl rfl rfl rfl rfl rfl (qs rfl rfl rfl rfl rfl rfl (qD rfl (yW (v := (.bool true)) rfl rfl) (qe (zA ?_))))))
 refine qZ rfl rfl (zE (zF ?_))
 refine qD rfl (xR [(.slice none 0 0), (.slice none 0 0)] [(.slice none 0 0), (.slice none 0 0)] [] eW zr31 rfl pl31 rfl (fun _ h => by cases h) rfl) (q0 rfl rfl rfl (o_stp (cs' := [(.slice none 0 0), (.slice none 0 0)]) (us := [(.slice none 0 0), (.slice none 0 0)]) (v := (.agg [(.slice none 0 0), (.slice none 0 0)].toArray)) sz31 rfl rfl rfl (xO (by rfl) (by rfl)) hX25.pins hb26 (dP rfl) rfl (fun w276 hb277 hp278 hg279 hz280 => ?_)))
 have hX281 := hX25.write hp278 hg279 ((yG hlo21))
 refine qD rfl (zD (v := (.bool false)) rfl) (qe (zA ?_))
 refine wp_ret (zW (vL (cs := [(.slice none 0 0), (.slice none 0 0)]) (v := (.bool false)) rfl rfl rfl rfl rfl ag31 sz31 (fun j u hj => by rw [Nat.zero_add]; exact hb277.cell hj) ?_))
 obtain ⟨e1, e2, e3⟩ := lp_no (ns := ns) (Or.inl ((pQ ns).symm.trans h27))
 rw [e1, e2, e3]
 exact ⟨_, _, _, rfl, qR _ _, qR _ _, hX281⟩
theorem mQ {w : World} (hP : Pins G w) (hv : RSl eNode G v ns) :
  Calls Tryz.prog 7 [(.agg [v].toArray)].toArray w fun e w' => ∃ (u v : Value) (G' : Pin), e = .returned (.tuple #[.agg [u, v].toArray, .bool (lpOk ns)]) ∧ DLoop 44 3 G' w' w.heap.size w'.heap.size u v (lpL ns) (lpR ns) ∧ Ext noS G w G' w' := by
 refine yD (n := 43) Tryz.func7 Tryz.ntmps7 rfl rfl ?_
 have hX0 := exr noS hP
 have hlv0 : Lvs 3 G w w.heap.size w.heap.size [] := Lvs.nil
 refine zE (zF ?_)
 refine qI rfl (xY [v] (v := (.agg [v].toArray)) rfl rfl hX0.pins (fun b1 w2 hk3 hb4 hp5 hl6 => ?_))
 have hX7 := hX0.step hp5 hl6
 have hlv8 := (hlv0.below hl6).top
 have ha9 : ApL [] (some b1) := ApL.fresh hlv0 (fun k hk => by rw [(congrArg some hk3)] at hk; cases hk; exact Nat.le_refl _)
 have hlo10 : w.heap.size ≤ b1 := by have := hX0.size; omega
 obtain ⟨G11, hle12, hX13, hbp14, hf15⟩ := hb4.shut hX7 hlo10
 have hlv16 := hlv8.more hle12 hf15 ha9
 refine qI rfl (yN [(.slice none 0 0), (.slice none 0 0)] zr31 rfl hX13.pins (fun b17 w18 hk19 hb20 hp21 hl22 => ?_))
 have hX23 := hX13.step hp21 hl22
 have hlv24 := (hlv16.below hl22).top
 have ha25 : ApL [] (some b17) := ApL.fresh hlv16 (fun k hk => by rw [(congrArg some hk19)] at hk; cases hk; exact Nat.le_refl _)
 have hlo26 : w.heap.size ≤ b17 := by have := hX13.size; omega
 refine qD rfl (zD (v := (.bool false)) rfl) (qe (zA (zE (zE (zF ?_)))))
 refine qD rfl (yK (cs := [v]) ag26 sz26 rfl (fun j u hj => hX23.pins _ _ _ (hbp14 _ _ (by simpa using hj)))) (qI rfl (zR (vs := [(.agg [v].toArray)]) Tryz.func14 nm14 rfl rfl rfl ?_))
 refine dO (vN hX23.pins (hv.mono hle12)) ?_
 rintro _ w28 ⟨G27, rfl, hx29⟩
 refine ⟨_, rfl, ?_⟩
 have hX30 := hX23.tr hx29
 have hb31 := hb20.ext hx29
 have hlv32 := (hlv24.ext hx29).top
 refine qD rfl (qE rfl) (qD rfl (zB (v := (.bool (!(goodB ns)))) rfl) (qbn (t := 10) rfl (fun h33 => ?_) (fun h33 => ?_)))
 refine qdg rfl rfl rfl rfl rfl rfl (zN (k := 0) rfl eU rfl nz24 rfl) (qdg rfl rfl rfl rfl rfl rfl (zM (u := v) ag24 rfl ((dN hX30.pins hx29.le) _ _ _ (hbp14 0 _ rfl))) (qdg rfl rfl rfl rfl rfl rfl (zP eS (v := v) rfl hv) (qdg rfl rfl rfl rfl rfl rfl (jC rfl rfl) (qD rfl (yS (v := (.bool (decide ((36 : Int) < (ns.length : Int))))) rfl rfl) (qe (zA ?_))))))
 refine yF (p := (36 : Int) < (ns.length : Int)) rfl rfl (fun h34 => ?_) (fun h34 => ?_)
 refine zE (zF ?_)
 refine qD rfl (xR [(.slice none 0 0), (.slice none 0 0)] [(.slice none 0 0), (.slice none 0 0)] [] eW zr31 rfl pl31 rfl (fun _ h => by cases h) rfl) (q0 rfl rfl rfl (o_stp (cs' := [(.slice none 0 0), (.slice none 0 0)]) (us := [(.slice none 0 0), (.slice none 0 0)]) (v := (.agg [(.slice none 0 0), (.slice none 0 0)].toArray)) sz31 rfl rfl rfl (xO (by rfl) (by rfl)) hX30.pins hb31 (dP rfl) rfl (fun w35 hb36 hp37 hg38 hz39 => ?_)))
 have hX40 := hX30.write hp37 hg38 ((yG hlo26))
 refine qD rfl (zD (v := (.bool false)) rfl) (qe (zA ?_))
 refine wp_ret (zW (vL (cs := [(.slice none 0 0), (.slice none 0 0)]) (v := (.bool false)) rfl rfl rfl rfl rfl ag31 sz31 (fun j u hj => by rw [Nat.zero_add]; exact hb36.cell hj) ?_))
 obtain ⟨e1, e2, e3⟩ := lp_no (ns := ns) (Or.inr h34)
 rw [e1, e2, e3]
 exact ⟨_, _, _, rfl, ⟨[], [], rfl, rfl, Own.nil _ _ _ _ _, Own.nil _ _ _ _ _, fun k hk => (by cases hk), fun k hk => (by cases hk), Lvs.nil, ApL.nil, ApL.nil, apart_none⟩, hX40⟩
 refine wp_skip (zA (zE (zF ?_)))
 refine qD rfl (xR [(.slice none 0 0), (.slice none 0 0)] [(.slice none 0 0), (.slice none 0 0)] [] eW zr31 rfl pl31 rfl (fun _ h => by cases h) rfl) ?_
 have hsm := mF (goodB_true.1 h33)
 have hln := hsm.len
 refine qI rfl (yN [(.slice none 0 0), (.slice none 0 0)] zr31 rfl hX30.pins (fun b42 w43 hk44 hb45 hp46 hl47 => ?_))
 have hX48 := hX30.step hp46 hl47
 have hb49 := hb31.below hl47
 have hlv50 := (hlv32.below hl47).top
 have ha51 : Apart (some b42) (some b17) := zK (congrArg some hk44) hb31.lt
 have ha52 : ApL [] (some b42) := ApL.fresh hlv32 (fun k hk => by rw [(congrArg some hk44)] at hk; cases hk; exact Nat.le_refl _)
 have hlo53 : w.heap.size ≤ b42 := by have := hX30.size; omega
 refine q0 rfl rfl rfl (o_stp (cs' := [(.slice none 0 0), (.slice none 0 0)]) (us := [(.slice none 0 0), (.slice none 0 0)]) (v := (.agg [(.slice none 0 0), (.slice none 0 0)].toArray)) sz31 rfl rfl rfl (xO (by rfl) (by rfl)) hX48.pins hb45 (dP rfl) rfl (fun w54 hb55 hp56 hg57 hz58 => ?_))
 have hX59 := hX48.write hp56 hg57 ((yG hlo53))
 have hb60 := hb49.keptA hg57 ha51.symm
 have hlv61 := (hlv50.kept hg57 ha52).top
 refine qe (zA (zE (zE (zF ?_))))
 refine qD rfl (zN (k := 0) rfl eU rfl nz24 rfl) (qD rfl (zM (u := v) ag24 rfl ((dN hX59.pins hx29.le) _ _ _ (hbp14 0 _ rfl))) (qD rfl (zP eS (v := v) rfl hv) (qD rfl (zB (v := (.int .i64 0)) rfl) (qe (zA ?_)))))
 refine zX (yM (fun (k : Nat) (en : Nat → Value) (W : World) => ∃ (env1 : Nat → Value) (j : Nat) (lu : Value) (rv : Value) (us : List Value) (vs : List Value) (LV : List Leaf) (GL1 : Pin), en = (upd (upd (upd (upd (upd (upd env1 2 (.pointer (some ⟨b17, 0, none⟩))) 3 (.bool false)) 4 (.pointer (some ⟨b42, 0, none⟩))) 19 v) 20 (.int .i64 (ns.length : Int))) 21 (.int .i64 (j : Int))) ∧ k = ns.length - j ∧ Ext noS G w GL1 W ∧ Pin.le G27 GL1 ∧ (j ≤ ns.length) ∧ (LV = lvN (us.zip vs) (ns.take j)) ∧ (us.length = j) ∧ (vs.length = j) ∧ (Own eVal 44 GL1 W w.heap.size lu (us)) ∧ (Own eVal 44 GL1 W w.heap.size rv (vs)) ∧ (Bx GL1 W b17 [(.slice none 0 0), (.slice none 0 0)]) ∧ (Bx GL1 W b42 [lu, rv]) ∧ (Apart lu.ownBlock rv.ownBlock) ∧ (Apart lu.ownBlock (some b17)) ∧ (Apart lu.ownBlock (some b42)) ∧ (Apart rv.ownBlock (some b17)) ∧ (Apart rv.ownBlock (some b42)) ∧ (Lvs 3 GL1 W w.heap.size W.heap.size LV) ∧ (ApL LV lu.ownBlock) ∧ (ApL LV rv.ownBlock) ∧ (ApL LV (some b17)) ∧ (ApL LV (some b42))) _ ⟨_, 0, (.slice none 0 0), (.slice none 0 0), [], [], [], G27, (zC (x := 21) (zC (x := 20) (zC (x := 19) (zC (x := 4) (zC (x := 3) (zS (x := 2) rfl) rfl) rfl) rfl) rfl) rfl), rfl, hX59, Pin.le_refl _, Nat.zero_le _, rfl, rfl, rfl, (Own.nil _ _ _ _ _), (Own.nil _ _ _ _ _), hb60, hb55, apart_none, apart_none, apart_none, apart_none, apart_none, hlv61, (fun _ _ => apart_none.symm), (fun _ _ => apart_none.symm), ha25, ha52⟩ ?_)
 rintro k62 _ w63 ⟨env1, j, lu, rv, us, vs, LV, GL1, rfl, hk64, hX65, hlek62, hj, hLV, hul, hvl, hw66, hw67, hw68, hw69, ha70, ha71, ha72, ha73, ha74, hlv75, ha76, ha77, ha78, ha79⟩
 refine zE (zF ?_)
 refine qD rfl (yQ rfl rfl) (qe (zA (zE ?_)))
 refine yF (p := ((j : Int) : Int) < (ns.length : Int)) rfl rfl (fun h80 => ?_) (fun h80 => ?_)
 have hso := hsm.opts j (by omega)
 refine wp_skip (zA (zE ?_))
 refine zX (zE (zF ?_))
 refine qD rfl (zL eS sz46 (v := v) rfl rfl hv (by omega) (by omega)) ?_
 obtain ⟨u81, u82, hr83, hr84, hl85⟩ := jL (hv.at (z := (j : Int)) (by omega) (by omega)) (j := j) rfl
 have hm86 := hr83.max
 have hm87 := hr84.max
 refine qD rfl (hl85 ag46 sz46 rfl (dN hX65.pins (dM (dM hle12 hx29.le) hlek62))) (qI rfl (yN [(.slice none 0 0), (.slice none 0 0)] zr46 rfl hX65.pins (fun b88 w89 hk90 hb91 hp92 hl93 => ?_)))
 have hX94 := hX65.step hp92 hl93
 have ho95 := hw66.below hl93
 have ho96 := hw67.below hl93
 have hb97 := hw68.below hl93
 have hb98 := hw69.below hl93
 have hlv99 := (hlv75.below hl93).top
 have ha100 : Apart (some b88) lu.ownBlock := zI (congrArg some hk90) hw66.lt
 have ha101 : Apart (some b88) rv.ownBlock := zI (congrArg some hk90) hw67.lt
 have ha102 : Apart (some b88) (some b17) := zK (congrArg some hk90) hw68.lt
 have ha103 : Apart (some b88) (some b42) := zK (congrArg some hk90) hw69.lt
 have ha104 : ApL LV (some b88) := ApL.fresh hlv75 (fun k hk => by rw [(congrArg some hk90)] at hk; cases hk; exact Nat.le_refl _)
 have hlo105 : w.heap.size ≤ b88 := by have := hX65.size; omega
 refine q0 rfl rfl rfl (o_stp (cs' := [u81, u82]) (us := [u81, u82]) (v := (.agg [u81, u82].toArray)) sz46 rfl rfl rfl (xO hr83.one hr84.one) hX94.pins hb91 (dP rfl) rfl (fun w106 hb107 hp108 hg109 hz110 => ?_))
 have hX111 := hX94.write hp108 hg109 ((yG hlo105))
 have ho112 := ho95.keptA hg109 ha100.symm
 have ho113 := ho96.keptA hg109 ha101.symm
 have hb114 := hb97.keptA hg109 ha102.symm
 have hb115 := hb98.keptA hg109 ha103.symm
 have hlv116 := (hlv99.kept hg109 ha104).top
 obtain ⟨G117, hle118, hX119, hbp120, hf121⟩ := hb107.shut hX111 hlo105
 have ho122 := ho112.moreA hle118 hf121 ha100.symm
 have ho123 := ho113.moreA hle118 hf121 ha101.symm
 have hb124 := hb114.moreA hf121 ha102.symm
 have hb125 := hb115.moreA hf121 ha103.symm
 have hlv126 := hlv116.more hle118 hf121 ha104
 refine qe (zA (zE ?_))
 refine yZ (S := fun wz => BxR wz b42 [lu, rv] ∧ Pins G117 wz) (last := 8) (by kernel_rfl) rfl ?_
 have hl127 := bdr w106
 have hp128 := hX119.pins.below hl127
 have hX129 := hX119.step hp128 hl127
 have ho130 := ho122.below hl127
 have ho131 := ho123.below hl127
 have hb132 := hb124.below hl127
 have hb133 := hb125.below hl127
 have hlv134 := (hlv126.below hl127).top
 refine dT (i := 0) rfl rfl (by kernel_rfl) (fun _ _ => zN (k := 0) rfl eW rfl nz29 rfl) ⟨hb133.reads, hX129.pins⟩ ?_
 refine dT (i := 1) rfl rfl (by kernel_rfl) (fun _ hS => zM (u := lu) ag29 rfl (hS.1 0 _ rfl)) ⟨hb133.reads, hX129.pins⟩ ?_
 refine dT (i := 2) rfl rfl (by kernel_rfl) (fun _ _ => zN (k := 0) rfl eV rfl nz44 rfl) ⟨hb133.reads, hX129.pins⟩ ?_
 refine dT (i := 3) rfl rfl (by kernel_rfl) (fun _ hS => zM (u := u81) ag44 rfl (hS.2 _ _ _ (hbp120 0 _ rfl))) ⟨hb133.reads, hX129.pins⟩ ?_
 refine zQ (i := 4) (by kernel_rfl) (zV (i := 4) rfl rfl rfl (zG rfl _) (zR (vs := [u81]) Tryz.func15 nm15 rfl rfl rfl ?_))
 refine dO (kF hX129.pins (hr83.mono (dM (dM (dM hle12 hx29.le) hlek62) hle118)) (by omega)) ?_
 rintro _ w137 ⟨u135, G136, rfl, ho138, hx139⟩
 refine ⟨_, rfl, ?_⟩
 have hX140 := hX129.tr hx139
 have ho141 := ho130.ext hx139
 have ho142 := ho131.ext hx139
 have hb143 := hb132.ext hx139
 have hb144 := hb133.ext hx139
 have hlv145 := (hlv134.ext hx139).top
 have ha146 : Apart u135.ownBlock lu.ownBlock := zY ho138.lt ho130.lt
 have ha147 : Apart u135.ownBlock rv.ownBlock := zY ho138.lt ho131.lt
 have ha148 : Apart u135.ownBlock (some b17) := yA ho138.lt hb132.lt
 have ha149 : Apart u135.ownBlock (some b42) := yA ho138.lt hb133.lt
 have ha150 : ApL LV u135.ownBlock := ApL.fresh hlv134 (fun k hk => (ho138.lt k hk).1)
 have ho151 := ho138.weaken hX129.size
 refine ⟨fun _ => ⟨hb144.reads, (dN hX140.pins hx139.le)⟩, ?_⟩
 refine zQ (i := 5) (by kernel_rfl) (zV (i := 5) rfl rfl rfl (zG rfl _) (yL (E := eVal) (e := 44) [u135] [u135] eT sz44 zr44 (by exact xM (⟨rfl, ho151.one⟩)) (yO ho151.one) rfl rfl rfl rfl (by decide) hX140.pins (fun u152 w153 ho154 hp155 hl156 hk157 => ?_)))
 have hX158 := hX140.step hp155 hl156
 have ho159 := ho141.below hl156
 have ho160 := ho142.below hl156
 have ho161 := ho151.below hl156
 have hb162 := hb143.below hl156
 have hb163 := hb144.below hl156
 have hlv164 := (hlv145.below hl156).top
 have ho171 := ho154.weaken hX140.size
 refine ⟨fun _ => ⟨hb163.reads, (dN hX158.pins hx139.le)⟩, ?_⟩
 refine zQ (i := 6) (by kernel_rfl) (zV (i := 6) rfl rfl rfl (zG rfl _) (zU (E := eVal) (v := lu) (u := u152) 24 eT ap44 (by decide) rfl rfl hX158.pins ho159 ho171.src (by first | omega | (rw [List.nil_append]; omega) | (rw [List.length_nil]; omega) | (rw [List.length_append]; omega) | (simp; done) | (simp; omega) | (simp only [List.length_cons, List.length_nil]; omega) | (simp only [List.length_append, List.length_cons, List.length_nil]; omega)) (by first | omega | (rw [List.nil_append]; omega) | (rw [List.length_nil]; omega) | (rw [List.length_append]; omega) | (simp; done) | (simp; omega) | (simp only [List.length_cons, List.length_nil]; omega) | (simp only [List.length_append, List.length_cons, List.length_nil]; omega)) (hX158.size) (fun u172 w173 ho174 hp175 hg176 hw177 => ?_)))
 have hX178 := hX158.write hp175 hg176 ((yB ho159))
 have ho179 := ho160.keptA hg176 ha70.symm
 have ho180 := ho161.keptA hg176 ha146
 have hb182 := hb162.keptA hg176 ha71.symm
 have hb183 := hb163.keptA hg176 ha72.symm
 have hlv184 := (hlv164.kept hg176 ha76).top
 have ha185 : Apart rv.ownBlock u172.ownBlock := zH ha70.symm hw177 ho160.lt
 have ha186 : Apart u135.ownBlock u172.ownBlock := zH ha146 hw177 ho161.lt
 have ha188 : Apart (some b17) u172.ownBlock := zJ ha71.symm hw177 hb162.lt
 have ha189 : Apart (some b42) u172.ownBlock := zJ ha72.symm hw177 hb163.lt
 have ha190 : ApL LV u172.ownBlock := ApL.app hlv164 ha76 hw177
 have hm191 := la1 us u135
 refine ⟨fun _ => ⟨hb183.reads, (dN hX178.pins hx139.le)⟩, ?_⟩
 refine dT (i := 7) rfl rfl (by kernel_rfl) (fun _ _ => zN (k := 0) rfl eW rfl nz29 rfl) ⟨hb183.reads, (dN hX178.pins hx139.le)⟩ ?_
 refine zQ (i := 8) (by kernel_rfl) (xX (i := 8) rfl rfl rfl (zG rfl _) (o_stp (cs' := [u172, rv]) (us := [u172]) (v := u172) sz29 rfl rfl (qP ho174.one) (yO ho174.one) hX178.pins hb183 (dP rfl) rfl (fun w192 hb193 hp194 hg195 hz196 => ?_)))
 have hX197 := hX178.write hp194 hg195 ((yG hlo53))
 have ho198 := ho179.keptA hg195 ha74
 have ho199 := ho180.keptA hg195 ha149
 have ho200 := ho174.keptA hg195 ha189.symm
 have hb201 := hb182.keptA hg195 ha51.symm
 have hlv202 := (hlv184.kept hg195 ha79).top
 refine ⟨fun h => absurd rfl h, ?_⟩
 refine yP (by kernel_rfl) (zA (yZ (S := fun wz => BxR wz b42 [u172, rv] ∧ Pins G136 wz) (last := 8) (by kernel_rfl) rfl ?_))
 have hl203 := bdr w192
 have hp204 := hX197.pins.below hl203
 have hX205 := hX197.step hp204 hl203
 have ho206 := ho198.below hl203
 have ho207 := ho199.below hl203
 have ho208 := ho200.below hl203
 have hb209 := hb201.below hl203
 have hb210 := hb193.below hl203
 have hlv211 := (hlv202.below hl203).top
 refine dT (i := 0) rfl rfl (by kernel_rfl) (fun _ _ => zN (k := 1) rfl eW rfl nz29 rfl) ⟨hb210.reads, hX205.pins⟩ ?_
 refine dT (i := 1) rfl rfl (by kernel_rfl) (fun _ hS => zM (u := rv) ag29 rfl (hS.1 1 _ rfl)) ⟨hb210.reads, hX205.pins⟩ ?_
 refine dT (i := 2) rfl rfl (by kernel_rfl) (fun _ _ => zN (k := 1) rfl eV rfl nz44 rfl) ⟨hb210.reads, hX205.pins⟩ ?_
 refine dT (i := 3) rfl rfl (by kernel_rfl) (fun _ hS => zM (u := u82) ag44 rfl ((dN hS.2 hx139.le) _ _ _ (hbp120 1 _ rfl))) ⟨hb210.reads, hX205.pins⟩ ?_
 refine zQ (i := 4) (by kernel_rfl) (zV (i := 4) rfl rfl rfl (zG rfl _) (zR (vs := [u82]) Tryz.func15 nm15 rfl rfl rfl ?_))
 refine dO (kF hX205.pins (hr84.mono (dM (dM (dM (dM hle12 hx29.le) hlek62) hle118) hx139.le)) (by omega)) ?_
 rintro _ w214 ⟨u212, G213, rfl, ho215, hx216⟩
 refine ⟨_, rfl, ?_⟩
 have hX217 := hX205.tr hx216
 have ho218 := ho206.ext hx216
 have ho219 := ho207.ext hx216
 have ho220 := ho208.ext hx216
 have hb221 := hb209.ext hx216
 have hb222 := hb210.ext hx216
 have hlv223 := (hlv211.ext hx216).top
 have ha224 : Apart u212.ownBlock rv.ownBlock := zY ho215.lt ho206.lt
 have ha225 : Apart u212.ownBlock u135.ownBlock := zY ho215.lt ho207.lt
 have ha226 : Apart u212.ownBlock u172.ownBlock := zY ho215.lt ho208.lt
 have ha227 : Apart u212.ownBlock (some b17) := yA ho215.lt hb209.lt
 have ha228 : Apart u212.ownBlock (some b42) := yA ho215.lt hb210.lt
 have ha229 : ApL LV u212.ownBlock := ApL.fresh hlv211 (fun k hk => (ho215.lt k hk).1)
 have ho230 := ho215.weaken hX205.size
 refine ⟨fun _ => ⟨hb222.reads, (dN hX217.pins hx216.le)⟩, ?_⟩
 refine zQ (i := 5) (by kernel_rfl) (zV (i := 5) rfl rfl rfl (zG rfl _) (yL (E := eVal) (e := 44) [u212] [u212] eT sz44 zr44 (by exact xM (⟨rfl, ho230.one⟩)) (yO ho230.one) rfl rfl rfl rfl (by decide) hX217.pins (fun u231 w232 ho233 hp234 hl235 hk236 => ?_)))
 have hX237 := hX217.step hp234 hl235
 have ho238 := ho218.below hl235
 have ho239 := ho219.below hl235
 have ho240 := ho220.below hl235
 have ho241 := ho230.below hl235
 have hb242 := hb221.below hl235
 have hb243 := hb222.below hl235
 have hlv244 := (hlv223.below hl235).top
 have ho252 := ho233.weaken hX217.size
 refine ⟨fun _ => ⟨hb243.reads, (dN hX237.pins hx216.le)⟩, ?_⟩
 refine zQ (i := 6) (by kernel_rfl) (zV (i := 6) rfl rfl rfl (zG rfl _) (zU (E := eVal) (v := rv) (u := u231) 24 eT ap44 (by decide) rfl rfl hX237.pins ho238 ho252.src (by first | omega | (rw [List.nil_append]; omega) | (rw [List.length_nil]; omega) | (rw [List.length_append]; omega) | (simp; done) | (simp; omega) | (simp only [List.length_cons, List.length_nil]; omega) | (simp only [List.length_append, List.length_cons, List.length_nil]; omega)) (by first | omega | (rw [List.nil_append]; omega) | (rw [List.length_nil]; omega) | (rw [List.length_append]; omega) | (simp; done) | (simp; omega) | (simp only [List.length_cons, List.length_nil]; omega) | (simp only [List.length_append, List.length_cons, List.length_nil]; omega)) (hX237.size) (fun u253 w254 ho255 hp256 hg257 hw258 => ?_)))
 have hX259 := hX237.write hp256 hg257 ((yB ho238))
 have ho260 := ho239.keptA hg257 ha147
 have ho261 := ho240.keptA hg257 ha185.symm
 have ho262 := ho241.keptA hg257 ha224
 have hb264 := hb242.keptA hg257 ha73.symm
 have hb265 := hb243.keptA hg257 ha74.symm
 have hlv266 := (hlv244.kept hg257 ha77).top
 have ha267 : Apart u135.ownBlock u253.ownBlock := zH ha147 hw258 ho239.lt
 have ha268 : Apart u172.ownBlock u253.ownBlock := zH ha185.symm hw258 ho240.lt
 have ha269 : Apart u212.ownBlock u253.ownBlock := zH ha224 hw258 ho241.lt
 have ha271 : Apart (some b17) u253.ownBlock := zJ ha73.symm hw258 hb242.lt
 have ha272 : Apart (some b42) u253.ownBlock := zJ ha74.symm hw258 hb243.lt
 have ha273 : ApL LV u253.ownBlock := ApL.app hlv244 ha77 hw258
 have hm274 := la1 vs u212
 refine ⟨fun _ => ⟨hb265.reads, (dN hX259.pins hx216.le)⟩, ?_⟩
 refine dT (i := 7) rfl rfl (by kernel_rfl) (fun _ _ => zN (k := 1) rfl eW rfl nz29 rfl) ⟨hb265.reads, (dN hX259.pins hx216.le)⟩ ?_
 refine zQ (i := 8) (by kernel_rfl) (xX (i := 8) rfl rfl rfl (zG rfl _) (o_stp (cs' := [u172, u253]) (us := [u253]) (v := u253) sz29 rfl rfl (qP ho255.one) (yO ho255.one) hX259.pins hb265 (dP rfl) rfl (fun w275 hb276 hp277 hg278 hz279 => ?_)))
 have hX280 := hX259.write hp277 hg278 ((yG hlo53))
 have ho281 := ho260.keptA hg278 ha149
 have ho282 := ho261.keptA hg278 ha189.symm
 have ho283 := ho262.keptA hg278 ha228
 have ho284 := ho255.keptA hg278 ha272.symm
 have hb285 := hb264.keptA hg278 ha51.symm
 have hlv286 := (hlv266.kept hg278 ha79).top
 refine ⟨fun h => absurd rfl h, ?_⟩
 refine yP (by kernel_rfl) (yC (zA (zF ?_)))
 refine qD rfl (yH rfl rfl (by omega)) (qD rfl (zB (v := (.int .i64 ((j : Int) + 1))) rfl) (qe (yE ?_)))
 have hlv287 := hlv286.add ho281 ha150
 have ha288 : ApL (LV ++ [(u135, (ns.getD j default).l)]) u172.ownBlock := ha190.add ha186
 have ha289 : ApL (LV ++ [(u135, (ns.getD j default).l)]) u212.ownBlock := ha229.add ha225.symm
 have ha290 : ApL (LV ++ [(u135, (ns.getD j default).l)]) u253.ownBlock := ha273.add ha267
 have ha291 : ApL (LV ++ [(u135, (ns.getD j default).l)]) (some b17) := ha78.add ha148
 have ha292 : ApL (LV ++ [(u135, (ns.getD j default).l)]) (some b42) := ha79.add ha149
 have hlv293 := hlv287.add ho283 ha289
 have ha294 : ApL ((LV ++ [(u135, (ns.getD j default).l)]) ++ [(u212, (ns.getD j default).r)]) u172.ownBlock := ha288.add ha226
 have ha295 : ApL ((LV ++ [(u135, (ns.getD j default).l)]) ++ [(u212, (ns.getD j default).r)]) u253.ownBlock := ha290.add ha269
 have ha296 : ApL ((LV ++ [(u135, (ns.getD j default).l)]) ++ [(u212, (ns.getD j default).r)]) (some b17) := ha291.add ha227
 have ha297 : ApL ((LV ++ [(u135, (ns.getD j default).l)]) ++ [(u212, (ns.getD j default).r)]) (some b42) := ha292.add ha228
 refine ⟨_, ?_, _, rfl, _, j + 1, u172, u253, us ++ [u135], vs ++ [u212], LV ++ [(u135, (ns.getD j default).l)] ++ [(u212, (ns.getD j default).r)], G213, (zC (x := 21) (zC (x := 20) (zC (x := 19) (zC (x := 4) (zC (x := 3) (zS (x := 2) rfl) rfl) rfl) rfl) rfl) rfl), rfl, hX280, (dM (dM (dM hlek62 hle118) hx139.le) hx216.le), (by omega), (lvN_zip hLV (by omega) hul hvl), (by simp; omega), (by simp; omega), ho282, ho284, hb285, hb276, ha268, ha188.symm, ha189.symm, ha271.symm, ha272.symm, hlv293, ha294, ha295, ha296, ha297⟩
 omega
 refine wp_exit (zZ (yJ (yI (zA (zE (zF ?_))))))
 refine qD rfl (yK (cs := [lu, rv]) ag31 sz31 rfl (fun j u hj => hw69.cell (by simpa using hj))) (q0 rfl rfl rfl (o_stp (cs' := [lu, rv]) (us := [lu, rv]) (v := (.agg [lu, rv].toArray)) sz31 rfl rfl rfl (xO hw66.one hw67.one) hX65.pins hw68 (dP rfl) rfl (fun w298 hb299 hp300 hg301 hz302 => ?_)))
 have hX303 := hX65.write hp300 hg301 ((yG hlo26))
 have ho304 := hw66.keptA hg301 ha71
 have ho305 := hw67.keptA hg301 ha73
 have hlv307 := (hlv75.kept hg301 ha78).top
 refine qD rfl (zD (v := (.bool true)) rfl) (qe (zA ?_))
 refine wp_ret (zW (vL (cs := [lu, rv]) (v := (.bool true)) rfl rfl rfl rfl rfl ag31 sz31 (fun j u hj => by rw [Nat.zero_add]; exact hb299.cell hj) ?_))
 have hjn : j = ns.length := by omega
 subst hjn
 have hpm := sV hul hvl
 rw [List.take_length] at hLV
 rw [← hLV] at hpm
 obtain ⟨e1, e2, e3⟩ := pK (ns := ns) h33 h34
 rw [e1, e2, e3]
 exact ⟨_, _, _, rfl, ⟨us, vs, by simp [hul], by simp [hvl], ho304, ho305, fun k hk => (ho304.lt k hk).2, fun k hk => (ho305.lt k hk).2, hlv307.perm hpm, ha76.perm hpm, ha77.perm hpm, ha70⟩, hX303⟩
 refine qs rfl rfl rfl rfl rfl rfl (qs rfl rfl rfl rfl rfl rfl (qs rfl rfl rfl rfl rfl rfl (qs rfl rfl rfl rfl rfl rfl (qD rfl (yW (v := (.bool true)) rfl rfl) (qe (zA ?_))))))
 refine qZ rfl rfl (zE (zF ?_))
 refine qD rfl (xR [(.slice none 0 0), (.slice none 0 0)] [(.slice none 0 0), (.slice none 0 0)] [] eW zr31 rfl pl31 rfl (fun _ h => by cases h) rfl) (q0 rfl rfl rfl (o_stp (cs' := [(.slice none 0 0), (.slice none 0 0)]) (us := [(.slice none 0 0), (.slice none 0 0)]) (v := (.agg [(.slice none 0 0), (.slice none 0 0)].toArray)) sz31 rfl rfl rfl (xO (by rfl) (by rfl)) hX30.pins hb31 (dP rfl) rfl (fun w308 hb309 hp310 hg311 hz312 => ?_)))
 have hX313 := hX30.write hp310 hg311 ((yG hlo26))
 refine qD rfl (zD (v := (.bool false)) rfl) (qe (zA ?_))
 refine wp_ret (zW (vL (cs := [(.slice none 0 0), (.slice none 0 0)]) (v := (.bool false)) rfl rfl rfl rfl rfl ag31 sz31 (fun j u hj => by rw [Nat.zero_add]; exact hb309.cell hj) ?_))
 obtain ⟨e1, e2, e3⟩ := lp_no (ns := ns) (Or.inl h33)
 rw [e1, e2, e3]
 exact ⟨_, _, _, rfl, ⟨[], [], rfl, rfl, Own.nil _ _ _ _ _, Own.nil _ _ _ _ _, fun k hk => (by cases hk), fun k hk => (by cases hk), Lvs.nil, ApL.nil, ApL.nil, apart_none⟩, hX313⟩
theorem gH {w : World} (hP : Pins G w) (hv : RSl eNode G v ns) :
  Calls Tryz.prog 7 [(.agg [v].toArray)].toArray w fun e w' => ∃ (u v : Value) (G' : Pin), e = .returned (.tuple #[.agg [u, v].toArray, .bool (lpOk ns)]) ∧ RSl (eSl eInt) G' u (lpL ns) ∧ RSl (eSl eInt) G' v (lpR ns) ∧ Ext noS G w G' w' := by
 refine (mQ hP hv).mono ?_
 rintro e w' ⟨u, v, G', rfl, hd, hx⟩
 obtain ⟨G'', h1, h2, h3⟩ := hd.give hx
 exact ⟨u, v, G'', rfl, h1, h2, h3⟩
theorem rBig_spec {w : World} {code : List UInt8} (hP : Pins G w) (hc : RSl eByte G v code) :
  Calls Tryz.prog 4 [v].toArray w fun e w' => e = .returned (.bool (decide ((65536 : Int) < (code.length : Int)))) ∧ Ext noS G w G w' := by
 refine yD (n := 6) Tryz.func4 Tryz.ntmps4 rfl rfl ?_
 have hX0 := exr noS hP
 have hm := hc.max
 refine zE (zF ?_)
 refine qD rfl (zD (v := (.bool false)) rfl) (qe (zA (zE (zF ?_))))
 refine qD rfl (zB (v := v) rfl) (qD rfl (zP eY (v := v) rfl hc) (qD rfl (jC rfl rfl) (qD rfl (zD (v := (.bool (decide ((65536 : Int) < (code.length : Int))))) rfl) (qe (zA ?_)))))
 exact wp_ret (zW (zT (v := (.bool (decide ((65536 : Int) < (code.length : Int))))) rfl rfl rfl (⟨rfl, hX0⟩)))
end AR7
end Go.Proofs.YtdongckiecjbaaaGreatDoor
namespace Go.Proofs.YtdongckiecjbaaaGreatDoor
namespace AR8
open Go.RowKit Go.GL Go.Proofs
open B1 C1 D1 E1 MK1 DR1 DR2 DV1
theorem pl40 : (Tryz.prog.underlying 40).bind (placesD Tryz.prog) = some [(0, 1), (1, 1), (2, 1)] := by kernel_rfl
theorem fN {w : World} {G : Pin} {v : Value} {code : List UInt8} (hP : Pins G w) (hc : RSl eByte G v code) :
  Calls Tryz.prog 5 [v].toArray w fun e w' => ∃ (u0 : Value) (ns0 : List Nd) (G' : Pin), e = .returned (.agg [u0].toArray) ∧ RSl eNode G' u0 ns0 ∧ Ext noS G w G' w' := by
 refine yD (n := 13) Tryz.func5 Tryz.ntmps5 rfl rfl ?_
 have hX0 := exr noS hP
 have hm := hc.max
 refine zE (zF ?_)
 refine qI rfl (yN [(.slice none 0 0)] zr26 rfl hX0.pins (fun b1 w2 hk3 hb4 hp5 hl6 => ?_))
 have hX7 := hX0.step hp5 hl6
 have hlo8 : w.heap.size ≤ b1 := by have := hX0.size; omega
 refine qe (zA (zE (zF ?_)))
 refine qD rfl (zB (v := v) rfl) (qD rfl (xR [(.slice none 0 0), (.int .i64 0), (.int .u64 0)] [v, (.int .i64 0), (.int .u64 0)] [(0, v, [v])] dB zr40 rfl pl40 rfl (List.forall_mem_cons.2 ⟨(xN hc.one), (fun _ h => by cases h)⟩) rfl) (qI rfl (xY [v, (.int .i64 0), (.int .u64 0)] (v := (.agg [v, (.int .i64 0), (.int .u64 0)].toArray)) rfl rfl hX7.pins (fun b9 w10 hk11 hb12 hp13 hl14 => ?_))))
 have hX15 := hX7.step hp13 hl14
 have hb16 := hb4.below hl14
 have ha17 : Apart (some b9) (some b1) := zK (congrArg some hk11) hb4.lt
 have hlo18 : w.heap.size ≤ b9 := by have := hX7.size; omega
 refine qD rfl (zD (v := (.pointer (some ⟨b9, 0, none⟩))) rfl) (qe (zA (zE (zE (zF ?_)))))
 refine qD rfl (zB (v := (.pointer (some ⟨b9, 0, none⟩))) rfl) (qI rfl (zR (vs := [(.pointer (some ⟨b9, 0, none⟩)), (.int .i64 4)]) Tryz.func11 nm11 rfl rfl rfl ?_))
 refine dO (sT hX15.pins hb12 hc (by omega) (by omega) (n := 4) (by omega)) ?_
 rintro _ w22 ⟨z19, a20, s21, rfl, hb23, hda24, hds25, hx26⟩
 refine ⟨_, rfl, ?_⟩
 have hX27 := hX15.trans hx26 (fun i hi => (yG hlo18) i hi)
 have hb28 := hb16.extS hx26 (jD ha17.symm)
 refine qe (zA ?_)
 refine c_if rfl rfl (fun h29 => ?_) (fun h29 => ?_)
 refine zE (zF ?_)
 refine qD rfl (zB (v := (.pointer (some ⟨b9, 0, none⟩))) rfl) (qI rfl (zR (vs := [(.pointer (some ⟨b9, 0, none⟩)), (.int .i64 3)]) Tryz.func12 nm12 rfl rfl rfl ?_))
 refine dO (sI (n := 3) hX27.pins hb23 hc (by omega) (by omega) (by omega)) ?_
 rintro _ w35 ⟨u30, ns31, a32, s33, G34, rfl, hr36, hb37, hda38, hds39, hx40⟩
 refine ⟨_, rfl, ?_⟩
 have hX41 := hX27.trans hx40 (fun i hi => (yG hlo18) i hi)
 have hb42 := hb28.extS hx40 (jD ha17.symm)
 have hm43 := hr36.max
 refine q0 rfl rfl rfl (o_stp (cs' := [u30]) (us := [u30]) (v := (.agg [u30].toArray)) sz26 rfl rfl rfl (yO hr36.one) hX41.pins hb42 (dP rfl) rfl (fun w44 hb45 hp46 hg47 hz48 => ?_))
 have hX49 := hX41.write hp46 hg47 ((yG hlo8))
 refine qe (zA ?_)
 exact wp_ret (zW (jI (cs := [u30]) rfl rfl rfl ag26 sz26 (fun j u hj => by rw [Nat.zero_add]; exact hb45.cell hj) (⟨_, _, _, rfl, hr36, hX49⟩)))
 refine wp_skip (zA (zE (zF ?_)))
 refine qD rfl (zB (v := (.pointer (some ⟨b9, 0, none⟩))) rfl) (qI rfl (zR (vs := [(.pointer (some ⟨b9, 0, none⟩)), (.int .i64 3)]) Tryz.func13 nm13 rfl rfl rfl ?_))
 refine dO (mJ (n := 3) hX27.pins hb23 hc (by omega) (by omega) (by omega)) ?_
 rintro _ w56 ⟨u51, g52, a53, s54, G55, rfl, ho57, hif58, hfl59, hb60, hda61, hds62, hx63⟩
 refine ⟨_, rfl, ?_⟩
 have hX64 := hX27.trans hx63 (fun i hi => (yG hlo18) i hi)
 have hb65 := hb28.extS hx63 (jD ha17.symm)
 have ha66 : Apart u51.ownBlock (some b1) := yA ho57.lt hb28.lt
 have ho68 := ho57.weaken hX27.size
 have hfo69 := hif58.1.lo
 refine q0 rfl rfl rfl (o_stp (cs' := [u51]) (us := [u51]) (v := (.agg [u51].toArray)) sz26 rfl rfl rfl (yO ho68.one) hX64.pins hb65 (dP rfl) rfl (fun w70 hb71 hp72 hg73 hz74 => ?_))
 have hX75 := hX64.write hp72 hg73 ((yG hlo8))
 have ho76 := ho68.keptA hg73 ha66
 refine qe (zA ?_)
 refine wp_ret (zW (jI (cs := [u51]) rfl rfl rfl ag26 sz26 (fun j u hj => by rw [Nat.zero_add]; exact hb71.cell hj) ?_))
 obtain ⟨G78, hle81, hX80, hr79, hf82⟩ := ho76.sealed hX75
 exact ⟨_, _, _, rfl, hr79, hX80⟩
end AR8
end Go.Proofs.YtdongckiecjbaaaGreatDoor
namespace Go.Proofs.YtdongckiecjbaaaGreatDoor
namespace AR9
open Go.RowKit Go.GL Go.Proofs
open B1 K1 PO1
theorem qF {w : World} {G : Pin} {u v : Value} {A B : List (List Int)} (hP : Pins G w) (hu : RSl (eSl eInt) G u A) (hv : RSl (eSl eInt) G v B) (hA : AcL A) (hB : AcL B) (hAB : A.length ≤ 36 ∧ B.length ≤ 36) (hlA : ∀ i, i < A.length → (A.getD i []).length ≤ 500000) (hlB : ∀ i, i < B.length → (B.getD i []).length ≤ 500000) :
  Calls Tryz.prog 40 [u, v].toArray w fun e w' => ∃ (x : Value) (G' : Pin), e = .returned x ∧ RSl (eSl eInt) G' x (jnA B.length A B A.length) ∧ Ext noS G w G' w' := by
 refine yD (n := 74) Tryz.func40 Tryz.ntmps40 rfl rfl ?_
 have hX0 := exr noS hP
 have hmu := hu.max
 have hmv := hv.max
 have hbA := fun (i : Nat) (hi : i < A.length) (k : Int) (hk : k ∈ A.getD i []) => rV (hA i hi k hk).1 (hA i hi k hk).2 (Int.natCast_nonneg B.length)
 have hbB := fun (i : Nat) (hi : i < B.length) (k : Int) (hk : k ∈ B.getD i []) => hB i hi k hk
 have hmm : A.length * B.length ≤ 36 * 36 := Nat.mul_le_mul hAB.1 hAB.2
 have hmI : ((A.length * B.length : Nat) : Int) = (A.length : Int) * (B.length : Int) := Int.natCast_mul _ _
 refine zE (zF ?_)
 refine qD rfl (zD (v := (.slice none 0 0)) rfl) (qe (zA (zE (zF ?_))))
 refine qI rfl (yR (E := (eSl eInt)) (e := 44) eT sz44 hX0.pins (fun u1 w2 ho3 hp4 hl5 hk6 => ?_))
 have hX7 := hX0.step hp4 hl5
 have ho8 := ho3.weaken hX0.size
 refine qD rfl (zD (v := u1) rfl) (qe (zA (zE (zF ?_))))
 refine qD rfl (zB (v := v) rfl) (qD rfl (zP eT (v := v) rfl hv) (qD rfl (zD (v := (.int .i64 (B.length : Int))) rfl) (qe (zA (zE (zE (zF ?_)))))))
 refine qD rfl (zB (v := u) rfl) (qD rfl (zP eT (v := u) rfl hu) (qD rfl (zB (v := (.int .i64 0)) rfl) (qe (zA ?_))))
 refine zX (yM (fun (k : Nat) (en : Nat → Value) (W : World) => ∃ (env1 : Nat → Value) (i : Nat) (ov : Value) (os : List (List Int)) (GL1 : Pin), en = (upd (upd (upd (upd (upd (upd (upd env1 0 u) 1 v) 4 (.slice none 0 0)) 5 ov) 6 (.int .i64 (B.length : Int))) 18 (.int .i64 (A.length : Int))) 19 (.int .i64 (i : Int))) ∧ k = A.length - i ∧ Ext noS G w GL1 W ∧ Pin.le G GL1 ∧ (i ≤ A.length) ∧ (os = jnA B.length A B i) ∧ (Own (eSl eInt) 44 GL1 W w.heap.size ov (os))) _ ⟨_, 0, u1, [], G, (zC (x := 19) (zC (x := 18) (zC (x := 6) (zC (x := 5) (zC (x := 4) (zC (x := 1) (zS (x := 0) rfl) rfl) rfl) rfl) rfl) rfl) rfl), rfl, hX7, Pin.le_refl _, Nat.zero_le _, rfl, ho8⟩ ?_)
 rintro k9 _ w10 ⟨env1, i, ov, os, GL1, rfl, hk11, hX12, hlek9, hi, hos, hw13⟩
 have hol : os.length = i * B.length := by rw [hos, xZ]
 refine zE (zF ?_)
 refine qD rfl (yQ rfl rfl) (qe (zA (zE ?_)))
 refine yF (p := ((i : Int) : Int) < (A.length : Int)) rfl rfl (fun h14 => ?_) (fun h14 => ?_)
 have hmb := Nat.mul_le_mul_right B.length (show i + 1 ≤ A.length by omega)
 have hsm9 : (i + 1) * B.length = i * B.length + B.length := Nat.succ_mul ..
 refine wp_skip (zA (zE ?_))
 refine zX (zE (zF ?_))
 refine qD rfl (zB (v := (.int .i64 (i : Int))) rfl) (qD rfl (zD (v := (.int .i64 (i : Int))) rfl) (qe (zA (zE (zF ?_)))))
 refine qD rfl (zB (v := v) rfl) (qD rfl (zP eT (v := v) rfl hv) (qD rfl (zB (v := (.int .i64 0)) rfl) (qe (zA ?_))))
 refine zX (yM (fun (k : Nat) (en : Nat → Value) (W : World) => ∃ (env1 : Nat → Value) (kc : Nat) (ov2 : Value) (os2 : List (List Int)) (GL2 : Pin), en = (upd (upd (upd (upd (upd (upd (upd (upd (upd (upd env1 0 u) 1 v) 4 (.slice none 0 0)) 5 ov2) 6 (.int .i64 (B.length : Int))) 7 (.int .i64 (i : Int))) 18 (.int .i64 (A.length : Int))) 19 (.int .i64 (i : Int))) 23 (.int .i64 (B.length : Int))) 24 (.int .i64 (kc : Int))) ∧ k = B.length - kc ∧ Ext noS G w GL2 W ∧ Pin.le GL1 GL2 ∧ (kc ≤ B.length) ∧ (os2 = jnA B.length A B i ++ (List.range kc).map (jrow B.length A B i)) ∧ (Own (eSl eInt) 44 GL2 W w.heap.size ov2 (os2))) _ ⟨_, 0, ov, os, GL1, (zC (x := 24) (zC (x := 23) (zC (x := 19) (zC (x := 18) (zC (x := 7) (zC (x := 6) (zC (x := 5) (zC (x := 4) (zC (x := 1) (zS (x := 0) rfl) rfl) rfl) rfl) rfl) rfl) rfl) rfl) rfl) rfl), rfl, hX12, Pin.le_refl _, Nat.zero_le _, (by rw [hos]; simp), hw13⟩ ?_)
 rintro k15 _ w16 ⟨env1, kc, ov2, os2, GL2, rfl, hk17, hX18, hlek15, hk, hos2, hw19⟩
 have hol2 : os2.length = i * B.length + kc := by rw [hos2, List.length_append, xZ, List.length_map, List.length_range]
 refine zE (zF ?_)
 refine qD rfl (yQ rfl rfl) (qe (zA (zE ?_)))
 refine yF (p := ((kc : Int) : Int) < (B.length : Int)) rfl rfl (fun h20 => ?_) (fun h20 => ?_)
 have hla := hlA i (by omega)
 have hlb := hlB kc (by omega)
 have hiB : ((i * B.length : Nat) : Int) = (i : Int) * (B.length : Int) := Int.natCast_mul _ _
 refine wp_skip (zA (zE ?_))
 refine zX (zE (zF ?_))
 refine qD rfl (zB (v := (.int .i64 (kc : Int))) rfl) (qD rfl (zD (v := (.int .i64 (kc : Int))) rfl) (qe (zA (zE (zF ?_)))))
 refine qI rfl (yR (E := eInt) (e := 3) eR sz3 hX18.pins (fun u21 w22 ho23 hp24 hl25 hk26 => ?_))
 have hX27 := hX18.step hp24 hl25
 have ho28 := hw19.below hl25
 have ha29 : Apart u21.ownBlock ov2.ownBlock := zI hk26 hw19.lt
 have ho30 := ho23.weaken hX18.size
 refine qD rfl (zD (v := u21) rfl) (qe (zA (zE (zE (zF ?_)))))
 refine qD rfl (zB (v := u) rfl) (qD rfl (zB (v := (.int .i64 (i : Int))) rfl) (qD rfl (zL eT sz44 (v := u) rfl rfl hu (by omega) (by omega)) ?_))
 obtain ⟨u31, hr32, hl33⟩ := vR (hu.at (z := (i : Int)) (by omega) (by omega)) (j := i) rfl
 have hm34 := hr32.max
 refine qD rfl (hl33 ag44 rfl (dN hX27.pins (dM hlek9 hlek15))) (qD rfl (zP eR (v := u31) rfl hr32) (qD rfl (zB (v := (.int .i64 0)) rfl) (qe (zA ?_))))
 refine zX (yM (fun (k : Nat) (en : Nat → Value) (W : World) => ∃ (env1 : Nat → Value) (qa : Nat) (rv : Value) (ra : List Int) (Gqa : Pin), en = (upd (upd (upd (upd (upd (upd (upd (upd (upd (upd (upd (upd (upd (upd (upd env1 0 u) 1 v) 4 (.slice none 0 0)) 5 ov2) 6 (.int .i64 (B.length : Int))) 7 (.int .i64 (i : Int))) 8 (.int .i64 (kc : Int))) 9 rv) 18 (.int .i64 (A.length : Int))) 19 (.int .i64 (i : Int))) 23 (.int .i64 (B.length : Int))) 24 (.int .i64 (kc : Int))) 31 u31) 32 (.int .i64 ((A.getD i []).length : Int))) 33 (.int .i64 (qa : Int))) ∧ k = (A.getD i []).length - qa ∧ Ext noS G w Gqa W ∧ Pin.le GL2 Gqa ∧ (qa ≤ (A.getD i []).length) ∧ (ra = ((A.getD i []).take qa).map (fun x : Int => x * (B.length : Int) + (kc : Int))) ∧ (ra.length = qa) ∧ (Own eInt 3 Gqa W w.heap.size rv (ra)) ∧ (Own (eSl eInt) 44 Gqa W w.heap.size ov2 (os2)) ∧ (Apart rv.ownBlock ov2.ownBlock)) _ ⟨_, 0, u21, [], GL2, (zC (x := 33) (zC (x := 32) (zC (x := 31) (zC (x := 24) (zC (x := 23) (zC (x := 19) (zC (x := 18) (zC (x := 9) (zC (x := 8) (zC (x := 7) (zC (x := 6) (zC (x := 5) (zC (x := 4) (zC (x := 1) (zS (x := 0) rfl) rfl) rfl) rfl) rfl) rfl) rfl) rfl) rfl) rfl) rfl) rfl) rfl) rfl) rfl), rfl, hX27, Pin.le_refl _, Nat.zero_le _, rfl, rfl, ho30, ho28, ha29⟩ ?_)
 rintro k35 _ w36 ⟨env1, qa, rv, ra, Gqa, rfl, hk37, hX38, hlek35, hqa, hra, hlra, hw39, hw40, ha41⟩
 refine zE (zF ?_)
 refine qD rfl (yQ rfl rfl) (qe (zA (zE ?_)))
 refine yF (p := ((qa : Int) : Int) < ((A.getD i []).length : Int)) rfl rfl (fun h42 => ?_) (fun h42 => ?_)
 have hkqa := hbA i (by omega) _ (yX (d := (0 : Int)) (show qa < (A.getD i []).length by omega))
 refine wp_skip (zA (zE ?_))
 refine zX (zE (zF ?_))
 refine qD rfl (zL eR sz3 (v := u31) rfl rfl hr32 (by omega) (by omega)) (qD rfl (zO (r := (A.getD i []).getD qa 0) rfl ag3 (z := (qa : Int)) rfl hr32 (dN hX38.pins (dM (dM hlek9 hlek15) hlek35)) (by omega) (by omega)) (qD rfl (zD (v := (.int .i64 ((A.getD i []).getD qa 0))) rfl) (qe (zA (zF ?_)))))
 refine qD rfl (zB (v := rv) rfl) (qD rfl (zB (v := (.int .i64 ((A.getD i []).getD qa 0))) rfl) (qD rfl (zB (v := (.int .i64 (B.length : Int))) rfl) (qD rfl (jR rfl rfl (by omega)) (qD rfl (zB (v := (.int .i64 (kc : Int))) rfl) (qD rfl (yH rfl rfl (by omega)) (qI rfl (yL (E := eInt) (e := 3) [(.int .i64 ((((A.getD i []).getD qa 0) * (B.length : Int)) + (kc : Int)))] [(((A.getD i []).getD qa 0) * (B.length : Int)) + (kc : Int)] eR sz3 zr3 (by exact xM (by rfl)) (yO (by rfl)) rfl rfl rfl rfl (by decide) hX38.pins (fun u43 w44 ho45 hp46 hl47 hk48 => ?_))))))))
 have hX49 := hX38.step hp46 hl47
 have ho50 := hw39.below hl47
 have ho51 := hw40.below hl47
 have ho54 := ho45.weaken hX38.size
 refine qI rfl (zU (E := eInt) (v := rv) (u := u43) 8 eR ap3 (by decide) rfl rfl hX49.pins ho50 ho54.src (by first | omega | (rw [List.nil_append]; omega) | (rw [List.length_nil]; omega) | (rw [List.length_append]; omega) | (simp; done) | (simp; omega) | (simp only [List.length_cons, List.length_nil]; omega) | (simp only [List.length_append, List.length_cons, List.length_nil]; omega)) (by first | omega | (rw [List.nil_append]; omega) | (rw [List.length_nil]; omega) | (rw [List.length_append]; omega) | (simp; done) | (simp; omega) | (simp only [List.length_cons, List.length_nil]; omega) | (simp only [List.length_append, List.length_cons, List.length_nil]; omega)) (hX49.size) (fun u55 w56 ho57 hp58 hg59 hw60 => ?_))
 have hX61 := hX49.write hp58 hg59 ((yB ho50))
 have ho62 := ho51.keptA hg59 ha41.symm
 have ha64 : Apart ov2.ownBlock u55.ownBlock := zH ha41.symm hw60 ho51.lt
 have hm66 := la1 ra ((((A.getD i []).getD qa 0) * (B.length : Int)) + (kc : Int))
 refine qD rfl (zD (v := u55) rfl) (qe (yC (zA (zF ?_))))
 refine qD rfl (yH rfl rfl (by omega)) (qD rfl (zB (v := (.int .i64 ((qa : Int) + 1))) rfl) (qe (yE (⟨_, ?_, _, rfl, _, qa + 1, u55, ra ++ ([(((A.getD i []).getD qa 0) * (B.length : Int)) + (kc : Int)]), Gqa, (zC (x := 33) (zC (x := 32) (zC (x := 31) (zC (x := 24) (zC (x := 23) (zC (x := 19) (zC (x := 18) (zC (x := 9) (zC (x := 8) (zC (x := 7) (zC (x := 6) (zC (x := 5) (zC (x := 4) (zC (x := 1) (zS (x := 0) rfl) rfl) rfl) rfl) rfl) rfl) rfl) rfl) rfl) rfl) rfl) rfl) rfl) rfl) rfl), rfl, hX61, hlek35, (by omega), (by rw [hra]; exact vS (f := (fun x : Int => x * (B.length : Int) + (kc : Int))) 0 (by omega)), (by simp; omega), ho57, ho62, ha64.symm⟩))))
 omega
 refine wp_exit (zZ (yJ (yI (zA (zE (zE (zF ?_)))))))
 refine qD rfl (zB (v := v) rfl) (qD rfl (zB (v := (.int .i64 (kc : Int))) rfl) (qD rfl (zL eT sz44 (v := v) rfl rfl hv (by omega) (by omega)) ?_))
 obtain ⟨u67, hr68, hl69⟩ := vR (hv.at (z := (kc : Int)) (by omega) (by omega)) (j := kc) rfl
 have hm70 := hr68.max
 refine qD rfl (hl69 ag44 rfl (dN hX38.pins (dM (dM hlek9 hlek15) hlek35))) (qD rfl (zP eR (v := u67) rfl hr68) (qD rfl (zB (v := (.int .i64 0)) rfl) (qe (zA ?_))))
 refine zX (yM (fun (k : Nat) (en : Nat → Value) (W : World) => ∃ (env1 : Nat → Value) (qb : Nat) (rw9 : Value) (rb : List Int) (Gqb : Pin), en = (upd (upd (upd (upd (upd (upd (upd (upd (upd (upd (upd (upd (upd (upd env1 0 u) 1 v) 4 (.slice none 0 0)) 5 ov2) 6 (.int .i64 (B.length : Int))) 7 (.int .i64 (i : Int))) 9 rw9) 18 (.int .i64 (A.length : Int))) 19 (.int .i64 (i : Int))) 23 (.int .i64 (B.length : Int))) 24 (.int .i64 (kc : Int))) 49 u67) 50 (.int .i64 ((B.getD kc []).length : Int))) 51 (.int .i64 (qb : Int))) ∧ k = (B.getD kc []).length - qb ∧ Ext noS G w Gqb W ∧ Pin.le Gqa Gqb ∧ (qb ≤ (B.getD kc []).length) ∧ (rb = ra ++ ((B.getD kc []).take qb).map (fun y : Int => (i : Int) * (B.length : Int) + y)) ∧ (rb.length = ra.length + qb) ∧ (Own eInt 3 Gqb W w.heap.size rw9 (rb)) ∧ (Own (eSl eInt) 44 Gqb W w.heap.size ov2 (os2)) ∧ (Apart rw9.ownBlock ov2.ownBlock)) _ ⟨_, 0, rv, ra, Gqa, (zC (x := 51) (zC (x := 50) (zC (x := 49) (zC (x := 24) (zC (x := 23) (zC (x := 19) (zC (x := 18) (zC (x := 9) (zC (x := 7) (zC (x := 6) (zC (x := 5) (zC (x := 4) (zC (x := 1) (zS (x := 0) rfl) rfl) rfl) rfl) rfl) rfl) rfl) rfl) rfl) rfl) rfl) rfl) rfl) rfl), rfl, hX38, Pin.le_refl _, Nat.zero_le _, (by simp), (by simp), hw39, hw40, ha41⟩ ?_)
 rintro k71 _ w72 ⟨env1, qb, rw9, rb, Gqb, rfl, hk73, hX74, hlek71, hqb, hrb, hlrb, hw75, hw76, ha77⟩
 refine zE (zF ?_)
 refine qD rfl (yQ rfl rfl) (qe (zA (zE ?_)))
 refine yF (p := ((qb : Int) : Int) < ((B.getD kc []).length : Int)) rfl rfl (fun h78 => ?_) (fun h78 => ?_)
 have hkqb := hbB kc (by omega) _ (yX (d := (0 : Int)) (show qb < (B.getD kc []).length by omega))
 refine wp_skip (zA (zE ?_))
 refine zX (zE (zF ?_))
 refine qD rfl (zL eR sz3 (v := u67) rfl rfl hr68 (by omega) (by omega)) (qD rfl (zO (r := (B.getD kc []).getD qb 0) rfl ag3 (z := (qb : Int)) rfl hr68 (dN hX74.pins (dM (dM (dM hlek9 hlek15) hlek35) hlek71)) (by omega) (by omega)) (qD rfl (zD (v := (.int .i64 ((B.getD kc []).getD qb 0))) rfl) (qe (zA (zF ?_)))))
 refine qD rfl (zB (v := rw9) rfl) (qD rfl (zB (v := (.int .i64 (i : Int))) rfl) (qD rfl (zB (v := (.int .i64 (B.length : Int))) rfl) (qD rfl (jR rfl rfl (by omega)) (qD rfl (zB (v := (.int .i64 ((B.getD kc []).getD qb 0))) rfl) (qD rfl (yH rfl rfl (by omega)) (qI rfl (yL (E := eInt) (e := 3) [(.int .i64 (((i : Int) * (B.length : Int)) + ((B.getD kc []).getD qb 0)))] [((i : Int) * (B.length : Int)) + ((B.getD kc []).getD qb 0)] eR sz3 zr3 (by exact xM (by rfl)) (yO (by rfl)) rfl rfl rfl rfl (by decide) hX74.pins (fun u79 w80 ho81 hp82 hl83 hk84 => ?_))))))))
 have hX85 := hX74.step hp82 hl83
 have ho86 := hw75.below hl83
 have ho87 := hw76.below hl83
 have ho90 := ho81.weaken hX74.size
 refine qI rfl (zU (E := eInt) (v := rw9) (u := u79) 8 eR ap3 (by decide) rfl rfl hX85.pins ho86 ho90.src (by first | omega | (rw [List.nil_append]; omega) | (rw [List.length_nil]; omega) | (rw [List.length_append]; omega) | (simp; done) | (simp; omega) | (simp only [List.length_cons, List.length_nil]; omega) | (simp only [List.length_append, List.length_cons, List.length_nil]; omega)) (by first | omega | (rw [List.nil_append]; omega) | (rw [List.length_nil]; omega) | (rw [List.length_append]; omega) | (simp; done) | (simp; omega) | (simp only [List.length_cons, List.length_nil]; omega) | (simp only [List.length_append, List.length_cons, List.length_nil]; omega)) (hX85.size) (fun u91 w92 ho93 hp94 hg95 hw96 => ?_))
 have hX97 := hX85.write hp94 hg95 ((yB ho86))
 have ho98 := ho87.keptA hg95 ha77.symm
 have ha100 : Apart ov2.ownBlock u91.ownBlock := zH ha77.symm hw96 ho87.lt
 have hm102 := la1 rb (((i : Int) * (B.length : Int)) + ((B.getD kc []).getD qb 0))
 refine qD rfl (zD (v := u91) rfl) (qe (yC (zA (zF ?_))))
 refine qD rfl (yH rfl rfl (by omega)) (qD rfl (zB (v := (.int .i64 ((qb : Int) + 1))) rfl) (qe (yE (⟨_, ?_, _, rfl, _, qb + 1, u91, rb ++ ([((i : Int) * (B.length : Int)) + ((B.getD kc []).getD qb 0)]), Gqb, (zC (x := 51) (zC (x := 50) (zC (x := 49) (zC (x := 24) (zC (x := 23) (zC (x := 19) (zC (x := 18) (zC (x := 9) (zC (x := 7) (zC (x := 6) (zC (x := 5) (zC (x := 4) (zC (x := 1) (zS (x := 0) rfl) rfl) rfl) rfl) rfl) rfl) rfl) rfl) rfl) rfl) rfl) rfl) rfl) rfl), rfl, hX97, hlek71, (by omega), (by rw [hrb, List.append_assoc]; exact congrArg _ (vS (f := (fun y : Int => (i : Int) * (B.length : Int) + y)) 0 (by omega))), (by simp; omega), ho93, ho98, ha100.symm⟩))))
 omega
 refine wp_exit (zZ (yJ (yI (zA (zE (zF ?_))))))
 refine qD rfl (zB (v := rw9) rfl) (qI rfl (zR (vs := [rw9]) Tryz.func55 nm55 rfl rfl rfl ?_))
 refine dO (rK hX74.pins hw75 (by omega)) ?_
 rintro _ w104 ⟨G103, rfl, ho105, hx106⟩
 refine ⟨_, rfl, ?_⟩
 have hX107 := hX74.trans hx106 (fun i hi => (yB hw75) i hi)
 have ho108 := hw76.extS hx106 (notO ha77.symm)
 have hm109 := jB rb
 refine qe (zA (zF ?_))
 refine qD rfl (zB (v := ov2) rfl) (qD rfl (zB (v := rw9) rfl) (qI rfl (zR (vs := [rw9]) Tryz.func56 nm56 rfl rfl rfl ?_)))
 refine dO (fP hX107.pins (ho105.weaken (Nat.zero_le _)) (by omega)) ?_
 rintro _ w112 ⟨u110, G111, rfl, ho113, hlo114, hx115⟩
 refine ⟨_, rfl, ?_⟩
 have hX116 := hX107.trans hx115 (fun i hi => (yB ho105) i hi)
 have ho117 := ho108.extS hx115 (notO ha77.symm)
 have ha118 : Apart ov2.ownBlock u110.ownBlock := gP hlo114 ha77.symm (qS ho108)
 have ho119 := ho113.up (lo := w.heap.size) (fun k hk => (hlo114 k hk).elim (fun h => Nat.le_trans hX107.size h) (fun h => (ho105.lt k h).1))
 obtain ⟨G120, hle123, hX122, hr121, hf124⟩ := ho119.sealed hX116
 have ho125 := ho117.moreO hle123 hf124 ha118
 refine qI rfl (yL (E := (eSl eInt)) (e := 44) [u110] [Go.Lib.compact (sortM rb)] eT sz44 zr44 (by exact xM (⟨_, rfl, hr121⟩)) (yO hr121.one) rfl rfl rfl rfl (by decide) hX122.pins (fun u126 w127 ho128 hp129 hl130 hk131 => ?_))
 have hX132 := hX122.step hp129 hl130
 have ho133 := ho125.below hl130
 have ho135 := ho128.weaken hX122.size
 refine qI rfl (zU (E := (eSl eInt)) (v := ov2) (u := u126) 24 eT ap44 (by decide) rfl rfl hX132.pins ho133 ho135.src (by first | omega | (rw [List.nil_append]; omega) | (rw [List.length_nil]; omega) | (rw [List.length_append]; omega) | (simp; done) | (simp; omega) | (simp only [List.length_cons, List.length_nil]; omega) | (simp only [List.length_append, List.length_cons, List.length_nil]; omega)) (by first | omega | (rw [List.nil_append]; omega) | (rw [List.length_nil]; omega) | (rw [List.length_append]; omega) | (simp; done) | (simp; omega) | (simp only [List.length_cons, List.length_nil]; omega) | (simp only [List.length_append, List.length_cons, List.length_nil]; omega)) (hX132.size) (fun u136 w137 ho138 hp139 hg140 hw141 => ?_))
 have hX142 := hX132.write hp139 hg140 ((yB ho133))
 have hm145 := la1 os2 (Go.Lib.compact (sortM rb))
 refine qD rfl (zD (v := u136) rfl) (qe (yC (zA (zF ?_))))
 refine qD rfl (yH rfl rfl (by omega)) (qD rfl (zB (v := (.int .i64 ((kc : Int) + 1))) rfl) (qe (yE (⟨_, ?_, _, rfl, _, kc + 1, u136, os2 ++ ([Go.Lib.compact (sortM rb)]), G120, (zC (x := 24) (zC (x := 23) (zC (x := 19) (zC (x := 18) (zC (x := 7) (zC (x := 6) (zC (x := 5) (zC (x := 4) (zC (x := 1) (zS (x := 0) rfl) rfl) rfl) rfl) rfl) rfl) rfl) rfl) rfl) rfl), rfl, hX142, (dM (dM (dM (dM (dM hlek15 hlek35) hlek71) hx106.le) hx115.le) hle123), (by omega), (by rw [hos2, List.append_assoc, hrb, hra, qA (by omega), qA (by omega)]; exact congrArg _ (by rw [List.range_succ, List.map_append]; rfl)), ho138⟩))))
 omega
 refine wp_exit (zZ (yJ (yI (yC (zA (zF ?_))))))
 refine qD rfl (yH rfl rfl (by omega)) (qD rfl (zB (v := (.int .i64 ((i : Int) + 1))) rfl) (qe (yE (⟨_, ?_, _, rfl, _, i + 1, ov2, os2, GL2, (zC (x := 19) (zC (x := 18) (zC (x := 6) (zC (x := 5) (zC (x := 4) (zC (x := 1) (zS (x := 0) rfl) rfl) rfl) rfl) rfl) rfl) rfl), rfl, hX18, (dM hlek9 hlek15), (by omega), (by rw [hos2, show kc = B.length by omega]; exact (pO i).symm), hw19⟩))))
 omega
 refine wp_exit (zZ (yJ (yI (zA (zE (zF ?_))))))
 refine qD rfl (zB (v := ov) rfl) (qD rfl (zD (v := ov) rfl) (qe (zA ?_)))
 refine wp_ret (zW (zT (v := ov) rfl rfl rfl ?_))
 obtain ⟨G146, hle149, hX148, hr147, hf150⟩ := hw13.sealed hX12
 have hin : i = A.length := by omega
 rw [hin] at hos
 exact ⟨_, _, rfl, (by rw [← hos]; exact hr147), hX148⟩
end AR9
end Go.Proofs.YtdongckiecjbaaaGreatDoor
namespace Go.Proofs.YtdongckiecjbaaaGreatDoor
namespace AR10
open Go.RowKit Go.GL Go.Proofs
open B1 AR3 AR4 AR6 AR9
variable {G : Pin} {u v : Value} {L R : List (List Int)}
theorem gF {w : World} {z : Int} (hP : Pins G w) (hu : RSl (eSl eInt) G u L) (_ : RSl (eSl eInt) G v R) (hz : 0 ≤ z ∧ z < L.length) :
  Calls Tryz.prog 18 [(.agg [u, v].toArray), (.int .i64 z)].toArray w fun e w' => ∃ G', e = .returned (.bool true) ∧ Ext noS G w G' w' := by
 refine yD (n := 14) Tryz.func18 Tryz.ntmps18 rfl rfl ?_
 have hX0 := exr noS hP
 refine zE (zF ?_)
 refine qI rfl (xY [u, v] (v := (.agg [u, v].toArray)) rfl rfl hX0.pins (fun b1 w2 hk3 hb4 hp5 hl6 => ?_))
 have hX7 := hX0.step hp5 hl6
 have hlo8 : w.heap.size ≤ b1 := by have := hX0.size; omega
 obtain ⟨G9, hle10, hX11, hbp12, hf13⟩ := hb4.shut hX7 hlo8
 refine qD rfl (zD (v := (.bool false)) rfl) (qe (zA (zE (zF ?_))))
 refine qD rfl (zB (v := (.int .i64 z)) rfl) (qD rfl (kP rfl rfl) (qD rfl (zB (v := (.bool (decide ((0 : Int) ≤ z)))) rfl) (qbd (p := (0 : Int) ≤ z) (t := 7) rfl (fun h14 => ?_) (fun h14 => ?_))))
 refine qdg rfl rfl rfl rfl rfl rfl (zB (v := (.int .i64 z)) rfl) (qdg rfl rfl rfl rfl rfl rfl (zN (k := 0) rfl eW rfl nz29 rfl) (qdg rfl rfl rfl rfl rfl rfl (zM (u := u) ag29 rfl (hX11.pins _ _ _ (hbp12 0 _ rfl))) (qdg rfl rfl rfl rfl rfl rfl (zP eT (v := u) rfl hu) (qdg rfl rfl rfl rfl rfl rfl (yQ rfl rfl) (qD rfl (yW (v := (.bool (decide ((z : Int) < (L.length : Int))))) rfl rfl) (qD rfl (zD (v := (.bool (decide ((z : Int) < (L.length : Int))))) rfl) (qe (zA ?_))))))))
 exact wp_ret (zW (zT (v := (.bool (decide ((z : Int) < (L.length : Int))))) rfl rfl rfl (⟨_, congrArg (fun z => Ending.returned (Value.bool z)) (decide_eq_true (by omega)), hX11⟩)))
 refine qs rfl rfl rfl rfl rfl rfl (qs rfl rfl rfl rfl rfl rfl (qs rfl rfl rfl rfl rfl rfl (qs rfl rfl rfl rfl rfl rfl (qs rfl rfl rfl rfl rfl rfl (qD rfl (yS (v := (.bool false)) rfl rfl) (qD rfl (zD (v := (.bool false)) rfl) (qe (zA ?_))))))))
 refine wp_ret (zW (zT (v := (.bool false)) rfl rfl rfl ?_))
 exfalso
 omega
theorem holds_spec {w : World} {x y : Value} {M Q : List (List Int)} (hP : Pins G w) (hu : RSl (eSl eInt) G u L) (hv : RSl (eSl eInt) G v R) (hx : RSl (eSl eInt) G x M) (hy : RSl (eSl eInt) G y Q) (hg : LgP L R) (hg2 : LgP M Q) (hL : AcL L) (hR : AcL R) (hM : AcL M) (hQ : AcL Q) :
  Calls Tryz.prog 19 [(.agg [u, v].toArray), (.agg [x, y].toArray)].toArray w fun e w' => ∃ (z : Value) (G' : Pin), e = .returned z ∧ RSl (eSl eBool) G' z ((List.range L.length).map fun u => (List.range M.length).map (hlB L R M Q u)) ∧ Ext noS G w G' w' := by
 refine yD (n := 61) Tryz.func19 Tryz.ntmps19 rfl rfl ?_
 have hX0 := exr noS hP
 have hmhu := hu.max
 have hmhv := hv.max
 have hmhx := hx.max
 have hmhy := hy.max
 have ha1 := hg.lo
 have ha2 := hg.hi
 have ha3 := hg.len
 have hb1 := hg2.lo
 have hb2 := hg2.hi
 have hb3 := hg2.len
 refine zE (zF ?_)
 refine qI rfl (xY [u, v] (v := (.agg [u, v].toArray)) rfl rfl hX0.pins (fun b1 w2 hk3 hb4 hp5 hl6 => ?_))
 have hX7 := hX0.step hp5 hl6
 have hlo8 : w.heap.size ≤ b1 := by have := hX0.size; omega
 obtain ⟨G9, hle10, hX11, hbp12, hf13⟩ := hb4.shut hX7 hlo8
 refine qI rfl (xY [x, y] (v := (.agg [x, y].toArray)) rfl rfl hX11.pins (fun b14 w15 hk16 hb17 hp18 hl19 => ?_))
 have hX20 := hX11.step hp18 hl19
 have hlo21 : w.heap.size ≤ b14 := by have := hX11.size; omega
 obtain ⟨G22, hle23, hX24, hbp25, hf26⟩ := hb17.shut hX20 hlo21
 refine qD rfl (zD (v := (.slice none 0 0)) rfl) (qe (zA (zE ?_)))
 refine yZ (S := fun wz => Pins G22 wz) (last := 12) (by kernel_rfl) rfl ?_
 have hl27 := bdr w15
 have hp28 := hX24.pins.below hl27
 have hX29 := hX24.step hp28 hl27
 refine dT (i := 0) rfl rfl (by kernel_rfl) (fun _ _ => zN (k := 0) rfl eW rfl nz29 rfl) hX29.pins ?_
 refine dT (i := 1) rfl rfl (by kernel_rfl) (fun _ hS => zM (u := u) ag29 rfl ((dN hS hle23) _ _ _ (hbp12 0 _ rfl))) hX29.pins ?_
 refine dT (i := 2) rfl rfl (by kernel_rfl) (fun _ _ => zN (k := 1) rfl eW rfl nz29 rfl) hX29.pins ?_
 refine dT (i := 3) rfl rfl (by kernel_rfl) (fun _ hS => zM (u := y) ag29 rfl (hS _ _ _ (hbp25 1 _ rfl))) hX29.pins ?_
 refine dT (i := 5) rfl rfl (by kernel_rfl) (fun _ _ => zN (k := 1) rfl eW rfl nz29 rfl) hX29.pins ?_
 refine dT (i := 6) rfl rfl (by kernel_rfl) (fun _ hS => zM (u := v) ag29 rfl ((dN hS hle23) _ _ _ (hbp12 1 _ rfl))) hX29.pins ?_
 refine dT (i := 7) rfl rfl (by kernel_rfl) (fun _ _ => zN (k := 0) rfl eW rfl nz29 rfl) hX29.pins ?_
 refine dT (i := 8) rfl rfl (by kernel_rfl) (fun _ hS => zM (u := x) ag29 rfl (hS _ _ _ (hbp25 0 _ rfl))) hX29.pins ?_
 refine qO (i := 4) (j := 11) (by kernel_rfl) ?_ ?_
 refine (zV (i := 4) rfl rfl rfl (zG rfl _) (zR (vs := [u, y]) Tryz.func40 nm40 rfl rfl rfl ?_))
 refine dO (qF hX29.pins (hu.mono (dM hle10 hle23)) (hy.mono (dM hle10 hle23)) hL hQ (by omega) (fun i hi => (hg.lens i hi).1) (fun i hi => (hg2.lens i (by omega)).2)) ?_
 rintro _ w32 ⟨x30, G31, rfl, hr33, hx34⟩
 refine ⟨_, rfl, ?_⟩
 have hX35 := hX29.tr hx34
 have hr36 : RSl (eSl eInt) G31 x30 (jnA M.length L Q L.length) := by rw [← hb3]; exact hr33
 refine ⟨fun _ => (dN hX35.pins hx34.le), ?_⟩
 refine qO (i := 9) (j := 11) (by kernel_rfl) ?_ ?_
 refine (zV (i := 9) rfl rfl rfl (zG rfl _) (zR (vs := [v, x]) Tryz.func40 nm40 rfl rfl rfl ?_))
 refine dO (qF hX35.pins (hv.mono (dM (dM hle10 hle23) hx34.le)) (hx.mono (dM (dM hle10 hle23) hx34.le)) hR hM (by omega) (fun i hi => (hg.lens i (by omega)).2) (fun i hi => (hg2.lens i hi).1)) ?_
 rintro _ w39 ⟨x37, G38, rfl, hr40, hx41⟩
 refine ⟨_, rfl, ?_⟩
 have hX42 := hX35.tr hx41
 have hr43 : RSl (eSl eInt) G38 x37 (jnA M.length R M L.length) := by rw [← ha3]; exact hr40
 refine ⟨fun _ => (dN hX42.pins (dM hx34.le hx41.le)), ?_⟩
 refine qO (i := 10) (j := 11) (by kernel_rfl) ?_ ?_
 have hrq54 := pN hg hg2 hL hR hM hQ
 refine (zV (i := 10) rfl rfl rfl (zG rfl _) (zR (vs := [x30, x37]) Tryz.func39 nm39 rfl rfl rfl ?_))
 refine dO (jM hX42.pins (hr36.mono hx41.le) hr43 hrq54.1 hrq54.2.1 hrq54.2.2.1 hrq54.2.2.2.1 hrq54.2.2.2.2) ?_
 rintro _ w48 ⟨x44, y45, rs46, G47, rfl, hr49, hr50, hrl51, hrw52, hx53⟩
 refine ⟨_, rfl, ?_⟩
 have hX55 := hX42.tr hx53
 refine ⟨fun _ => (dN hX55.pins (dM (dM hx34.le hx41.le) hx53.le)), ?_⟩
 refine zQ (i := 11) (by kernel_rfl) (zV (i := 11) rfl rfl rfl (zG rfl _) (yN [(.slice none 0 0), (.slice none 0 0)] zr74 rfl hX55.pins (fun b56 w57 hk58 hb59 hp60 hl61 => ?_)))
 have hX62 := hX55.step hp60 hl61
 have hlo63 : w.heap.size ≤ b56 := by have := hX55.size; omega
 refine ⟨fun _ => (dN hX62.pins (dM (dM hx34.le hx41.le) hx53.le)), ?_⟩
 refine zQ (i := 12) (by kernel_rfl) (xX (i := 12) rfl rfl rfl (zG rfl _) (o_stp (cs' := [x44, y45]) (us := [x44, y45]) (v := (.agg [x44, y45].toArray)) sz74 rfl rfl rfl (xO hr49.one hr50.one) hX62.pins hb59 (dP rfl) rfl (fun w64 hb65 hp66 hg67 hz68 => ?_)))
 have hX69 := hX62.write hp66 hg67 ((yG hlo63))
 obtain ⟨G70, hle71, hX72, hbp73, hf74⟩ := hb65.shut hX69 hlo63
 refine ⟨fun h => absurd rfl h, ?_⟩
 refine yP (by kernel_rfl) (zA (zE (zF ?_)))
 refine qI rfl (yR (E := (eSl eBool)) (e := 50) dF sz50 hX72.pins (fun u75 w76 ho77 hp78 hl79 hk80 => ?_))
 have hX81 := hX72.step hp78 hl79
 have ho82 := ho77.weaken hX72.size
 refine qD rfl (zD (v := u75) rfl) (qe (zA (zE (zF ?_))))
 refine qD rfl (zN (k := 0) rfl eW rfl nz29 rfl) (qD rfl (zM (u := x) ag29 rfl ((dN hX81.pins (dM (dM (dM hx34.le hx41.le) hx53.le) hle71)) _ _ _ (hbp25 0 _ rfl))) (qD rfl (zP eT (v := x) rfl hx) (qD rfl (zD (v := (.int .i64 (M.length : Int))) rfl) (qe (zA (zE (zE (zF ?_))))))))
 refine qD rfl (zN (k := 0) rfl eW rfl nz29 rfl) (qD rfl (zM (u := u) ag29 rfl ((dN hX81.pins (dM (dM (dM (dM hle23 hx34.le) hx41.le) hx53.le) hle71)) _ _ _ (hbp12 0 _ rfl))) (qD rfl (zP eT (v := u) rfl hu) (qD rfl (zB (v := (.int .i64 0)) rfl) (qe (zA ?_)))))
 refine zX (yM (fun (k : Nat) (en : Nat → Value) (W : World) => ∃ (env1 : Nat → Value) (i : Nat) (ov : Value) (os : List (List Bool)) (GL1 : Pin), en = (upd (upd (upd (upd (upd (upd (upd env1 3 (.pointer (some ⟨b14, 0, none⟩))) 4 (.slice none 0 0)) 5 (.pointer (some ⟨b56, 0, none⟩))) 6 ov) 7 (.int .i64 (M.length : Int))) 28 (.int .i64 (L.length : Int))) 29 (.int .i64 (i : Int))) ∧ k = L.length - i ∧ Ext noS G w GL1 W ∧ Pin.le G70 GL1 ∧ (i ≤ L.length) ∧ (os = (List.range i).map fun u => (List.range M.length).map (hlB L R M Q u)) ∧ (os.length = i) ∧ (Own (eSl eBool) 50 GL1 W w.heap.size ov (os))) _ ⟨_, 0, u75, [], G70, (zC (x := 29) (zC (x := 28) (zC (x := 7) (zC (x := 6) (zC (x := 5) (zC (x := 4) (zS (x := 3) rfl) rfl) rfl) rfl) rfl) rfl) rfl), rfl, hX81, Pin.le_refl _, Nat.zero_le _, rfl, rfl, ho82⟩ ?_)
 rintro k83 _ w84 ⟨env1, i, ov, os, GL1, rfl, hk85, hX86, hlek83, hi, hos, hol, hw87⟩
 refine zE (zF ?_)
 refine qD rfl (yQ rfl rfl) (qe (zA (zE ?_)))
 refine yF (p := ((i : Int) : Int) < (L.length : Int)) rfl rfl (fun h88 => ?_) (fun h88 => ?_)
 refine wp_skip (zA (zE ?_))
 refine zX (zE (zF ?_))
 refine qD rfl (zB (v := (.int .i64 (i : Int))) rfl) (qD rfl (zD (v := (.int .i64 (i : Int))) rfl) (qe (zA (zE (zF ?_)))))
 refine qI rfl (yR (E := eBool) (e := 4) dA sz4 hX86.pins (fun u89 w90 ho91 hp92 hl93 hk94 => ?_))
 have hX95 := hX86.step hp92 hl93
 have ho96 := hw87.below hl93
 have ha97 : Apart u89.ownBlock ov.ownBlock := zI hk94 hw87.lt
 have ho98 := ho91.weaken hX86.size
 refine qD rfl (zD (v := u89) rfl) (qe (zA (zE (zE (zF ?_)))))
 refine qD rfl (zN (k := 0) rfl eW rfl nz29 rfl) (qD rfl (zM (u := x) ag29 rfl ((dN hX95.pins (dM (dM (dM (dM hx34.le hx41.le) hx53.le) hle71) hlek83)) _ _ _ (hbp25 0 _ rfl))) (qD rfl (zP eT (v := x) rfl hx) (qD rfl (zB (v := (.int .i64 0)) rfl) (qe (zA ?_)))))
 refine zX (yM (fun (k : Nat) (en : Nat → Value) (W : World) => ∃ (env1 : Nat → Value) (kc : Nat) (rv : Value) (rb : List Bool) (GL2 : Pin), en = (upd (upd (upd (upd (upd (upd (upd (upd (upd (upd (upd env1 3 (.pointer (some ⟨b14, 0, none⟩))) 4 (.slice none 0 0)) 5 (.pointer (some ⟨b56, 0, none⟩))) 6 ov) 7 (.int .i64 (M.length : Int))) 8 (.int .i64 (i : Int))) 9 rv) 28 (.int .i64 (L.length : Int))) 29 (.int .i64 (i : Int))) 35 (.int .i64 (M.length : Int))) 36 (.int .i64 (kc : Int))) ∧ k = M.length - kc ∧ Ext noS G w GL2 W ∧ Pin.le GL1 GL2 ∧ (kc ≤ M.length) ∧ (rb = (List.range kc).map (hlB L R M Q i)) ∧ (rb.length = kc) ∧ (Own eBool 4 GL2 W w.heap.size rv (rb)) ∧ (Own (eSl eBool) 50 GL2 W w.heap.size ov (os)) ∧ (Apart rv.ownBlock ov.ownBlock)) _ ⟨_, 0, u89, [], GL1, (zC (x := 36) (zC (x := 35) (zC (x := 29) (zC (x := 28) (zC (x := 9) (zC (x := 8) (zC (x := 7) (zC (x := 6) (zC (x := 5) (zC (x := 4) (zS (x := 3) rfl) rfl) rfl) rfl) rfl) rfl) rfl) rfl) rfl) rfl) rfl), rfl, hX95, Pin.le_refl _, Nat.zero_le _, rfl, rfl, ho98, ho96, ha97⟩ ?_)
 rintro k99 _ w100 ⟨env1, kc, rv, rb, GL2, rfl, hk101, hX102, hlek99, hk, hrb, hrl9, hw103, hw104, ha105⟩
 refine zE (zF ?_)
 refine qD rfl (yQ rfl rfl) (qe (zA (zE ?_)))
 refine yF (p := ((kc : Int) : Int) < (M.length : Int)) rfl rfl (fun h106 => ?_) (fun h106 => ?_)
 have hjl : (jnA M.length L Q L.length).length = L.length * M.length := xZ _
 have hpos := mE hg hg2 (i := i) (k := kc) (by omega) (by omega)
 have hsz9 := nW (a := (i : Int) * (M.length : Int) + (kc : Int)) (lf := false) (n := L.length * M.length) (by omega)
 have hlv := pP hg hg2 hrw52 (i := i) (k := kc) (by omega) (by omega)
 refine wp_skip (zA (zE ?_))
 refine zX (zE (zF ?_))
 refine qD rfl (zB (v := (.int .i64 (kc : Int))) rfl) (qD rfl (zD (v := (.int .i64 (kc : Int))) rfl) (qe (zA ?_)))
 refine yZ (S := fun wz => Pins GL2 wz) (last := 16) (by kernel_rfl) rfl ?_
 have hl107 := bdr w100
 have hp108 := hX102.pins.below hl107
 have hX109 := hX102.step hp108 hl107
 have ho110 := hw103.below hl107
 have ho111 := hw104.below hl107
 refine dT (i := 0) rfl rfl (by kernel_rfl) (fun _ _ => zB (v := rv) rfl) hX109.pins ?_
 refine dT (i := 1) rfl rfl (by kernel_rfl) (fun _ _ => zN (k := 1) rfl dG rfl nz72 rfl) hX109.pins ?_
 refine dT (i := 2) rfl rfl (by kernel_rfl) (fun _ hS => zM (u := y45) ag72 rfl ((dN hS (dM hlek83 hlek99)) _ _ _ (hbp73 1 _ rfl))) hX109.pins ?_
 refine dT (i := 3) rfl rfl (by kernel_rfl) (fun _ _ => zB (v := (.int .i64 (i : Int))) rfl) hX109.pins ?_
 refine dT (i := 4) rfl rfl (by kernel_rfl) (fun _ _ => zB (v := (.int .i64 (M.length : Int))) rfl) hX109.pins ?_
 refine dT (i := 5) rfl rfl (by kernel_rfl) (fun _ _ => jR rfl rfl (by omega)) hX109.pins ?_
 refine dT (i := 6) rfl rfl (by kernel_rfl) (fun _ _ => zB (v := (.int .i64 (kc : Int))) rfl) hX109.pins ?_
 refine dT (i := 7) rfl rfl (by kernel_rfl) (fun _ _ => yH rfl rfl (by omega)) hX109.pins ?_
 refine zQ (i := 8) (by kernel_rfl) (zV (i := 8) rfl rfl rfl (zG rfl _) (zR (vs := [(.int .i64 (((i : Int) * (M.length : Int)) + (kc : Int))), (.bool false)]) Tryz.func41 nm41 rfl rfl rfl ?_))
 refine dO (jS hX109.pins (by omega)) ?_
 rintro _ _ ⟨rfl, rfl⟩
 refine ⟨_, rfl, ?_⟩
 refine ⟨fun _ => hX109.pins, ?_⟩
 refine dT (i := 9) rfl rfl (by kernel_rfl) (fun _ _ => zL dD sz78 (v := y45) rfl rfl hr50 (by omega) (by omega)) hX109.pins ?_
 refine dT (i := 10) rfl rfl (by kernel_rfl) (fun _ _ => xG (off := 0) dE rfl rfl nz3 (z := (stZ (((i : Int) * (M.length : Int)) + (kc : Int)) false)) (k := 0) rfl hr50 (by omega) (by omega)) hX109.pins ?_
 obtain ⟨cs112, hrep113, hagg114, hcell115⟩ := fI (j := (stZ (((i : Int) * (M.length : Int)) + (kc : Int)) false).toNat) default (hr50.at (z := (stZ (((i : Int) * (M.length : Int)) + (kc : Int)) false)) (by omega) (by omega)) rfl
 obtain rfl := hrep113
 refine dT (i := 11) rfl rfl (by kernel_rfl) (fun _ hS => hcell115 0 _ rfl ag3 rfl (dN hS (dM (dM hle71 hlek83) hlek99))) hX109.pins ?_
 refine dT (i := 12) rfl rfl (by kernel_rfl) (fun _ _ => jY rfl rfl) hX109.pins ?_
 refine zQ (i := 13) (by kernel_rfl) (zV (i := 13) rfl rfl rfl (zG rfl _) (yL (E := eBool) (e := 4) [(.bool (decide (((rs46.getD (stZ (((i : Int) * (M.length : Int)) + (kc : Int)) false).toNat default).1 : Int) ≠ 2)))] [decide (((rs46.getD (stZ (((i : Int) * (M.length : Int)) + (kc : Int)) false).toNat default).1 : Int) ≠ 2)] dA sz4 zr4 (by exact xM (by rfl)) (yO (by rfl)) rfl rfl rfl rfl (by decide) hX109.pins (fun u116 w117 ho118 hp119 hl120 hk121 => ?_)))
 have hX122 := hX109.step hp119 hl120
 have ho123 := ho110.below hl120
 have ho124 := ho111.below hl120
 have ho127 := ho118.weaken hX109.size
 refine ⟨fun _ => hX122.pins, ?_⟩
 refine zQ (i := 14) (by kernel_rfl) (zV (i := 14) rfl rfl rfl (zG rfl _) (zU (E := eBool) (v := rv) (u := u116) 1 dA ap4 (by decide) rfl rfl hX122.pins ho123 ho127.src (by first | omega | (rw [List.nil_append]; omega) | (rw [List.length_nil]; omega) | (rw [List.length_append]; omega) | (simp; done) | (simp; omega) | (simp only [List.length_cons, List.length_nil]; omega) | (simp only [List.length_append, List.length_cons, List.length_nil]; omega)) (by first | omega | (rw [List.nil_append]; omega) | (rw [List.length_nil]; omega) | (rw [List.length_append]; omega) | (simp; done) | (simp; omega) | (simp only [List.length_cons, List.length_nil]; omega) | (simp only [List.length_append, List.length_cons, List.length_nil]; omega)) (hX122.size) (fun u128 w129 ho130 hp131 hg132 hw133 => ?_)))
 have hX134 := hX122.write hp131 hg132 ((yB ho123))
 have ho135 := ho124.keptA hg132 ha105.symm
 have ha137 : Apart ov.ownBlock u128.ownBlock := zH ha105.symm hw133 ho124.lt
 have hm139 := la1 rb (decide (((rs46.getD (stZ (((i : Int) * (M.length : Int)) + (kc : Int)) false).toNat default).1 : Int) ≠ 2))
 refine ⟨fun _ => hX134.pins, ?_⟩
 refine dT (i := 15) rfl rfl (by kernel_rfl) (fun _ _ => zD (v := u128) rfl) hX134.pins ?_
 refine yP (by kernel_rfl) (yC (zA (zF ?_)))
 refine qD rfl (yH rfl rfl (by omega)) (qD rfl (zB (v := (.int .i64 ((kc : Int) + 1))) rfl) (qe (yE (⟨_, ?_, _, rfl, _, kc + 1, u128, rb ++ ([decide (((rs46.getD (stZ (((i : Int) * (M.length : Int)) + (kc : Int)) false).toNat default).1 : Int) ≠ 2)]), GL2, (zC (x := 36) (zC (x := 35) (zC (x := 29) (zC (x := 28) (zC (x := 9) (zC (x := 8) (zC (x := 7) (zC (x := 6) (zC (x := 5) (zC (x := 4) (zS (x := 3) rfl) rfl) rfl) rfl) rfl) rfl) rfl) rfl) rfl) rfl) rfl), rfl, hX134, hlek99, (by omega), (by rw [hrb, List.range_succ, List.map_append]; exact congrArg _ (by show _ = [hlB L R M Q i kc]; rw [← hlv])), (by simp; omega), ho130, ho135, ha137.symm⟩))))
 omega
 refine wp_exit (zZ (yJ (yI (zA (zF ?_)))))
 refine qD rfl (zB (v := ov) rfl) (qD rfl (zB (v := rv) rfl) ?_)
 obtain ⟨G140, hle143, hX142, hr141, hf144⟩ := hw103.sealed hX102
 have ho145 := hw104.moreO hle143 hf144 ha105.symm
 refine qI rfl (yL (E := (eSl eBool)) (e := 50) [rv] [rb] dF sz50 zr50 (by exact xM (⟨_, rfl, hr141⟩)) (yO hr141.one) rfl rfl rfl rfl (by decide) hX142.pins (fun u146 w147 ho148 hp149 hl150 hk151 => ?_))
 have hX152 := hX142.step hp149 hl150
 have ho153 := ho145.below hl150
 have ho155 := ho148.weaken hX142.size
 refine qI rfl (zU (E := (eSl eBool)) (v := ov) (u := u146) 24 dF ap50 (by decide) rfl rfl hX152.pins ho153 ho155.src (by first | omega | (rw [List.nil_append]; omega) | (rw [List.length_nil]; omega) | (rw [List.length_append]; omega) | (simp; done) | (simp; omega) | (simp only [List.length_cons, List.length_nil]; omega) | (simp only [List.length_append, List.length_cons, List.length_nil]; omega)) (by first | omega | (rw [List.nil_append]; omega) | (rw [List.length_nil]; omega) | (rw [List.length_append]; omega) | (simp; done) | (simp; omega) | (simp only [List.length_cons, List.length_nil]; omega) | (simp only [List.length_append, List.length_cons, List.length_nil]; omega)) (hX152.size) (fun u156 w157 ho158 hp159 hg160 hw161 => ?_))
 have hX162 := hX152.write hp159 hg160 ((yB ho153))
 have hm165 := la1 os rb
 refine qD rfl (zD (v := u156) rfl) (qe (yC (zA (zF ?_))))
 refine qD rfl (yH rfl rfl (by omega)) (qD rfl (zB (v := (.int .i64 ((i : Int) + 1))) rfl) (qe (yE (⟨_, ?_, _, rfl, _, i + 1, u156, os ++ ([rb]), G140, (zC (x := 29) (zC (x := 28) (zC (x := 7) (zC (x := 6) (zC (x := 5) (zC (x := 4) (zS (x := 3) rfl) rfl) rfl) rfl) rfl) rfl) rfl), rfl, hX162, (dM (dM hlek83 hlek99) hle143), (by omega), (by rw [hos, hrb, show kc = M.length by omega, List.range_succ, List.map_append]; rfl), (by simp; omega), ho158⟩))))
 omega
 refine wp_exit (zZ (yJ (yI (zA (zE (zF ?_))))))
 refine qD rfl (zB (v := ov) rfl) (qD rfl (zD (v := ov) rfl) (qe (zA ?_)))
 refine wp_ret (zW (zT (v := ov) rfl rfl rfl ?_))
 obtain ⟨G166, hle169, hX168, hr167, hf170⟩ := hw87.sealed hX86
 have hin : i = L.length := by omega
 rw [hin] at hos
 exact ⟨_, _, rfl, (by rw [← hos]; exact hr167), hX168⟩
 refine (zV (i := 11) rfl rfl rfl (zG rfl _) (yN [(.slice none 0 0), (.slice none 0 0)] zr74 rfl hX42.pins (fun b171 w172 hk173 hb174 hp175 hl176 => ?_)))
 have hX177 := hX42.step hp175 hl176
 have hlo178 : w.heap.size ≤ b171 := by have := hX42.size; omega
 refine ⟨fun _ => (dN hX177.pins (dM hx34.le hx41.le)), ?_⟩
 have hrq189 := pN hg hg2 hL hR hM hQ
 refine zQ (i := 10) (by kernel_rfl) (zV (i := 10) rfl rfl rfl (zG rfl _) (zR (vs := [x30, x37]) Tryz.func39 nm39 rfl rfl rfl ?_))
 refine dO (jM hX177.pins (hr36.mono hx41.le) hr43 hrq189.1 hrq189.2.1 hrq189.2.2.1 hrq189.2.2.2.1 hrq189.2.2.2.2) ?_
 rintro _ w183 ⟨x179, y180, rs181, G182, rfl, hr184, hr185, hrl186, hrw187, hx188⟩
 refine ⟨_, rfl, ?_⟩
 have hX190 := hX177.tr hx188
 have hb191 := hb174.ext hx188
 refine ⟨fun _ => (dN hX190.pins (dM (dM hx34.le hx41.le) hx188.le)), ?_⟩
 refine zQ (i := 12) (by kernel_rfl) (xX (i := 12) rfl rfl rfl (zG rfl _) (o_stp (cs' := [x179, y180]) (us := [x179, y180]) (v := (.agg [x179, y180].toArray)) sz74 rfl rfl rfl (xO hr184.one hr185.one) hX190.pins hb191 (dP rfl) rfl (fun w192 hb193 hp194 hg195 hz196 => ?_)))
 have hX197 := hX190.write hp194 hg195 ((yG hlo178))
 obtain ⟨G198, hle199, hX200, hbp201, hf202⟩ := hb193.shut hX197 hlo178
 refine ⟨fun h => absurd rfl h, ?_⟩
 refine yP (by kernel_rfl) (zA (zE (zF ?_)))
 refine qI rfl (yR (E := (eSl eBool)) (e := 50) dF sz50 hX200.pins (fun u203 w204 ho205 hp206 hl207 hk208 => ?_))
 have hX209 := hX200.step hp206 hl207
 have ho210 := ho205.weaken hX200.size
 refine qD rfl (zD (v := u203) rfl) (qe (zA (zE (zF ?_))))
 refine qD rfl (zN (k := 0) rfl eW rfl nz29 rfl) (qD rfl (zM (u := x) ag29 rfl ((dN hX209.pins (dM (dM (dM hx34.le hx41.le) hx188.le) hle199)) _ _ _ (hbp25 0 _ rfl))) (qD rfl (zP eT (v := x) rfl hx) (qD rfl (zD (v := (.int .i64 (M.length : Int))) rfl) (qe (zA (zE (zE (zF ?_))))))))
 refine qD rfl (zN (k := 0) rfl eW rfl nz29 rfl) (qD rfl (zM (u := u) ag29 rfl ((dN hX209.pins (dM (dM (dM (dM hle23 hx34.le) hx41.le) hx188.le) hle199)) _ _ _ (hbp12 0 _ rfl))) (qD rfl (zP eT (v := u) rfl hu) (qD rfl (zB (v := (.int .i64 0)) rfl) (qe (zA ?_)))))
 refine zX (yM (fun (k : Nat) (en : Nat → Value) (W : World) => ∃ (env1 : Nat → Value) (i : Nat) (ov : Value) (os : List (List Bool)) (GL1 : Pin), en = (upd (upd (upd (upd (upd (upd (upd env1 3 (.pointer (some ⟨b14, 0, none⟩))) 4 (.slice none 0 0)) 5 (.pointer (some ⟨b171, 0, none⟩))) 6 ov) 7 (.int .i64 (M.length : Int))) 28 (.int .i64 (L.length : Int))) 29 (.int .i64 (i : Int))) ∧ k = L.length - i ∧ Ext noS G w GL1 W ∧ Pin.le G198 GL1 ∧ (i ≤ L.length) ∧ (os = (List.range i).map fun u => (List.range M.length).map (hlB L R M Q u)) ∧ (os.length = i) ∧ (Own (eSl eBool) 50 GL1 W w.heap.size ov (os))) _ ⟨_, 0, u203, [], G198, (zC (x := 29) (zC (x := 28) (zC (x := 7) (zC (x := 6) (zC (x := 5) (zC (x := 4) (zS (x := 3) rfl) rfl) rfl) rfl) rfl) rfl) rfl), rfl, hX209, Pin.le_refl _, Nat.zero_le _, rfl, rfl, ho210⟩ ?_)
 rintro k211 _ w212 ⟨env1, i, ov, os, GL1, rfl, hk213, hX214, hlek211, hi, hos, hol, hw215⟩
 refine zE (zF ?_)
 refine qD rfl (yQ rfl rfl) (qe (zA (zE ?_)))
 refine yF (p := ((i : Int) : Int) < (L.length : Int)) rfl rfl (fun h216 => ?_) (fun h216 => ?_)
 refine wp_skip (zA (zE ?_))
 refine zX (zE (zF ?_))
 refine qD rfl (zB (v := (.int .i64 (i : Int))) rfl) (qD rfl (zD (v := (.int .i64 (i : Int))) rfl) (qe (zA (zE (zF ?_)))))
 refine qI rfl (yR (E := eBool) (e := 4) dA sz4 hX214.pins (fun u217 w218 ho219 hp220 hl221 hk222 => ?_))
 have hX223 := hX214.step hp220 hl221
 have ho224 := hw215.below hl221
 have ha225 : Apart u217.ownBlock ov.ownBlock := zI hk222 hw215.lt
 have ho226 := ho219.weaken hX214.size
 refine qD rfl (zD (v := u217) rfl) (qe (zA (zE (zE (zF ?_)))))
 refine qD rfl (zN (k := 0) rfl eW rfl nz29 rfl) (qD rfl (zM (u := x) ag29 rfl ((dN hX223.pins (dM (dM (dM (dM hx34.le hx41.le) hx188.le) hle199) hlek211)) _ _ _ (hbp25 0 _ rfl))) (qD rfl (zP eT (v := x) rfl hx) (qD rfl (zB (v := (.int .i64 0)) rfl) (qe (zA ?_)))))
 refine zX (yM (fun (k : Nat) (en : Nat → Value) (W : World) => ∃ (env1 : Nat → Value) (kc : Nat) (rv : Value) (rb : List Bool) (GL2 : Pin), en = (upd (upd (upd (upd (upd (upd (upd (upd (upd (upd (upd env1 3 (.pointer (some ⟨b14, 0, none⟩))) 4 (.slice none 0 0)) 5 (.pointer (some ⟨b171, 0, none⟩))) 6 ov) 7 (.int .i64 (M.length : Int))) 8 (.int .i64 (i : Int))) 9 rv) 28 (.int .i64 (L.length : Int))) 29 (.int .i64 (i : Int))) 35 (.int .i64 (M.length : Int))) 36 (.int .i64 (kc : Int))) ∧ k = M.length - kc ∧ Ext noS G w GL2 W ∧ Pin.le GL1 GL2 ∧ (kc ≤ M.length) ∧ (rb = (List.range kc).map (hlB L R M Q i)) ∧ (rb.length = kc) ∧ (Own eBool 4 GL2 W w.heap.size rv (rb)) ∧ (Own (eSl eBool) 50 GL2 W w.heap.size ov (os)) ∧ (Apart rv.ownBlock ov.ownBlock)) _ ⟨_, 0, u217, [], GL1, (zC (x := 36) (zC (x := 35) (zC (x := 29) (zC (x := 28) (zC (x := 9) (zC (x := 8) (zC (x := 7) (zC (x := 6) (zC (x := 5) (zC (x := 4) (zS (x := 3) rfl) rfl) rfl) rfl) rfl) rfl) rfl) rfl) rfl) rfl) rfl), rfl, hX223, Pin.le_refl _, Nat.zero_le _, rfl, rfl, ho226, ho224, ha225⟩ ?_)
 rintro k227 _ w228 ⟨env1, kc, rv, rb, GL2, rfl, hk229, hX230, hlek227, hk, hrb, hrl9, hw231, hw232, ha233⟩
 refine zE (zF ?_)
 refine qD rfl (yQ rfl rfl) (qe (zA (zE ?_)))
 refine yF (p := ((kc : Int) : Int) < (M.length : Int)) rfl rfl (fun h234 => ?_) (fun h234 => ?_)
 have hjl : (jnA M.length L Q L.length).length = L.length * M.length := xZ _
 have hpos := mE hg hg2 (i := i) (k := kc) (by omega) (by omega)
 have hsz9 := nW (a := (i : Int) * (M.length : Int) + (kc : Int)) (lf := false) (n := L.length * M.length) (by omega)
 have hlv := pP hg hg2 hrw187 (i := i) (k := kc) (by omega) (by omega)
 refine wp_skip (zA (zE ?_))
 refine zX (zE (zF ?_))
 refine qD rfl (zB (v := (.int .i64 (kc : Int))) rfl) (qD rfl (zD (v := (.int .i64 (kc : Int))) rfl) (qe (zA ?_)))
 refine yZ (S := fun wz => Pins GL2 wz) (last := 16) (by kernel_rfl) rfl ?_
 have hl235 := bdr w228
 have hp236 := hX230.pins.below hl235
 have hX237 := hX230.step hp236 hl235
 have ho238 := hw231.below hl235
 have ho239 := hw232.below hl235
 refine dT (i := 0) rfl rfl (by kernel_rfl) (fun _ _ => zB (v := rv) rfl) hX237.pins ?_
 refine dT (i := 1) rfl rfl (by kernel_rfl) (fun _ _ => zN (k := 1) rfl dG rfl nz72 rfl) hX237.pins ?_
 refine dT (i := 2) rfl rfl (by kernel_rfl) (fun _ hS => zM (u := y180) ag72 rfl ((dN hS (dM hlek211 hlek227)) _ _ _ (hbp201 1 _ rfl))) hX237.pins ?_
 refine dT (i := 3) rfl rfl (by kernel_rfl) (fun _ _ => zB (v := (.int .i64 (i : Int))) rfl) hX237.pins ?_
 refine dT (i := 4) rfl rfl (by kernel_rfl) (fun _ _ => zB (v := (.int .i64 (M.length : Int))) rfl) hX237.pins ?_
 refine dT (i := 5) rfl rfl (by kernel_rfl) (fun _ _ => jR rfl rfl (by omega)) hX237.pins ?_
 refine dT (i := 6) rfl rfl (by kernel_rfl) (fun _ _ => zB (v := (.int .i64 (kc : Int))) rfl) hX237.pins ?_
 refine dT (i := 7) rfl rfl (by kernel_rfl) (fun _ _ => yH rfl rfl (by omega)) hX237.pins ?_
 refine zQ (i := 8) (by kernel_rfl) (zV (i := 8) rfl rfl rfl (zG rfl _) (zR (vs := [(.int .i64 (((i : Int) * (M.length : Int)) + (kc : Int))), (.bool false)]) Tryz.func41 nm41 rfl rfl rfl ?_))
 refine dO (jS hX237.pins (by omega)) ?_
 rintro _ _ ⟨rfl, rfl⟩
 refine ⟨_, rfl, ?_⟩
 refine ⟨fun _ => hX237.pins, ?_⟩
 refine dT (i := 9) rfl rfl (by kernel_rfl) (fun _ _ => zL dD sz78 (v := y180) rfl rfl hr185 (by omega) (by omega)) hX237.pins ?_
 refine dT (i := 10) rfl rfl (by kernel_rfl) (fun _ _ => xG (off := 0) dE rfl rfl nz3 (z := (stZ (((i : Int) * (M.length : Int)) + (kc : Int)) false)) (k := 0) rfl hr185 (by omega) (by omega)) hX237.pins ?_
 obtain ⟨cs240, hrep241, hagg242, hcell243⟩ := fI (j := (stZ (((i : Int) * (M.length : Int)) + (kc : Int)) false).toNat) default (hr185.at (z := (stZ (((i : Int) * (M.length : Int)) + (kc : Int)) false)) (by omega) (by omega)) rfl
 obtain rfl := hrep241
 refine dT (i := 11) rfl rfl (by kernel_rfl) (fun _ hS => hcell243 0 _ rfl ag3 rfl (dN hS (dM (dM hle199 hlek211) hlek227))) hX237.pins ?_
 refine dT (i := 12) rfl rfl (by kernel_rfl) (fun _ _ => jY rfl rfl) hX237.pins ?_
 refine zQ (i := 13) (by kernel_rfl) (zV (i := 13) rfl rfl rfl (zG rfl _) (yL (E := eBool) (e := 4) [(.bool (decide (((rs181.getD (stZ (((i : Int) * (M.length : Int)) + (kc : Int)) false).toNat default).1 : Int) ≠ 2)))] [decide (((rs181.getD (stZ (((i : Int) * (M.length : Int)) + (kc : Int)) false).toNat default).1 : Int) ≠ 2)] dA sz4 zr4 (by exact xM (by rfl)) (yO (by rfl)) rfl rfl rfl rfl (by decide) hX237.pins (fun u244 w245 ho246 hp247 hl248 hk249 => ?_)))
 have hX250 := hX237.step hp247 hl248
 have ho251 := ho238.below hl248
 have ho252 := ho239.below hl248
 have ho255 := ho246.weaken hX237.size
 refine ⟨fun _ => hX250.pins, ?_⟩
 refine zQ (i := 14) (by kernel_rfl) (zV (i := 14) rfl rfl rfl (zG rfl _) (zU (E := eBool) (v := rv) (u := u244) 1 dA ap4 (by decide) rfl rfl hX250.pins ho251 ho255.src (by first | omega | (rw [List.nil_append]; omega) | (rw [List.length_nil]; omega) | (rw [List.length_append]; omega) | (simp; done) | (simp; omega) | (simp only [List.length_cons, List.length_nil]; omega) | (simp only [List.length_append, List.length_cons, List.length_nil]; omega)) (by first | omega | (rw [List.nil_append]; omega) | (rw [List.length_nil]; omega) | (rw [List.length_append]; omega) | (simp; done) | (simp; omega) | (simp only [List.length_cons, List.length_nil]; omega) | (simp only [List.length_append, List.length_cons, List.length_nil]; omega)) (hX250.size) (fun u256 w257 ho258 hp259 hg260 hw261 => ?_)))
 have hX262 := hX250.write hp259 hg260 ((yB ho251))
 have ho263 := ho252.keptA hg260 ha233.symm
 have ha265 : Apart ov.ownBlock u256.ownBlock := zH ha233.symm hw261 ho252.lt
 have hm267 := la1 rb (decide (((rs181.getD (stZ (((i : Int) * (M.length : Int)) + (kc : Int)) false).toNat default).1 : Int) ≠ 2))
 refine ⟨fun _ => hX262.pins, ?_⟩
 refine dT (i := 15) rfl rfl (by kernel_rfl) (fun _ _ => zD (v := u256) rfl) hX262.pins ?_
 refine yP (by kernel_rfl) (yC (zA (zF ?_)))
 refine qD rfl (yH rfl rfl (by omega)) (qD rfl (zB (v := (.int .i64 ((kc : Int) + 1))) rfl) (qe (yE (⟨_, ?_, _, rfl, _, kc + 1, u256, rb ++ ([decide (((rs181.getD (stZ (((i : Int) * (M.length : Int)) + (kc : Int)) false).toNat default).1 : Int) ≠ 2)]), GL2, (zC (x := 36) (zC (x := 35) (zC (x := 29) (zC (x := 28) (zC (x := 9) (zC (x := 8) (zC (x := 7) (zC (x := 6) (zC (x := 5) (zC (x := 4) (zS (x := 3) rfl) rfl) rfl) rfl) rfl) rfl) rfl) rfl) rfl) rfl) rfl), rfl, hX262, hlek227, (by omega), (by rw [hrb, List.range_succ, List.map_append]; exact congrArg _ (by show _ = [hlB L R M Q i kc]; rw [← hlv])), (by simp; omega), ho258, ho263, ha265.symm⟩))))
 omega
 refine wp_exit (zZ (yJ (yI (zA (zF ?_)))))
 refine qD rfl (zB (v := ov) rfl) (qD rfl (zB (v := rv) rfl) ?_)
 obtain ⟨G268, hle271, hX270, hr269, hf272⟩ := hw231.sealed hX230
 have ho273 := hw232.moreO hle271 hf272 ha233.symm
 refine qI rfl (yL (E := (eSl eBool)) (e := 50) [rv] [rb] dF sz50 zr50 (by exact xM (⟨_, rfl, hr269⟩)) (yO hr269.one) rfl rfl rfl rfl (by decide) hX270.pins (fun u274 w275 ho276 hp277 hl278 hk279 => ?_))
 have hX280 := hX270.step hp277 hl278
 have ho281 := ho273.below hl278
 have ho283 := ho276.weaken hX270.size
 refine qI rfl (zU (E := (eSl eBool)) (v := ov) (u := u274) 24 dF ap50 (by decide) rfl rfl hX280.pins ho281 ho283.src (by first | omega | (rw [List.nil_append]; omega) | (rw [List.length_nil]; omega) | (rw [List.length_append]; omega) | (simp; done) | (simp; omega) | (simp only [List.length_cons, List.length_nil]; omega) | (simp only [List.length_append, List.length_cons, List.length_nil]; omega)) (by first | omega | (rw [List.nil_append]; omega) | (rw [List.length_nil]; omega) | (rw [List.length_append]; omega) | (simp; done) | (simp; omega) | (simp only [List.length_cons, List.length_nil]; omega) | (simp only [List.length_append, List.length_cons, List.length_nil]; omega)) (hX280.size) (fun u284 w285 ho286 hp287 hg288 hw289 => ?_))
 have hX290 := hX280.write hp287 hg288 ((yB ho281))
 have hm293 := la1 os rb
 refine qD rfl (zD (v := u284) rfl) (qe (yC (zA (zF ?_))))
 refine qD rfl (yH rfl rfl (by omega)) (qD rfl (zB (v := (.int .i64 ((i : Int) + 1))) rfl) (qe (yE (⟨_, ?_, _, rfl, _, i + 1, u284, os ++ ([rb]), G268, (zC (x := 29) (zC (x := 28) (zC (x := 7) (zC (x := 6) (zC (x := 5) (zC (x := 4) (zS (x := 3) rfl) rfl) rfl) rfl) rfl) rfl) rfl), rfl, hX290, (dM (dM hlek211 hlek227) hle271), (by omega), (by rw [hos, hrb, show kc = M.length by omega, List.range_succ, List.map_append]; rfl), (by simp; omega), ho286⟩))))
 omega
 refine wp_exit (zZ (yJ (yI (zA (zE (zF ?_))))))
 refine qD rfl (zB (v := ov) rfl) (qD rfl (zD (v := ov) rfl) (qe (zA ?_)))
 refine wp_ret (zW (zT (v := ov) rfl rfl rfl ?_))
 obtain ⟨G294, hle297, hX296, hr295, hf298⟩ := hw215.sealed hX214
 have hin : i = L.length := by omega
 rw [hin] at hos
 exact ⟨_, _, rfl, (by rw [← hos]; exact hr295), hX296⟩
 refine (zV (i := 11) rfl rfl rfl (zG rfl _) (yN [(.slice none 0 0), (.slice none 0 0)] zr74 rfl hX35.pins (fun b299 w300 hk301 hb302 hp303 hl304 => ?_)))
 have hX305 := hX35.step hp303 hl304
 have hlo306 : w.heap.size ≤ b299 := by have := hX35.size; omega
 refine ⟨fun _ => (dN hX305.pins hx34.le), ?_⟩
 refine zQ (i := 9) (by kernel_rfl) (zV (i := 9) rfl rfl rfl (zG rfl _) (zR (vs := [v, x]) Tryz.func40 nm40 rfl rfl rfl ?_))
 refine dO (qF hX305.pins (hv.mono (dM (dM hle10 hle23) hx34.le)) (hx.mono (dM (dM hle10 hle23) hx34.le)) hR hM (by omega) (fun i hi => (hg.lens i (by omega)).2) (fun i hi => (hg2.lens i hi).1)) ?_
 rintro _ w309 ⟨x307, G308, rfl, hr310, hx311⟩
 refine ⟨_, rfl, ?_⟩
 have hX312 := hX305.tr hx311
 have hb313 := hb302.ext hx311
 have hr314 : RSl (eSl eInt) G308 x307 (jnA M.length R M L.length) := by rw [← ha3]; exact hr310
 refine ⟨fun _ => (dN hX312.pins (dM hx34.le hx311.le)), ?_⟩
 have hrq325 := pN hg hg2 hL hR hM hQ
 refine zQ (i := 10) (by kernel_rfl) (zV (i := 10) rfl rfl rfl (zG rfl _) (zR (vs := [x30, x307]) Tryz.func39 nm39 rfl rfl rfl ?_))
 refine dO (jM hX312.pins (hr36.mono hx311.le) hr314 hrq325.1 hrq325.2.1 hrq325.2.2.1 hrq325.2.2.2.1 hrq325.2.2.2.2) ?_
 rintro _ w319 ⟨x315, y316, rs317, G318, rfl, hr320, hr321, hrl322, hrw323, hx324⟩
 refine ⟨_, rfl, ?_⟩
 have hX326 := hX312.tr hx324
 have hb327 := hb313.ext hx324
 refine ⟨fun _ => (dN hX326.pins (dM (dM hx34.le hx311.le) hx324.le)), ?_⟩
 refine zQ (i := 12) (by kernel_rfl) (xX (i := 12) rfl rfl rfl (zG rfl _) (o_stp (cs' := [x315, y316]) (us := [x315, y316]) (v := (.agg [x315, y316].toArray)) sz74 rfl rfl rfl (xO hr320.one hr321.one) hX326.pins hb327 (dP rfl) rfl (fun w328 hb329 hp330 hg331 hz332 => ?_)))
 have hX333 := hX326.write hp330 hg331 ((yG hlo306))
 obtain ⟨G334, hle335, hX336, hbp337, hf338⟩ := hb329.shut hX333 hlo306
 refine ⟨fun h => absurd rfl h, ?_⟩
 refine yP (by kernel_rfl) (zA (zE (zF ?_)))
 refine qI rfl (yR (E := (eSl eBool)) (e := 50) dF sz50 hX336.pins (fun u339 w340 ho341 hp342 hl343 hk344 => ?_))
 have hX345 := hX336.step hp342 hl343
 have ho346 := ho341.weaken hX336.size
 refine qD rfl (zD (v := u339) rfl) (qe (zA (zE (zF ?_))))
 refine qD rfl (zN (k := 0) rfl eW rfl nz29 rfl) (qD rfl (zM (u := x) ag29 rfl ((dN hX345.pins (dM (dM (dM hx34.le hx311.le) hx324.le) hle335)) _ _ _ (hbp25 0 _ rfl))) (qD rfl (zP eT (v := x) rfl hx) (qD rfl (zD (v := (.int .i64 (M.length : Int))) rfl) (qe (zA (zE (zE (zF ?_))))))))
 refine qD rfl (zN (k := 0) rfl eW rfl nz29 rfl) (qD rfl (zM (u := u) ag29 rfl ((dN hX345.pins (dM (dM (dM (dM hle23 hx34.le) hx311.le) hx324.le) hle335)) _ _ _ (hbp12 0 _ rfl))) (qD rfl (zP eT (v := u) rfl hu) (qD rfl (zB (v := (.int .i64 0)) rfl) (qe (zA ?_)))))
 refine zX (yM (fun (k : Nat) (en : Nat → Value) (W : World) => ∃ (env1 : Nat → Value) (i : Nat) (ov : Value) (os : List (List Bool)) (GL1 : Pin), en = (upd (upd (upd (upd (upd (upd (upd env1 3 (.pointer (some ⟨b14, 0, none⟩))) 4 (.slice none 0 0)) 5 (.pointer (some ⟨b299, 0, none⟩))) 6 ov) 7 (.int .i64 (M.length : Int))) 28 (.int .i64 (L.length : Int))) 29 (.int .i64 (i : Int))) ∧ k = L.length - i ∧ Ext noS G w GL1 W ∧ Pin.le G334 GL1 ∧ (i ≤ L.length) ∧ (os = (List.range i).map fun u => (List.range M.length).map (hlB L R M Q u)) ∧ (os.length = i) ∧ (Own (eSl eBool) 50 GL1 W w.heap.size ov (os))) _ ⟨_, 0, u339, [], G334, (zC (x := 29) (zC (x := 28) (zC (x := 7) (zC (x := 6) (zC (x := 5) (zC (x := 4) (zS (x := 3) rfl) rfl) rfl) rfl) rfl) rfl) rfl), rfl, hX345, Pin.le_refl _, Nat.zero_le _, rfl, rfl, ho346⟩ ?_)
 rintro k347 _ w348 ⟨env1, i, ov, os, GL1, rfl, hk349, hX350, hlek347, hi, hos, hol, hw351⟩
 refine zE (zF ?_)
 refine qD rfl (yQ rfl rfl) (qe (zA (zE ?_)))
 refine yF (p := ((i : Int) : Int) < (L.length : Int)) rfl rfl (fun h352 => ?_) (fun h352 => ?_)
 refine wp_skip (zA (zE ?_))
 refine zX (zE (zF ?_))
 refine qD rfl (zB (v := (.int .i64 (i : Int))) rfl) (qD rfl (zD (v := (.int .i64 (i : Int))) rfl) (qe (zA (zE (zF ?_)))))
 refine qI rfl (yR (E := eBool) (e := 4) dA sz4 hX350.pins (fun u353 w354 ho355 hp356 hl357 hk358 => ?_))
 have hX359 := hX350.step hp356 hl357
 have ho360 := hw351.below hl357
 have ha361 : Apart u353.ownBlock ov.ownBlock := zI hk358 hw351.lt
 have ho362 := ho355.weaken hX350.size
 refine qD rfl (zD (v := u353) rfl) (qe (zA (zE (zE (zF ?_)))))
 refine qD rfl (zN (k := 0) rfl eW rfl nz29 rfl) (qD rfl (zM (u := x) ag29 rfl ((dN hX359.pins (dM (dM (dM (dM hx34.le hx311.le) hx324.le) hle335) hlek347)) _ _ _ (hbp25 0 _ rfl))) (qD rfl (zP eT (v := x) rfl hx) (qD rfl (zB (v := (.int .i64 0)) rfl) (qe (zA ?_)))))
 refine zX (yM (fun (k : Nat) (en : Nat → Value) (W : World) => ∃ (env1 : Nat → Value) (kc : Nat) (rv : Value) (rb : List Bool) (GL2 : Pin), en = (upd (upd (upd (upd (upd (upd (upd (upd (upd (upd (upd env1 3 (.pointer (some ⟨b14, 0, none⟩))) 4 (.slice none 0 0)) 5 (.pointer (some ⟨b299, 0, none⟩))) 6 ov) 7 (.int .i64 (M.length : Int))) 8 (.int .i64 (i : Int))) 9 rv) 28 (.int .i64 (L.length : Int))) 29 (.int .i64 (i : Int))) 35 (.int .i64 (M.length : Int))) 36 (.int .i64 (kc : Int))) ∧ k = M.length - kc ∧ Ext noS G w GL2 W ∧ Pin.le GL1 GL2 ∧ (kc ≤ M.length) ∧ (rb = (List.range kc).map (hlB L R M Q i)) ∧ (rb.length = kc) ∧ (Own eBool 4 GL2 W w.heap.size rv (rb)) ∧ (Own (eSl eBool) 50 GL2 W w.heap.size ov (os)) ∧ (Apart rv.ownBlock ov.ownBlock)) _ ⟨_, 0, u353, [], GL1, (zC (x := 36) (zC (x := 35) (zC (x := 29) (zC (x := 28) (zC (x := 9) (zC (x := 8) (zC (x := 7) (zC (x := 6) (zC (x := 5) (zC (x := 4) (zS (x := 3) rfl) rfl) rfl) rfl) rfl) rfl) rfl) rfl) rfl) rfl) rfl), rfl, hX359, Pin.le_refl _, Nat.zero_le _, rfl, rfl, ho362, ho360, ha361⟩ ?_)
 rintro k363 _ w364 ⟨env1, kc, rv, rb, GL2, rfl, hk365, hX366, hlek363, hk, hrb, hrl9, hw367, hw368, ha369⟩
 refine zE (zF ?_)
 refine qD rfl (yQ rfl rfl) (qe (zA (zE ?_)))
 refine yF (p := ((kc : Int) : Int) < (M.length : Int)) rfl rfl (fun h370 => ?_) (fun h370 => ?_)
 have hjl : (jnA M.length L Q L.length).length = L.length * M.length := xZ _
 have hpos := mE hg hg2 (i := i) (k := kc) (by omega) (by omega)
 have hsz9 := nW (a := (i : Int) * (M.length : Int) + (kc : Int)) (lf := false) (n := L.length * M.length) (by omega)
 have hlv := pP hg hg2 hrw323 (i := i) (k := kc) (by omega) (by omega)
 refine wp_skip (zA (zE ?_))
 refine zX (zE (zF ?_))
 refine qD rfl (zB (v := (.int .i64 (kc : Int))) rfl) (qD rfl (zD (v := (.int .i64 (kc : Int))) rfl) (qe (zA ?_)))
 refine yZ (S := fun wz => Pins GL2 wz) (last := 16) (by kernel_rfl) rfl ?_
 have hl371 := bdr w364
 have hp372 := hX366.pins.below hl371
 have hX373 := hX366.step hp372 hl371
 have ho374 := hw367.below hl371
 have ho375 := hw368.below hl371
 refine dT (i := 0) rfl rfl (by kernel_rfl) (fun _ _ => zB (v := rv) rfl) hX373.pins ?_
 refine dT (i := 1) rfl rfl (by kernel_rfl) (fun _ _ => zN (k := 1) rfl dG rfl nz72 rfl) hX373.pins ?_
 refine dT (i := 2) rfl rfl (by kernel_rfl) (fun _ hS => zM (u := y316) ag72 rfl ((dN hS (dM hlek347 hlek363)) _ _ _ (hbp337 1 _ rfl))) hX373.pins ?_
 refine dT (i := 3) rfl rfl (by kernel_rfl) (fun _ _ => zB (v := (.int .i64 (i : Int))) rfl) hX373.pins ?_
 refine dT (i := 4) rfl rfl (by kernel_rfl) (fun _ _ => zB (v := (.int .i64 (M.length : Int))) rfl) hX373.pins ?_
 refine dT (i := 5) rfl rfl (by kernel_rfl) (fun _ _ => jR rfl rfl (by omega)) hX373.pins ?_
 refine dT (i := 6) rfl rfl (by kernel_rfl) (fun _ _ => zB (v := (.int .i64 (kc : Int))) rfl) hX373.pins ?_
 refine dT (i := 7) rfl rfl (by kernel_rfl) (fun _ _ => yH rfl rfl (by omega)) hX373.pins ?_
 refine zQ (i := 8) (by kernel_rfl) (zV (i := 8) rfl rfl rfl (zG rfl _) (zR (vs := [(.int .i64 (((i : Int) * (M.length : Int)) + (kc : Int))), (.bool false)]) Tryz.func41 nm41 rfl rfl rfl ?_))
 refine dO (jS hX373.pins (by omega)) ?_
 rintro _ _ ⟨rfl, rfl⟩
 refine ⟨_, rfl, ?_⟩
 refine ⟨fun _ => hX373.pins, ?_⟩
 refine dT (i := 9) rfl rfl (by kernel_rfl) (fun _ _ => zL dD sz78 (v := y316) rfl rfl hr321 (by omega) (by omega)) hX373.pins ?_
 refine dT (i := 10) rfl rfl (by kernel_rfl) (fun _ _ => xG (off := 0) dE rfl rfl nz3 (z := (stZ (((i : Int) * (M.length : Int)) + (kc : Int)) false)) (k := 0) rfl hr321 (by omega) (by omega)) hX373.pins ?_
 obtain ⟨cs376, hrep377, hagg378, hcell379⟩ := fI (j := (stZ (((i : Int) * (M.length : Int)) + (kc : Int)) false).toNat) default (hr321.at (z := (stZ (((i : Int) * (M.length : Int)) + (kc : Int)) false)) (by omega) (by omega)) rfl
 obtain rfl := hrep377
 refine dT (i := 11) rfl rfl (by kernel_rfl) (fun _ hS => hcell379 0 _ rfl ag3 rfl (dN hS (dM (dM hle335 hlek347) hlek363))) hX373.pins ?_
 refine dT (i := 12) rfl rfl (by kernel_rfl) (fun _ _ => jY rfl rfl) hX373.pins ?_
 refine zQ (i := 13) (by kernel_rfl) (zV (i := 13) rfl rfl rfl (zG rfl _) (yL (E := eBool) (e := 4) [(.bool (decide (((rs317.getD (stZ (((i : Int) * (M.length : Int)) + (kc : Int)) false).toNat default).1 : Int) ≠ 2)))] [decide (((rs317.getD (stZ (((i : Int) * (M.length : Int)) + (kc : Int)) false).toNat default).1 : Int) ≠ 2)] dA sz4 zr4 (by exact xM (by rfl)) (yO (by rfl)) rfl rfl rfl rfl (by decide) hX373.pins (fun u380 w381 ho382 hp383 hl384 hk385 => ?_)))
 have hX386 := hX373.step hp383 hl384
 have ho387 := ho374.below hl384
 have ho388 := ho375.below hl384
 have ho391 := ho382.weaken hX373.size
 refine ⟨fun _ => hX386.pins, ?_⟩
 refine zQ (i := 14) (by kernel_rfl) (zV (i := 14) rfl rfl rfl (zG rfl _) (zU (E := eBool) (v := rv) (u := u380) 1 dA ap4 (by decide) rfl rfl hX386.pins ho387 ho391.src (by first | omega | (rw [List.nil_append]; omega) | (rw [List.length_nil]; omega) | (rw [List.length_append]; omega) | (simp; done) | (simp; omega) | (simp only [List.length_cons, List.length_nil]; omega) | (simp only [List.length_append, List.length_cons, List.length_nil]; omega)) (by first | omega | (rw [List.nil_append]; omega) | (rw [List.length_nil]; omega) | (rw [List.length_append]; omega) | (simp; done) | (simp; omega) | (simp only [List.length_cons, List.length_nil]; omega) | (simp only [List.length_append, List.length_cons, List.length_nil]; omega)) (hX386.size) (fun u392 w393 ho394 hp395 hg396 hw397 => ?_)))
 have hX398 := hX386.write hp395 hg396 ((yB ho387))
 have ho399 := ho388.keptA hg396 ha369.symm
 have ha401 : Apart ov.ownBlock u392.ownBlock := zH ha369.symm hw397 ho388.lt
 have hm403 := la1 rb (decide (((rs317.getD (stZ (((i : Int) * (M.length : Int)) + (kc : Int)) false).toNat default).1 : Int) ≠ 2))
 refine ⟨fun _ => hX398.pins, ?_⟩
 refine dT (i := 15) rfl rfl (by kernel_rfl) (fun _ _ => zD (v := u392) rfl) hX398.pins ?_
 refine yP (by kernel_rfl) (yC (zA (zF ?_)))
 refine qD rfl (yH rfl rfl (by omega)) (qD rfl (zB (v := (.int .i64 ((kc : Int) + 1))) rfl) (qe (yE (⟨_, ?_, _, rfl, _, kc + 1, u392, rb ++ ([decide (((rs317.getD (stZ (((i : Int) * (M.length : Int)) + (kc : Int)) false).toNat default).1 : Int) ≠ 2)]), GL2, (zC (x := 36) (zC (x := 35) (zC (x := 29) (zC (x := 28) (zC (x := 9) (zC (x := 8) (zC (x := 7) (zC (x := 6) (zC (x := 5) (zC (x := 4) (zS (x := 3) rfl) rfl) rfl) rfl) rfl) rfl) rfl) rfl) rfl) rfl) rfl), rfl, hX398, hlek363, (by omega), (by rw [hrb, List.range_succ, List.map_append]; exact congrArg _ (by show _ = [hlB L R M Q i kc]; rw [← hlv])), (by simp; omega), ho394, ho399, ha401.symm⟩))))
 omega
 refine wp_exit (zZ (yJ (yI (zA (zF ?_)))))
 refine qD rfl (zB (v := ov) rfl) (qD rfl (zB (v := rv) rfl) ?_)
 obtain ⟨G404, hle407, hX406, hr405, hf408⟩ := hw367.sealed hX366
 have ho409 := hw368.moreO hle407 hf408 ha369.symm
 refine qI rfl (yL (E := (eSl eBool)) (e := 50) [rv] [rb] dF sz50 zr50 (by exact xM (⟨_, rfl, hr405⟩)) (yO hr405.one) rfl rfl rfl rfl (by decide) hX406.pins (fun u410 w411 ho412 hp413 hl414 hk415 => ?_))
 have hX416 := hX406.step hp413 hl414
 have ho417 := ho409.below hl414
 have ho419 := ho412.weaken hX406.size
 refine qI rfl (zU (E := (eSl eBool)) (v := ov) (u := u410) 24 dF ap50 (by decide) rfl rfl hX416.pins ho417 ho419.src (by first | omega | (rw [List.nil_append]; omega) | (rw [List.length_nil]; omega) | (rw [List.length_append]; omega) | (simp; done) | (simp; omega) | (simp only [List.length_cons, List.length_nil]; omega) | (simp only [List.length_append, List.length_cons, List.length_nil]; omega)) (by first | omega | (rw [List.nil_append]; omega) | (rw [List.length_nil]; omega) | (rw [List.length_append]; omega) | (simp; done) | (simp; omega) | (simp only [List.length_cons, List.length_nil]; omega) | (simp only [List.length_append, List.length_cons, List.length_nil]; omega)) (hX416.size) (fun u420 w421 ho422 hp423 hg424 hw425 => ?_))
 have hX426 := hX416.write hp423 hg424 ((yB ho417))
 have hm429 := la1 os rb
 refine qD rfl (zD (v := u420) rfl) (qe (yC (zA (zF ?_))))
 refine qD rfl (yH rfl rfl (by omega)) (qD rfl (zB (v := (.int .i64 ((i : Int) + 1))) rfl) (qe (yE (⟨_, ?_, _, rfl, _, i + 1, u420, os ++ ([rb]), G404, (zC (x := 29) (zC (x := 28) (zC (x := 7) (zC (x := 6) (zC (x := 5) (zC (x := 4) (zS (x := 3) rfl) rfl) rfl) rfl) rfl) rfl) rfl), rfl, hX426, (dM (dM hlek347 hlek363) hle407), (by omega), (by rw [hos, hrb, show kc = M.length by omega, List.range_succ, List.map_append]; rfl), (by simp; omega), ho422⟩))))
 omega
 refine wp_exit (zZ (yJ (yI (zA (zE (zF ?_))))))
 refine qD rfl (zB (v := ov) rfl) (qD rfl (zD (v := ov) rfl) (qe (zA ?_)))
 refine wp_ret (zW (zT (v := ov) rfl rfl rfl ?_))
 obtain ⟨G430, hle433, hX432, hr431, hf434⟩ := hw351.sealed hX350
 have hin : i = L.length := by omega
 rw [hin] at hos
 exact ⟨_, _, rfl, (by rw [← hos]; exact hr431), hX432⟩
 refine (zV (i := 11) rfl rfl rfl (zG rfl _) (yN [(.slice none 0 0), (.slice none 0 0)] zr74 rfl hX29.pins (fun b435 w436 hk437 hb438 hp439 hl440 => ?_)))
 have hX441 := hX29.step hp439 hl440
 have hlo442 : w.heap.size ≤ b435 := by have := hX29.size; omega
 refine ⟨fun _ => hX441.pins, ?_⟩
 refine zQ (i := 4) (by kernel_rfl) (zV (i := 4) rfl rfl rfl (zG rfl _) (zR (vs := [u, y]) Tryz.func40 nm40 rfl rfl rfl ?_))
 refine dO (qF hX441.pins (hu.mono (dM hle10 hle23)) (hy.mono (dM hle10 hle23)) hL hQ (by omega) (fun i hi => (hg.lens i hi).1) (fun i hi => (hg2.lens i (by omega)).2)) ?_
 rintro _ w445 ⟨x443, G444, rfl, hr446, hx447⟩
 refine ⟨_, rfl, ?_⟩
 have hX448 := hX441.tr hx447
 have hb449 := hb438.ext hx447
 have hr450 : RSl (eSl eInt) G444 x443 (jnA M.length L Q L.length) := by rw [← hb3]; exact hr446
 refine ⟨fun _ => (dN hX448.pins hx447.le), ?_⟩
 refine zQ (i := 9) (by kernel_rfl) (zV (i := 9) rfl rfl rfl (zG rfl _) (zR (vs := [v, x]) Tryz.func40 nm40 rfl rfl rfl ?_))
 refine dO (qF hX448.pins (hv.mono (dM (dM hle10 hle23) hx447.le)) (hx.mono (dM (dM hle10 hle23) hx447.le)) hR hM (by omega) (fun i hi => (hg.lens i (by omega)).2) (fun i hi => (hg2.lens i hi).1)) ?_
 rintro _ w453 ⟨x451, G452, rfl, hr454, hx455⟩
 refine ⟨_, rfl, ?_⟩
 have hX456 := hX448.tr hx455
 have hb457 := hb449.ext hx455
 have hr458 : RSl (eSl eInt) G452 x451 (jnA M.length R M L.length) := by rw [← ha3]; exact hr454
 refine ⟨fun _ => (dN hX456.pins (dM hx447.le hx455.le)), ?_⟩
 have hrq469 := pN hg hg2 hL hR hM hQ
 refine zQ (i := 10) (by kernel_rfl) (zV (i := 10) rfl rfl rfl (zG rfl _) (zR (vs := [x443, x451]) Tryz.func39 nm39 rfl rfl rfl ?_))
 refine dO (jM hX456.pins (hr450.mono hx455.le) hr458 hrq469.1 hrq469.2.1 hrq469.2.2.1 hrq469.2.2.2.1 hrq469.2.2.2.2) ?_
 rintro _ w463 ⟨x459, y460, rs461, G462, rfl, hr464, hr465, hrl466, hrw467, hx468⟩
 refine ⟨_, rfl, ?_⟩
 have hX470 := hX456.tr hx468
 have hb471 := hb457.ext hx468
 refine ⟨fun _ => (dN hX470.pins (dM (dM hx447.le hx455.le) hx468.le)), ?_⟩
 refine zQ (i := 12) (by kernel_rfl) (xX (i := 12) rfl rfl rfl (zG rfl _) (o_stp (cs' := [x459, y460]) (us := [x459, y460]) (v := (.agg [x459, y460].toArray)) sz74 rfl rfl rfl (xO hr464.one hr465.one) hX470.pins hb471 (dP rfl) rfl (fun w472 hb473 hp474 hg475 hz476 => ?_)))
 have hX477 := hX470.write hp474 hg475 ((yG hlo442))
 obtain ⟨G478, hle479, hX480, hbp481, hf482⟩ := hb473.shut hX477 hlo442
 refine ⟨fun h => absurd rfl h, ?_⟩
 refine yP (by kernel_rfl) (zA (zE (zF ?_)))
 refine qI rfl (yR (E := (eSl eBool)) (e := 50) dF sz50 hX480.pins (fun u483 w484 ho485 hp486 hl487 hk488 => ?_))
 have hX489 := hX480.step hp486 hl487
 have ho490 := ho485.weaken hX480.size
 refine qD rfl (zD (v := u483) rfl) (qe (zA (zE (zF ?_))))
 refine qD rfl (zN (k := 0) rfl eW rfl nz29 rfl) (qD rfl (zM (u := x) ag29 rfl ((dN hX489.pins (dM (dM (dM hx447.le hx455.le) hx468.le) hle479)) _ _ _ (hbp25 0 _ rfl))) (qD rfl (zP eT (v := x) rfl hx) (qD rfl (zD (v := (.int .i64 (M.length : Int))) rfl) (qe (zA (zE (zE (zF ?_))))))))
 refine qD rfl (zN (k := 0) rfl eW rfl nz29 rfl) (qD rfl (zM (u := u) ag29 rfl ((dN hX489.pins (dM (dM (dM (dM hle23 hx447.le) hx455.le) hx468.le) hle479)) _ _ _ (hbp12 0 _ rfl))) (qD rfl (zP eT (v := u) rfl hu) (qD rfl (zB (v := (.int .i64 0)) rfl) (qe (zA ?_)))))
 refine zX (yM (fun (k : Nat) (en : Nat → Value) (W : World) => ∃ (env1 : Nat → Value) (i : Nat) (ov : Value) (os : List (List Bool)) (GL1 : Pin), en = (upd (upd (upd (upd (upd (upd (upd env1 3 (.pointer (some ⟨b14, 0, none⟩))) 4 (.slice none 0 0)) 5 (.pointer (some ⟨b435, 0, none⟩))) 6 ov) 7 (.int .i64 (M.length : Int))) 28 (.int .i64 (L.length : Int))) 29 (.int .i64 (i : Int))) ∧ k = L.length - i ∧ Ext noS G w GL1 W ∧ Pin.le G478 GL1 ∧ (i ≤ L.length) ∧ (os = (List.range i).map fun u => (List.range M.length).map (hlB L R M Q u)) ∧ (os.length = i) ∧ (Own (eSl eBool) 50 GL1 W w.heap.size ov (os))) _ ⟨_, 0, u483, [], G478, (zC (x := 29) (zC (x := 28) (zC (x := 7) (zC (x := 6) (zC (x := 5) (zC (x := 4) (zS (x := 3) rfl) rfl) rfl) rfl) rfl) rfl) rfl), rfl, hX489, Pin.le_refl _, Nat.zero_le _, rfl, rfl, ho490⟩ ?_)
 rintro k491 _ w492 ⟨env1, i, ov, os, GL1, rfl, hk493, hX494, hlek491, hi, hos, hol, hw495⟩
 refine zE (zF ?_)
 refine qD rfl (yQ rfl rfl) (qe (zA (zE ?_)))
 refine yF (p := ((i : Int) : Int) < (L.length : Int)) rfl rfl (fun h496 => ?_) (fun h496 => ?_)
 refine wp_skip (zA (zE ?_))
 refine zX (zE (zF ?_))
 refine qD rfl (zB (v := (.int .i64 (i : Int))) rfl) (qD rfl (zD (v := (.int .i64 (i : Int))) rfl) (qe (zA (zE (zF ?_)))))
 refine qI rfl (yR (E := eBool) (e := 4) dA sz4 hX494.pins (fun u497 w498 ho499 hp500 hl501 hk502 => ?_))
 have hX503 := hX494.step hp500 hl501
 have ho504 := hw495.below hl501
 have ha505 : Apart u497.ownBlock ov.ownBlock := zI hk502 hw495.lt
 have ho506 := ho499.weaken hX494.size
 refine qD rfl (zD (v := u497) rfl) (qe (zA (zE (zE (zF ?_)))))
 refine qD rfl (zN (k := 0) rfl eW rfl nz29 rfl) (qD rfl (zM (u := x) ag29 rfl ((dN hX503.pins (dM (dM (dM (dM hx447.le hx455.le) hx468.le) hle479) hlek491)) _ _ _ (hbp25 0 _ rfl))) (qD rfl (zP eT (v := x) rfl hx) (qD rfl (zB (v := (.int .i64 0)) rfl) (qe (zA ?_)))))
 refine zX (yM (fun (k : Nat) (en : Nat → Value) (W : World) => ∃ (env1 : Nat → Value) (kc : Nat) (rv : Value) (rb : List Bool) (GL2 : Pin), en = (upd (upd (upd (upd (upd (upd (upd (upd (upd (upd (upd env1 3 (.pointer (some ⟨b14, 0, none⟩))) 4 (.slice none 0 0)) 5 (.pointer (some ⟨b435, 0, none⟩))) 6 ov) 7 (.int .i64 (M.length : Int))) 8 (.int .i64 (i : Int))) 9 rv) 28 (.int .i64 (L.length : Int))) 29 (.int .i64 (i : Int))) 35 (.int .i64 (M.length : Int))) 36 (.int .i64 (kc : Int))) ∧ k = M.length - kc ∧ Ext noS G w GL2 W ∧ Pin.le GL1 GL2 ∧ (kc ≤ M.length) ∧ (rb = (List.range kc).map (hlB L R M Q i)) ∧ (rb.length = kc) ∧ (Own eBool 4 GL2 W w.heap.size rv (rb)) ∧ (Own (eSl eBool) 50 GL2 W w.heap.size ov (os)) ∧ (Apart rv.ownBlock ov.ownBlock)) _ ⟨_, 0, u497, [], GL1, (zC (x := 36) (zC (x := 35) (zC (x := 29) (zC (x := 28) (zC (x := 9) (zC (x := 8) (zC (x := 7) (zC (x := 6) (zC (x := 5) (zC (x := 4) (zS (x := 3) rfl) rfl) rfl) rfl) rfl) rfl) rfl) rfl) rfl) rfl) rfl), rfl, hX503, Pin.le_refl _, Nat.zero_le _, rfl, rfl, ho506, ho504, ha505⟩ ?_)
 rintro k507 _ w508 ⟨env1, kc, rv, rb, GL2, rfl, hk509, hX510, hlek507, hk, hrb, hrl9, hw511, hw512, ha513⟩
 refine zE (zF ?_)
 refine qD rfl (yQ rfl rfl) (qe (zA (zE ?_)))
 refine yF (p := ((kc : Int) : Int) < (M.length : Int)) rfl rfl (fun h514 => ?_) (fun h514 => ?_)
 have hjl : (jnA M.length L Q L.length).length = L.length * M.length := xZ _
 have hpos := mE hg hg2 (i := i) (k := kc) (by omega) (by omega)
 have hsz9 := nW (a := (i : Int) * (M.length : Int) + (kc : Int)) (lf := false) (n := L.length * M.length) (by omega)
 have hlv := pP hg hg2 hrw467 (i := i) (k := kc) (by omega) (by omega)
 refine wp_skip (zA (zE ?_))
 refine zX (zE (zF ?_))
 refine qD rfl (zB (v := (.int .i64 (kc : Int))) rfl) (qD rfl (zD (v := (.int .i64 (kc : Int))) rfl) (qe (zA ?_)))
 refine yZ (S := fun wz => Pins GL2 wz) (last := 16) (by kernel_rfl) rfl ?_
 have hl515 := bdr w508
 have hp516 := hX510.pins.below hl515
 have hX517 := hX510.step hp516 hl515
 have ho518 := hw511.below hl515
 have ho519 := hw512.below hl515
 refine dT (i := 0) rfl rfl (by kernel_rfl) (fun _ _ => zB (v := rv) rfl) hX517.pins ?_
 refine dT (i := 1) rfl rfl (by kernel_rfl) (fun _ _ => zN (k := 1) rfl dG rfl nz72 rfl) hX517.pins ?_
 refine dT (i := 2) rfl rfl (by kernel_rfl) (fun _ hS => zM (u := y460) ag72 rfl ((dN hS (dM hlek491 hlek507)) _ _ _ (hbp481 1 _ rfl))) hX517.pins ?_
 refine dT (i := 3) rfl rfl (by kernel_rfl) (fun _ _ => zB (v := (.int .i64 (i : Int))) rfl) hX517.pins ?_
 refine dT (i := 4) rfl rfl (by kernel_rfl) (fun _ _ => zB (v := (.int .i64 (M.length : Int))) rfl) hX517.pins ?_
 refine dT (i := 5) rfl rfl (by kernel_rfl) (fun _ _ => jR rfl rfl (by omega)) hX517.pins ?_
 refine dT (i := 6) rfl rfl (by kernel_rfl) (fun _ _ => zB (v := (.int .i64 (kc : Int))) rfl) hX517.pins ?_
 refine dT (i := 7) rfl rfl (by kernel_rfl) (fun _ _ => yH rfl rfl (by omega)) hX517.pins ?_
 refine zQ (i := 8) (by kernel_rfl) (zV (i := 8) rfl rfl rfl (zG rfl _) (zR (vs := [(.int .i64 (((i : Int) * (M.length : Int)) + (kc : Int))), (.bool false)]) Tryz.func41 nm41 rfl rfl rfl ?_))
 refine dO (jS hX517.pins (by omega)) ?_
 rintro _ _ ⟨rfl, rfl⟩
 refine ⟨_, rfl, ?_⟩
 refine ⟨fun _ => hX517.pins, ?_⟩
 refine dT (i := 9) rfl rfl (by kernel_rfl) (fun _ _ => zL dD sz78 (v := y460) rfl rfl hr465 (by omega) (by omega)) hX517.pins ?_
 refine dT (i := 10) rfl rfl (by kernel_rfl) (fun _ _ => xG (off := 0) dE rfl rfl nz3 (z := (stZ (((i : Int) * (M.length : Int)) + (kc : Int)) false)) (k := 0) rfl hr465 (by omega) (by omega)) hX517.pins ?_
 obtain ⟨cs520, hrep521, hagg522, hcell523⟩ := fI (j := (stZ (((i : Int) * (M.length : Int)) + (kc : Int)) false).toNat) default (hr465.at (z := (stZ (((i : Int) * (M.length : Int)) + (kc : Int)) false)) (by omega) (by omega)) rfl
 obtain rfl := hrep521
 refine dT (i := 11) rfl rfl (by kernel_rfl) (fun _ hS => hcell523 0 _ rfl ag3 rfl (dN hS (dM (dM hle479 hlek491) hlek507))) hX517.pins ?_
 refine dT (i := 12) rfl rfl (by kernel_rfl) (fun _ _ => jY rfl rfl) hX517.pins ?_
 refine zQ (i := 13) (by kernel_rfl) (zV (i := 13) rfl rfl rfl (zG rfl _) (yL (E := eBool) (e := 4) [(.bool (decide (((rs461.getD (stZ (((i : Int) * (M.length : Int)) + (kc : Int)) false).toNat default).1 : Int) ≠ 2)))] [decide (((rs461.getD (stZ (((i : Int) * (M.length : Int)) + (kc : Int)) false).toNat default).1 : Int) ≠ 2)] dA sz4 zr4 (by exact xM (by rfl)) (yO (by rfl)) rfl rfl rfl rfl (by decide) hX517.pins (fun u524 w525 ho526 hp527 hl528 hk529 => ?_)))
 have hX530 := hX517.step hp527 hl528
 have ho531 := ho518.below hl528
 have ho532 := ho519.below hl528
 have ho535 := ho526.weaken hX517.size
 refine ⟨fun _ => hX530.pins, ?_⟩
 refine zQ (i := 14) (by kernel_rfl) (zV (i := 14) rfl rfl rfl (zG rfl _) (zU (E := eBool) (v := rv) (u := u524) 1 dA ap4 (by decide) rfl rfl hX530.pins ho531 ho535.src (by first | omega | (rw [List.nil_append]; omega) | (rw [List.length_nil]; omega) | (rw [List.length_append]; omega) | (simp; done) | (simp; omega) | (simp only [List.length_cons, List.length_nil]; omega) | (simp only [List.length_append, List.length_cons, List.length_nil]; omega)) (by first | omega | (rw [List.nil_append]; omega) | (rw [List.length_nil]; omega) | (rw [List.length_append]; omega) | (simp; done) | (simp; omega) | (simp only [List.length_cons, List.length_nil]; omega) | (simp only [List.length_append, List.length_cons, List.length_nil]; omega)) (hX530.size) (fun u536 w537 ho538 hp539 hg540 hw541 => ?_)))
 have hX542 := hX530.write hp539 hg540 ((yB ho531))
 have ho543 := ho532.keptA hg540 ha513.symm
 have ha545 : Apart ov.ownBlock u536.ownBlock := zH ha513.symm hw541 ho532.lt
 have hm547 := la1 rb (decide (((rs461.getD (stZ (((i : Int) * (M.length : Int)) + (kc : Int)) false).toNat default).1 : Int) ≠ 2))
 refine ⟨fun _ => hX542.pins, ?_⟩
 refine dT (i := 15) rfl rfl (by kernel_rfl) (fun _ _ => zD (v := u536) rfl) hX542.pins ?_
 refine yP (by kernel_rfl) (yC (zA (zF ?_)))
 refine qD rfl (yH rfl rfl (by omega)) (qD rfl (zB (v := (.int .i64 ((kc : Int) + 1))) rfl) (qe (yE (⟨_, ?_, _, rfl, _, kc + 1, u536, rb ++ ([decide (((rs461.getD (stZ (((i : Int) * (M.length : Int)) + (kc : Int)) false).toNat default).1 : Int) ≠ 2)]), GL2, (zC (x := 36) (zC (x := 35) (zC (x := 29) (zC (x := 28) (zC (x := 9) (zC (x := 8) (zC (x := 7) (zC (x := 6) (zC (x := 5) (zC (x := 4) (zS (x := 3) rfl) rfl) rfl) rfl) rfl) rfl) rfl) rfl) rfl) rfl) rfl), rfl, hX542, hlek507, (by omega), (by rw [hrb, List.range_succ, List.map_append]; exact congrArg _ (by show _ = [hlB L R M Q i kc]; rw [← hlv])), (by simp; omega), ho538, ho543, ha545.symm⟩))))
 omega
 refine wp_exit (zZ (yJ (yI (zA (zF ?_)))))
 refine qD rfl (zB (v := ov) rfl) (qD rfl (zB (v := rv) rfl) ?_)
 obtain ⟨G548, hle551, hX550, hr549, hf552⟩ := hw511.sealed hX510
 have ho553 := hw512.moreO hle551 hf552 ha513.symm
 refine qI rfl (yL (E := (eSl eBool)) (e := 50) [rv] [rb] dF sz50 zr50 (by exact xM (⟨_, rfl, hr549⟩)) (yO hr549.one) rfl rfl rfl rfl (by decide) hX550.pins (fun u554 w555 ho556 hp557 hl558 hk559 => ?_))
 have hX560 := hX550.step hp557 hl558
 have ho561 := ho553.below hl558
 have ho563 := ho556.weaken hX550.size
 refine qI rfl (zU (E := (eSl eBool)) (v := ov) (u := u554) 24 dF ap50 (by decide) rfl rfl hX560.pins ho561 ho563.src (by first | omega | (rw [List.nil_append]; omega) | (rw [List.length_nil]; omega) | (rw [List.length_append]; omega) | (simp; done) | (simp; omega) | (simp only [List.length_cons, List.length_nil]; omega) | (simp only [List.length_append, List.length_cons, List.length_nil]; omega)) (by first | omega | (rw [List.nil_append]; omega) | (rw [List.length_nil]; omega) | (rw [List.length_append]; omega) | (simp; done) | (simp; omega) | (simp only [List.length_cons, List.length_nil]; omega) | (simp only [List.length_append, List.length_cons, List.length_nil]; omega)) (hX560.size) (fun u564 w565 ho566 hp567 hg568 hw569 => ?_))
 have hX570 := hX560.write hp567 hg568 ((yB ho561))
 have hm573 := la1 os rb
 refine qD rfl (zD (v := u564) rfl) (qe (yC (zA (zF ?_))))
 refine qD rfl (yH rfl rfl (by omega)) (qD rfl (zB (v := (.int .i64 ((i : Int) + 1))) rfl) (qe (yE (⟨_, ?_, _, rfl, _, i + 1, u564, os ++ ([rb]), G548, (zC (x := 29) (zC (x := 28) (zC (x := 7) (zC (x := 6) (zC (x := 5) (zC (x := 4) (zS (x := 3) rfl) rfl) rfl) rfl) rfl) rfl) rfl), rfl, hX570, (dM (dM hlek491 hlek507) hle551), (by omega), (by rw [hos, hrb, show kc = M.length by omega, List.range_succ, List.map_append]; rfl), (by simp; omega), ho566⟩))))
 omega
 refine wp_exit (zZ (yJ (yI (zA (zE (zF ?_))))))
 refine qD rfl (zB (v := ov) rfl) (qD rfl (zD (v := ov) rfl) (qe (zA ?_)))
 refine wp_ret (zW (zT (v := ov) rfl rfl rfl ?_))
 obtain ⟨G574, hle577, hX576, hr575, hf578⟩ := hw495.sealed hX494
 have hin : i = L.length := by omega
 rw [hin] at hos
 exact ⟨_, _, rfl, (by rw [← hos]; exact hr575), hX576⟩
end AR10
end Go.Proofs.YtdongckiecjbaaaGreatDoor
namespace Go.Proofs.YtdongckiecjbaaaGreatDoor
namespace AR11
open Go.RowKit Go.GL Go.Proofs
open B1 AR4 AR6 AR10
theorem tM {w : World} {G : Pin} {u v x y : Value} {L R M Q : List (List Int)} {zu zv : Int} (hP : Pins G w) (hu : RSl (eSl eInt) G u L) (hv : RSl (eSl eInt) G v R) (hx : RSl (eSl eInt) G x M) (hy : RSl (eSl eInt) G y Q) (hg : LgP L R) (hg2 : LgP M Q) (hL : AcL L) (hR : AcL R) (hM : AcL M) (hQ : AcL Q) (hzu : 0 ≤ zu ∧ zu < L.length) (hzv : 0 ≤ zv ∧ zv < M.length) :
  Calls Tryz.prog 9 [(.agg [u, v].toArray), (.int .i64 zu), (.agg [x, y].toArray), (.int .i64 zv)].toArray w fun e w' => ∃ G', e = .returned (.tuple #[.bool (hlB L R M Q zu.toNat zv.toNat), .bool true]) ∧ Ext noS G w G' w' := by
 refine yD (n := 39) Tryz.func9 Tryz.ntmps9 rfl rfl ?_
 have hX0 := exr noS hP
 have hmhu := hu.max
 have hmhv := hv.max
 have hmhx := hx.max
 have hmhy := hy.max
 have ha1 := hg.lo
 have ha2 := hg.hi
 have ha3 := hg.len
 have hb1 := hg2.lo
 have hb2 := hg2.hi
 have hb3 := hg2.len
 refine zE (zF ?_)
 refine qI rfl (xY [u, v] (v := (.agg [u, v].toArray)) rfl rfl hX0.pins (fun b1 w2 hk3 hb4 hp5 hl6 => ?_))
 have hX7 := hX0.step hp5 hl6
 have hlo8 : w.heap.size ≤ b1 := by have := hX0.size; omega
 obtain ⟨G9, hle10, hX11, hbp12, hf13⟩ := hb4.shut hX7 hlo8
 refine qI rfl (xY [x, y] (v := (.agg [x, y].toArray)) rfl rfl hX11.pins (fun b14 w15 hk16 hb17 hp18 hl19 => ?_))
 have hX20 := hX11.step hp18 hl19
 have hlo21 : w.heap.size ≤ b14 := by have := hX11.size; omega
 obtain ⟨G22, hle23, hX24, hbp25, hf26⟩ := hb17.shut hX20 hlo21
 refine qD rfl (zD (v := (.bool false)) rfl) (qD rfl (zD (v := (.bool false)) rfl) (qe (zA (zE (zE (zF ?_))))))
 refine qD rfl (yK (cs := [u, v]) ag31 sz31 rfl (fun j u hj => (dN hX24.pins hle23) _ _ _ (hbp12 _ _ (by simpa using hj)))) (qI rfl (zR (vs := [(.agg [u, v].toArray)]) Tryz.func17 nm17 rfl rfl rfl ?_))
 refine dO (kW hX24.pins (hu.mono (dM hle10 hle23)) (hv.mono (dM hle10 hle23)) hg hL hR) ?_
 rintro _ w28 ⟨G27, rfl, hx29⟩
 refine ⟨_, rfl, ?_⟩
 have hX30 := hX24.tr hx29
 refine qD rfl (qE rfl) (qD rfl (zB (v := (.bool false)) rfl) (qdg rfl rfl rfl rfl rfl rfl (yK (cs := [x, y]) ag31 sz31 rfl (fun j u hj => (dN hX30.pins hx29.le) _ _ _ (hbp25 _ _ (by simpa using hj)))) (q1g rfl rfl rfl rfl rfl rfl (zR (vs := [(.agg [x, y].toArray)]) Tryz.func17 nm17 rfl rfl rfl ?_))))
 refine dO (kW hX30.pins (hx.mono (dM (dM hle10 hle23) hx29.le)) (hy.mono (dM (dM hle10 hle23) hx29.le)) hg2 hM hQ) ?_
 rintro _ w32 ⟨G31, rfl, hx33⟩
 refine ⟨_, rfl, ?_⟩
 have hX34 := hX30.tr hx33
 refine qdg rfl rfl rfl rfl rfl rfl (qE rfl) (qD rfl (yS (v := (.bool false)) rfl rfl) (qD rfl (zB (v := (.bool false)) rfl) (qdg rfl rfl rfl rfl rfl rfl (yK (cs := [u, v]) ag31 sz31 rfl (fun j u hj => (dN hX34.pins (dM (dM hle23 hx29.le) hx33.le)) _ _ _ (hbp12 _ _ (by simpa using hj)))) (qdg rfl rfl rfl rfl rfl rfl (zB (v := (.int .i64 zu)) rfl) (q1g rfl rfl rfl rfl rfl rfl (zR (vs := [(.agg [u, v].toArray), (.int .i64 zu)]) Tryz.func18 nm18 rfl rfl rfl ?_))))))
 refine dO (gF hX34.pins (hu.mono (dM (dM (dM hle10 hle23) hx29.le) hx33.le)) (hv.mono (dM (dM (dM hle10 hle23) hx29.le) hx33.le)) (by omega)) ?_
 rintro _ w36 ⟨G35, rfl, hx37⟩
 refine ⟨_, rfl, ?_⟩
 have hX38 := hX34.tr hx37
 refine qdg rfl rfl rfl rfl rfl rfl (qE rfl) (qD rfl (yS (v := (.bool false)) rfl rfl) (qD rfl (zB (v := (.bool false)) rfl) (qdg rfl rfl rfl rfl rfl rfl (yK (cs := [x, y]) ag31 sz31 rfl (fun j u hj => (dN hX38.pins (dM (dM hx29.le hx33.le) hx37.le)) _ _ _ (hbp25 _ _ (by simpa using hj)))) (qdg rfl rfl rfl rfl rfl rfl (zB (v := (.int .i64 zv)) rfl) (q1g rfl rfl rfl rfl rfl rfl (zR (vs := [(.agg [x, y].toArray), (.int .i64 zv)]) Tryz.func18 nm18 rfl rfl rfl ?_))))))
 refine dO (gF hX38.pins (hx.mono (dM (dM (dM (dM hle10 hle23) hx29.le) hx33.le) hx37.le)) (hy.mono (dM (dM (dM (dM hle10 hle23) hx29.le) hx33.le) hx37.le)) (by omega)) ?_
 rintro _ w40 ⟨G39, rfl, hx41⟩
 refine ⟨_, rfl, ?_⟩
 have hX42 := hX38.tr hx41
 refine qdg rfl rfl rfl rfl rfl rfl (qE rfl) (qD rfl (yS (v := (.bool false)) rfl rfl) (qe (zA ?_)))
 refine qQ rfl rfl (wp_skip (zA (zE (zF ?_))))
 refine qD rfl (yK (cs := [u, v]) ag31 sz31 rfl (fun j u hj => (dN hX42.pins (dM (dM (dM (dM hle23 hx29.le) hx33.le) hx37.le) hx41.le)) _ _ _ (hbp12 _ _ (by simpa using hj)))) (qD rfl (yK (cs := [x, y]) ag31 sz31 rfl (fun j u hj => (dN hX42.pins (dM (dM (dM hx29.le hx33.le) hx37.le) hx41.le)) _ _ _ (hbp25 _ _ (by simpa using hj)))) (qI rfl (zR (vs := [(.agg [u, v].toArray), (.agg [x, y].toArray)]) Tryz.func19 nm19 rfl rfl rfl ?_)))
 refine dO (holds_spec hX42.pins (hu.mono (dM (dM (dM (dM (dM hle10 hle23) hx29.le) hx33.le) hx37.le) hx41.le)) (hv.mono (dM (dM (dM (dM (dM hle10 hle23) hx29.le) hx33.le) hx37.le) hx41.le)) (hx.mono (dM (dM (dM (dM (dM hle10 hle23) hx29.le) hx33.le) hx37.le) hx41.le)) (hy.mono (dM (dM (dM (dM (dM hle10 hle23) hx29.le) hx33.le) hx37.le) hx41.le)) hg hg2 hL hR hM hQ) ?_
 rintro _ w45 ⟨z43, G44, rfl, hr46, hx47⟩
 refine ⟨_, rfl, ?_⟩
 have hX48 := hX42.tr hx47
 have hzl : ((List.range L.length).map fun u => (List.range M.length).map (hlB L R M Q u)).length = L.length := by simp
 have hzr := hl_row (L := L) (R := R) (M := M) (Q := Q) (u := zu.toNat) (by omega)
 have hzq : (((List.range L.length).map fun u => (List.range M.length).map (hlB L R M Q u)).getD zu.toNat []).length = M.length := by rw [hzr]; simp
 refine qD rfl (zB (v := (.int .i64 zu)) rfl) (qD rfl (zL dF sz50 (v := z43) rfl rfl hr46 (by omega) (by omega)) ?_)
 obtain ⟨u49, hr50, hl51⟩ := vR (hr46.at (z := zu) (by omega) (by omega)) (j := (zu).toNat) rfl
 have hm52 := hr50.max
 refine qD rfl (hl51 ag50 rfl hX48.pins) (qD rfl (zB (v := (.int .i64 zv)) rfl) (qD rfl (zL dA sz4 (v := u49) rfl rfl hr50 (by omega) (by omega)) (qD rfl (qU (r := (((List.range L.length).map fun u => (List.range M.length).map (hlB L R M Q u)).getD (zu).toNat []).getD (zv).toNat false) rfl ag4 (z := zv) rfl hr50 hX48.pins (by omega) (by omega)) (qD rfl (zD (v := (.bool ((((List.range L.length).map fun u => (List.range M.length).map (hlB L R M Q u)).getD (zu).toNat []).getD (zv).toNat false))) rfl) (qD rfl (zD (v := (.bool true)) rfl) (qe (zA ?_)))))))
 exact wp_ret (zW (tG (v := (.bool ((((List.range L.length).map fun u => (List.range M.length).map (hlB L R M Q u)).getD (zu).toNat []).getD (zv).toNat false))) (u := (.bool true)) rfl rfl rfl rfl rfl (⟨_, by rw [hzr, hl_at (by omega)], hX48⟩)))
end AR11
end Go.Proofs.YtdongckiecjbaaaGreatDoor
namespace Go.Proofs.YtdongckiecjbaaaGreatDoor
namespace AR12
open Go.RowKit Go.GL Go.Proofs
theorem rCut_spec {w : World} {G : Pin} {v : Value} {code : List UInt8} (hP : Pins G w) (hc : RSl eByte G v code) (hcl : code.length ≤ 65536) :
  Calls Tryz.prog 6 [v, (.int .i64 3)].toArray w fun e w' => ∃ (u : Value) (ys : List UInt8) (G' : Pin), e = .returned u ∧ RSl eByte G' u ys ∧ Ext noS G w G' w' := by
 refine yD (n := 33) Tryz.func6 Tryz.ntmps6 rfl rfl ?_
 have hX0 := exr noS hP
 have hm := hc.max
 refine zE (zF ?_)
 refine qD rfl (zD (v := (.slice none 0 0)) rfl) (qe (zA (zE (zF ?_))))
 refine qD rfl (zB (v := (.int .i64 3)) rfl) (qD rfl (jR rfl rfl (by omega)) (qD rfl (zB (v := v) rfl) (qD rfl (zP eY (v := v) rfl hc) (qD rfl (r_rem rfl rfl (by omega) (by omega)) (qD rfl (yH rfl rfl (by omega)) (qD rfl (kB (j := (37 * 3) + ((code.length : Int) % 50)) dH dK rfl (wrapB (by omega))) (qI rfl (yL (E := eByte) (e := 5) [(.int .u8 ((37 * 3) + ((code.length : Int) % 50)))] [(UInt8.ofNat ((37 * 3) + ((code.length : Int) % 50)).toNat)] eY sz5 zr5 (by exact xM (congrArg (fun z => [Value.int .u8 z]) (u8_of (by omega)))) (yO (by rfl)) rfl rfl rfl rfl (by decide) hX0.pins (fun u1 w2 ho3 hp4 hl5 hk6 => ?_)))))))))
 have hX7 := hX0.step hp4 hl5
 have ho8 := ho3.weaken hX0.size
 refine qD rfl (zD (v := u1) rfl) (qe (zA (zE (zE (zF ?_)))))
 refine qD rfl (zB (v := (.int .i64 3)) rfl) (qD rfl (zD (v := (.int .i64 3)) rfl) (qe (zA ?_)))
 refine zX (yM (fun (k : Nat) (en : Nat → Value) (W : World) => ∃ (env1 : Nat → Value) (i : Nat) (ov : Value) (os : List UInt8) (GL1 : Pin), en = (upd (upd (upd (upd (upd env1 0 v) 1 (.int .i64 3)) 4 (.slice none 0 0)) 5 ov) 6 (.int .i64 (i : Int))) ∧ k = code.length - i ∧ Ext noS G w GL1 W ∧ Pin.le G GL1 ∧ (3 ≤ i ∧ i ≤ code.length + 3) ∧ (os.length ≤ i) ∧ (Own eByte 5 GL1 W w.heap.size ov (os))) _ ⟨_, 3, u1, [(UInt8.ofNat ((37 * 3) + ((code.length : Int) % 50)).toNat)], G, (zC (x := 6) (zC (x := 5) (zC (x := 4) (zC (x := 1) (zS (x := 0) rfl) rfl) rfl) rfl) rfl), rfl, hX7, Pin.le_refl _, (by omega), (by simp), ho8⟩ ?_)
 rintro k9 _ w10 ⟨env1, i, ov, os, GL1, rfl, hk11, hX12, hlek9, hi, hol, hw13⟩
 refine zE (zE (zF ?_))
 refine qD rfl (zB (v := (.int .i64 (i : Int))) rfl) (qD rfl (zB (v := v) rfl) (qD rfl (zP eY (v := v) rfl hc) (qD rfl (yQ rfl rfl) (qe (zA ?_)))))
 refine yF (p := ((i : Int) : Int) < (code.length : Int)) rfl rfl (fun h14 => ?_) (fun h14 => ?_)
 refine wp_skip (zA (zE ?_))
 refine zX (zF (qD rfl (zB (v := ov) rfl) (qD rfl (zB (v := v) rfl) (qD rfl (zB (v := (.int .i64 (i : Int))) rfl) (qD rfl (zL eY sz5 (v := v) rfl rfl hc (by omega) (by omega)) ?_)))))
 have h255 := (code.getD i default).toNat_lt
 refine qD rfl (fH (r := code.getD i 0) rfl ag5 (z := (i : Int)) rfl hc (dN hX12.pins hlek9) (by omega) (by omega)) (qD rfl (zB (v := (.int .i64 3)) rfl) (qD rfl (kB (j := 3) dH dK rfl (wrapB (by omega))) ?_))
 have hxb15 := xorB_bd ((code.getD i 0).toNat : Int) 3
 refine qD rfl (r_xorB rfl rfl) (qI rfl (yL (E := eByte) (e := 5) [(.int .u8 (xorB ((code.getD i 0).toNat : Int) 3))] [(UInt8.ofNat (xorB ((code.getD i 0).toNat : Int) 3).toNat)] eY sz5 zr5 (by exact xM (congrArg (fun z => [Value.int .u8 z]) (u8_of (by omega)))) (yO (by rfl)) rfl rfl rfl rfl (by decide) hX12.pins (fun u16 w17 ho18 hp19 hl20 hk21 => ?_)))
 have hX22 := hX12.step hp19 hl20
 have ho23 := hw13.below hl20
 have ho25 := ho18.weaken hX12.size
 refine qI rfl (zU (E := eByte) (v := ov) (u := u16) 1 eY ap5 (by decide) rfl rfl hX22.pins ho23 ho25.src (by first | omega | (rw [List.nil_append]; omega) | (rw [List.length_nil]; omega) | (rw [List.length_append]; omega) | (simp; done) | (simp; omega) | (simp only [List.length_cons, List.length_nil]; omega) | (simp only [List.length_append, List.length_cons, List.length_nil]; omega)) (by first | omega | (rw [List.nil_append]; omega) | (rw [List.length_nil]; omega) | (rw [List.length_append]; omega) | (simp; done) | (simp; omega) | (simp only [List.length_cons, List.length_nil]; omega) | (simp only [List.length_append, List.length_cons, List.length_nil]; omega)) (hX22.size) (fun u26 w27 ho28 hp29 hg30 hw31 => ?_))
 have hX32 := hX22.write hp29 hg30 ((yB ho23))
 have hm35 := la1 os (UInt8.ofNat (xorB ((code.getD i 0).toNat : Int) 3).toNat)
 refine qD rfl (zD (v := u26) rfl) (qe (yC (zA (zF ?_))))
 refine qD rfl (zB (v := (.int .i64 (i : Int))) rfl) (qD rfl (yH rfl rfl (by omega)) (qD rfl (zD (v := (.int .i64 ((i : Int) + 1))) rfl) (qe (yE (⟨_, ?_, _, rfl, _, i + 1, u26, os ++ ([(UInt8.ofNat (xorB ((code.getD i 0).toNat : Int) 3).toNat)]), GL1, (zC (x := 6) (zC (x := 5) (zC (x := 4) (zC (x := 1) (zS (x := 0) rfl) rfl) rfl) rfl) rfl), rfl, hX32, hlek9, (by omega), (by simp; omega), ho28⟩)))))
 omega
 refine wp_exit (zZ (yJ (yI (zA (zE (zF ?_))))))
 refine qD rfl (zB (v := ov) rfl) (qD rfl (zD (v := ov) rfl) (qe (zA ?_)))
 refine wp_ret (zW (zT (v := ov) rfl rfl rfl ?_))
 obtain ⟨G36, hle39, hX38, hr37, hf40⟩ := hw13.sealed hX12
 exact ⟨_, _, _, rfl, hr37, hX38⟩
end AR12
end Go.Proofs.YtdongckiecjbaaaGreatDoor
namespace Go.Proofs.YtdongckiecjbaaaGreatDoor
namespace LSF
open Go.RowKit Go.GL Go.Proofs
open B1 C1 D1 E1 K1 PO1 PL1 AT1 MK1 DR1 DR2 DV1 AR4 AR6 AR7 AR8 AR10 AR11 AR12
theorem law {w : World} {G : Pin} {v : Value} {code : List UInt8} (hP : Pins G w) (hc : RSl eByte G v code) :
  Calls Tryz.prog 3 [v].toArray w fun e w' => ∃ G', e = .returned (.bool true) ∧ Ext noS G w G' w' := by
 refine yD (n := 97) Tryz.func3 Tryz.ntmps3 rfl rfl ?_
 have hX0 := exr noS hP
 have hm := hc.max
 refine zE (zF ?_)
 refine qD rfl (zD (v := (.bool false)) rfl) (qe (zA (zE (zE (zF ?_)))))
 refine qD rfl (zB (v := v) rfl) (qI rfl (zR (vs := [v]) Tryz.func4 nm4 rfl rfl rfl ?_))
 refine dO (rBig_spec hX0.pins hc) ?_
 rintro _ w1 ⟨rfl, hx2⟩
 refine ⟨_, rfl, ?_⟩
 have hX3 := hX0.step hx2.pins hx2.below
 refine qe (zA ?_)
 refine yF (p := ((65536 : Int) < (code.length : Int))) rfl rfl (fun h4 => ?_) (fun h4 => ?_)
 refine zE (zF ?_)
 refine qD rfl (zD (v := (.bool true)) rfl) (qe (zA ?_))
 exact wp_ret (zW (zT (v := (.bool true)) rfl rfl rfl (⟨_, rfl, hX3⟩)))
 refine wp_skip (zA (zE (zF ?_)))
 refine qD rfl (zB (v := v) rfl) (qI rfl (zR (vs := [v]) Tryz.func5 nm5 rfl rfl rfl ?_))
 refine dO (fN hX3.pins hc) ?_
 rintro _ w6 ⟨u8, ns9, G5, rfl, hr10, hx7⟩
 refine ⟨_, rfl, ?_⟩
 have hX11 := hX3.tr hx7
 have hm12 := hr10.max
 refine qI rfl (yN [(.slice none 0 0)] zr26 rfl hX11.pins (fun b13 w14 hk15 hb16 hp17 hl18 => ?_))
 have hX19 := hX11.step hp17 hl18
 have hlo20 : w.heap.size ≤ b13 := by have := hX11.size; omega
 refine q0 rfl rfl rfl (o_stp (cs' := [u8]) (us := [u8]) (v := (.agg [u8].toArray)) sz26 rfl rfl rfl (yO hr10.one) hX19.pins hb16 (dP rfl) rfl (fun w21 hb22 hp23 hg24 hz25 => ?_))
 have hX26 := hX19.write hp23 hg24 ((yG hlo20))
 obtain ⟨G27, hle28, hX29, hbp30, hf31⟩ := hb22.shut hX26 hlo20
 refine qe (zA (zE (zF ?_)))
 refine qD rfl (zB (v := v) rfl) (qI rfl (zR (vs := [v, (.int .i64 3)]) Tryz.func6 nm6 rfl rfl rfl ?_))
 refine dO (rCut_spec hX29.pins (hc.mono (dM hx7.le hle28)) (by omega)) ?_
 rintro _ w35 ⟨u32, ys33, G34, rfl, hr36, hx37⟩
 refine ⟨_, rfl, ?_⟩
 have hX38 := hX29.tr hx37
 refine qI rfl (zR (vs := [u32]) Tryz.func5 nm5 rfl rfl rfl ?_)
 refine dO (fN hX38.pins hr36) ?_
 rintro _ w40 ⟨u42, ns43, G39, rfl, hr44, hx41⟩
 refine ⟨_, rfl, ?_⟩
 have hX45 := hX38.tr hx41
 have hm46 := hr44.max
 refine qI rfl (yN [(.slice none 0 0)] zr26 rfl hX45.pins (fun b47 w48 hk49 hb50 hp51 hl52 => ?_))
 have hX53 := hX45.step hp51 hl52
 have hlo54 : w.heap.size ≤ b47 := by have := hX45.size; omega
 refine q0 rfl rfl rfl (o_stp (cs' := [u42]) (us := [u42]) (v := (.agg [u42].toArray)) sz26 rfl rfl rfl (yO hr44.one) hX53.pins hb50 (dP rfl) rfl (fun w55 hb56 hp57 hg58 hz59 => ?_))
 have hX60 := hX53.write hp57 hg58 ((yG hlo54))
 obtain ⟨G61, hle62, hX63, hbp64, hf65⟩ := hb56.shut hX60 hlo54
 refine qe (zA (zE (zF ?_)))
 refine qD rfl (yK (cs := [u8]) ag26 sz26 rfl (fun j u hj => (dN hX63.pins (dM (dM hx37.le hx41.le) hle62)) _ _ _ (hbp30 _ _ (by simpa using hj)))) (qI rfl (zR (vs := [(.agg [u8].toArray)]) Tryz.func7 nm7 rfl rfl rfl ?_))
 refine dO (gH hX63.pins (hr10.mono (dM (dM (dM hle28 hx37.le) hx41.le) hle62))) ?_
 rintro _ w69 ⟨u66, v67, G68, rfl, hr70, hr71, hx72⟩
 refine ⟨_, rfl, ?_⟩
 have hX73 := hX63.tr hx72
 refine qD rfl (zB (v := (.tuple #[(.agg [u66, v67].toArray), (.bool (lpOk ns9))])) rfl) (qD rfl (xA (v := (.agg [u66, v67].toArray)) rfl rfl) (qD rfl (xA (v := (.bool (lpOk ns9))) rfl rfl) (qI rfl (yN [(.slice none 0 0), (.slice none 0 0)] zr31 rfl hX73.pins (fun b74 w75 hk76 hb77 hp78 hl79 => ?_)))))
 have hX80 := hX73.step hp78 hl79
 have hlo81 : w.heap.size ≤ b74 := by have := hX73.size; omega
 refine q0 rfl rfl rfl (o_stp (cs' := [u66, v67]) (us := [u66, v67]) (v := (.agg [u66, v67].toArray)) sz31 rfl rfl rfl (xO hr70.one hr71.one) hX80.pins hb77 (dP rfl) rfl (fun w82 hb83 hp84 hg85 hz86 => ?_))
 have hX87 := hX80.write hp84 hg85 ((yG hlo81))
 obtain ⟨G88, hle89, hX90, hbp91, hf92⟩ := hb83.shut hX87 hlo81
 refine qD rfl (zD (v := (.bool (lpOk ns9))) rfl) (qe (zA (zE (zF ?_))))
 refine qD rfl (yK (cs := [u42]) ag26 sz26 rfl (fun j u hj => (dN hX90.pins (dM hx72.le hle89)) _ _ _ (hbp64 _ _ (by simpa using hj)))) (qI rfl (zR (vs := [(.agg [u42].toArray)]) Tryz.func7 nm7 rfl rfl rfl ?_))
 refine dO (gH hX90.pins (hr44.mono (dM (dM hle62 hx72.le) hle89))) ?_
 rintro _ w96 ⟨u93, v94, G95, rfl, hr97, hr98, hx99⟩
 refine ⟨_, rfl, ?_⟩
 have hX100 := hX90.tr hx99
 refine qD rfl (zB (v := (.tuple #[(.agg [u93, v94].toArray), (.bool (lpOk ns43))])) rfl) (qD rfl (xA (v := (.agg [u93, v94].toArray)) rfl rfl) (qD rfl (xA (v := (.bool (lpOk ns43))) rfl rfl) (qI rfl (yN [(.slice none 0 0), (.slice none 0 0)] zr31 rfl hX100.pins (fun b101 w102 hk103 hb104 hp105 hl106 => ?_)))))
 have hX107 := hX100.step hp105 hl106
 have hlo108 : w.heap.size ≤ b101 := by have := hX100.size; omega
 refine q0 rfl rfl rfl (o_stp (cs' := [u93, v94]) (us := [u93, v94]) (v := (.agg [u93, v94].toArray)) sz31 rfl rfl rfl (xO hr97.one hr98.one) hX107.pins hb104 (dP rfl) rfl (fun w109 hb110 hp111 hg112 hz113 => ?_))
 have hX114 := hX107.write hp111 hg112 ((yG hlo108))
 obtain ⟨G115, hle116, hX117, hbp118, hf119⟩ := hb110.shut hX114 hlo108
 refine qD rfl (zD (v := (.bool (lpOk ns43))) rfl) (qe (zA (zE (zE (zF ?_)))))
 refine qD rfl (zB (v := (.bool (lpOk ns9))) rfl) (qD rfl (qE rfl) (qD rfl (zB (v := (.bool (!(lpOk ns9)))) rfl) (qbn (t := 36) rfl (fun h120 => ?_) (fun h120 => ?_))))
 refine qdg rfl rfl rfl rfl rfl rfl (zB (v := (.bool (lpOk ns43))) rfl) (qdg rfl rfl rfl rfl rfl rfl (qE rfl) (qD rfl (yS (v := (.bool (!(lpOk ns43)))) rfl rfl) (qe (zA ?_))))
 refine gO rfl rfl (fun h121 => ?_) (fun h121 => ?_)
 refine wp_skip (zA (zE (zE (zF ?_))))
 have hlp : lpOk ns9 = true := by simpa using h120
 obtain ⟨hgp, hl36⟩ := lp_good hlp
 have hyes := pK (goodB_true.2 hgp) (by omega)
 have hg := loop_lg hgp hl36
 obtain ⟨hL, hR⟩ := fC hgp.optsOk
 have hgl := hgp.lo
 have hml : (ns9.map Nd.l).length = ns9.length := List.length_map ..
 have hr122 : RSl (eSl eInt) G68 u66 (ns9.map Nd.l) := by rw [← hyes.2.1]; exact hr70
 have hr123 : RSl (eSl eInt) G68 v67 (ns9.map Nd.r) := by rw [← hyes.2.2]; exact hr71
 have hlp2 : lpOk ns43 = true := by simpa using h121
 obtain ⟨hgp2, hl362⟩ := lp_good hlp2
 have hyes2 := pK (goodB_true.2 hgp2) (by omega)
 have hg2 := loop_lg hgp2 hl362
 obtain ⟨hM, hQ⟩ := fC hgp2.optsOk
 have hgl2 := hgp2.lo
 have hml2 : (ns43.map Nd.l).length = ns43.length := List.length_map ..
 have hr124 : RSl (eSl eInt) G95 u93 (ns43.map Nd.l) := by rw [← hyes2.2.1]; exact hr97
 have hr125 : RSl (eSl eInt) G95 v94 (ns43.map Nd.r) := by rw [← hyes2.2.2]; exact hr98
 have heq := hl_al hgp hgp2
 have hgg : (goodB ns9 && goodB ns43) = true := by rw [goodB_true.2 hgp, goodB_true.2 hgp2]; rfl
 refine qD rfl (zN (k := 0) rfl eU rfl nz24 rfl) (qD rfl (zM (u := u8) ag24 rfl ((dN hX117.pins (dM (dM (dM (dM (dM (dM hx37.le hx41.le) hle62) hx72.le) hle89) hx99.le) hle116)) _ _ _ (hbp30 0 _ rfl))) (qD rfl (zP eS (v := u8) rfl hr10) (qD rfl (jC rfl rfl) (qD rfl (zB (v := (.bool (decide ((20 : Int) < (ns9.length : Int))))) rfl) (qbd (p := (20 : Int) < (ns9.length : Int)) (t := 62) rfl (fun h126 => ?_) (fun h126 => ?_))))))
 refine qs rfl rfl rfl rfl rfl rfl (qs rfl rfl rfl rfl rfl rfl (qs rfl rfl rfl rfl rfl rfl (qs rfl rfl rfl rfl rfl rfl (qD rfl (yW (v := (.bool true)) rfl rfl) (qe (zA ?_))))))
 refine qZ rfl rfl (zE (zF ?_))
 refine qD rfl (zD (v := (.bool true)) rfl) (qe (zA ?_))
 exact wp_ret (zW (zT (v := (.bool true)) rfl rfl rfl (⟨_, rfl, hX117⟩)))
 refine qdg rfl rfl rfl rfl rfl rfl (zN (k := 0) rfl eU rfl nz24 rfl) (qdg rfl rfl rfl rfl rfl rfl (zM (u := u42) ag24 rfl ((dN hX117.pins (dM (dM (dM hx72.le hle89) hx99.le) hle116)) _ _ _ (hbp64 0 _ rfl))) (qdg rfl rfl rfl rfl rfl rfl (zP eS (v := u42) rfl hr44) (qdg rfl rfl rfl rfl rfl rfl (jC rfl rfl) (qD rfl (yS (v := (.bool (decide ((20 : Int) < (ns43.length : Int))))) rfl rfl) (qe (zA ?_))))))
 refine yF (p := (20 : Int) < (ns43.length : Int)) rfl rfl (fun h127 => ?_) (fun h127 => ?_)
 refine zE (zF ?_)
 refine qD rfl (zD (v := (.bool true)) rfl) (qe (zA ?_))
 exact wp_ret (zW (zT (v := (.bool true)) rfl rfl rfl (⟨_, rfl, hX117⟩)))
 refine wp_skip (zA (zE (zF ?_)))
 refine qD rfl (yK (cs := [u66, v67]) ag31 sz31 rfl (fun j u hj => (dN hX117.pins (dM hx99.le hle116)) _ _ _ (hbp91 _ _ (by simpa using hj)))) (qD rfl (zN (k := 0) rfl eU rfl nz24 rfl) (qD rfl (zM (u := u8) ag24 rfl ((dN hX117.pins (dM (dM (dM (dM (dM (dM hx37.le hx41.le) hle62) hx72.le) hle89) hx99.le) hle116)) _ _ _ (hbp30 0 _ rfl))) (qD rfl (zP eS (v := u8) rfl hr10) (qD rfl (qM rfl rfl (by omega)) (qD rfl (yK (cs := [u93, v94]) ag31 sz31 rfl (fun j u hj => hX117.pins _ _ _ (hbp118 _ _ (by simpa using hj)))) (qD rfl (zN (k := 0) rfl eU rfl nz24 rfl) (qD rfl (zM (u := u42) ag24 rfl ((dN hX117.pins (dM (dM (dM hx72.le hle89) hx99.le) hle116)) _ _ _ (hbp64 0 _ rfl))) (qD rfl (zP eS (v := u42) rfl hr44) (qD rfl (qM rfl rfl (by omega)) (qI rfl (zR (vs := [(.agg [u66, v67].toArray), (.int .i64 ((ns9.length : Int) - 1)), (.agg [u93, v94].toArray), (.int .i64 ((ns43.length : Int) - 1))]) Tryz.func9 nm9 rfl rfl rfl ?_)))))))))))
 refine dO (tM hX117.pins (hr122.mono (dM (dM hle89 hx99.le) hle116)) (hr123.mono (dM (dM hle89 hx99.le) hle116)) (hr124.mono hle116) (hr125.mono hle116) hg hg2 hL hR hM hQ (by omega) (by omega)) ?_
 rintro _ w129 ⟨G128, rfl, hx130⟩
 refine ⟨_, rfl, ?_⟩
 have hX131 := hX117.tr hx130
 refine qD rfl (zB (v := (.tuple #[(.bool (hlB (ns9.map Nd.l) (ns9.map Nd.r) (ns43.map Nd.l) (ns43.map Nd.r) ((ns9.length : Int) - 1).toNat ((ns43.length : Int) - 1).toNat)), (.bool true)])) rfl) (qD rfl (xA (v := (.bool (hlB (ns9.map Nd.l) (ns9.map Nd.r) (ns43.map Nd.l) (ns43.map Nd.r) ((ns9.length : Int) - 1).toNat ((ns43.length : Int) - 1).toNat))) rfl rfl) (qD rfl (xA (v := (.bool true)) rfl rfl) (qD rfl (zD (v := (.bool (hlB (ns9.map Nd.l) (ns9.map Nd.r) (ns43.map Nd.l) (ns43.map Nd.r) ((ns9.length : Int) - 1).toNat ((ns43.length : Int) - 1).toNat))) rfl) (qD rfl (zD (v := (.bool true)) rfl) (qe (zA (zE (zF ?_))))))))
 refine qD rfl (yK (cs := [u8]) ag26 sz26 rfl (fun j u hj => (dN hX131.pins (dM (dM (dM (dM (dM (dM (dM hx37.le hx41.le) hle62) hx72.le) hle89) hx99.le) hle116) hx130.le)) _ _ _ (hbp30 _ _ (by simpa using hj)))) (qD rfl (yK (cs := [u42]) ag26 sz26 rfl (fun j u hj => (dN hX131.pins (dM (dM (dM (dM hx72.le hle89) hx99.le) hle116) hx130.le)) _ _ _ (hbp64 _ _ (by simpa using hj)))) (qI rfl (zR (vs := [(.agg [u8].toArray), (.agg [u42].toArray)]) Tryz.func10 nm10 rfl rfl rfl ?_)))
 refine dO (mR hX131.pins (hr10.mono (dM (dM (dM (dM (dM (dM (dM (dM hle28 hx37.le) hx41.le) hle62) hx72.le) hle89) hx99.le) hle116) hx130.le)) (hr44.mono (dM (dM (dM (dM (dM hle62 hx72.le) hle89) hx99.le) hle116) hx130.le))) ?_
 rintro _ w133 ⟨G132, rfl, hx134⟩
 refine ⟨_, rfl, ?_⟩
 have hX135 := hX131.tr hx134
 refine qD rfl (zB (v := (.tuple #[(.bool (alB ns9 ns43)), (.bool (goodB ns9 && goodB ns43))])) rfl) (qD rfl (xA (v := (.bool (alB ns9 ns43))) rfl rfl) (qD rfl (xA (v := (.bool (goodB ns9 && goodB ns43))) rfl rfl) (qD rfl (zD (v := (.bool (alB ns9 ns43))) rfl) (qD rfl (zD (v := (.bool (goodB ns9 && goodB ns43))) rfl) (qe (zA (zE (zF ?_))))))))
 refine qD rfl (zB (v := (.bool true)) rfl) (qD rfl (zB (v := (.bool true)) rfl) (qdg rfl rfl rfl rfl rfl rfl (zB (v := (.bool (goodB ns9 && goodB ns43))) rfl) (qD rfl (yW (v := (.bool (goodB ns9 && goodB ns43))) rfl rfl) (qD rfl (zB (v := (.bool (goodB ns9 && goodB ns43))) rfl) (qb (t := 92) rfl (fun h136 => ?_) (fun h136 => ?_))))))
 refine qdg rfl rfl rfl rfl rfl rfl (zB (v := (.bool (hlB (ns9.map Nd.l) (ns9.map Nd.r) (ns43.map Nd.l) (ns43.map Nd.r) ((ns9.length : Int) - 1).toNat ((ns43.length : Int) - 1).toNat))) rfl) (qdg rfl rfl rfl rfl rfl rfl (zB (v := (.bool (alB ns9 ns43))) rfl) (qdg rfl rfl rfl rfl rfl rfl (r_eqlB dL rfl rfl) (qD rfl (yW (v := (.bool ((hlB (ns9.map Nd.l) (ns9.map Nd.r) (ns43.map Nd.l) (ns43.map Nd.r) ((ns9.length : Int) - 1).toNat ((ns43.length : Int) - 1).toNat) == (alB ns9 ns43)))) rfl rfl) (qD rfl (zD (v := (.bool ((hlB (ns9.map Nd.l) (ns9.map Nd.r) (ns43.map Nd.l) (ns43.map Nd.r) ((ns9.length : Int) - 1).toNat ((ns43.length : Int) - 1).toNat) == (alB ns9 ns43)))) rfl) (qe (zA ?_))))))
 exact wp_ret (zW (zT (v := (.bool ((hlB (ns9.map Nd.l) (ns9.map Nd.r) (ns43.map Nd.l) (ns43.map Nd.r) ((ns9.length : Int) - 1).toNat ((ns43.length : Int) - 1).toNat) == (alB ns9 ns43)))) rfl rfl rfl (⟨_, congrArg (fun z => Ending.returned (Value.bool z)) (by rw [heq]; exact beq_self_eq_true _), hX135⟩)))
 refine qs rfl rfl rfl rfl rfl rfl (qs rfl rfl rfl rfl rfl rfl (qs rfl rfl rfl rfl rfl rfl (qD rfl (yS (v := (.bool false)) rfl rfl) (qD rfl (zD (v := (.bool false)) rfl) (qe (zA ?_))))))
 refine wp_ret (zW (zT (v := (.bool false)) rfl rfl rfl ?_))
 rw [hgg] at h136; cases h136
 refine zE (zF ?_)
 refine qD rfl (yK (cs := [u8]) ag26 sz26 rfl (fun j u hj => (dN hX117.pins (dM (dM (dM (dM (dM (dM hx37.le hx41.le) hle62) hx72.le) hle89) hx99.le) hle116)) _ _ _ (hbp30 _ _ (by simpa using hj)))) (qI rfl (zR (vs := [(.agg [u8].toArray)]) Tryz.func8 nm8 rfl rfl rfl ?_))
 refine dO (jT hX117.pins (hr10.mono (dM (dM (dM (dM (dM (dM (dM hle28 hx37.le) hx41.le) hle62) hx72.le) hle89) hx99.le) hle116))) ?_
 rintro _ w140 ⟨u137, v138, G139, rfl, hr141, hr142, hx143⟩
 refine ⟨_, rfl, ?_⟩
 have hX144 := hX117.tr hx143
 refine qD rfl (zB (v := (.tuple #[(.agg [u137, v138].toArray), (.bool (lpOk ns9))])) rfl) (qD rfl (xA (v := (.agg [u137, v138].toArray)) rfl rfl) (qD rfl (xA (v := (.bool (lpOk ns9))) rfl rfl) (qI rfl (yN [(.slice none 0 0), (.slice none 0 0)] zr31 rfl hX144.pins (fun b145 w146 hk147 hb148 hp149 hl150 => ?_)))))
 have hX151 := hX144.step hp149 hl150
 have hlo152 : w.heap.size ≤ b145 := by have := hX144.size; omega
 refine q0 rfl rfl rfl (o_stp (cs' := [u137, v138]) (us := [u137, v138]) (v := (.agg [u137, v138].toArray)) sz31 rfl rfl rfl (xO hr141.one hr142.one) hX151.pins hb148 (dP rfl) rfl (fun w153 hb154 hp155 hg156 hz157 => ?_))
 have hX158 := hX151.write hp155 hg156 ((yG hlo152))
 obtain ⟨G159, hle160, hX161, hbp162, hf163⟩ := hb154.shut hX158 hlo152
 refine qD rfl (zD (v := (.bool (lpOk ns9))) rfl) (qe (zA (zE (zF ?_))))
 refine qD rfl (yK (cs := [u42]) ag26 sz26 rfl (fun j u hj => (dN hX161.pins (dM (dM (dM (dM (dM hx72.le hle89) hx99.le) hle116) hx143.le) hle160)) _ _ _ (hbp64 _ _ (by simpa using hj)))) (qI rfl (zR (vs := [(.agg [u42].toArray)]) Tryz.func8 nm8 rfl rfl rfl ?_))
 refine dO (jT hX161.pins (hr44.mono (dM (dM (dM (dM (dM (dM hle62 hx72.le) hle89) hx99.le) hle116) hx143.le) hle160))) ?_
 rintro _ w167 ⟨u164, v165, G166, rfl, hr168, hr169, hx170⟩
 refine ⟨_, rfl, ?_⟩
 have hX171 := hX161.tr hx170
 refine qD rfl (zB (v := (.tuple #[(.agg [u164, v165].toArray), (.bool (lpOk ns43))])) rfl) (qD rfl (xA (v := (.agg [u164, v165].toArray)) rfl rfl) (qD rfl (xA (v := (.bool (lpOk ns43))) rfl rfl) (qI rfl (yN [(.slice none 0 0), (.slice none 0 0)] zr31 rfl hX171.pins (fun b172 w173 hk174 hb175 hp176 hl177 => ?_)))))
 have hX178 := hX171.step hp176 hl177
 have hlo179 : w.heap.size ≤ b172 := by have := hX171.size; omega
 refine q0 rfl rfl rfl (o_stp (cs' := [u164, v165]) (us := [u164, v165]) (v := (.agg [u164, v165].toArray)) sz31 rfl rfl rfl (xO hr168.one hr169.one) hX178.pins hb175 (dP rfl) rfl (fun w180 hb181 hp182 hg183 hz184 => ?_))
 have hX185 := hX178.write hp182 hg183 ((yG hlo179))
 obtain ⟨G186, hle187, hX188, hbp189, hf190⟩ := hb181.shut hX185 hlo179
 refine qD rfl (zD (v := (.bool (lpOk ns43))) rfl) (qe (zA (zE (zF ?_))))
 refine qD rfl (zB (v := (.bool (lpOk ns9))) rfl) (qD rfl (zB (v := (.bool (lpOk ns9))) rfl) (qD rfl (vH dL rfl rfl) (qD rfl (zB (v := (.bool true)) rfl) (qdg rfl rfl rfl rfl rfl rfl (zB (v := (.bool (lpOk ns43))) rfl) (qdg rfl rfl rfl rfl rfl rfl (zB (v := (.bool (lpOk ns43))) rfl) (qdg rfl rfl rfl rfl rfl rfl (vH dL rfl rfl) (qD rfl (yW (v := (.bool true)) rfl rfl) (qD rfl (zD (v := (.bool true)) rfl) (qe (zA ?_))))))))))
 exact wp_ret (zW (zT (v := (.bool true)) rfl rfl rfl (⟨_, rfl, hX188⟩)))
 refine qs rfl rfl rfl rfl rfl rfl (qs rfl rfl rfl rfl rfl rfl (qD rfl (yW (v := (.bool true)) rfl rfl) (qe (zA ?_))))
 refine qZ rfl rfl (zE (zF ?_))
 refine qD rfl (yK (cs := [u8]) ag26 sz26 rfl (fun j u hj => (dN hX117.pins (dM (dM (dM (dM (dM (dM hx37.le hx41.le) hle62) hx72.le) hle89) hx99.le) hle116)) _ _ _ (hbp30 _ _ (by simpa using hj)))) (qI rfl (zR (vs := [(.agg [u8].toArray)]) Tryz.func8 nm8 rfl rfl rfl ?_))
 refine dO (jT hX117.pins (hr10.mono (dM (dM (dM (dM (dM (dM (dM hle28 hx37.le) hx41.le) hle62) hx72.le) hle89) hx99.le) hle116))) ?_
 rintro _ w194 ⟨u191, v192, G193, rfl, hr195, hr196, hx197⟩
 refine ⟨_, rfl, ?_⟩
 have hX198 := hX117.tr hx197
 refine qD rfl (zB (v := (.tuple #[(.agg [u191, v192].toArray), (.bool (lpOk ns9))])) rfl) (qD rfl (xA (v := (.agg [u191, v192].toArray)) rfl rfl) (qD rfl (xA (v := (.bool (lpOk ns9))) rfl rfl) (qI rfl (yN [(.slice none 0 0), (.slice none 0 0)] zr31 rfl hX198.pins (fun b199 w200 hk201 hb202 hp203 hl204 => ?_)))))
 have hX205 := hX198.step hp203 hl204
 have hlo206 : w.heap.size ≤ b199 := by have := hX198.size; omega
 refine q0 rfl rfl rfl (o_stp (cs' := [u191, v192]) (us := [u191, v192]) (v := (.agg [u191, v192].toArray)) sz31 rfl rfl rfl (xO hr195.one hr196.one) hX205.pins hb202 (dP rfl) rfl (fun w207 hb208 hp209 hg210 hz211 => ?_))
 have hX212 := hX205.write hp209 hg210 ((yG hlo206))
 obtain ⟨G213, hle214, hX215, hbp216, hf217⟩ := hb208.shut hX212 hlo206
 refine qD rfl (zD (v := (.bool (lpOk ns9))) rfl) (qe (zA (zE (zF ?_))))
 refine qD rfl (yK (cs := [u42]) ag26 sz26 rfl (fun j u hj => (dN hX215.pins (dM (dM (dM (dM (dM hx72.le hle89) hx99.le) hle116) hx197.le) hle214)) _ _ _ (hbp64 _ _ (by simpa using hj)))) (qI rfl (zR (vs := [(.agg [u42].toArray)]) Tryz.func8 nm8 rfl rfl rfl ?_))
 refine dO (jT hX215.pins (hr44.mono (dM (dM (dM (dM (dM (dM hle62 hx72.le) hle89) hx99.le) hle116) hx197.le) hle214))) ?_
 rintro _ w221 ⟨u218, v219, G220, rfl, hr222, hr223, hx224⟩
 refine ⟨_, rfl, ?_⟩
 have hX225 := hX215.tr hx224
 refine qD rfl (zB (v := (.tuple #[(.agg [u218, v219].toArray), (.bool (lpOk ns43))])) rfl) (qD rfl (xA (v := (.agg [u218, v219].toArray)) rfl rfl) (qD rfl (xA (v := (.bool (lpOk ns43))) rfl rfl) (qI rfl (yN [(.slice none 0 0), (.slice none 0 0)] zr31 rfl hX225.pins (fun b226 w227 hk228 hb229 hp230 hl231 => ?_)))))
 have hX232 := hX225.step hp230 hl231
 have hlo233 : w.heap.size ≤ b226 := by have := hX225.size; omega
 refine q0 rfl rfl rfl (o_stp (cs' := [u218, v219]) (us := [u218, v219]) (v := (.agg [u218, v219].toArray)) sz31 rfl rfl rfl (xO hr222.one hr223.one) hX232.pins hb229 (dP rfl) rfl (fun w234 hb235 hp236 hg237 hz238 => ?_))
 have hX239 := hX232.write hp236 hg237 ((yG hlo233))
 obtain ⟨G240, hle241, hX242, hbp243, hf244⟩ := hb235.shut hX239 hlo233
 refine qD rfl (zD (v := (.bool (lpOk ns43))) rfl) (qe (zA (zE (zF ?_))))
 refine qD rfl (zB (v := (.bool (lpOk ns9))) rfl) (qD rfl (zB (v := (.bool (lpOk ns9))) rfl) (qD rfl (vH dL rfl rfl) (qD rfl (zB (v := (.bool true)) rfl) (qdg rfl rfl rfl rfl rfl rfl (zB (v := (.bool (lpOk ns43))) rfl) (qdg rfl rfl rfl rfl rfl rfl (zB (v := (.bool (lpOk ns43))) rfl) (qdg rfl rfl rfl rfl rfl rfl (vH dL rfl rfl) (qD rfl (yW (v := (.bool true)) rfl rfl) (qD rfl (zD (v := (.bool true)) rfl) (qe (zA ?_))))))))))
 exact wp_ret (zW (zT (v := (.bool true)) rfl rfl rfl (⟨_, rfl, hX242⟩)))
end LSF
end Go.Proofs.YtdongckiecjbaaaGreatDoor
