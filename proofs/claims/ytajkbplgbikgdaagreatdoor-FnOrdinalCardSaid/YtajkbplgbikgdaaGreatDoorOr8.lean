/- Texts of this claim in one file: DO4, LOD. -/
import Derived.Test.YtajkbplgbikgdaaGreatDoorOr7
import Derived.Test.YtajkbplgbikgdaaGreatDoorChecked
set_option maxRecDepth 20000
set_option maxHeartbeats 2000000
namespace Go.Proofs.YtajkbplgbikgdaaGreatDoor
namespace DO4
open Go.RowKit Go.GL Go.Proofs
open B1 C1 D1 E1 MK1 DO1 DO2 DO3
theorem pl26 : (Tryz.prog.underlying 26).bind (placesD Tryz.prog) = some [(0, 1)] := by kernel_rfl
theorem pl65 : (Tryz.prog.underlying 65).bind (placesD Tryz.prog) = some [(0, 1), (1, 1)] := by kernel_rfl
theorem pl81 : (Tryz.prog.underlying 81).bind (placesD Tryz.prog) = some [(0, 1), (1, 1), (2, 1)] := by kernel_rfl
theorem pQ {w : World} {G : Pin} {n : Int} (hP : Pins G w) (hn : n ≤ 100) :
  Calls Tryz.prog 67 [(.int .i64 n)].toArray w fun e w' => ∃ (u : Value) (ns : List Nd) (G' : Pin), e = .returned (.agg [u].toArray) ∧ RSl eNode G' u ns ∧ Ext noS G w G' w' := by
 refine yG (n := 23) Tryz.func67 Tryz.ntmps67 rfl rfl ?_
 have hX0 := exr noS hP
 refine zG (zH ?_)
 refine qI rfl (yO [(.slice none 0 0)] zr26 rfl hX0.pins (fun b1 w2 hk3 hb4 hp5 hl6 => ?_))
 have hX7 := hX0.step hp5 hl6
 have hlo8 : w.heap.size ≤ b1 := by have := hX0.size; omega
 refine qe (zA (zG (zH ?_)))
 refine qD rfl (xQ [(.slice none 0 0), (.slice none 0 0)] [(.slice none 0 0), (.slice none 0 0)] [] eX zr65 rfl pl65 rfl (fun _ h => by cases h) rfl) (qI rfl (xJ (E := eNode) (e := 65) [(.slice none 0 0), (.slice none 0 0)] (⟨[], []⟩ : Nd) eV sz65 zr65 ⟨_, _, rfl, (qJ _ _), (qJ _ _)⟩ rfl (by decide) hX7.pins (fun u9 w10 ho11 hp12 hl13 hk14 => ?_)))
 have hX15 := hX7.step hp12 hl13
 have hb16 := hb4.below hl13
 have ha17 : Apart u9.ownBlock (some b1) := zL hk14 hb4.lt
 have ho18 := ho11.weaken hX7.size
 refine qD rfl (xQ [(.slice none 0 0)] [u9] [(0, u9, [u9])] eW zr26 rfl pl26 rfl (List.forall_mem_cons.2 ⟨(xE ho18.one), (fun _ h => by cases h)⟩) rfl) (qI rfl (yO [(.slice none 0 0)] zr26 rfl hX15.pins (fun b19 w20 hk21 hb22 hp23 hl24 => ?_)))
 have hX25 := hX15.step hp23 hl24
 have ho26 := ho18.below hl24
 have hb27 := hb16.below hl24
 have ha28 : Apart (some b19) u9.ownBlock := zK (congrArg some hk21) ho18.lt
 have ha29 : Apart (some b19) (some b1) := zL (congrArg some hk21) hb16.lt
 have hlo30 : w.heap.size ≤ b19 := by have := hX15.size; omega
 refine q0 rfl rfl rfl (o_stp (cs' := [u9]) (us := [u9]) (v := (.agg [u9].toArray)) sz26 rfl rfl rfl (yM ho26.one) hX25.pins hb22 (dQ rfl) rfl (fun w31 hb32 hp33 hg34 hz35 => ?_))
 have hX36 := hX25.write hp33 hg34 ((yC hlo30))
 have ho37 := ho26.keptA hg34 ha28.symm
 have hb38 := hb27.keptA hg34 ha29.symm
 refine qe (zA (zG (zG (zH ?_))))
 refine qD rfl (zD (v := (.int .i64 1)) rfl) (qe (zA ?_))
 refine yH (yZ (fun (k : Nat) (en : Nat → Value) (W : World) => ∃ (env1 : Nat → Value) (i : Nat) (nv : Value) (ms : List Nd) (GL : Pin), en = (upd (upd (upd (upd env1 0 (.int .i64 n)) 2 (.pointer (some ⟨b1, 0, none⟩))) 3 (.pointer (some ⟨b19, 0, none⟩))) 4 (.int .i64 (i : Int))) ∧ k = 101 - i ∧ Ext noS G w GL W ∧ Pin.le G GL ∧ (1 ≤ i ∧ i ≤ 101) ∧ (ms.length = i) ∧ (Own eNode 65 GL W w.heap.size nv (ms)) ∧ (Bx GL W b1 [(.slice none 0 0)]) ∧ (Bx GL W b19 [nv]) ∧ (Apart nv.ownBlock (some b1)) ∧ (Apart nv.ownBlock (some b19))) _ ⟨_, 1, u9, [(⟨[], []⟩ : Nd)], G, (zC (x := 4) (zC (x := 3) (zC (x := 2) (zX (x := 0) rfl) rfl) rfl) rfl), rfl, hX36, Pin.le_refl _, (by omega), rfl, ho37, hb38, hb32, ha17, ha28.symm⟩ ?_)
 rintro k39 _ w40 ⟨env1, i, nv, ms, GL, rfl, hk41, hX42, hlek39, hi, hil, hw43, hw44, hw45, ha46, ha47⟩
 refine zG (zG (zH ?_))
 refine qD rfl (zB (v := (.int .i64 (i : Int))) rfl) (qD rfl (zB (v := (.int .i64 n)) rfl) (qD rfl (xB rfl rfl) (qe (zA ?_))))
 refine yN (p := ((i : Int) : Int) < n) rfl rfl (fun h48 => ?_) (fun h48 => ?_)
 refine wp_skip (zA (zG ?_))
 refine yH (zH (qD rfl (zR (k := 0) rfl eW rfl nz24 rfl) (qD rfl (zS (u := nv) ag24 rfl (hw45.cell (o := 0) rfl)) (qD rfl (zB (v := (.int .i64 (i : Int))) rfl) (qD rfl (jA rfl rfl (by omega)) (qI rfl (yY (E := eInt) (e := 3) [(.int .i64 ((i : Int) - 1))] [(i : Int) - 1] eU sz3 zr3 (by exact xT (by rfl)) (yM (by rfl)) rfl rfl rfl rfl (by decide) hX42.pins (fun u49 w50 ho51 hp52 hl53 hk54 => ?_))))))))
 have hX55 := hX42.step hp52 hl53
 have ho56 := hw43.below hl53
 have hb57 := hw44.below hl53
 have hb58 := hw45.below hl53
 have ha59 : Apart u49.ownBlock nv.ownBlock := zK hk54 hw43.lt
 have ha60 : Apart u49.ownBlock (some b1) := zL hk54 hw44.lt
 have ha61 : Apart u49.ownBlock (some b19) := zL hk54 hw45.lt
 have ho62 := ho51.weaken hX42.size
 refine qD rfl (xQ [(.slice none 0 0), (.slice none 0 0)] [u49, (.slice none 0 0)] [(0, u49, [u49])] eX zr65 rfl pl65 rfl (List.forall_mem_cons.2 ⟨(xE ho62.one), (fun _ h => by cases h)⟩) rfl) ?_
 obtain ⟨G63, hle66, hX65, hr64, hf67⟩ := ho62.sealed hX55
 have ho68 := ho56.moreO hle66 hf67 ha59.symm
 have hb69 := hb57.moreO hf67 ha60.symm
 have hb70 := hb58.moreO hf67 ha61.symm
 refine qI rfl (xJ (E := eNode) (e := 65) [u49, (.slice none 0 0)] (⟨[(i : Int) - 1], []⟩ : Nd) eV sz65 zr65 ⟨_, _, rfl, hr64, (qJ _ _)⟩ rfl (by decide) hX65.pins (fun u71 w72 ho73 hp74 hl75 hk76 => ?_))
 have hX77 := hX65.step hp74 hl75
 have ho78 := ho68.below hl75
 have hb79 := hb69.below hl75
 have hb80 := hb70.below hl75
 have ho84 := ho73.weaken hX65.size
 refine qI rfl (zZ (E := eNode) (v := nv) (u := u71) 48 eV ap65 (by decide) rfl rfl hX77.pins ho78 ho84.src (by first | omega | (rw [List.nil_append]; omega) | (rw [List.length_nil]; omega) | (rw [List.length_append]; omega) | (simp; done) | (simp; omega) | (simp only [List.length_cons, List.length_nil]; omega) | (simp only [List.length_cons, List.length_nil]; omega) | (simp only [List.length_append, List.length_cons, List.length_nil]; omega)) (by first | omega | (rw [List.nil_append]; omega) | (rw [List.length_nil]; omega) | (rw [List.length_append]; omega) | (simp; done) | (simp; omega) | (simp only [List.length_cons, List.length_nil]; omega) | (simp only [List.length_cons, List.length_nil]; omega) | (simp only [List.length_append, List.length_cons, List.length_nil]; omega)) (hX77.size) (fun u85 w86 ho87 hp88 hg89 hw90 => ?_))
 have hX91 := hX77.write hp88 hg89 ((yD ho78))
 have hb93 := hb79.keptA hg89 ha46.symm
 have hb94 := hb80.keptA hg89 ha47.symm
 have ha96 : Apart (some b1) u85.ownBlock := zP ha46.symm hw90 hb79.lt
 have ha97 : Apart (some b19) u85.ownBlock := zP ha47.symm hw90 hb80.lt
 have hm98 := la1 ms (⟨[(i : Int) - 1], []⟩ : Nd)
 refine qD rfl (zR (k := 0) rfl eW rfl nz24 rfl) (q0 rfl rfl rfl (o_stp (cs' := [u85]) (us := [u85]) (v := u85) sz24 rfl rfl (kT ho87.one) (yM ho87.one) hX91.pins hb94 (dQ rfl) rfl (fun w99 hb100 hp101 hg102 hz103 => ?_)))
 have hX104 := hX91.write hp101 hg102 ((yC hlo30))
 have ho105 := ho87.keptA hg102 ha97.symm
 have hb106 := hb93.keptA hg102 ha29.symm
 refine qe (yQ (zA (zH ?_)))
 refine qD rfl (zB (v := (.int .i64 (i : Int))) rfl) (qD rfl (yX rfl rfl (by omega)) (qD rfl (zD (v := (.int .i64 ((i : Int) + 1))) rfl) (qe (yS (⟨_, ?_, _, rfl, _, i + 1, u85, ms ++ ([(⟨[(i : Int) - 1], []⟩ : Nd)]), G63, (zC (x := 4) (zC (x := 3) (zC (x := 2) (zX (x := 0) rfl) rfl) rfl) rfl), rfl, hX104, (dN hlek39 hle66), (by omega), (by simp [hil]), ho105, hb106, hb100, ha96.symm, ha97.symm⟩)))))
 omega
 refine wp_exit (yI (yW (yV (zA (zG (zH ?_))))))
 refine qD rfl (yJ (cs := [nv]) ag26 sz26 rfl (fun j u hj => hw45.cell (by simpa using hj))) (q0 rfl rfl rfl (o_stp (cs' := [nv]) (us := [nv]) (v := (.agg [nv].toArray)) sz26 rfl rfl rfl (yM hw43.one) hX42.pins hw44 (dQ rfl) rfl (fun w107 hb108 hp109 hg110 hz111 => ?_)))
 have hX112 := hX42.write hp109 hg110 ((yC hlo8))
 have ho113 := hw43.keptA hg110 ha46
 refine qe (zA ?_)
 refine wp_ret (zY (qT (cs := [nv]) rfl rfl rfl ag26 sz26 (fun j u hj => by rw [Nat.zero_add]; exact hb108.cell hj) ?_))
 obtain ⟨G115, hle118, hX117, hr116, hf119⟩ := ho113.sealed hX112
 exact ⟨_, _, _, rfl, hr116, hX117⟩
theorem rU {w : World} {G : Pin} {v : Value} {code : List UInt8} (hP : Pins G w) (hc : RSl eByte G v code) :
  Calls Tryz.prog 29 [v].toArray w fun e w' => ∃ (u0 : Value) (ns0 : List Nd) (u1 : Value) (ns1 : List Nd) (G' : Pin), e = .returned (.tuple #[(.agg [u0].toArray), (.agg [u1].toArray)]) ∧ RSl eNode G' u0 ns0 ∧ RSl eNode G' u1 ns1 ∧ Ext noS G w G' w' := by
 refine yG (n := 21) Tryz.func29 Tryz.ntmps29 rfl rfl ?_
 have hX0 := exr noS hP
 have hm := hc.max
 refine zG (zH ?_)
 refine qI rfl (yO [(.slice none 0 0)] zr26 rfl hX0.pins (fun b1 w2 hk3 hb4 hp5 hl6 => ?_))
 have hX7 := hX0.step hp5 hl6
 have hlo8 : w.heap.size ≤ b1 := by have := hX0.size; omega
 refine qI rfl (yO [(.slice none 0 0)] zr26 rfl hX7.pins (fun b9 w10 hk11 hb12 hp13 hl14 => ?_))
 have hX15 := hX7.step hp13 hl14
 have hb16 := hb4.below hl14
 have ha17 : Apart (some b9) (some b1) := zL (congrArg some hk11) hb4.lt
 have hlo18 : w.heap.size ≤ b9 := by have := hX7.size; omega
 refine qe (zA (zG (zH ?_)))
 refine qD rfl (zB (v := v) rfl) (qD rfl (xQ [(.slice none 0 0), (.int .i64 0), (.int .u64 0)] [v, (.int .i64 0), (.int .u64 0)] [(0, v, [v])] dD zr81 rfl pl81 rfl (List.forall_mem_cons.2 ⟨(xE hc.one), (fun _ h => by cases h)⟩) rfl) (qI rfl (xW [v, (.int .i64 0), (.int .u64 0)] (v := (.agg [v, (.int .i64 0), (.int .u64 0)].toArray)) rfl rfl hX15.pins (fun b19 w20 hk21 hb22 hp23 hl24 => ?_))))
 have hX25 := hX15.step hp23 hl24
 have hb26 := hb16.below hl24
 have hb27 := hb12.below hl24
 have ha28 : Apart (some b19) (some b1) := zL (congrArg some hk21) hb16.lt
 have ha29 : Apart (some b19) (some b9) := zL (congrArg some hk21) hb12.lt
 have hlo30 : w.heap.size ≤ b19 := by have := hX15.size; omega
 refine qD rfl (zD (v := (.pointer (some ⟨b19, 0, none⟩))) rfl) (qe (zA (zG (zG (zH ?_)))))
 refine qD rfl (zB (v := (.pointer (some ⟨b19, 0, none⟩))) rfl) (qI rfl (zM (vs := [(.pointer (some ⟨b19, 0, none⟩)), (.int .i64 20)]) Tryz.func52 nm52 rfl rfl rfl ?_))
 refine dP (mU hX25.pins hb22 hc (by omega) (by omega) (n := 20) (by omega)) ?_
 rintro _ w35 ⟨z31, a33, s34, rfl, hdf32, hb36, hda37, hds38, hx39⟩
 refine ⟨_, rfl, ?_⟩
 have hX40 := hX25.trans hx39 (fun i hi => (yC hlo30) i hi)
 have hb41 := hb26.extS hx39 (qM ha28.symm)
 have hb42 := hb27.extS hx39 (qM ha29.symm)
 refine qe (zA ?_)
 refine c_if rfl rfl (fun h43 => ?_) (fun h43 => ?_)
 refine zG (zH ?_)
 refine qI rfl (zM (vs := [(.int .i64 40)]) Tryz.func67 nm67 rfl rfl rfl ?_)
 refine dP (pQ (n := 40) hX40.pins (by first | omega | (simp at *; omega))) ?_
 rintro _ w47 ⟨u44, ns45, G46, rfl, hr48, hx49⟩
 refine ⟨_, rfl, ?_⟩
 have hX50 := hX40.tr hx49
 have hb51 := hb41.ext hx49
 have hb52 := hb42.ext hx49
 have hb53 := hb36.ext hx49
 have hm54 := hr48.max
 refine qD rfl (zB (v := (.pointer (some ⟨b19, 0, none⟩))) rfl) (qI rfl (yY (E := eInt) (e := 3) [(.int .i64 40), (.int .i64 41), (.int .i64 80), (.int .i64 81)] [40, 41, 80, 81] eU sz3 zr3 (by exact reps4 (by rfl) (by rfl) (by rfl) (by rfl)) (ones4 (by rfl) (by rfl) (by rfl) (by rfl)) rfl rfl rfl rfl (by decide) hX50.pins (fun u55 w56 ho57 hp58 hl59 hk60 => ?_)))
 have hX61 := hX50.step hp58 hl59
 have hb62 := hb51.below hl59
 have hb63 := hb52.below hl59
 have hb64 := hb53.below hl59
 have ha65 : Apart u55.ownBlock (some b1) := zL hk60 hb51.lt
 have ha66 : Apart u55.ownBlock (some b9) := zL hk60 hb52.lt
 have ha67 : Apart u55.ownBlock (some b19) := zL hk60 hb53.lt
 have ho68 := ho57.weaken hX50.size
 obtain ⟨G69, hle72, hX71, hr70, hf73⟩ := ho68.sealed hX61
 have hb74 := hb62.moreO hf73 ha65.symm
 have hb75 := hb63.moreO hf73 ha66.symm
 have hb76 := hb64.moreO hf73 ha67.symm
 refine qI rfl (zM (vs := [(.pointer (some ⟨b19, 0, none⟩)), u55]) Tryz.func68 nm68 rfl rfl rfl ?_)
 refine dP (gG hX71.pins hb76 (hc.mono (dN hx49.le hle72)) (by omega) (by omega) hr70 (by simp)) ?_
 rintro _ w82 ⟨z77, a80, s81, rfl, hz78, hdf79, hb83, hda84, hds85, hx86⟩
 refine ⟨_, rfl, ?_⟩
 have hX87 := hX71.trans hx86 (fun i hi => (yC hlo30) i hi)
 have hb88 := hb74.extS hx86 (qM ha28.symm)
 have hb89 := hb75.extS hx86 (qM ha29.symm)
 refine qI rfl (zM (vs := [(.int .i64 z77)]) Tryz.func67 nm67 rfl rfl rfl ?_)
 refine dP (pQ (n := z77) hX87.pins (by first | omega | (simp at *; omega))) ?_
 rintro _ w93 ⟨u90, ns91, G92, rfl, hr94, hx95⟩
 refine ⟨_, rfl, ?_⟩
 have hX96 := hX87.tr hx95
 have hb97 := hb88.ext hx95
 have hb98 := hb89.ext hx95
 have hm100 := hr94.max
 refine q0 rfl rfl rfl (o_stp (cs' := [u44]) (us := [u44]) (v := (.agg [u44].toArray)) sz26 rfl rfl rfl (yM hr48.one) hX96.pins hb97 (dQ rfl) rfl (fun w101 hb102 hp103 hg104 hz105 => ?_))
 have hX106 := hX96.write hp103 hg104 ((yC hlo8))
 have hb107 := hb98.keptA hg104 ha17
 refine q0 rfl rfl rfl (o_stp (cs' := [u90]) (us := [u90]) (v := (.agg [u90].toArray)) sz26 rfl rfl rfl (yM hr94.one) hX106.pins hb107 (dQ rfl) rfl (fun w109 hb110 hp111 hg112 hz113 => ?_))
 have hX114 := hX106.write hp111 hg112 ((yC hlo18))
 have hb115 := hb102.keptA hg112 ha17.symm
 refine qe (zA ?_)
 exact wp_ret (zY (eE (cs := [u44]) (ds := [u90]) rfl rfl rfl rfl rfl ag26 sz26 rfl (fun j u hj => by rw [Nat.zero_add]; exact hb115.cell hj) (fun j u hj => by rw [Nat.zero_add]; exact hb110.cell hj) (⟨_, _, _, _, _, rfl, (hr48.mono (dN hle72 hx95.le)), hr94, hX114⟩)))
 refine wp_skip (zA (zG (zH ?_)))
 refine qD rfl (zB (v := (.pointer (some ⟨b19, 0, none⟩))) rfl) (qI rfl (zM (vs := [(.pointer (some ⟨b19, 0, none⟩)), (.int .i64 2)]) Tryz.func69 nm69 rfl rfl rfl ?_))
 refine dP (kX (n := 2) hX40.pins hb36 hc (by omega) (by omega) (by omega)) ?_
 rintro _ w122 ⟨u117, ns118, a119, s120, G121, rfl, hr123, hdf124, hb125, hda126, hds127, hx128⟩
 refine ⟨_, rfl, ?_⟩
 have hX129 := hX40.trans hx128 (fun i hi => (yC hlo30) i hi)
 have hb130 := hb41.extS hx128 (qM ha28.symm)
 have hb131 := hb42.extS hx128 (qM ha29.symm)
 have hm132 := hr123.max
 refine qI rfl (yO [(.slice none 0 0)] zr26 rfl hX129.pins (fun b133 w134 hk135 hb136 hp137 hl138 => ?_))
 have hX139 := hX129.step hp137 hl138
 have hb140 := hb130.below hl138
 have hb141 := hb131.below hl138
 have hb142 := hb125.below hl138
 have ha143 : Apart (some b133) (some b1) := zL (congrArg some hk135) hb130.lt
 have ha144 : Apart (some b133) (some b9) := zL (congrArg some hk135) hb131.lt
 have ha145 : Apart (some b133) (some b19) := zL (congrArg some hk135) hb125.lt
 have hlo146 : w.heap.size ≤ b133 := by have := hX129.size; omega
 refine q0 rfl rfl rfl (o_stp (cs' := [u117]) (us := [u117]) (v := (.agg [u117].toArray)) sz26 rfl rfl rfl (yM hr123.one) hX139.pins hb136 (dQ rfl) rfl (fun w147 hb148 hp149 hg150 hz151 => ?_))
 have hX152 := hX139.write hp149 hg150 ((yC hlo146))
 have hb153 := hb140.keptA hg150 ha143.symm
 have hb154 := hb141.keptA hg150 ha144.symm
 have hb155 := hb142.keptA hg150 ha145.symm
 refine qe (zA (zG ?_))
 refine xD (S := fun wz => BxR wz b133 [u117]) (last := 4) (by kernel_rfl) rfl ?_
 have hl156 := bdr w147
 have hp157 := hX152.pins.below hl156
 have hX158 := hX152.step hp157 hl156
 have hb159 := hb153.below hl156
 have hb160 := hb154.below hl156
 have hb161 := hb155.below hl156
 have hb162 := hb148.below hl156
 refine dT (i := 0) rfl rfl (by kernel_rfl) (fun _ hS => yJ (cs := [u117]) ag26 sz26 rfl (fun j u hj => hS _ _ (by simpa using hj))) hb162.reads ?_
 refine dT (i := 1) rfl rfl (by kernel_rfl) (fun _ _ => zB (v := (.pointer (some ⟨b19, 0, none⟩))) rfl) hb162.reads ?_
 refine zQ (i := 2) (by kernel_rfl) (zU (i := 2) rfl rfl rfl (zI rfl _) (zM (vs := [(.pointer (some ⟨b19, 0, none⟩)), (.int .i64 2)]) Tryz.func69 nm69 rfl rfl rfl ?_))
 refine dP (kX (n := 2) hX158.pins hb161 (hc.mono hx128.le) (by omega) (by omega) (by omega)) ?_
 rintro _ w168 ⟨u163, ns164, a165, s166, G167, rfl, hr169, hdf170, hb171, hda172, hds173, hx174⟩
 refine ⟨_, rfl, ?_⟩
 have hX175 := hX158.trans hx174 (fun i hi => (yC hlo30) i hi)
 have hb176 := hb159.extS hx174 (qM ha28.symm)
 have hb177 := hb160.extS hx174 (qM ha29.symm)
 have hb178 := hb162.extS hx174 (qM ha145)
 have hm179 := hr169.max
 refine ⟨fun _ => hb178.reads, ?_⟩
 refine zQ (i := 3) (by kernel_rfl) (qC (i := 3) rfl rfl rfl (zI rfl _) (o_stp (cs' := [u117]) (us := [u117]) (v := (.agg [u117].toArray)) sz26 rfl rfl rfl (yM hr123.one) hX175.pins hb176 (dQ rfl) rfl (fun w180 hb181 hp182 hg183 hz184 => ?_)))
 have hX185 := hX175.write hp182 hg183 ((yC hlo8))
 have hb186 := hb177.keptA hg183 ha17
 have hb188 := hb178.keptA hg183 ha143
 refine ⟨fun _ => hb188.reads, ?_⟩
 refine zQ (i := 4) (by kernel_rfl) (qC (i := 4) rfl rfl rfl (zI rfl _) (o_stp (cs' := [u163]) (us := [u163]) (v := (.agg [u163].toArray)) sz26 rfl rfl rfl (yM hr169.one) hX185.pins hb186 (dQ rfl) rfl (fun w189 hb190 hp191 hg192 hz193 => ?_)))
 have hX194 := hX185.write hp191 hg192 ((yC hlo18))
 have hb195 := hb181.keptA hg192 ha17.symm
 refine ⟨fun h => absurd rfl h, ?_⟩
 exact yP (by kernel_rfl) (zA (wp_ret (zY (eE (cs := [u117]) (ds := [u163]) rfl rfl rfl rfl rfl ag26 sz26 rfl (fun j u hj => by rw [Nat.zero_add]; exact hb195.cell hj) (fun j u hj => by rw [Nat.zero_add]; exact hb190.cell hj) (⟨_, _, _, _, _, rfl, (hr123.mono hx174.le), hr169, hX194⟩)))))
theorem tD {w : World} {G : Pin} {v : Value} {code : List UInt8} (hP : Pins G w) (hc : RSl eByte G v code) :
  Calls Tryz.prog 8 [v].toArray w fun e w' => ∃ (u0 : Value) (ns0 : List Nd) (u1 : Value) (ns1 : List Nd) (G' : Pin), e = .returned (.tuple #[(.agg [u0].toArray), (.agg [u1].toArray)]) ∧ RSl eNode G' u0 ns0 ∧ RSl eNode G' u1 ns1 ∧ Ext noS G w G' w' := by
 refine yG (n := 8) Tryz.func8 Tryz.ntmps8 rfl rfl ?_
 have hX0 := exr noS hP
 have hm := hc.max
 refine zG (zH ?_)
 refine qI rfl (yO [(.slice none 0 0)] zr26 rfl hX0.pins (fun b1 w2 hk3 hb4 hp5 hl6 => ?_))
 have hX7 := hX0.step hp5 hl6
 have hlo8 : w.heap.size ≤ b1 := by have := hX0.size; omega
 refine qI rfl (yO [(.slice none 0 0)] zr26 rfl hX7.pins (fun b9 w10 hk11 hb12 hp13 hl14 => ?_))
 have hX15 := hX7.step hp13 hl14
 have hb16 := hb4.below hl14
 have ha17 : Apart (some b9) (some b1) := zL (congrArg some hk11) hb4.lt
 have hlo18 : w.heap.size ≤ b9 := by have := hX7.size; omega
 refine qe (zA (zG (zH ?_)))
 refine qD rfl (zB (v := v) rfl) (qI rfl (zM (vs := [v]) Tryz.func29 nm29 rfl rfl rfl ?_))
 refine dP (rU hX15.pins hc) ?_
 rintro _ w20 ⟨u22, ns23, u25, ns26, G19, rfl, hr24, hr27, hx21⟩
 refine ⟨_, rfl, ?_⟩
 have hX28 := hX15.tr hx21
 have hb29 := hb16.ext hx21
 have hb30 := hb12.ext hx21
 have hm31 := hr24.max
 have hm32 := hr27.max
 refine qD rfl (yR (v := (.agg [u22].toArray)) rfl rfl) (qD rfl (yR (v := (.agg [u25].toArray)) rfl rfl) (q0 rfl rfl rfl (o_stp (cs' := [u22]) (us := [u22]) (v := (.agg [u22].toArray)) sz26 rfl rfl rfl (yM hr24.one) hX28.pins hb29 (dQ rfl) rfl (fun w33 hb34 hp35 hg36 hz37 => ?_))))
 have hX38 := hX28.write hp35 hg36 ((yC hlo8))
 have hb39 := hb30.keptA hg36 ha17
 refine q0 rfl rfl rfl (o_stp (cs' := [u25]) (us := [u25]) (v := (.agg [u25].toArray)) sz26 rfl rfl rfl (yM hr27.one) hX38.pins hb39 (dQ rfl) rfl (fun w40 hb41 hp42 hg43 hz44 => ?_))
 have hX45 := hX38.write hp42 hg43 ((yC hlo18))
 have hb46 := hb34.keptA hg43 ha17.symm
 refine qe (zA ?_)
 exact wp_ret (zY (eE (cs := [u22]) (ds := [u25]) rfl rfl rfl rfl rfl ag26 sz26 rfl (fun j u hj => by rw [Nat.zero_add]; exact hb46.cell hj) (fun j u hj => by rw [Nat.zero_add]; exact hb41.cell hj) (⟨_, _, _, _, _, rfl, hr24, hr27, hX45⟩)))
theorem drF_spec {w : World} {G : Pin} {v : Value} {code : List UInt8} (hP : Pins G w) (hc : RSl eByte G v code) :
  Calls Tryz.prog 80 [v].toArray w fun e w' => ∃ (u : Value) (G' : Pin), e = .returned (.agg [u].toArray) ∧ RSl eNode G' u (drF code) ∧ Ext noS G w G' w' := by
 refine yG (n := 20) Tryz.func80 Tryz.ntmps80 rfl rfl ?_
 have hX0 := exr noS hP
 have hm := hc.max
 refine zG (zH ?_)
 refine qI rfl (yO [(.slice none 0 0)] zr26 rfl hX0.pins (fun b1 w2 hk3 hb4 hp5 hl6 => ?_))
 have hX7 := hX0.step hp5 hl6
 have hlo8 : w.heap.size ≤ b1 := by have := hX0.size; omega
 refine qe (zA (zG (zH ?_)))
 refine qD rfl (zB (v := v) rfl) (qD rfl (xQ [(.slice none 0 0), (.int .i64 0), (.int .u64 0)] [v, (.int .i64 0), (.int .u64 0)] [(0, v, [v])] dD zr81 rfl pl81 rfl (List.forall_mem_cons.2 ⟨(xE hc.one), (fun _ h => by cases h)⟩) rfl) (qI rfl (xW [v, (.int .i64 0), (.int .u64 0)] (v := (.agg [v, (.int .i64 0), (.int .u64 0)].toArray)) rfl rfl hX7.pins (fun b9 w10 hk11 hb12 hp13 hl14 => ?_))))
 have hX15 := hX7.step hp13 hl14
 have hb16 := hb4.below hl14
 have ha17 : Apart (some b9) (some b1) := zL (congrArg some hk11) hb4.lt
 have hlo18 : w.heap.size ≤ b9 := by have := hX7.size; omega
 refine qD rfl (zD (v := (.pointer (some ⟨b9, 0, none⟩))) rfl) (qe (zA (zG (zG (zH ?_)))))
 refine qD rfl (zB (v := (.pointer (some ⟨b9, 0, none⟩))) rfl) (qI rfl (zM (vs := [(.pointer (some ⟨b9, 0, none⟩)), (.int .i64 8)]) Tryz.func52 nm52 rfl rfl rfl ?_))
 refine dP (mU hX15.pins hb12 hc (by omega) (by omega) (n := 8) (by omega)) ?_
 rintro _ w23 ⟨z19, a21, s22, rfl, hdf20, hb24, hda25, hds26, hx27⟩
 refine ⟨_, rfl, ?_⟩
 have hX28 := hX15.trans hx27 (fun i hi => (yC hlo18) i hi)
 have hb29 := hb16.extS hx27 (qM ha17.symm)
 refine qe (zA ?_)
 refine c_if rfl rfl (fun h30 => ?_) (fun h30 => ?_)
 refine zG (zH ?_)
 refine qD rfl (zB (v := (.pointer (some ⟨b9, 0, none⟩))) rfl) (qI rfl (zM (vs := [(.pointer (some ⟨b9, 0, none⟩)), (.int .i64 5)]) Tryz.func98 nm98 rfl rfl rfl ?_))
 refine dP (kS (n := 5) hX28.pins hb24 hc (by omega) (by omega) (by omega)) ?_
 rintro _ w36 ⟨u31, g32, a33, s34, G35, rfl, ho37, hif38, hfl39, hdf40, hb41, hda42, hds43, hx44⟩
 refine ⟨_, rfl, ?_⟩
 have hX45 := hX28.trans hx44 (fun i hi => (yC hlo18) i hi)
 have hb46 := hb29.extS hx44 (qM ha17.symm)
 have ha47 : Apart u31.ownBlock (some b1) := yA ho37.lt hb29.lt
 have ha48 : Apart u31.ownBlock (some b9) := yA ho37.lt hb24.lt
 have ho49 := ho37.weaken hX28.size
 have hfo50 := hif38.1.lo
 refine qD rfl (zB (v := (.pointer (some ⟨b9, 0, none⟩))) rfl) (qI rfl (zM (vs := [(.pointer (some ⟨b9, 0, none⟩)), (.int .i64 6)]) Tryz.func98 nm98 rfl rfl rfl ?_))
 refine dP (kS (n := 6) hX45.pins hb41 (hc.mono hx44.le) (by omega) (by omega) (by omega)) ?_
 rintro _ w56 ⟨u51, g52, a53, s54, G55, rfl, ho57, hif58, hfl59, hdf60, hb61, hda62, hds63, hx64⟩
 refine ⟨_, rfl, ?_⟩
 have hX65 := hX45.trans hx64 (fun i hi => (yC hlo18) i hi)
 have ho66 := ho49.extS hx64 (notO ha48)
 have hb67 := hb46.extS hx64 (qM ha17.symm)
 have ha68 : Apart u51.ownBlock u31.ownBlock := zV ho57.lt ho49.lt
 have ha69 : Apart u51.ownBlock (some b1) := yA ho57.lt hb46.lt
 have ha70 : Apart u51.ownBlock (some b9) := yA ho57.lt hb41.lt
 have ho71 := ho57.weaken hX45.size
 have hfo72 := hif58.1.lo
 obtain ⟨G73, hle76, hX75, hr74, hf77⟩ := ho66.sealed hX65
 have ho78 := ho71.moreO hle76 hf77 ha68
 have hb79 := hb67.moreO hf77 ha47.symm
 have hb80 := hb61.moreO hf77 ha48.symm
 obtain ⟨G81, hle84, hX83, hr82, hf85⟩ := ho78.sealed hX75
 have hb86 := hb79.moreO hf85 ha69.symm
 have hb87 := hb80.moreO hf85 ha70.symm
 refine qI rfl (gR (E := (eSl eNode)) (e := 26) [u31, u51] [formG g32, formG g52] eZ sz26 zr26 (by exact reps2 (⟨_, rfl, (hr74.mono hle84)⟩) (⟨_, rfl, hr82⟩)) (jE hr74.one hr82.one) rfl rfl rfl rfl (by decide) hX83.pins (fun u88 w89 ho90 hp91 hl92 hk93 => ?_))
 have hX94 := hX83.step hp91 hl92
 have hb95 := hb86.below hl92
 have hb96 := hb87.below hl92
 have ha97 : Apart u88.ownBlock (some b1) := zL hk93 hb86.lt
 have ha98 : Apart u88.ownBlock (some b9) := zL hk93 hb87.lt
 have ho99 := ho90.weaken hX83.size
 refine qD rfl (zB (v := (.pointer (some ⟨b9, 0, none⟩))) rfl) (qI rfl (zM (vs := [(.pointer (some ⟨b9, 0, none⟩)), (.int .i64 6)]) Tryz.func98 nm98 rfl rfl rfl ?_))
 refine dP (kS (n := 6) hX94.pins hb96 (hc.mono (dN (dN (dN hx44.le hx64.le) hle76) hle84)) (by omega) (by omega) (by omega)) ?_
 rintro _ w105 ⟨u100, g101, a102, s103, G104, rfl, ho106, hif107, hfl108, hdf109, hb110, hda111, hds112, hx113⟩
 refine ⟨_, rfl, ?_⟩
 have hX114 := hX94.trans hx113 (fun i hi => (yC hlo18) i hi)
 have ho115 := ho99.extS hx113 (notO ha98)
 have hb116 := hb95.extS hx113 (qM ha17.symm)
 have ha117 : Apart u100.ownBlock u88.ownBlock := zV ho106.lt ho99.lt
 have ha118 : Apart u100.ownBlock (some b1) := yA ho106.lt hb95.lt
 have ho120 := ho106.weaken hX94.size
 have hfo121 := hif107.1.lo
 obtain ⟨G122, hle125, hX124, hr123, hf126⟩ := ho120.sealed hX114
 have ho127 := ho115.moreO hle125 hf126 ha117.symm
 have hb128 := hb116.moreO hf126 ha118.symm
 refine qI rfl (xJ (E := (eSl eNode)) (e := 26) [u100] (formG g101) eZ sz26 zr26 ⟨_, rfl, hr123⟩ rfl (by decide) hX124.pins (fun u130 w131 ho132 hp133 hl134 hk135 => ?_))
 have hX136 := hX124.step hp133 hl134
 have ho137 := ho127.below hl134
 have hb138 := hb128.below hl134
 have ha140 : Apart u130.ownBlock u88.ownBlock := zK hk135 ho127.lt
 have ha141 : Apart u130.ownBlock (some b1) := zL hk135 hb128.lt
 have ho143 := ho132.weaken hX124.size
 obtain ⟨G144, hle147, hX146, hr145, hf148⟩ := ho137.sealed hX136
 have ho149 := ho143.moreO hle147 hf148 ha140
 have hb150 := hb138.moreO hf148 ha97.symm
 obtain ⟨G152, hle155, hX154, hr153, hf156⟩ := ho149.sealed hX146
 have hb157 := hb150.moreO hf156 ha141.symm
 refine qI rfl (zM (vs := [u88, u130]) Tryz.func131 fE rfl rfl rfl ?_)
 refine dP (l3Make_spec hX154.pins (hr145.mono hle155) hr153 (AllW.cons hif38 (by omega) (AllW.cons hif58 (by omega) AllW.nil (by simp)) (by simp)) (AllW.cons hif107 (by omega) AllW.nil (by simp))) ?_
 rintro _ w161 ⟨u159, G160, rfl, hr162, hx163⟩
 refine ⟨_, rfl, ?_⟩
 have hX164 := hX154.tr hx163
 have hb165 := hb157.ext hx163
 refine q0 rfl rfl rfl (o_stp (cs' := [u159]) (us := [u159]) (v := (.agg [u159].toArray)) sz26 rfl rfl rfl (yM hr162.one) hX164.pins hb165 (dQ rfl) rfl (fun w167 hb168 hp169 hg170 hz171 => ?_))
 have hX172 := hX164.write hp169 hg170 ((yC hlo8))
 refine qe (zA ?_)
 refine wp_ret (zY (qT (cs := [u159]) rfl rfl rfl ag26 sz26 (fun j u hj => by rw [Nat.zero_add]; exact hb168.cell hj) ?_))
 have hdr : formG (mkGm ([formG g32, formG g52]) ([formG g101])) = drF code := (by unfold mkGm; simp only [List.map_cons, List.map_nil]; rw [(hif38).2, (hif58).2, (hif107).2]; exact dr_long (h30 ▸ hdf20) hdf40 hdf60 hdf109)
 exact ⟨_, _, rfl, (by rw [← hdr]; exact hr162), hX172⟩
 refine wp_skip (zA (zG (zH ?_)))
 refine qD rfl (zB (v := (.pointer (some ⟨b9, 0, none⟩))) rfl) (qI rfl (zM (vs := [(.pointer (some ⟨b9, 0, none⟩)), (.int .i64 4)]) Tryz.func69 nm69 rfl rfl rfl ?_))
 refine dP (kX (n := 4) hX28.pins hb24 hc (by omega) (by omega) (by omega)) ?_
 rintro _ w179 ⟨u174, ns175, a176, s177, G178, rfl, hr180, hdf181, hb182, hda183, hds184, hx185⟩
 refine ⟨_, rfl, ?_⟩
 have hX186 := hX28.trans hx185 (fun i hi => (yC hlo18) i hi)
 have hb187 := hb29.extS hx185 (qM ha17.symm)
 have hm188 := hr180.max
 refine q0 rfl rfl rfl (o_stp (cs' := [u174]) (us := [u174]) (v := (.agg [u174].toArray)) sz26 rfl rfl rfl (yM hr180.one) hX186.pins hb187 (dQ rfl) rfl (fun w189 hb190 hp191 hg192 hz193 => ?_))
 have hX194 := hX186.write hp191 hg192 ((yC hlo8))
 refine qe (zA ?_)
 refine wp_ret (zY (qT (cs := [u174]) rfl rfl rfl ag26 sz26 (fun j u hj => by rw [Nat.zero_add]; exact hb190.cell hj) ?_))
 have hdr : ns175 = drF code := dr_any (h30 ▸ hdf20) hdf181
 exact ⟨_, _, rfl, (by rw [← hdr]; exact hr180), hX194⟩
theorem nZ {w : World} {G : Pin} {v : Value} {ns : List Nd} (hP : Pins G w) (hv : RSl eNode G v ns) :
  Calls Tryz.prog 81 [(.agg [v].toArray)].toArray w fun e w' => ∃ G', e = .returned (.bool (goodB ns)) ∧ Ext noS G w G' w' := by
 refine yG (n := 5) Tryz.func81 Tryz.ntmps81 rfl rfl ?_
 have hX0 := exr noS hP
 refine zG (zH ?_)
 refine qI rfl (xW [v] (v := (.agg [v].toArray)) rfl rfl hX0.pins (fun b1 w2 hk3 hb4 hp5 hl6 => ?_))
 have hX7 := hX0.step hp5 hl6
 have hlo8 : w.heap.size ≤ b1 := by have := hX0.size; omega
 obtain ⟨G9, hle10, hX11, hbp12, hf13⟩ := hb4.shut hX7 hlo8
 refine qD rfl (zD (v := (.bool false)) rfl) (qe (zA (zG (zH ?_))))
 refine qD rfl (yJ (cs := [v]) ag26 sz26 rfl (fun j u hj => hX11.pins _ _ _ (hbp12 _ _ (by simpa using hj)))) (qI rfl (zM (vs := [(.agg [v].toArray)]) Tryz.func74 nm74 rfl rfl rfl ?_))
 refine dP (fG hX11.pins (hv.mono hle10)) ?_
 rintro _ w15 ⟨G14, rfl, hx16⟩
 refine ⟨_, rfl, ?_⟩
 have hX17 := hX11.tr hx16
 refine qD rfl (zD (v := (.bool (decP (GoodS ns)))) rfl) (qe (zA ?_))
 exact wp_ret (zY (zW (v := (.bool (decP (GoodS ns)))) rfl rfl rfl (⟨_, congrArg (fun z => Ending.returned (Value.bool z)) (fP ns), hX17⟩)))
theorem vBig_spec {w : World} {G : Pin} {v : Value} {code : List UInt8} (hP : Pins G w) (hc : RSl eByte G v code) :
  Calls Tryz.prog 7 [v].toArray w fun e w' => e = .returned (.bool (decide ((65536 : Int) < (code.length : Int)))) ∧ Ext noS G w G w' := by
 refine yG (n := 6) Tryz.func7 Tryz.ntmps7 rfl rfl ?_
 have hX0 := exr noS hP
 have hm := hc.max
 refine zG (zH ?_)
 refine qD rfl (zD (v := (.bool false)) rfl) (qe (zA (zG (zH ?_))))
 refine qD rfl (zB (v := v) rfl) (qD rfl (zT dA (v := v) rfl hc) (qD rfl (jY rfl rfl) (qD rfl (zD (v := (.bool (decide ((65536 : Int) < (code.length : Int))))) rfl) (qe (zA ?_)))))
 exact wp_ret (zY (zW (v := (.bool (decide ((65536 : Int) < (code.length : Int))))) rfl rfl rfl (⟨rfl, hX0⟩)))
theorem jL {w : World} {G : Pin} (hP : Pins G w) :
  Calls Tryz.prog 12 [].toArray w fun e w' => ∃ (u : Value) (G' : Pin), e = .returned (.agg [u].toArray) ∧ RSl eNode G' u zF ∧ Ext noS G w G' w' := by
 refine yG (n := 4) Tryz.func12 Tryz.ntmps12 rfl rfl ?_
 have hX0 := exr noS hP
 refine zG (zH ?_)
 refine qI rfl (yO [(.slice none 0 0)] zr26 rfl hX0.pins (fun b1 w2 hk3 hb4 hp5 hl6 => ?_))
 have hX7 := hX0.step hp5 hl6
 have hlo8 : w.heap.size ≤ b1 := by have := hX0.size; omega
 refine qe (zA (zG (zH ?_)))
 refine qD rfl (xQ [(.slice none 0 0), (.slice none 0 0)] [(.slice none 0 0), (.slice none 0 0)] [] eX zr65 rfl pl65 rfl (fun _ h => by cases h) rfl) (qI rfl (xJ (E := eNode) (e := 65) [(.slice none 0 0), (.slice none 0 0)] (⟨[], []⟩ : Nd) eV sz65 zr65 ⟨_, _, rfl, (qJ _ _), (qJ _ _)⟩ rfl (by decide) hX7.pins (fun u9 w10 ho11 hp12 hl13 hk14 => ?_)))
 have hX15 := hX7.step hp12 hl13
 have hb16 := hb4.below hl13
 have ha17 : Apart u9.ownBlock (some b1) := zL hk14 hb4.lt
 have ho18 := ho11.weaken hX7.size
 refine qD rfl (xQ [(.slice none 0 0)] [u9] [(0, u9, [u9])] eW zr26 rfl pl26 rfl (List.forall_mem_cons.2 ⟨(xE ho18.one), (fun _ h => by cases h)⟩) rfl) (q0 rfl rfl rfl (o_stp (cs' := [u9]) (us := [u9]) (v := (.agg [u9].toArray)) sz26 rfl rfl rfl (yM ho18.one) hX15.pins hb16 (dQ rfl) rfl (fun w19 hb20 hp21 hg22 hz23 => ?_)))
 have hX24 := hX15.write hp21 hg22 ((yC hlo8))
 have ho25 := ho18.keptA hg22 ha17
 refine qe (zA ?_)
 refine wp_ret (zY (qT (cs := [u9]) rfl rfl rfl ag26 sz26 (fun j u hj => by rw [Nat.zero_add]; exact hb20.cell hj) ?_))
 obtain ⟨G26, hle29, hX28, hr27, hf30⟩ := ho25.sealed hX24
 exact ⟨_, _, rfl, hr27, hX28⟩
theorem vForm_spec {w : World} {G : Pin} {v : Value} {code : List UInt8} (hP : Pins G w) (hc : RSl eByte G v code) :
  Calls Tryz.prog 40 [v].toArray w fun e w' => ∃ (u : Value) (G' : Pin), e = .returned (.agg [u].toArray) ∧ RSl eNode G' u (vfF code) ∧ Ext noS G w G' w' := by
 refine yG (n := 17) Tryz.func40 Tryz.ntmps40 rfl rfl ?_
 have hX0 := exr noS hP
 have hm := hc.max
 refine zG (zH ?_)
 refine qI rfl (yO [(.slice none 0 0)] zr26 rfl hX0.pins (fun b1 w2 hk3 hb4 hp5 hl6 => ?_))
 have hX7 := hX0.step hp5 hl6
 have hlo8 : w.heap.size ≤ b1 := by have := hX0.size; omega
 refine qe (zA (zG (zH ?_)))
 refine qD rfl (zB (v := v) rfl) (qI rfl (zM (vs := [v]) Tryz.func80 nm80 rfl rfl rfl ?_))
 refine dP (drF_spec hX7.pins hc) ?_
 rintro _ w11 ⟨u9, G10, rfl, hr12, hx13⟩
 refine ⟨_, rfl, ?_⟩
 have hX14 := hX7.tr hx13
 have hb15 := hb4.ext hx13
 refine qI rfl (yO [(.slice none 0 0)] zr26 rfl hX14.pins (fun b16 w17 hk18 hb19 hp20 hl21 => ?_))
 have hX22 := hX14.step hp20 hl21
 have hb23 := hb15.below hl21
 have ha24 : Apart (some b16) (some b1) := zL (congrArg some hk18) hb15.lt
 have hlo25 : w.heap.size ≤ b16 := by have := hX14.size; omega
 refine q0 rfl rfl rfl (o_stp (cs' := [u9]) (us := [u9]) (v := (.agg [u9].toArray)) sz26 rfl rfl rfl (yM hr12.one) hX22.pins hb19 (dQ rfl) rfl (fun w26 hb27 hp28 hg29 hz30 => ?_))
 have hX31 := hX22.write hp28 hg29 ((yC hlo25))
 have hb32 := hb23.keptA hg29 ha24.symm
 obtain ⟨G33, hle34, hX35, hbp36, hf37⟩ := hb27.shut hX31 hlo25
 have hb38 := hb32.moreA hf37 ha24.symm
 refine qe (zA (zG (zG (zH ?_))))
 refine qD rfl (yJ (cs := [u9]) ag26 sz26 rfl (fun j u hj => hX35.pins _ _ _ (hbp36 _ _ (by simpa using hj)))) (qI rfl (zM (vs := [(.agg [u9].toArray)]) Tryz.func81 nm81 rfl rfl rfl ?_))
 refine dP (nZ hX35.pins (hr12.mono hle34)) ?_
 rintro _ w40 ⟨G39, rfl, hx41⟩
 refine ⟨_, rfl, ?_⟩
 have hX42 := hX35.tr hx41
 have hb43 := hb38.ext hx41
 refine qD rfl (qR rfl) (qD rfl (zB (v := (.bool (!(goodB (drF code))))) rfl) (qbn (t := 9) rfl (fun h44 => ?_) (fun h44 => ?_)))
 refine qdg rfl rfl rfl rfl rfl rfl (zR (k := 0) rfl eW rfl nz24 rfl) (qdg rfl rfl rfl rfl rfl rfl (zS (u := u9) ag24 rfl ((dO hX42.pins hx41.le) _ _ _ (hbp36 0 _ rfl))) (qdg rfl rfl rfl rfl rfl rfl (zT eV (v := u9) rfl hr12) (qdg rfl rfl rfl rfl rfl rfl (jY rfl rfl) (qD rfl (xA (v := (.bool (decide ((30 : Int) < ((drF code).length : Int))))) rfl rfl) (qe (zA ?_))))))
 refine yN (p := (30 : Int) < ((drF code).length : Int)) rfl rfl (fun h45 => ?_) (fun h45 => ?_)
 refine zG (zH ?_)
 refine qI rfl (zM (vs := []) Tryz.func12 nm12 rfl rfl rfl ?_)
 refine dP (jL hX42.pins ) ?_
 rintro _ w48 ⟨u46, G47, rfl, hr49, hx50⟩
 refine ⟨_, rfl, ?_⟩
 have hX51 := hX42.tr hx50
 have hb52 := hb43.ext hx50
 refine q0 rfl rfl rfl (o_stp (cs' := [u46]) (us := [u46]) (v := (.agg [u46].toArray)) sz26 rfl rfl rfl (yM hr49.one) hX51.pins hb52 (dQ rfl) rfl (fun w53 hb54 hp55 hg56 hz57 => ?_))
 have hX58 := hX51.write hp55 hg56 ((yC hlo8))
 refine qe (zA ?_)
 exact wp_ret (zY (qT (cs := [u46]) rfl rfl rfl ag26 sz26 (fun j u hj => by rw [Nat.zero_add]; exact hb54.cell hj) (⟨_, _, rfl, (by rw [vf_no2 (by omega)]; exact hr49), hX58⟩)))
 refine wp_skip (zA (zG (zH ?_)))
 refine qD rfl (yJ (cs := [u9]) ag26 sz26 rfl (fun j u hj => (dO hX42.pins hx41.le) _ _ _ (hbp36 _ _ (by simpa using hj)))) (q0 rfl rfl rfl (o_stp (cs' := [u9]) (us := [u9]) (v := (.agg [u9].toArray)) sz26 rfl rfl rfl (yM hr12.one) hX42.pins hb43 (dQ rfl) rfl (fun w59 hb60 hp61 hg62 hz63 => ?_)))
 have hX64 := hX42.write hp61 hg62 ((yC hlo8))
 refine qe (zA ?_)
 exact wp_ret (zY (qT (cs := [u9]) rfl rfl rfl ag26 sz26 (fun j u hj => by rw [Nat.zero_add]; exact hb60.cell hj) (⟨_, _, rfl, (by rw [vf_yes h44 (by omega)]; exact (hr12.mono (dN hle34 hx41.le))), hX64⟩)))
 refine qs rfl rfl rfl rfl rfl rfl (qs rfl rfl rfl rfl rfl rfl (qs rfl rfl rfl rfl rfl rfl (qs rfl rfl rfl rfl rfl rfl (qD rfl (xI (v := (.bool true)) rfl rfl) (qe (zA ?_))))))
 refine kB rfl rfl (zG (zH ?_))
 refine qI rfl (zM (vs := []) Tryz.func12 nm12 rfl rfl rfl ?_)
 refine dP (jL hX42.pins ) ?_
 rintro _ w67 ⟨u65, G66, rfl, hr68, hx69⟩
 refine ⟨_, rfl, ?_⟩
 have hX70 := hX42.tr hx69
 have hb71 := hb43.ext hx69
 refine q0 rfl rfl rfl (o_stp (cs' := [u65]) (us := [u65]) (v := (.agg [u65].toArray)) sz26 rfl rfl rfl (yM hr68.one) hX70.pins hb71 (dQ rfl) rfl (fun w72 hb73 hp74 hg75 hz76 => ?_))
 have hX77 := hX70.write hp74 hg75 ((yC hlo8))
 refine qe (zA ?_)
 exact wp_ret (zY (qT (cs := [u65]) rfl rfl rfl ag26 sz26 (fun j u hj => by rw [Nat.zero_add]; exact hb73.cell hj) (⟨_, _, rfl, (by rw [vf_no1 h44]; exact hr68), hX77⟩)))
theorem vCut_spec {w : World} {G : Pin} {v : Value} {code : List UInt8} {n : Int} (hP : Pins G w) (hc : RSl eByte G v code) (hn : 0 ≤ n ∧ n ≤ 100) (hcl : code.length ≤ 65536) :
  Calls Tryz.prog 41 [v, (.int .i64 n)].toArray w fun e w' => ∃ (u : Value) (G' : Pin), e = .returned u ∧ RSl eByte G' u (cutF code n.toNat) ∧ Ext noS G w G' w' := by
 refine yG (n := 20) Tryz.func41 Tryz.ntmps41 rfl rfl ?_
 have hX0 := exr noS hP
 have hm := hc.max
 refine zG (zH ?_)
 refine qD rfl (zD (v := (.slice none 0 0)) rfl) (qe (zA (zG (zG (zH ?_)))))
 refine qD rfl (zB (v := (.int .i64 n)) rfl) (qD rfl (zB (v := v) rfl) (qD rfl (zT dA (v := v) rfl hc) (qD rfl (jY rfl rfl) (qe (zA ?_)))))
 refine yN (p := ((code.length : Int) : Int) < n) rfl rfl (fun h1 => ?_) (fun h1 => ?_)
 refine zH (qD rfl (zB (v := v) rfl) (qD rfl (zT dA (v := v) rfl hc) (qD rfl (zD (v := (.int .i64 (code.length : Int))) rfl) (qe (zA (zG (zH ?_)))))))
 have hdl : ((code.take code.length).drop code.length).length ≤ code.length := by simp
 refine qI rfl (xG (E := eByte) (e := 5) dA sz5 hX0.pins (fun u2 w3 ho4 hp5 hl6 hk7 => ?_))
 have hX8 := hX0.step hp5 hl6
 have ho9 := ho4.weaken hX0.size
 refine qD rfl (zB (v := v) rfl) (qD rfl (zB (v := (.int .i64 (code.length : Int))) rfl) ?_)
 obtain ⟨u10, hr11, hl12⟩ := qO hc (lo := (some ((code.length : Int)))) (hi := none) (code.length) (code.length) (Or.inr ⟨_, rfl, (by omega), rfl⟩) (Or.inl ⟨rfl, rfl⟩) (by omega) (by omega)
 refine qD rfl (hl12 dA sz5 rfl rfl rfl) (qI rfl (zZ (E := eByte) (v := u2) (u := u10) 1 dA ap5 (by decide) rfl rfl hX8.pins ho9 ((hr11.mono (Pin.le_refl _)).src hX8.pins (by decide)) (by first | omega | (rw [List.nil_append]; omega) | (rw [List.length_nil]; omega) | (rw [List.length_append]; omega) | (simp; done) | (simp; omega) | (simp only [List.length_cons, List.length_nil]; omega) | (simp only [List.length_cons, List.length_nil]; omega) | (simp only [List.length_append, List.length_cons, List.length_nil]; omega)) (by first | omega | (rw [List.nil_append]; omega) | (rw [List.length_nil]; omega) | (rw [List.length_append]; omega) | (simp; done) | (simp; omega) | (simp only [List.length_cons, List.length_nil]; omega) | (simp only [List.length_cons, List.length_nil]; omega) | (simp only [List.length_append, List.length_cons, List.length_nil]; omega)) (hX8.size) (fun u13 w14 ho15 hp16 hg17 hw18 => ?_)))
 have hX19 := hX8.write hp16 hg17 ((yD ho9))
 have hm20 := la2 ([]) ((code.take code.length).drop code.length)
 refine qD rfl (zB (v := (.int .i64 (code.length : Int))) rfl) (qD rfl (kO (j := (code.length : Int)) dB dL rfl (wrapB (by omega))) (qI rfl (yY (E := eByte) (e := 5) [(.int .u8 (code.length : Int))] [(UInt8.ofNat ((code.length : Int)).toNat)] dA sz5 zr5 (by exact xT (congrArg (fun z => [Value.int .u8 z]) (u8_of (by omega)))) (yM (by rfl)) rfl rfl rfl rfl (by decide) hX19.pins (fun u21 w22 ho23 hp24 hl25 hk26 => ?_))))
 have hX27 := hX19.step hp24 hl25
 have ho28 := ho15.below hl25
 have ho30 := ho23.weaken hX19.size
 refine qI rfl (zZ (E := eByte) (v := u13) (u := u21) 1 dA ap5 (by decide) rfl rfl hX27.pins ho28 ho30.src (by first | omega | (rw [List.nil_append]; omega) | (rw [List.length_nil]; omega) | (rw [List.length_append]; omega) | (simp; done) | (simp; omega) | (simp only [List.length_cons, List.length_nil]; omega) | (simp only [List.length_cons, List.length_nil]; omega) | (simp only [List.length_append, List.length_cons, List.length_nil]; omega)) (by first | omega | (rw [List.nil_append]; omega) | (rw [List.length_nil]; omega) | (rw [List.length_append]; omega) | (simp; done) | (simp; omega) | (simp only [List.length_cons, List.length_nil]; omega) | (simp only [List.length_cons, List.length_nil]; omega) | (simp only [List.length_append, List.length_cons, List.length_nil]; omega)) (hX27.size) (fun u31 w32 ho33 hp34 hg35 hw36 => ?_))
 have hX37 := hX27.write hp34 hg35 ((yD ho28))
 have hm40 := la1 (([]) ++ ((code.take code.length).drop code.length)) (UInt8.ofNat ((code.length : Int)).toNat)
 refine qD rfl (zD (v := u31) rfl) (qe (zA ?_))
 refine wp_ret (zY (zW (v := u31) rfl rfl rfl ?_))
 obtain ⟨G41, hle44, hX43, hr42, hf45⟩ := ho33.sealed hX37
 have hmn : min n.toNat code.length = (code.length : Int).toNat := by omega
 have hct : cutF code n.toNat = (([]) ++ ((code.take code.length).drop code.length)) ++ ([(UInt8.ofNat ((code.length : Int)).toNat)]) := by unfold cutF; rw [hmn]; simp
 exact ⟨_, _, rfl, (by rw [hct]; exact hr42), hX43⟩
 refine wp_skip (zA (zG (zH ?_)))
 have hdl : ((code.take code.length).drop (n).toNat).length ≤ code.length := by simp
 refine qI rfl (xG (E := eByte) (e := 5) dA sz5 hX0.pins (fun u46 w47 ho48 hp49 hl50 hk51 => ?_))
 have hX52 := hX0.step hp49 hl50
 have ho53 := ho48.weaken hX0.size
 refine qD rfl (zB (v := v) rfl) (qD rfl (zB (v := (.int .i64 n)) rfl) ?_)
 obtain ⟨u54, hr55, hl56⟩ := qO hc (lo := (some (n))) (hi := none) ((n).toNat) (code.length) (Or.inr ⟨_, rfl, (by omega), rfl⟩) (Or.inl ⟨rfl, rfl⟩) (by omega) (by omega)
 refine qD rfl (hl56 dA sz5 rfl rfl rfl) (qI rfl (zZ (E := eByte) (v := u46) (u := u54) 1 dA ap5 (by decide) rfl rfl hX52.pins ho53 ((hr55.mono (Pin.le_refl _)).src hX52.pins (by decide)) (by first | omega | (rw [List.nil_append]; omega) | (rw [List.length_nil]; omega) | (rw [List.length_append]; omega) | (simp; done) | (simp; omega) | (simp only [List.length_cons, List.length_nil]; omega) | (simp only [List.length_cons, List.length_nil]; omega) | (simp only [List.length_append, List.length_cons, List.length_nil]; omega)) (by first | omega | (rw [List.nil_append]; omega) | (rw [List.length_nil]; omega) | (rw [List.length_append]; omega) | (simp; done) | (simp; omega) | (simp only [List.length_cons, List.length_nil]; omega) | (simp only [List.length_cons, List.length_nil]; omega) | (simp only [List.length_append, List.length_cons, List.length_nil]; omega)) (hX52.size) (fun u57 w58 ho59 hp60 hg61 hw62 => ?_)))
 have hX63 := hX52.write hp60 hg61 ((yD ho53))
 have hm64 := la2 ([]) ((code.take code.length).drop (n).toNat)
 refine qD rfl (zB (v := (.int .i64 n)) rfl) (qD rfl (kO (j := n) dB dL rfl (wrapB (by omega))) (qI rfl (yY (E := eByte) (e := 5) [(.int .u8 n)] [(UInt8.ofNat (n).toNat)] dA sz5 zr5 (by exact xT (congrArg (fun z => [Value.int .u8 z]) (u8_of (by omega)))) (yM (by rfl)) rfl rfl rfl rfl (by decide) hX63.pins (fun u65 w66 ho67 hp68 hl69 hk70 => ?_))))
 have hX71 := hX63.step hp68 hl69
 have ho72 := ho59.below hl69
 have ho74 := ho67.weaken hX63.size
 refine qI rfl (zZ (E := eByte) (v := u57) (u := u65) 1 dA ap5 (by decide) rfl rfl hX71.pins ho72 ho74.src (by first | omega | (rw [List.nil_append]; omega) | (rw [List.length_nil]; omega) | (rw [List.length_append]; omega) | (simp; done) | (simp; omega) | (simp only [List.length_cons, List.length_nil]; omega) | (simp only [List.length_cons, List.length_nil]; omega) | (simp only [List.length_append, List.length_cons, List.length_nil]; omega)) (by first | omega | (rw [List.nil_append]; omega) | (rw [List.length_nil]; omega) | (rw [List.length_append]; omega) | (simp; done) | (simp; omega) | (simp only [List.length_cons, List.length_nil]; omega) | (simp only [List.length_cons, List.length_nil]; omega) | (simp only [List.length_append, List.length_cons, List.length_nil]; omega)) (hX71.size) (fun u75 w76 ho77 hp78 hg79 hw80 => ?_))
 have hX81 := hX71.write hp78 hg79 ((yD ho72))
 have hm84 := la1 (([]) ++ ((code.take code.length).drop (n).toNat)) (UInt8.ofNat (n).toNat)
 refine qD rfl (zD (v := u75) rfl) (qe (zA ?_))
 refine wp_ret (zY (zW (v := u75) rfl rfl rfl ?_))
 obtain ⟨G85, hle88, hX87, hr86, hf89⟩ := ho77.sealed hX81
 have hmn : min n.toNat code.length = n.toNat := by omega
 have hct : cutF code n.toNat = (([]) ++ ((code.take code.length).drop (n).toNat)) ++ ([(UInt8.ofNat (n).toNat)]) := by unfold cutF; rw [hmn]; simp
 exact ⟨_, _, rfl, (by rw [hct]; exact hr86), hX87⟩
theorem tH {w : World} {G : Pin} {v : Value} {code : List UInt8} (hP : Pins G w) (hc : RSl eByte G v code) (hcl : code.length ≤ 65536) :
  Calls Tryz.prog 13 [v].toArray w fun e w' => ∃ (u : Value) (G' : Pin), e = .returned (.agg [u].toArray) ∧ RSl eNode G' u (vfF (cutF code 2)) ∧ Ext noS G w G' w' := by
 refine yG (n := 6) Tryz.func13 Tryz.ntmps13 rfl rfl ?_
 have hX0 := exr noS hP
 have hm := hc.max
 refine zG (zH ?_)
 refine qI rfl (yO [(.slice none 0 0)] zr26 rfl hX0.pins (fun b1 w2 hk3 hb4 hp5 hl6 => ?_))
 have hX7 := hX0.step hp5 hl6
 have hlo8 : w.heap.size ≤ b1 := by have := hX0.size; omega
 refine qe (zA (zG (zH ?_)))
 refine qD rfl (zB (v := v) rfl) (qI rfl (zM (vs := [v, (.int .i64 2)]) Tryz.func41 nm41 rfl rfl rfl ?_))
 refine dP (vCut_spec hX7.pins hc (n := 2) (by omega) (by omega)) ?_
 rintro _ w11 ⟨u9, G10, rfl, hr12, hx13⟩
 refine ⟨_, rfl, ?_⟩
 have hX14 := hX7.tr hx13
 have hb15 := hb4.ext hx13
 refine qI rfl (zM (vs := [u9]) Tryz.func40 nm40 rfl rfl rfl ?_)
 refine dP (vForm_spec hX14.pins hr12) ?_
 rintro _ w18 ⟨u16, G17, rfl, hr19, hx20⟩
 refine ⟨_, rfl, ?_⟩
 have hX21 := hX14.tr hx20
 have hb22 := hb15.ext hx20
 refine q0 rfl rfl rfl (o_stp (cs' := [u16]) (us := [u16]) (v := (.agg [u16].toArray)) sz26 rfl rfl rfl (yM hr19.one) hX21.pins hb22 (dQ rfl) rfl (fun w23 hb24 hp25 hg26 hz27 => ?_))
 have hX28 := hX21.write hp25 hg26 ((yC hlo8))
 refine qe (zA ?_)
 exact wp_ret (zY (qT (cs := [u16]) rfl rfl rfl ag26 sz26 (fun j u hj => by rw [Nat.zero_add]; exact hb24.cell hj) (⟨_, _, rfl, hr19, hX28⟩)))
end DO4
end Go.Proofs.YtajkbplgbikgdaaGreatDoor
namespace Go.Proofs.YtajkbplgbikgdaaGreatDoor
namespace LOD
open Go.RowKit Go.GL Go.Proofs
open B1 C1 D1 E1 K1 PO1 PL1 PA1 SO1 OD1 FO1 NG1 NF1 SM1 OS1 AT1 SO7 MK1 DO1 DO2 DO3 DO4
theorem xM {w : World} {G : Pin} {u v : Value} {fs gs : List Nd} (hP : Pins G w) (hu : RSl eNode G u fs) (hv : RSl eNode G v gs) :
  Calls Tryz.prog 9 [(.agg [u].toArray), (.agg [v].toArray)].toArray w fun e w' => ∃ (u : Value) (G' : Pin), e = .returned (.tuple #[(.agg [u].toArray), .bool (ordB fs gs)]) ∧ RSl eNode G' u (ordF fs gs) ∧ Ext noS G w G' w' := by
 refine (gV hP hu hv).mono ?_
 rintro e w' ⟨u, G', rfl, hd, hx⟩
 obtain ⟨G2, hr, hx2⟩ := d_prom hd hx
 exact ⟨u, G2, rfl, hr, hx2⟩
theorem law {w : World} {G : Pin} {v : Value} {code : List UInt8} (hP : Pins G w) (hc : RSl eByte G v code) :
  Calls Tryz.prog 3 [v].toArray w fun e w' => ∃ G', e = .returned (.bool true) ∧ Ext noS G w G' w' := by
 refine yG (n := 106) Tryz.func3 Tryz.ntmps3 rfl rfl ?_
 have hX0 := exr noS hP
 have hm := hc.max
 refine zG (zH ?_)
 refine qD rfl (zD (v := (.bool false)) rfl) (qe (zA (zG (zG (zH ?_)))))
 refine qD rfl (zB (v := v) rfl) (qI rfl (zM (vs := [v]) Tryz.func7 nm7 rfl rfl rfl ?_))
 refine dP (vBig_spec hX0.pins hc) ?_
 rintro _ w1 ⟨rfl, hx2⟩
 refine ⟨_, rfl, ?_⟩
 have hX3 := hX0.step hx2.pins hx2.below
 refine qe (zA ?_)
 refine yN (p := ((65536 : Int) < (code.length : Int))) rfl rfl (fun h4 => ?_) (fun h4 => ?_)
 refine zG (zH ?_)
 refine qD rfl (zD (v := (.bool true)) rfl) (qe (zA ?_))
 exact wp_ret (zY (zW (v := (.bool true)) rfl rfl rfl (⟨_, rfl, hX3⟩)))
 refine wp_skip (zA (zG (zH ?_)))
 refine qD rfl (zB (v := v) rfl) (qI rfl (zM (vs := [v]) Tryz.func8 nm8 rfl rfl rfl ?_))
 refine dP (tD hX3.pins hc) ?_
 rintro _ w6 ⟨u8, ns9, u11, ns12, G5, rfl, hr10, hr13, hx7⟩
 refine ⟨_, rfl, ?_⟩
 have hX14 := hX3.tr hx7
 have hm15 := hr10.max
 have hm16 := hr13.max
 refine qD rfl (zB (v := (.tuple #[(.agg [u8].toArray), (.agg [u11].toArray)])) rfl) (qD rfl (yR (v := (.agg [u8].toArray)) rfl rfl) (qD rfl (yR (v := (.agg [u11].toArray)) rfl rfl) (qI rfl (yO [(.slice none 0 0)] zr26 rfl hX14.pins (fun b17 w18 hk19 hb20 hp21 hl22 => ?_)))))
 have hX23 := hX14.step hp21 hl22
 have hlo24 : w.heap.size ≤ b17 := by have := hX14.size; omega
 refine qI rfl (yO [(.slice none 0 0)] zr26 rfl hX23.pins (fun b25 w26 hk27 hb28 hp29 hl30 => ?_))
 have hX31 := hX23.step hp29 hl30
 have hb32 := hb20.below hl30
 have ha33 : Apart (some b25) (some b17) := zL (congrArg some hk27) hb20.lt
 have hlo34 : w.heap.size ≤ b25 := by have := hX23.size; omega
 refine q0 rfl rfl rfl (o_stp (cs' := [u8]) (us := [u8]) (v := (.agg [u8].toArray)) sz26 rfl rfl rfl (yM hr10.one) hX31.pins hb32 (dQ rfl) rfl (fun w35 hb36 hp37 hg38 hz39 => ?_))
 have hX40 := hX31.write hp37 hg38 ((yC hlo24))
 have hb41 := hb28.keptA hg38 ha33
 obtain ⟨G42, hle43, hX44, hbp45, hf46⟩ := hb36.shut hX40 hlo24
 have hb47 := hb41.moreA hf46 ha33
 refine q0 rfl rfl rfl (o_stp (cs' := [u11]) (us := [u11]) (v := (.agg [u11].toArray)) sz26 rfl rfl rfl (yM hr13.one) hX44.pins hb47 (dQ rfl) rfl (fun w48 hb49 hp50 hg51 hz52 => ?_))
 have hX53 := hX44.write hp50 hg51 ((yC hlo34))
 obtain ⟨G54, hle55, hX56, hbp57, hf58⟩ := hb49.shut hX53 hlo34
 refine qe (zA (zG (zH ?_)))
 refine qD rfl (yJ (cs := [u8]) ag26 sz26 rfl (fun j u hj => (dO hX56.pins hle55) _ _ _ (hbp45 _ _ (by simpa using hj)))) (qD rfl (yJ (cs := [u11]) ag26 sz26 rfl (fun j u hj => hX56.pins _ _ _ (hbp57 _ _ (by simpa using hj)))) (qI rfl (zM (vs := [(.agg [u8].toArray), (.agg [u11].toArray)]) Tryz.func9 nm9 rfl rfl rfl ?_)))
 refine dP (xM hX56.pins (hr10.mono (dN hle43 hle55)) (hr13.mono (dN hle43 hle55))) ?_
 rintro _ w61 ⟨u59, G60, rfl, hr62, hx63⟩
 refine ⟨_, rfl, ?_⟩
 have hX64 := hX56.tr hx63
 refine qD rfl (zB (v := (.tuple #[(.agg [u59].toArray), (.bool (ordB ns9 ns12))])) rfl) (qD rfl (yR (v := (.agg [u59].toArray)) rfl rfl) (qD rfl (yR (v := (.bool (ordB ns9 ns12))) rfl rfl) (qI rfl (yO [(.slice none 0 0)] zr26 rfl hX64.pins (fun b65 w66 hk67 hb68 hp69 hl70 => ?_)))))
 have hX71 := hX64.step hp69 hl70
 have hlo72 : w.heap.size ≤ b65 := by have := hX64.size; omega
 refine q0 rfl rfl rfl (o_stp (cs' := [u59]) (us := [u59]) (v := (.agg [u59].toArray)) sz26 rfl rfl rfl (yM hr62.one) hX71.pins hb68 (dQ rfl) rfl (fun w73 hb74 hp75 hg76 hz77 => ?_))
 have hX78 := hX71.write hp75 hg76 ((yC hlo72))
 obtain ⟨G79, hle80, hX81, hbp82, hf83⟩ := hb74.shut hX78 hlo72
 refine qD rfl (zD (v := (.bool (ordB ns9 ns12))) rfl) (qe (zA (zG (zG (zH ?_)))))
 refine qD rfl (yJ (cs := [u8]) ag26 sz26 rfl (fun j u hj => (dO hX81.pins (dN (dN hle55 hx63.le) hle80)) _ _ _ (hbp45 _ _ (by simpa using hj)))) (qD rfl (yJ (cs := [u11]) ag26 sz26 rfl (fun j u hj => (dO hX81.pins (dN hx63.le hle80)) _ _ _ (hbp57 _ _ (by simpa using hj)))) (qI rfl (zM (vs := [(.agg [u8].toArray), (.agg [u11].toArray)]) Tryz.func10 nm10 rfl rfl rfl ?_)))
 refine dP (tJ hX81.pins (hr10.mono (dN (dN (dN hle43 hle55) hx63.le) hle80)) (hr13.mono (dN (dN (dN hle43 hle55) hx63.le) hle80))) ?_
 rintro _ w86 ⟨u84, G85, rfl, hr87, hx88⟩
 refine ⟨_, rfl, ?_⟩
 have hX89 := hX81.tr hx88
 refine qD rfl (zB (v := (.tuple #[(.agg [u84].toArray), (.bool (ordB ns9 ns12))])) rfl) (qD rfl (yR (v := (.agg [u84].toArray)) rfl rfl) (qD rfl (yR (v := (.bool (ordB ns9 ns12))) rfl rfl) (qI rfl (yO [(.slice none 0 0)] zr26 rfl hX89.pins (fun b90 w91 hk92 hb93 hp94 hl95 => ?_)))))
 have hX96 := hX89.step hp94 hl95
 have hlo97 : w.heap.size ≤ b90 := by have := hX89.size; omega
 refine q0 rfl rfl rfl (o_stp (cs' := [u84]) (us := [u84]) (v := (.agg [u84].toArray)) sz26 rfl rfl rfl (yM hr87.one) hX96.pins hb93 (dQ rfl) rfl (fun w98 hb99 hp100 hg101 hz102 => ?_))
 have hX103 := hX96.write hp100 hg101 ((yC hlo97))
 obtain ⟨G104, hle105, hX106, hbp107, hf108⟩ := hb99.shut hX103 hlo97
 refine qD rfl (zD (v := (.bool (ordB ns9 ns12))) rfl) (qe (zA (zG (zH ?_))))
 refine qD rfl (zB (v := (.bool (ordB ns9 ns12))) rfl) (qD rfl (zB (v := (.bool (ordB ns9 ns12))) rfl) (qD rfl (r_neqB_same Tryz.underlying4 rfl rfl) (qD rfl (zB (v := (.bool false)) rfl) (qdg rfl rfl rfl rfl rfl rfl (yJ (cs := [u59]) ag26 sz26 rfl (fun j u hj => (dO hX106.pins (dN hx88.le hle105)) _ _ _ (hbp82 _ _ (by simpa using hj)))) (qdg rfl rfl rfl rfl rfl rfl (yJ (cs := [u84]) ag26 sz26 rfl (fun j u hj => hX106.pins _ _ _ (hbp107 _ _ (by simpa using hj)))) (q1g rfl rfl rfl rfl rfl rfl (zM (vs := [(.agg [u59].toArray), (.agg [u84].toArray)]) Tryz.func11 nm11 rfl rfl rfl ?_)))))))
 refine dP (fZ hX106.pins (hr62.mono (dN (dN hle80 hx88.le) hle105)) (hr87.mono hle105)) ?_
 rintro _ w110 ⟨G109, rfl, hx111⟩
 refine ⟨_, rfl, ?_⟩
 have hX112 := hX106.tr hx111
 refine qdg rfl rfl rfl rfl rfl rfl (qR rfl) (qD rfl (xA (v := (.bool (!(decide ((ordF ns9 ns12) = (ordF ns9 ns12)))))) rfl rfl) (qe (zA ?_)))
 refine vN rfl rfl (fun _ => ?_) (fun h => absurd rfl (of_decide_eq_false h))
 refine wp_skip (zA (zG (zG (zH ?_))))
 refine qD rfl (zB (v := (.bool (ordB ns9 ns12))) rfl) (qD rfl (qR rfl) (qe (zA ?_)))
 refine vN rfl rfl (fun h114 => ?_) (fun h114 => ?_)
 refine wp_skip (zA (zG ?_))
 have hok := h114
 have hog := mT hok
 obtain ⟨t1, t2, _, _⟩ := ord_top hog.2.1
 obtain ⟨_, _, t3, t4⟩ := ord_top hog.1
 refine tF (fun (en : Nat → Value) (W : World) => ∃ (env1 : Nat → Value) (c115 : Nat) (c116 : Value) (G117 : Pin), en = (upd (upd (upd (upd (upd (upd (upd env1 0 v) 2 (.bool false)) 3 (.pointer (some ⟨b17, 0, none⟩))) 4 (.pointer (some ⟨b25, 0, none⟩))) 5 (.pointer (some ⟨b65, 0, none⟩))) 9 (.pointer (some ⟨c115, 0, none⟩))) 10 (.bool (ordB zF ns12))) ∧ Ext noS G w G117 W ∧ Pin.le G109 G117 ∧ (RSl eNode G117 c116 (ordF zF ns12)) ∧ (BxP G117 c115 [c116])) ?_ ?_
 ·rintro _ w118 ⟨env1, c115, c116, G117, rfl, hX121, hle122, hr119, hb120⟩
  refine zA (zG ?_)
  refine tF (fun (en : Nat → Value) (W : World) => ∃ (env1 : Nat → Value) (c123 : Nat) (c124 : Value) (G125 : Pin), en = (upd (upd (upd (upd (upd (upd (upd (upd (upd env1 0 v) 2 (.bool false)) 3 (.pointer (some ⟨b17, 0, none⟩))) 4 (.pointer (some ⟨b25, 0, none⟩))) 5 (.pointer (some ⟨b65, 0, none⟩))) 9 (.pointer (some ⟨c115, 0, none⟩))) 10 (.bool (ordB zF ns12))) 11 (.pointer (some ⟨c123, 0, none⟩))) 12 (.bool (ordB ns9 zF))) ∧ Ext noS G w G125 W ∧ Pin.le G117 G125 ∧ (RSl eNode G125 c124 (ordF ns9 zF)) ∧ (BxP G125 c123 [c124])) ?_ ?_
  ·rintro _ w126 ⟨env1, c123, c124, G125, rfl, hX129, hle130, hr127, hb128⟩
   refine zA (zG ?_)
   refine tF (fun (en : Nat → Value) (W : World) => ∃ (env1 : Nat → Value) (c131 : Nat) (c132 : Value) (G133 : Pin), en = (upd (upd (upd (upd (upd (upd (upd (upd (upd (upd (upd env1 0 v) 2 (.bool false)) 3 (.pointer (some ⟨b17, 0, none⟩))) 4 (.pointer (some ⟨b25, 0, none⟩))) 5 (.pointer (some ⟨b65, 0, none⟩))) 9 (.pointer (some ⟨c115, 0, none⟩))) 10 (.bool (ordB zF ns12))) 11 (.pointer (some ⟨c123, 0, none⟩))) 12 (.bool (ordB ns9 zF))) 13 (.pointer (some ⟨c131, 0, none⟩))) 14 (.bool (ordB ns9 (vfF (cutF code 2))))) ∧ Ext noS G w G133 W ∧ Pin.le G125 G133 ∧ (RSl eNode G133 c132 (ordF ns9 (vfF (cutF code 2)))) ∧ (BxP G133 c131 [c132])) ?_ ?_
   ·rintro _ w134 ⟨env1, c131, c132, G133, rfl, hX137, hle138, hr135, hb136⟩
    refine zA (zG ?_)
    refine xD (S := fun wz => Pins G133 wz) (last := 9) (by kernel_rfl) rfl ?_
    have hl139 := bdr w134
    have hp140 := hX137.pins.below hl139
    have hX141 := hX137.step hp140 hl139
    refine dT (i := 0) rfl rfl (by kernel_rfl) (fun _ hS => yJ (cs := [u11]) ag26 sz26 rfl (fun j u hj => (dO hS (dN (dN (dN (dN (dN (dN (dN hx63.le hle80) hx88.le) hle105) hx111.le) hle122) hle130) hle138)) _ _ _ (hbp57 _ _ (by simpa using hj)))) hX141.pins ?_
    refine dT (i := 1) rfl rfl (by kernel_rfl) (fun _ _ => zB (v := v) rfl) hX141.pins ?_
    refine zQ (i := 2) (by kernel_rfl) (zU (i := 2) rfl rfl rfl (zI rfl _) (zM (vs := [v]) Tryz.func13 nm13 rfl rfl rfl ?_))
    refine dP (tH hX141.pins (hc.mono (dN (dN (dN (dN (dN (dN (dN (dN (dN (dN hx7.le hle43) hle55) hx63.le) hle80) hx88.le) hle105) hx111.le) hle122) hle130) hle138)) (by omega)) ?_
    rintro _ w144 ⟨u142, G143, rfl, hr145, hx146⟩
    refine ⟨_, rfl, ?_⟩
    have hX147 := hX141.tr hx146
    refine ⟨fun _ => (dO hX147.pins hx146.le), ?_⟩
    refine zQ (i := 3) (by kernel_rfl) (zU (i := 3) rfl rfl rfl (zI rfl _) (zM (vs := [(.agg [u11].toArray), (.agg [u142].toArray)]) Tryz.func14 nm14 rfl rfl rfl ?_))
    refine dP (fX hX147.pins (hr13.mono (dN (dN (dN (dN (dN (dN (dN (dN (dN (dN hle43 hle55) hx63.le) hle80) hx88.le) hle105) hx111.le) hle122) hle130) hle138) hx146.le)) hr145) ?_
    rintro _ w149 ⟨G148, rfl, hx150⟩
    refine ⟨_, rfl, ?_⟩
    have hX151 := hX147.tr hx150
    refine ⟨fun _ => (dO hX151.pins (dN hx146.le hx150.le)), ?_⟩
    refine dT (i := 4) rfl rfl (by kernel_rfl) (fun _ _ => zB (v := (.tuple #[(.bool (alB ns12 (vfF (cutF code 2)))), (.bool (goodB ns12 && goodB (vfF (cutF code 2))))])) rfl) (dO hX151.pins (dN hx146.le hx150.le)) ?_
    refine dT (i := 5) rfl rfl (by kernel_rfl) (fun _ _ => yR (v := (.bool (alB ns12 (vfF (cutF code 2))))) rfl rfl) (dO hX151.pins (dN hx146.le hx150.le)) ?_
    refine dT (i := 6) rfl rfl (by kernel_rfl) (fun _ _ => yR (v := (.bool (goodB ns12 && goodB (vfF (cutF code 2))))) rfl rfl) (dO hX151.pins (dN hx146.le hx150.le)) ?_
    refine dT (i := 7) rfl rfl (by kernel_rfl) (fun _ _ => zD (v := (.bool (alB ns12 (vfF (cutF code 2))))) rfl) (dO hX151.pins (dN hx146.le hx150.le)) ?_
    refine dT (i := 8) rfl rfl (by kernel_rfl) (fun _ _ => zD (v := (.bool (goodB ns12 && goodB (vfF (cutF code 2))))) rfl) (dO hX151.pins (dN hx146.le hx150.le)) ?_
    refine yP (by kernel_rfl) (zA (zG (zH ?_)))
    refine qD rfl (yJ (cs := [u59]) ag26 sz26 rfl (fun j u hj => (dO hX151.pins (dN (dN (dN (dN (dN (dN (dN hx88.le hle105) hx111.le) hle122) hle130) hle138) hx146.le) hx150.le)) _ _ _ (hbp82 _ _ (by simpa using hj)))) (qD rfl (yJ (cs := [c132]) ag26 sz26 rfl (fun j u hj => (dO hX151.pins (dN hx146.le hx150.le)) _ _ _ (hb136 _ _ (by simpa using hj)))) (qI rfl (zM (vs := [(.agg [u59].toArray), (.agg [c132].toArray)]) Tryz.func14 nm14 rfl rfl rfl ?_)))
    refine dP (fX hX151.pins (hr62.mono (dN (dN (dN (dN (dN (dN (dN (dN hle80 hx88.le) hle105) hx111.le) hle122) hle130) hle138) hx146.le) hx150.le)) (hr135.mono (dN hx146.le hx150.le))) ?_
    rintro _ w153 ⟨G152, rfl, hx154⟩
    refine ⟨_, rfl, ?_⟩
    have hX155 := hX151.tr hx154
    refine qD rfl (zB (v := (.tuple #[(.bool (alB (ordF ns9 ns12) (ordF ns9 (vfF (cutF code 2))))), (.bool (goodB (ordF ns9 ns12) && goodB (ordF ns9 (vfF (cutF code 2)))))])) rfl) (qD rfl (yR (v := (.bool (alB (ordF ns9 ns12) (ordF ns9 (vfF (cutF code 2)))))) rfl rfl) (qD rfl (yR (v := (.bool (goodB (ordF ns9 ns12) && goodB (ordF ns9 (vfF (cutF code 2)))))) rfl rfl) (qD rfl (zD (v := (.bool (alB (ordF ns9 ns12) (ordF ns9 (vfF (cutF code 2)))))) rfl) (qD rfl (zD (v := (.bool (goodB (ordF ns9 ns12) && goodB (ordF ns9 (vfF (cutF code 2)))))) rfl) (qe (zA (zG (zH ?_))))))))
    refine qD rfl (zB (v := (.bool (ordB zF ns12))) rfl) (qD rfl (zB (v := (.bool (ordB zF ns12))) rfl) (qb (t := 82) rfl (fun h156 => ?_) (fun h156 => ?_)))
    refine qdg rfl rfl rfl rfl rfl rfl (zB (v := (.bool (ordB ns9 zF))) rfl) (qD rfl (xI (v := (.bool (ordB ns9 zF))) rfl rfl) (qD rfl (zB (v := (.bool (ordB ns9 zF))) rfl) (qb (t := 85) rfl (fun h157 => ?_) (fun h157 => ?_))))
    refine qdg rfl rfl rfl rfl rfl rfl (yJ (cs := [c116]) ag26 sz26 rfl (fun j u hj => (dO hX155.pins (dN (dN (dN (dN hle130 hle138) hx146.le) hx150.le) hx154.le)) _ _ _ (hb120 _ _ (by simpa using hj)))) (qdg rfl rfl rfl rfl rfl rfl (yJ (cs := [u11]) ag26 sz26 rfl (fun j u hj => (dO hX155.pins (dN (dN (dN (dN (dN (dN (dN (dN (dN (dN hx63.le hle80) hx88.le) hle105) hx111.le) hle122) hle130) hle138) hx146.le) hx150.le) hx154.le)) _ _ _ (hbp57 _ _ (by simpa using hj)))) (q1g rfl rfl rfl rfl rfl rfl (zM (vs := [(.agg [c116].toArray), (.agg [u11].toArray)]) Tryz.func11 nm11 rfl rfl rfl ?_)))
    refine dP (fZ hX155.pins (hr119.mono (dN (dN (dN (dN hle130 hle138) hx146.le) hx150.le) hx154.le)) (hr13.mono (dN (dN (dN (dN (dN (dN (dN (dN (dN (dN (dN (dN hle43 hle55) hx63.le) hle80) hx88.le) hle105) hx111.le) hle122) hle130) hle138) hx146.le) hx150.le) hx154.le))) ?_
    rintro _ w159 ⟨G158, rfl, hx160⟩
    refine ⟨_, rfl, ?_⟩
    have hX161 := hX155.tr hx160
    refine qD rfl (xI (v := (.bool (decide ((ordF zF ns12) = ns12)))) rfl rfl) (qD rfl (zB (v := (.bool (decide ((ordF zF ns12) = ns12)))) rfl) (qbd (p := ((ordF zF ns12) = ns12)) (t := 90) rfl (fun h162 => ?_) (fun h162 => ?_)))
    refine qdg rfl rfl rfl rfl rfl rfl (yJ (cs := [c124]) ag26 sz26 rfl (fun j u hj => (dO hX161.pins (dN (dN (dN (dN hle138 hx146.le) hx150.le) hx154.le) hx160.le)) _ _ _ (hb128 _ _ (by simpa using hj)))) (qdg rfl rfl rfl rfl rfl rfl (yJ (cs := [u8]) ag26 sz26 rfl (fun j u hj => (dO hX161.pins (dN (dN (dN (dN (dN (dN (dN (dN (dN (dN (dN (dN hle55 hx63.le) hle80) hx88.le) hle105) hx111.le) hle122) hle130) hle138) hx146.le) hx150.le) hx154.le) hx160.le)) _ _ _ (hbp45 _ _ (by simpa using hj)))) (q1g rfl rfl rfl rfl rfl rfl (zM (vs := [(.agg [c124].toArray), (.agg [u8].toArray)]) Tryz.func11 nm11 rfl rfl rfl ?_)))
    refine dP (fZ hX161.pins (hr127.mono (dN (dN (dN (dN hle138 hx146.le) hx150.le) hx154.le) hx160.le)) (hr10.mono (dN (dN (dN (dN (dN (dN (dN (dN (dN (dN (dN (dN (dN hle43 hle55) hx63.le) hle80) hx88.le) hle105) hx111.le) hle122) hle130) hle138) hx146.le) hx150.le) hx154.le) hx160.le))) ?_
    rintro _ w164 ⟨G163, rfl, hx165⟩
    refine ⟨_, rfl, ?_⟩
    have hX166 := hX161.tr hx165
    refine qD rfl (xI (v := (.bool (decide ((ordF ns9 zF) = ns9)))) rfl rfl) (qD rfl (zB (v := (.bool (decide ((ordF ns9 zF) = ns9)))) rfl) (qbd (p := ((ordF ns9 zF) = ns9)) (t := 95) rfl (fun h167 => ?_) (fun h167 => ?_)))
    refine qdg rfl rfl rfl rfl rfl rfl (zB (v := (.bool (ordB ns9 (vfF (cutF code 2))))) rfl) (qdg rfl rfl rfl rfl rfl rfl (qR rfl) (qdg rfl rfl rfl rfl rfl rfl (zB (v := (.bool (!(ordB ns9 (vfF (cutF code 2)))))) rfl) (qbn (t := 98) rfl (fun h168 => ?_) (fun h168 => ?_))))
    refine qdg rfl rfl rfl rfl rfl rfl (zB (v := (.bool (alB ns12 (vfF (cutF code 2))))) rfl) (qdg rfl rfl rfl rfl rfl rfl (qR rfl) (qdg rfl rfl rfl rfl rfl rfl (xA (v := (.bool (!(alB ns12 (vfF (cutF code 2)))))) rfl rfl) (qdg rfl rfl rfl rfl rfl rfl (zB (v := (.bool (!(alB ns12 (vfF (cutF code 2)))))) rfl) (qbn (t := 102) rfl (fun h169 => ?_) (fun h169 => ?_)))))
    refine qdg rfl rfl rfl rfl rfl rfl (zB (v := (.bool (alB (ordF ns9 ns12) (ordF ns9 (vfF (cutF code 2)))))) rfl) (qdg rfl rfl rfl rfl rfl rfl (xA (v := (.bool (alB (ordF ns9 ns12) (ordF ns9 (vfF (cutF code 2)))))) rfl rfl) (qD rfl (xI (v := (.bool (alB (ordF ns9 ns12) (ordF ns9 (vfF (cutF code 2)))))) rfl rfl) (qD rfl (zD (v := (.bool (alB (ordF ns9 ns12) (ordF ns9 (vfF (cutF code 2)))))) rfl) (qe (zA ?_)))))
    exact wp_ret (zY (zW (v := (.bool (alB (ordF ns9 ns12) (ordF ns9 (vfF (cutF code 2)))))) rfl rfl rfl (⟨_, congrArg (fun z => Ending.returned (Value.bool z)) (by first | exact (ord_al hok h168).trans h169 | simp_all), hX166⟩)))
    refine qs rfl rfl rfl rfl rfl rfl (qdg rfl rfl rfl rfl rfl rfl (xI (v := (.bool true)) rfl rfl) (qD rfl (xI (v := (.bool true)) rfl rfl) (qD rfl (zD (v := (.bool true)) rfl) (qe (zA ?_)))))
    exact wp_ret (zY (zW (v := (.bool true)) rfl rfl rfl (⟨_, rfl, hX166⟩)))
    refine qs rfl rfl rfl rfl rfl rfl (qs rfl rfl rfl rfl rfl rfl (qdg rfl rfl rfl rfl rfl rfl (xI (v := (.bool true)) rfl rfl) (qdg rfl rfl rfl rfl rfl rfl (zB (v := (.bool true)) rfl) (qs rfl rfl rfl rfl rfl rfl (qdg rfl rfl rfl rfl rfl rfl (xI (v := (.bool true)) rfl rfl) (qD rfl (xI (v := (.bool true)) rfl rfl) (qD rfl (zD (v := (.bool true)) rfl) (qe (zA ?_)))))))))
    exact wp_ret (zY (zW (v := (.bool true)) rfl rfl rfl (⟨_, rfl, hX166⟩)))
    refine qs rfl rfl rfl rfl rfl rfl (qs rfl rfl rfl rfl rfl rfl (qs rfl rfl rfl rfl rfl rfl (qsu rfl rfl rfl rfl rfl (qsu rfl rfl rfl rfl rfl (qs rfl rfl rfl rfl rfl rfl (qs rfl rfl rfl rfl rfl rfl (qsu rfl rfl rfl rfl rfl (qs rfl rfl rfl rfl rfl rfl (qD rfl (xA (v := (.bool false)) rfl rfl) (qD rfl (zD (v := (.bool false)) rfl) (qe (zA ?_))))))))))))
    refine wp_ret (zY (zW (v := (.bool false)) rfl rfl rfl ?_))
    exfalso
    simp_all
    refine qs rfl rfl rfl rfl rfl rfl (qs rfl rfl rfl rfl rfl rfl (qs rfl rfl rfl rfl rfl rfl (qD rfl (xA (v := (.bool false)) rfl rfl) (qD rfl (zB (v := (.bool false)) rfl) (qs rfl rfl rfl rfl rfl rfl (qs rfl rfl rfl rfl rfl rfl (qs rfl rfl rfl rfl rfl rfl (qsu rfl rfl rfl rfl rfl (qsu rfl rfl rfl rfl rfl (qs rfl rfl rfl rfl rfl rfl (qs rfl rfl rfl rfl rfl rfl (qsu rfl rfl rfl rfl rfl (qs rfl rfl rfl rfl rfl rfl (qD rfl (xA (v := (.bool false)) rfl rfl) (qD rfl (zD (v := (.bool false)) rfl) (qe (zA ?_)))))))))))))))))
    refine wp_ret (zY (zW (v := (.bool false)) rfl rfl rfl ?_))
    exfalso
    simp_all
    refine qs rfl rfl rfl rfl rfl rfl (qs rfl rfl rfl rfl rfl rfl (qs rfl rfl rfl rfl rfl rfl (qD rfl (xA (v := (.bool false)) rfl rfl) (qD rfl (zB (v := (.bool false)) rfl) (qs rfl rfl rfl rfl rfl rfl (qs rfl rfl rfl rfl rfl rfl (qs rfl rfl rfl rfl rfl rfl (qD rfl (xA (v := (.bool false)) rfl rfl) (qD rfl (zB (v := (.bool false)) rfl) (qs rfl rfl rfl rfl rfl rfl (qs rfl rfl rfl rfl rfl rfl (qs rfl rfl rfl rfl rfl rfl (qsu rfl rfl rfl rfl rfl (qsu rfl rfl rfl rfl rfl (qs rfl rfl rfl rfl rfl rfl (qs rfl rfl rfl rfl rfl rfl (qsu rfl rfl rfl rfl rfl (qs rfl rfl rfl rfl rfl rfl (qD rfl (xA (v := (.bool false)) rfl rfl) (qD rfl (zD (v := (.bool false)) rfl) (qe (zA ?_))))))))))))))))))))))
    refine wp_ret (zY (zW (v := (.bool false)) rfl rfl rfl ?_))
    exfalso
    simp_all
    refine qs rfl rfl rfl rfl rfl rfl (qD rfl (xA (v := (.bool false)) rfl rfl) (qD rfl (zB (v := (.bool false)) rfl) (qs rfl rfl rfl rfl rfl rfl (qs rfl rfl rfl rfl rfl rfl (qs rfl rfl rfl rfl rfl rfl (qD rfl (xA (v := (.bool false)) rfl rfl) (qD rfl (zB (v := (.bool false)) rfl) (qs rfl rfl rfl rfl rfl rfl (qs rfl rfl rfl rfl rfl rfl (qs rfl rfl rfl rfl rfl rfl (qD rfl (xA (v := (.bool false)) rfl rfl) (qD rfl (zB (v := (.bool false)) rfl) (qs rfl rfl rfl rfl rfl rfl (qs rfl rfl rfl rfl rfl rfl (qs rfl rfl rfl rfl rfl rfl (qsu rfl rfl rfl rfl rfl (qsu rfl rfl rfl rfl rfl (qs rfl rfl rfl rfl rfl rfl (qs rfl rfl rfl rfl rfl rfl (qsu rfl rfl rfl rfl rfl (qs rfl rfl rfl rfl rfl rfl (qD rfl (xA (v := (.bool false)) rfl rfl) (qD rfl (zD (v := (.bool false)) rfl) (qe (zA ?_)))))))))))))))))))))))))
    refine wp_ret (zY (zW (v := (.bool false)) rfl rfl rfl ?_))
    exfalso
    simp_all
   refine xD (S := fun wz => Pins G125 wz) (last := 10) (by kernel_rfl) rfl ?_
   have hl170 := bdr w126
   have hp171 := hX129.pins.below hl170
   have hX172 := hX129.step hp171 hl170
   refine dT (i := 0) rfl rfl (by kernel_rfl) (fun _ hS => yJ (cs := [u8]) ag26 sz26 rfl (fun j u hj => (dO hS (dN (dN (dN (dN (dN (dN (dN hle55 hx63.le) hle80) hx88.le) hle105) hx111.le) hle122) hle130)) _ _ _ (hbp45 _ _ (by simpa using hj)))) hX172.pins ?_
   refine dT (i := 1) rfl rfl (by kernel_rfl) (fun _ _ => zB (v := v) rfl) hX172.pins ?_
   refine qG (i := 2) (j := 7) (by kernel_rfl) ?_ ?_
   refine (zU (i := 2) rfl rfl rfl (zI rfl _) (zM (vs := [v]) Tryz.func13 nm13 rfl rfl rfl ?_))
   refine dP (tH hX172.pins (hc.mono (dN (dN (dN (dN (dN (dN (dN (dN (dN hx7.le hle43) hle55) hx63.le) hle80) hx88.le) hle105) hx111.le) hle122) hle130)) (by omega)) ?_
   rintro _ w175 ⟨u173, G174, rfl, hr176, hx177⟩
   refine ⟨_, rfl, ?_⟩
   have hX178 := hX172.tr hx177
   refine ⟨fun _ => (dO hX178.pins hx177.le), ?_⟩
   refine qG (i := 3) (j := 7) (by kernel_rfl) ?_ ?_
   refine (zU (i := 3) rfl rfl rfl (zI rfl _) (zM (vs := [(.agg [u8].toArray), (.agg [u173].toArray)]) Tryz.func9 nm9 rfl rfl rfl ?_))
   refine dP (xM hX178.pins (hr10.mono (dN (dN (dN (dN (dN (dN (dN (dN (dN hle43 hle55) hx63.le) hle80) hx88.le) hle105) hx111.le) hle122) hle130) hx177.le)) hr176) ?_
   rintro _ w181 ⟨u179, G180, rfl, hr182, hx183⟩
   refine ⟨_, rfl, ?_⟩
   have hX184 := hX178.tr hx183
   refine ⟨fun _ => (dO hX184.pins (dN hx177.le hx183.le)), ?_⟩
   refine dT (i := 4) rfl rfl (by kernel_rfl) (fun _ _ => zB (v := (.tuple #[(.agg [u179].toArray), (.bool (ordB ns9 (vfF (cutF code 2))))])) rfl) (dO hX184.pins (dN hx177.le hx183.le)) ?_
   refine dT (i := 5) rfl rfl (by kernel_rfl) (fun _ _ => yR (v := (.agg [u179].toArray)) rfl rfl) (dO hX184.pins (dN hx177.le hx183.le)) ?_
   refine dT (i := 6) rfl rfl (by kernel_rfl) (fun _ _ => yR (v := (.bool (ordB ns9 (vfF (cutF code 2))))) rfl rfl) (dO hX184.pins (dN hx177.le hx183.le)) ?_
   refine zQ (i := 7) (by kernel_rfl) (zU (i := 7) rfl rfl rfl (zI rfl _) (yO [(.slice none 0 0)] zr26 rfl hX184.pins (fun b185 w186 hk187 hb188 hp189 hl190 => ?_)))
   have hX191 := hX184.step hp189 hl190
   have hlo192 : w.heap.size ≤ b185 := by have := hX184.size; omega
   refine ⟨fun _ => (dO hX191.pins (dN hx177.le hx183.le)), ?_⟩
   refine zQ (i := 8) (by kernel_rfl) (qC (i := 8) rfl rfl rfl (zI rfl _) (o_stp (cs' := [u179]) (us := [u179]) (v := (.agg [u179].toArray)) sz26 rfl rfl rfl (yM hr182.one) hX191.pins hb188 (dQ rfl) rfl (fun w193 hb194 hp195 hg196 hz197 => ?_)))
   have hX198 := hX191.write hp195 hg196 ((yC hlo192))
   obtain ⟨G199, hle200, hX201, hbp202, hf203⟩ := hb194.shut hX198 hlo192
   refine ⟨fun _ => (dO hX201.pins (dN (dN hx177.le hx183.le) hle200)), ?_⟩
   refine dT (i := 9) rfl rfl (by kernel_rfl) (fun _ _ => zD (v := (.bool (ordB ns9 (vfF (cutF code 2))))) rfl) (dO hX201.pins (dN (dN hx177.le hx183.le) hle200)) ?_
   exact yP (by kernel_rfl) (xU ⟨_, b185, u179, G199, (zC (x := 14) (zC (x := 13) (zC (x := 12) (zC (x := 11) (zC (x := 10) (zC (x := 9) (zC (x := 5) (zC (x := 4) (zC (x := 3) (zC (x := 2) (zX (x := 0) rfl) rfl) rfl) rfl) rfl) rfl) rfl) rfl) rfl) rfl) rfl), hX201, (dN (dN hx177.le hx183.le) hle200), (hr182.mono hle200), (hbp202.mono (Pin.le_refl _))⟩)
   refine (zU (i := 7) rfl rfl rfl (zI rfl _) (yO [(.slice none 0 0)] zr26 rfl hX178.pins (fun b204 w205 hk206 hb207 hp208 hl209 => ?_)))
   have hX210 := hX178.step hp208 hl209
   have hlo211 : w.heap.size ≤ b204 := by have := hX178.size; omega
   refine ⟨fun _ => (dO hX210.pins hx177.le), ?_⟩
   refine zQ (i := 3) (by kernel_rfl) (zU (i := 3) rfl rfl rfl (zI rfl _) (zM (vs := [(.agg [u8].toArray), (.agg [u173].toArray)]) Tryz.func9 nm9 rfl rfl rfl ?_))
   refine dP (xM hX210.pins (hr10.mono (dN (dN (dN (dN (dN (dN (dN (dN (dN hle43 hle55) hx63.le) hle80) hx88.le) hle105) hx111.le) hle122) hle130) hx177.le)) hr176) ?_
   rintro _ w214 ⟨u212, G213, rfl, hr215, hx216⟩
   refine ⟨_, rfl, ?_⟩
   have hX217 := hX210.tr hx216
   have hb218 := hb207.ext hx216
   refine ⟨fun _ => (dO hX217.pins (dN hx177.le hx216.le)), ?_⟩
   refine dT (i := 4) rfl rfl (by kernel_rfl) (fun _ _ => zB (v := (.tuple #[(.agg [u212].toArray), (.bool (ordB ns9 (vfF (cutF code 2))))])) rfl) (dO hX217.pins (dN hx177.le hx216.le)) ?_
   refine dT (i := 5) rfl rfl (by kernel_rfl) (fun _ _ => yR (v := (.agg [u212].toArray)) rfl rfl) (dO hX217.pins (dN hx177.le hx216.le)) ?_
   refine dT (i := 6) rfl rfl (by kernel_rfl) (fun _ _ => yR (v := (.bool (ordB ns9 (vfF (cutF code 2))))) rfl rfl) (dO hX217.pins (dN hx177.le hx216.le)) ?_
   refine zQ (i := 8) (by kernel_rfl) (qC (i := 8) rfl rfl rfl (zI rfl _) (o_stp (cs' := [u212]) (us := [u212]) (v := (.agg [u212].toArray)) sz26 rfl rfl rfl (yM hr215.one) hX217.pins hb218 (dQ rfl) rfl (fun w219 hb220 hp221 hg222 hz223 => ?_)))
   have hX224 := hX217.write hp221 hg222 ((yC hlo211))
   obtain ⟨G225, hle226, hX227, hbp228, hf229⟩ := hb220.shut hX224 hlo211
   refine ⟨fun _ => (dO hX227.pins (dN (dN hx177.le hx216.le) hle226)), ?_⟩
   refine dT (i := 9) rfl rfl (by kernel_rfl) (fun _ _ => zD (v := (.bool (ordB ns9 (vfF (cutF code 2))))) rfl) (dO hX227.pins (dN (dN hx177.le hx216.le) hle226)) ?_
   exact yP (by kernel_rfl) (xU ⟨_, b204, u212, G225, (zC (x := 14) (zC (x := 13) (zC (x := 12) (zC (x := 11) (zC (x := 10) (zC (x := 9) (zC (x := 5) (zC (x := 4) (zC (x := 3) (zC (x := 2) (zX (x := 0) rfl) rfl) rfl) rfl) rfl) rfl) rfl) rfl) rfl) rfl) rfl), hX227, (dN (dN hx177.le hx216.le) hle226), (hr215.mono hle226), (hbp228.mono (Pin.le_refl _))⟩)
   refine (zU (i := 7) rfl rfl rfl (zI rfl _) (yO [(.slice none 0 0)] zr26 rfl hX172.pins (fun b230 w231 hk232 hb233 hp234 hl235 => ?_)))
   have hX236 := hX172.step hp234 hl235
   have hlo237 : w.heap.size ≤ b230 := by have := hX172.size; omega
   refine ⟨fun _ => hX236.pins, ?_⟩
   refine zQ (i := 2) (by kernel_rfl) (zU (i := 2) rfl rfl rfl (zI rfl _) (zM (vs := [v]) Tryz.func13 nm13 rfl rfl rfl ?_))
   refine dP (tH hX236.pins (hc.mono (dN (dN (dN (dN (dN (dN (dN (dN (dN hx7.le hle43) hle55) hx63.le) hle80) hx88.le) hle105) hx111.le) hle122) hle130)) (by omega)) ?_
   rintro _ w240 ⟨u238, G239, rfl, hr241, hx242⟩
   refine ⟨_, rfl, ?_⟩
   have hX243 := hX236.tr hx242
   have hb244 := hb233.ext hx242
   refine ⟨fun _ => (dO hX243.pins hx242.le), ?_⟩
   refine zQ (i := 3) (by kernel_rfl) (zU (i := 3) rfl rfl rfl (zI rfl _) (zM (vs := [(.agg [u8].toArray), (.agg [u238].toArray)]) Tryz.func9 nm9 rfl rfl rfl ?_))
   refine dP (xM hX243.pins (hr10.mono (dN (dN (dN (dN (dN (dN (dN (dN (dN hle43 hle55) hx63.le) hle80) hx88.le) hle105) hx111.le) hle122) hle130) hx242.le)) hr241) ?_
   rintro _ w247 ⟨u245, G246, rfl, hr248, hx249⟩
   refine ⟨_, rfl, ?_⟩
   have hX250 := hX243.tr hx249
   have hb251 := hb244.ext hx249
   refine ⟨fun _ => (dO hX250.pins (dN hx242.le hx249.le)), ?_⟩
   refine dT (i := 4) rfl rfl (by kernel_rfl) (fun _ _ => zB (v := (.tuple #[(.agg [u245].toArray), (.bool (ordB ns9 (vfF (cutF code 2))))])) rfl) (dO hX250.pins (dN hx242.le hx249.le)) ?_
   refine dT (i := 5) rfl rfl (by kernel_rfl) (fun _ _ => yR (v := (.agg [u245].toArray)) rfl rfl) (dO hX250.pins (dN hx242.le hx249.le)) ?_
   refine dT (i := 6) rfl rfl (by kernel_rfl) (fun _ _ => yR (v := (.bool (ordB ns9 (vfF (cutF code 2))))) rfl rfl) (dO hX250.pins (dN hx242.le hx249.le)) ?_
   refine zQ (i := 8) (by kernel_rfl) (qC (i := 8) rfl rfl rfl (zI rfl _) (o_stp (cs' := [u245]) (us := [u245]) (v := (.agg [u245].toArray)) sz26 rfl rfl rfl (yM hr248.one) hX250.pins hb251 (dQ rfl) rfl (fun w252 hb253 hp254 hg255 hz256 => ?_)))
   have hX257 := hX250.write hp254 hg255 ((yC hlo237))
   obtain ⟨G258, hle259, hX260, hbp261, hf262⟩ := hb253.shut hX257 hlo237
   refine ⟨fun _ => (dO hX260.pins (dN (dN hx242.le hx249.le) hle259)), ?_⟩
   refine dT (i := 9) rfl rfl (by kernel_rfl) (fun _ _ => zD (v := (.bool (ordB ns9 (vfF (cutF code 2))))) rfl) (dO hX260.pins (dN (dN hx242.le hx249.le) hle259)) ?_
   exact yP (by kernel_rfl) (xU ⟨_, b230, u245, G258, (zC (x := 14) (zC (x := 13) (zC (x := 12) (zC (x := 11) (zC (x := 10) (zC (x := 9) (zC (x := 5) (zC (x := 4) (zC (x := 3) (zC (x := 2) (zX (x := 0) rfl) rfl) rfl) rfl) rfl) rfl) rfl) rfl) rfl) rfl) rfl), hX260, (dN (dN hx242.le hx249.le) hle259), (hr248.mono hle259), (hbp261.mono (Pin.le_refl _))⟩)
  refine xD (S := fun wz => Pins G117 wz) (last := 9) (by kernel_rfl) rfl ?_
  have hl263 := bdr w118
  have hp264 := hX121.pins.below hl263
  have hX265 := hX121.step hp264 hl263
  refine dT (i := 0) rfl rfl (by kernel_rfl) (fun _ hS => yJ (cs := [u8]) ag26 sz26 rfl (fun j u hj => (dO hS (dN (dN (dN (dN (dN (dN hle55 hx63.le) hle80) hx88.le) hle105) hx111.le) hle122)) _ _ _ (hbp45 _ _ (by simpa using hj)))) hX265.pins ?_
  refine qG (i := 1) (j := 6) (by kernel_rfl) ?_ ?_
  refine (zU (i := 1) rfl rfl rfl (zI rfl _) (zM (vs := []) Tryz.func12 nm12 rfl rfl rfl ?_))
  refine dP (jL hX265.pins ) ?_
  rintro _ w268 ⟨u266, G267, rfl, hr269, hx270⟩
  refine ⟨_, rfl, ?_⟩
  have hX271 := hX265.tr hx270
  refine ⟨fun _ => (dO hX271.pins hx270.le), ?_⟩
  refine qG (i := 2) (j := 6) (by kernel_rfl) ?_ ?_
  refine (zU (i := 2) rfl rfl rfl (zI rfl _) (zM (vs := [(.agg [u8].toArray), (.agg [u266].toArray)]) Tryz.func9 nm9 rfl rfl rfl ?_))
  refine dP (xM hX271.pins (hr10.mono (dN (dN (dN (dN (dN (dN (dN (dN hle43 hle55) hx63.le) hle80) hx88.le) hle105) hx111.le) hle122) hx270.le)) hr269) ?_
  rintro _ w274 ⟨u272, G273, rfl, hr275, hx276⟩
  refine ⟨_, rfl, ?_⟩
  have hX277 := hX271.tr hx276
  refine ⟨fun _ => (dO hX277.pins (dN hx270.le hx276.le)), ?_⟩
  refine dT (i := 3) rfl rfl (by kernel_rfl) (fun _ _ => zB (v := (.tuple #[(.agg [u272].toArray), (.bool (ordB ns9 zF))])) rfl) (dO hX277.pins (dN hx270.le hx276.le)) ?_
  refine dT (i := 4) rfl rfl (by kernel_rfl) (fun _ _ => yR (v := (.agg [u272].toArray)) rfl rfl) (dO hX277.pins (dN hx270.le hx276.le)) ?_
  refine dT (i := 5) rfl rfl (by kernel_rfl) (fun _ _ => yR (v := (.bool (ordB ns9 zF))) rfl rfl) (dO hX277.pins (dN hx270.le hx276.le)) ?_
  refine zQ (i := 6) (by kernel_rfl) (zU (i := 6) rfl rfl rfl (zI rfl _) (yO [(.slice none 0 0)] zr26 rfl hX277.pins (fun b278 w279 hk280 hb281 hp282 hl283 => ?_)))
  have hX284 := hX277.step hp282 hl283
  have hlo285 : w.heap.size ≤ b278 := by have := hX277.size; omega
  refine ⟨fun _ => (dO hX284.pins (dN hx270.le hx276.le)), ?_⟩
  refine zQ (i := 7) (by kernel_rfl) (qC (i := 7) rfl rfl rfl (zI rfl _) (o_stp (cs' := [u272]) (us := [u272]) (v := (.agg [u272].toArray)) sz26 rfl rfl rfl (yM hr275.one) hX284.pins hb281 (dQ rfl) rfl (fun w286 hb287 hp288 hg289 hz290 => ?_)))
  have hX291 := hX284.write hp288 hg289 ((yC hlo285))
  obtain ⟨G292, hle293, hX294, hbp295, hf296⟩ := hb287.shut hX291 hlo285
  refine ⟨fun _ => (dO hX294.pins (dN (dN hx270.le hx276.le) hle293)), ?_⟩
  refine dT (i := 8) rfl rfl (by kernel_rfl) (fun _ _ => zD (v := (.bool (ordB ns9 zF))) rfl) (dO hX294.pins (dN (dN hx270.le hx276.le) hle293)) ?_
  exact yP (by kernel_rfl) (xU ⟨_, b278, u272, G292, (zC (x := 12) (zC (x := 11) (zC (x := 10) (zC (x := 9) (zC (x := 5) (zC (x := 4) (zC (x := 3) (zC (x := 2) (zX (x := 0) rfl) rfl) rfl) rfl) rfl) rfl) rfl) rfl) rfl), hX294, (dN (dN hx270.le hx276.le) hle293), (hr275.mono hle293), (hbp295.mono (Pin.le_refl _))⟩)
  refine (zU (i := 6) rfl rfl rfl (zI rfl _) (yO [(.slice none 0 0)] zr26 rfl hX271.pins (fun b297 w298 hk299 hb300 hp301 hl302 => ?_)))
  have hX303 := hX271.step hp301 hl302
  have hlo304 : w.heap.size ≤ b297 := by have := hX271.size; omega
  refine ⟨fun _ => (dO hX303.pins hx270.le), ?_⟩
  refine zQ (i := 2) (by kernel_rfl) (zU (i := 2) rfl rfl rfl (zI rfl _) (zM (vs := [(.agg [u8].toArray), (.agg [u266].toArray)]) Tryz.func9 nm9 rfl rfl rfl ?_))
  refine dP (xM hX303.pins (hr10.mono (dN (dN (dN (dN (dN (dN (dN (dN hle43 hle55) hx63.le) hle80) hx88.le) hle105) hx111.le) hle122) hx270.le)) hr269) ?_
  rintro _ w307 ⟨u305, G306, rfl, hr308, hx309⟩
  refine ⟨_, rfl, ?_⟩
  have hX310 := hX303.tr hx309
  have hb311 := hb300.ext hx309
  refine ⟨fun _ => (dO hX310.pins (dN hx270.le hx309.le)), ?_⟩
  refine dT (i := 3) rfl rfl (by kernel_rfl) (fun _ _ => zB (v := (.tuple #[(.agg [u305].toArray), (.bool (ordB ns9 zF))])) rfl) (dO hX310.pins (dN hx270.le hx309.le)) ?_
  refine dT (i := 4) rfl rfl (by kernel_rfl) (fun _ _ => yR (v := (.agg [u305].toArray)) rfl rfl) (dO hX310.pins (dN hx270.le hx309.le)) ?_
  refine dT (i := 5) rfl rfl (by kernel_rfl) (fun _ _ => yR (v := (.bool (ordB ns9 zF))) rfl rfl) (dO hX310.pins (dN hx270.le hx309.le)) ?_
  refine zQ (i := 7) (by kernel_rfl) (qC (i := 7) rfl rfl rfl (zI rfl _) (o_stp (cs' := [u305]) (us := [u305]) (v := (.agg [u305].toArray)) sz26 rfl rfl rfl (yM hr308.one) hX310.pins hb311 (dQ rfl) rfl (fun w312 hb313 hp314 hg315 hz316 => ?_)))
  have hX317 := hX310.write hp314 hg315 ((yC hlo304))
  obtain ⟨G318, hle319, hX320, hbp321, hf322⟩ := hb313.shut hX317 hlo304
  refine ⟨fun _ => (dO hX320.pins (dN (dN hx270.le hx309.le) hle319)), ?_⟩
  refine dT (i := 8) rfl rfl (by kernel_rfl) (fun _ _ => zD (v := (.bool (ordB ns9 zF))) rfl) (dO hX320.pins (dN (dN hx270.le hx309.le) hle319)) ?_
  exact yP (by kernel_rfl) (xU ⟨_, b297, u305, G318, (zC (x := 12) (zC (x := 11) (zC (x := 10) (zC (x := 9) (zC (x := 5) (zC (x := 4) (zC (x := 3) (zC (x := 2) (zX (x := 0) rfl) rfl) rfl) rfl) rfl) rfl) rfl) rfl) rfl), hX320, (dN (dN hx270.le hx309.le) hle319), (hr308.mono hle319), (hbp321.mono (Pin.le_refl _))⟩)
  refine (zU (i := 6) rfl rfl rfl (zI rfl _) (yO [(.slice none 0 0)] zr26 rfl hX265.pins (fun b323 w324 hk325 hb326 hp327 hl328 => ?_)))
  have hX329 := hX265.step hp327 hl328
  have hlo330 : w.heap.size ≤ b323 := by have := hX265.size; omega
  refine ⟨fun _ => hX329.pins, ?_⟩
  refine zQ (i := 1) (by kernel_rfl) (zU (i := 1) rfl rfl rfl (zI rfl _) (zM (vs := []) Tryz.func12 nm12 rfl rfl rfl ?_))
  refine dP (jL hX329.pins ) ?_
  rintro _ w333 ⟨u331, G332, rfl, hr334, hx335⟩
  refine ⟨_, rfl, ?_⟩
  have hX336 := hX329.tr hx335
  have hb337 := hb326.ext hx335
  refine ⟨fun _ => (dO hX336.pins hx335.le), ?_⟩
  refine zQ (i := 2) (by kernel_rfl) (zU (i := 2) rfl rfl rfl (zI rfl _) (zM (vs := [(.agg [u8].toArray), (.agg [u331].toArray)]) Tryz.func9 nm9 rfl rfl rfl ?_))
  refine dP (xM hX336.pins (hr10.mono (dN (dN (dN (dN (dN (dN (dN (dN hle43 hle55) hx63.le) hle80) hx88.le) hle105) hx111.le) hle122) hx335.le)) hr334) ?_
  rintro _ w340 ⟨u338, G339, rfl, hr341, hx342⟩
  refine ⟨_, rfl, ?_⟩
  have hX343 := hX336.tr hx342
  have hb344 := hb337.ext hx342
  refine ⟨fun _ => (dO hX343.pins (dN hx335.le hx342.le)), ?_⟩
  refine dT (i := 3) rfl rfl (by kernel_rfl) (fun _ _ => zB (v := (.tuple #[(.agg [u338].toArray), (.bool (ordB ns9 zF))])) rfl) (dO hX343.pins (dN hx335.le hx342.le)) ?_
  refine dT (i := 4) rfl rfl (by kernel_rfl) (fun _ _ => yR (v := (.agg [u338].toArray)) rfl rfl) (dO hX343.pins (dN hx335.le hx342.le)) ?_
  refine dT (i := 5) rfl rfl (by kernel_rfl) (fun _ _ => yR (v := (.bool (ordB ns9 zF))) rfl rfl) (dO hX343.pins (dN hx335.le hx342.le)) ?_
  refine zQ (i := 7) (by kernel_rfl) (qC (i := 7) rfl rfl rfl (zI rfl _) (o_stp (cs' := [u338]) (us := [u338]) (v := (.agg [u338].toArray)) sz26 rfl rfl rfl (yM hr341.one) hX343.pins hb344 (dQ rfl) rfl (fun w345 hb346 hp347 hg348 hz349 => ?_)))
  have hX350 := hX343.write hp347 hg348 ((yC hlo330))
  obtain ⟨G351, hle352, hX353, hbp354, hf355⟩ := hb346.shut hX350 hlo330
  refine ⟨fun _ => (dO hX353.pins (dN (dN hx335.le hx342.le) hle352)), ?_⟩
  refine dT (i := 8) rfl rfl (by kernel_rfl) (fun _ _ => zD (v := (.bool (ordB ns9 zF))) rfl) (dO hX353.pins (dN (dN hx335.le hx342.le) hle352)) ?_
  exact yP (by kernel_rfl) (xU ⟨_, b323, u338, G351, (zC (x := 12) (zC (x := 11) (zC (x := 10) (zC (x := 9) (zC (x := 5) (zC (x := 4) (zC (x := 3) (zC (x := 2) (zX (x := 0) rfl) rfl) rfl) rfl) rfl) rfl) rfl) rfl) rfl), hX353, (dN (dN hx335.le hx342.le) hle352), (hr341.mono hle352), (hbp354.mono (Pin.le_refl _))⟩)
 refine xD (S := fun wz => Pins G109 wz) (last := 9) (by kernel_rfl) rfl ?_
 have hl356 := bdr w110
 have hp357 := hX112.pins.below hl356
 have hX358 := hX112.step hp357 hl356
 refine dT (i := 1) rfl rfl (by kernel_rfl) (fun _ hS => yJ (cs := [u11]) ag26 sz26 rfl (fun j u hj => (dO hS (dN (dN (dN (dN hx63.le hle80) hx88.le) hle105) hx111.le)) _ _ _ (hbp57 _ _ (by simpa using hj)))) hX358.pins ?_
 refine qG (i := 0) (j := 6) (by kernel_rfl) ?_ ?_
 refine (zU (i := 0) rfl rfl rfl (zI rfl _) (zM (vs := []) Tryz.func12 nm12 rfl rfl rfl ?_))
 refine dP (jL hX358.pins ) ?_
 rintro _ w361 ⟨u359, G360, rfl, hr362, hx363⟩
 refine ⟨_, rfl, ?_⟩
 have hX364 := hX358.tr hx363
 refine ⟨fun _ => (dO hX364.pins hx363.le), ?_⟩
 refine qG (i := 2) (j := 6) (by kernel_rfl) ?_ ?_
 refine (zU (i := 2) rfl rfl rfl (zI rfl _) (zM (vs := [(.agg [u359].toArray), (.agg [u11].toArray)]) Tryz.func9 nm9 rfl rfl rfl ?_))
 refine dP (xM hX364.pins hr362 (hr13.mono (dN (dN (dN (dN (dN (dN (dN hle43 hle55) hx63.le) hle80) hx88.le) hle105) hx111.le) hx363.le))) ?_
 rintro _ w367 ⟨u365, G366, rfl, hr368, hx369⟩
 refine ⟨_, rfl, ?_⟩
 have hX370 := hX364.tr hx369
 refine ⟨fun _ => (dO hX370.pins (dN hx363.le hx369.le)), ?_⟩
 refine dT (i := 3) rfl rfl (by kernel_rfl) (fun _ _ => zB (v := (.tuple #[(.agg [u365].toArray), (.bool (ordB zF ns12))])) rfl) (dO hX370.pins (dN hx363.le hx369.le)) ?_
 refine dT (i := 4) rfl rfl (by kernel_rfl) (fun _ _ => yR (v := (.agg [u365].toArray)) rfl rfl) (dO hX370.pins (dN hx363.le hx369.le)) ?_
 refine dT (i := 5) rfl rfl (by kernel_rfl) (fun _ _ => yR (v := (.bool (ordB zF ns12))) rfl rfl) (dO hX370.pins (dN hx363.le hx369.le)) ?_
 refine zQ (i := 6) (by kernel_rfl) (zU (i := 6) rfl rfl rfl (zI rfl _) (yO [(.slice none 0 0)] zr26 rfl hX370.pins (fun b371 w372 hk373 hb374 hp375 hl376 => ?_)))
 have hX377 := hX370.step hp375 hl376
 have hlo378 : w.heap.size ≤ b371 := by have := hX370.size; omega
 refine ⟨fun _ => (dO hX377.pins (dN hx363.le hx369.le)), ?_⟩
 refine zQ (i := 7) (by kernel_rfl) (qC (i := 7) rfl rfl rfl (zI rfl _) (o_stp (cs' := [u365]) (us := [u365]) (v := (.agg [u365].toArray)) sz26 rfl rfl rfl (yM hr368.one) hX377.pins hb374 (dQ rfl) rfl (fun w379 hb380 hp381 hg382 hz383 => ?_)))
 have hX384 := hX377.write hp381 hg382 ((yC hlo378))
 obtain ⟨G385, hle386, hX387, hbp388, hf389⟩ := hb380.shut hX384 hlo378
 refine ⟨fun _ => (dO hX387.pins (dN (dN hx363.le hx369.le) hle386)), ?_⟩
 refine dT (i := 8) rfl rfl (by kernel_rfl) (fun _ _ => zD (v := (.bool (ordB zF ns12))) rfl) (dO hX387.pins (dN (dN hx363.le hx369.le) hle386)) ?_
 exact yP (by kernel_rfl) (xU ⟨_, b371, u365, G385, (zC (x := 10) (zC (x := 9) (zC (x := 5) (zC (x := 4) (zC (x := 3) (zC (x := 2) (zX (x := 0) rfl) rfl) rfl) rfl) rfl) rfl) rfl), hX387, (dN (dN hx363.le hx369.le) hle386), (hr368.mono hle386), (hbp388.mono (Pin.le_refl _))⟩)
 refine (zU (i := 6) rfl rfl rfl (zI rfl _) (yO [(.slice none 0 0)] zr26 rfl hX364.pins (fun b390 w391 hk392 hb393 hp394 hl395 => ?_)))
 have hX396 := hX364.step hp394 hl395
 have hlo397 : w.heap.size ≤ b390 := by have := hX364.size; omega
 refine ⟨fun _ => (dO hX396.pins hx363.le), ?_⟩
 refine zQ (i := 2) (by kernel_rfl) (zU (i := 2) rfl rfl rfl (zI rfl _) (zM (vs := [(.agg [u359].toArray), (.agg [u11].toArray)]) Tryz.func9 nm9 rfl rfl rfl ?_))
 refine dP (xM hX396.pins hr362 (hr13.mono (dN (dN (dN (dN (dN (dN (dN hle43 hle55) hx63.le) hle80) hx88.le) hle105) hx111.le) hx363.le))) ?_
 rintro _ w400 ⟨u398, G399, rfl, hr401, hx402⟩
 refine ⟨_, rfl, ?_⟩
 have hX403 := hX396.tr hx402
 have hb404 := hb393.ext hx402
 refine ⟨fun _ => (dO hX403.pins (dN hx363.le hx402.le)), ?_⟩
 refine dT (i := 3) rfl rfl (by kernel_rfl) (fun _ _ => zB (v := (.tuple #[(.agg [u398].toArray), (.bool (ordB zF ns12))])) rfl) (dO hX403.pins (dN hx363.le hx402.le)) ?_
 refine dT (i := 4) rfl rfl (by kernel_rfl) (fun _ _ => yR (v := (.agg [u398].toArray)) rfl rfl) (dO hX403.pins (dN hx363.le hx402.le)) ?_
 refine dT (i := 5) rfl rfl (by kernel_rfl) (fun _ _ => yR (v := (.bool (ordB zF ns12))) rfl rfl) (dO hX403.pins (dN hx363.le hx402.le)) ?_
 refine zQ (i := 7) (by kernel_rfl) (qC (i := 7) rfl rfl rfl (zI rfl _) (o_stp (cs' := [u398]) (us := [u398]) (v := (.agg [u398].toArray)) sz26 rfl rfl rfl (yM hr401.one) hX403.pins hb404 (dQ rfl) rfl (fun w405 hb406 hp407 hg408 hz409 => ?_)))
 have hX410 := hX403.write hp407 hg408 ((yC hlo397))
 obtain ⟨G411, hle412, hX413, hbp414, hf415⟩ := hb406.shut hX410 hlo397
 refine ⟨fun _ => (dO hX413.pins (dN (dN hx363.le hx402.le) hle412)), ?_⟩
 refine dT (i := 8) rfl rfl (by kernel_rfl) (fun _ _ => zD (v := (.bool (ordB zF ns12))) rfl) (dO hX413.pins (dN (dN hx363.le hx402.le) hle412)) ?_
 exact yP (by kernel_rfl) (xU ⟨_, b390, u398, G411, (zC (x := 10) (zC (x := 9) (zC (x := 5) (zC (x := 4) (zC (x := 3) (zC (x := 2) (zX (x := 0) rfl) rfl) rfl) rfl) rfl) rfl) rfl), hX413, (dN (dN hx363.le hx402.le) hle412), (hr401.mono hle412), (hbp414.mono (Pin.le_refl _))⟩)
 refine (zU (i := 6) rfl rfl rfl (zI rfl _) (yO [(.slice none 0 0)] zr26 rfl hX358.pins (fun b416 w417 hk418 hb419 hp420 hl421 => ?_)))
 have hX422 := hX358.step hp420 hl421
 have hlo423 : w.heap.size ≤ b416 := by have := hX358.size; omega
 refine ⟨fun _ => hX422.pins, ?_⟩
 refine zQ (i := 0) (by kernel_rfl) (zU (i := 0) rfl rfl rfl (zI rfl _) (zM (vs := []) Tryz.func12 nm12 rfl rfl rfl ?_))
 refine dP (jL hX422.pins ) ?_
 rintro _ w426 ⟨u424, G425, rfl, hr427, hx428⟩
 refine ⟨_, rfl, ?_⟩
 have hX429 := hX422.tr hx428
 have hb430 := hb419.ext hx428
 refine ⟨fun _ => (dO hX429.pins hx428.le), ?_⟩
 refine zQ (i := 2) (by kernel_rfl) (zU (i := 2) rfl rfl rfl (zI rfl _) (zM (vs := [(.agg [u424].toArray), (.agg [u11].toArray)]) Tryz.func9 nm9 rfl rfl rfl ?_))
 refine dP (xM hX429.pins hr427 (hr13.mono (dN (dN (dN (dN (dN (dN (dN hle43 hle55) hx63.le) hle80) hx88.le) hle105) hx111.le) hx428.le))) ?_
 rintro _ w433 ⟨u431, G432, rfl, hr434, hx435⟩
 refine ⟨_, rfl, ?_⟩
 have hX436 := hX429.tr hx435
 have hb437 := hb430.ext hx435
 refine ⟨fun _ => (dO hX436.pins (dN hx428.le hx435.le)), ?_⟩
 refine dT (i := 3) rfl rfl (by kernel_rfl) (fun _ _ => zB (v := (.tuple #[(.agg [u431].toArray), (.bool (ordB zF ns12))])) rfl) (dO hX436.pins (dN hx428.le hx435.le)) ?_
 refine dT (i := 4) rfl rfl (by kernel_rfl) (fun _ _ => yR (v := (.agg [u431].toArray)) rfl rfl) (dO hX436.pins (dN hx428.le hx435.le)) ?_
 refine dT (i := 5) rfl rfl (by kernel_rfl) (fun _ _ => yR (v := (.bool (ordB zF ns12))) rfl rfl) (dO hX436.pins (dN hx428.le hx435.le)) ?_
 refine zQ (i := 7) (by kernel_rfl) (qC (i := 7) rfl rfl rfl (zI rfl _) (o_stp (cs' := [u431]) (us := [u431]) (v := (.agg [u431].toArray)) sz26 rfl rfl rfl (yM hr434.one) hX436.pins hb437 (dQ rfl) rfl (fun w438 hb439 hp440 hg441 hz442 => ?_)))
 have hX443 := hX436.write hp440 hg441 ((yC hlo423))
 obtain ⟨G444, hle445, hX446, hbp447, hf448⟩ := hb439.shut hX443 hlo423
 refine ⟨fun _ => (dO hX446.pins (dN (dN hx428.le hx435.le) hle445)), ?_⟩
 refine dT (i := 8) rfl rfl (by kernel_rfl) (fun _ _ => zD (v := (.bool (ordB zF ns12))) rfl) (dO hX446.pins (dN (dN hx428.le hx435.le) hle445)) ?_
 exact yP (by kernel_rfl) (xU ⟨_, b416, u431, G444, (zC (x := 10) (zC (x := 9) (zC (x := 5) (zC (x := 4) (zC (x := 3) (zC (x := 2) (zX (x := 0) rfl) rfl) rfl) rfl) rfl) rfl) rfl), hX446, (dN (dN hx428.le hx435.le) hle445), (hr434.mono hle445), (hbp447.mono (Pin.le_refl _))⟩)
 refine zG (zH ?_)
 refine qD rfl (zD (v := (.bool true)) rfl) (qe (zA ?_))
 exact wp_ret (zY (zW (v := (.bool true)) rfl rfl rfl (⟨_, rfl, hX112⟩)))
end LOD
end Go.Proofs.YtajkbplgbikgdaaGreatDoor
