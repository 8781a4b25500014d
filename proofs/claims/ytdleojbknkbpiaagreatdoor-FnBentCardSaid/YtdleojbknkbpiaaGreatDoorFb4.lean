/- Texts of this claim. -/
import Derived.Test.YtdleojbknkbpiaaGreatDoorFb3
import Derived.Test.YtdleojbknkbpiaaGreatDoorChecked
set_option maxRecDepth 20000
set_option maxHeartbeats 2000000
namespace Go.Proofs.YtdleojbknkbpiaaGreatDoor
open Go.RowKit Go.GL Go.Proofs
namespace B1
end B1
section
abbrev nGo := "runtime.NumGoroutine"
theorem ag22 : (Tryz.prog.underlying 22).map aggD = some false := by kernel_rfl
theorem ag24 : (Tryz.prog.underlying 24).map aggD = some false := by kernel_rfl
theorem ag26 : (Tryz.prog.underlying 26).map aggD = some true := by kernel_rfl
theorem ag27 : (Tryz.prog.underlying 27).map aggD = some false := by kernel_rfl
theorem ag29 : (Tryz.prog.underlying 29).map aggD = some true := by kernel_rfl
theorem ag3 : (Tryz.prog.underlying 3).map aggD = some false := by kernel_rfl
theorem ag4 : (Tryz.prog.underlying 4).map aggD = some false := by kernel_rfl
theorem ag40 : (Tryz.prog.underlying 40).map aggD = some false := by kernel_rfl
theorem ag44 : (Tryz.prog.underlying 44).map aggD = some false := by kernel_rfl
theorem ag5 : (Tryz.prog.underlying 5).map aggD = some false := by kernel_rfl
theorem ag53 : (Tryz.prog.underlying 53).map aggD = some true := by kernel_rfl
theorem ag66 : (Tryz.prog.underlying 66).map aggD = some true := by kernel_rfl
theorem ag76 : (Tryz.prog.underlying 76).map aggD = some true := by kernel_rfl
theorem ag90 : (Tryz.prog.underlying 90).map aggD = some false := by kernel_rfl
theorem ag94 : (Tryz.prog.underlying 94).map aggD = some false := by kernel_rfl
theorem ag95 : (Tryz.prog.underlying 95).map aggD = some false := by kernel_rfl
theorem ag97 : (Tryz.prog.underlying 97).map aggD = some false := by kernel_rfl
theorem ap26 : (Tryz.prog.info? 26).map (fun i => (i.size, i.bytes, (i.zero.map (·.cells.size)))) = some (1, 24, some 1) := by kernel_rfl
theorem ap3 : (Tryz.prog.info? 3).map (fun i => (i.size, i.bytes, (i.zero.map (·.cells.size)))) = some (1, 8, some 1) := by kernel_rfl
theorem ap40 : (Tryz.prog.info? 40).map (fun i => (i.size, i.bytes, (i.zero.map (·.cells.size)))) = some (1, 24, some 1) := by kernel_rfl
theorem ap5 : (Tryz.prog.info? 5).map (fun i => (i.size, i.bytes, (i.zero.map (·.cells.size)))) = some (1, 1, some 1) := by kernel_rfl
theorem ap53 : (Tryz.prog.info? 53).map (fun i => (i.size, i.bytes, (i.zero.map (·.cells.size)))) = some (4, 64, some 4) := by kernel_rfl
theorem ap66 : (Tryz.prog.info? 66).map (fun i => (i.size, i.bytes, (i.zero.map (·.cells.size)))) = some (2, 16, some 2) := by kernel_rfl
theorem ap76 : (Tryz.prog.info? 76).map (fun i => (i.size, i.bytes, (i.zero.map (·.cells.size)))) = some (2, 48, some 2) := by kernel_rfl
theorem nm105 : (Tryz.f105.name == nGo) = false := by kernel_rfl
theorem nm113 : (Tryz.f113.name == nGo) = false := by kernel_rfl
theorem nm12 : (Tryz.f12.name == nGo) = false := by kernel_rfl
theorem nm15 : (Tryz.f15.name == nGo) = false := by kernel_rfl
theorem nm16 : (Tryz.f16.name == nGo) = false := by kernel_rfl
theorem nm17 : (Tryz.f17.name == nGo) = false := by kernel_rfl
theorem nm18 : (Tryz.f18.name == nGo) = false := by kernel_rfl
theorem nm19 : (Tryz.f19.name == nGo) = false := by kernel_rfl
theorem nm20 : (Tryz.f20.name == nGo) = false := by kernel_rfl
theorem nm21 : (Tryz.f21.name == nGo) = false := by kernel_rfl
theorem nm22 : (Tryz.f22.name == nGo) = false := by kernel_rfl
theorem nm23 : (Tryz.f23.name == nGo) = false := by kernel_rfl
theorem nm24 : (Tryz.f24.name == nGo) = false := by kernel_rfl
theorem nm25 : (Tryz.f25.name == nGo) = false := by kernel_rfl
theorem nm26 : (Tryz.f26.name == nGo) = false := by kernel_rfl
theorem nm27 : (Tryz.f27.name == nGo) = false := by kernel_rfl
theorem nm30 : (Tryz.f30.name == nGo) = false := by kernel_rfl
theorem nm31 : (Tryz.f31.name == nGo) = false := by kernel_rfl
theorem nm32 : (Tryz.f32.name == nGo) = false := by kernel_rfl
theorem nm34 : (Tryz.f34.name == nGo) = false := by kernel_rfl
theorem nm35 : (Tryz.f35.name == nGo) = false := by kernel_rfl
theorem nm36 : (Tryz.f36.name == nGo) = false := by kernel_rfl
theorem nm37 : (Tryz.f37.name == nGo) = false := by kernel_rfl
theorem nm38 : (Tryz.f38.name == nGo) = false := by kernel_rfl
theorem nm39 : (Tryz.f39.name == nGo) = false := by kernel_rfl
theorem nm40 : (Tryz.f40.name == nGo) = false := by kernel_rfl
theorem nm41 : (Tryz.f41.name == nGo) = false := by kernel_rfl
theorem nm42 : (Tryz.f42.name == nGo) = false := by kernel_rfl
theorem nm43 : (Tryz.f43.name == nGo) = false := by kernel_rfl
theorem nm44 : (Tryz.f44.name == nGo) = false := by kernel_rfl
theorem nm45 : (Tryz.f45.name == nGo) = false := by kernel_rfl
theorem nm46 : (Tryz.f46.name == nGo) = false := by kernel_rfl
theorem nm47 : (Tryz.f47.name == nGo) = false := by kernel_rfl
theorem nm48 : (Tryz.f48.name == nGo) = false := by kernel_rfl
theorem nm49 : (Tryz.f49.name == nGo) = false := by kernel_rfl
theorem nm5 : (Tryz.f5.name == nGo) = false := by kernel_rfl
theorem nm50 : (Tryz.f50.name == nGo) = false := by kernel_rfl
theorem nm51 : (Tryz.f51.name == nGo) = false := by kernel_rfl
theorem nm52 : (Tryz.f52.name == nGo) = false := by kernel_rfl
theorem nm53 : (Tryz.f53.name == nGo) = false := by kernel_rfl
theorem nm54 : (Tryz.f54.name == nGo) = false := by kernel_rfl
theorem nm55 : (Tryz.f55.name == nGo) = false := by kernel_rfl
theorem nm57 : (Tryz.f57.name == nGo) = false := by kernel_rfl
theorem nm58 : (Tryz.f58.name == nGo) = false := by kernel_rfl
theorem nm59 : (Tryz.f59.name == nGo) = false := by kernel_rfl
theorem nm6 : (Tryz.f6.name == nGo) = false := by kernel_rfl
theorem nm60 : (Tryz.f60.name == nGo) = false := by kernel_rfl
theorem nm61 : (Tryz.f61.name == nGo) = false := by kernel_rfl
theorem nm62 : (Tryz.f62.name == nGo) = false := by kernel_rfl
theorem nm63 : (Tryz.f63.name == nGo) = false := by kernel_rfl
theorem nm64 : (Tryz.f64.name == nGo) = false := by kernel_rfl
theorem nm65 : (Tryz.f65.name == nGo) = false := by kernel_rfl
theorem nm66 : (Tryz.f66.name == nGo) = false := by kernel_rfl
theorem nm67 : (Tryz.f67.name == nGo) = false := by kernel_rfl
theorem nm68 : (Tryz.f68.name == nGo) = false := by kernel_rfl
theorem nm69 : (Tryz.f69.name == nGo) = false := by kernel_rfl
theorem nm7 : (Tryz.f7.name == nGo) = false := by kernel_rfl
theorem nm70 : (Tryz.f70.name == nGo) = false := by kernel_rfl
theorem nm71 : (Tryz.f71.name == nGo) = false := by kernel_rfl
theorem nm72 : (Tryz.f72.name == nGo) = false := by kernel_rfl
theorem nm73 : (Tryz.f73.name == nGo) = false := by kernel_rfl
theorem nm74 : (Tryz.f74.name == nGo) = false := by kernel_rfl
theorem nm75 : (Tryz.f75.name == nGo) = false := by kernel_rfl
theorem nm76 : (Tryz.f76.name == nGo) = false := by kernel_rfl
theorem nm77 : (Tryz.f77.name == nGo) = false := by kernel_rfl
theorem nm78 : (Tryz.f78.name == nGo) = false := by kernel_rfl
theorem nm79 : (Tryz.f79.name == nGo) = false := by kernel_rfl
theorem nm8 : (Tryz.f8.name == nGo) = false := by kernel_rfl
theorem nm80 : (Tryz.f80.name == nGo) = false := by kernel_rfl
theorem nm81 : (Tryz.f81.name == nGo) = false := by kernel_rfl
theorem nm82 : (Tryz.f82.name == nGo) = false := by kernel_rfl
theorem nm83 : (Tryz.f83.name == nGo) = false := by kernel_rfl
theorem nm84 : (Tryz.f84.name == nGo) = false := by kernel_rfl
theorem nm85 : (Tryz.f85.name == nGo) = false := by kernel_rfl
theorem nm86 : (Tryz.f86.name == nGo) = false := by kernel_rfl
theorem nm87 : (Tryz.f87.name == nGo) = false := by kernel_rfl
theorem nm9 : (Tryz.f9.name == nGo) = false := by kernel_rfl
theorem nm90 : (Tryz.f90.name == nGo) = false := by kernel_rfl
theorem nz22 : (Tryz.prog.info? 22).map (·.size == 0) = some false := by kernel_rfl
theorem nz24 : (Tryz.prog.info? 24).map (·.size == 0) = some false := by kernel_rfl
theorem nz27 : (Tryz.prog.info? 27).map (·.size == 0) = some false := by kernel_rfl
theorem nz3 : (Tryz.prog.info? 3).map (·.size == 0) = some false := by kernel_rfl
theorem nz40 : (Tryz.prog.info? 40).map (·.size == 0) = some false := by kernel_rfl
theorem nz44 : (Tryz.prog.info? 44).map (·.size == 0) = some false := by kernel_rfl
theorem nz90 : (Tryz.prog.info? 90).map (·.size == 0) = some false := by kernel_rfl
theorem nz94 : (Tryz.prog.info? 94).map (·.size == 0) = some false := by kernel_rfl
theorem nz95 : (Tryz.prog.info? 95).map (·.size == 0) = some false := by kernel_rfl
theorem nz97 : (Tryz.prog.info? 97).map (·.size == 0) = some false := by kernel_rfl
theorem sz24 : (Tryz.prog.info? 24).map (·.size) = some 1 := by kernel_rfl
theorem sz26 : (Tryz.prog.info? 26).map (·.size) = some 1 := by kernel_rfl
theorem sz27 : (Tryz.prog.info? 27).map (·.size) = some 1 := by kernel_rfl
theorem sz29 : (Tryz.prog.info? 29).map (·.size) = some 1 := by kernel_rfl
theorem sz3 : (Tryz.prog.info? 3).map (·.size) = some 1 := by kernel_rfl
theorem sz4 : (Tryz.prog.info? 4).map (·.size) = some 1 := by kernel_rfl
theorem sz40 : (Tryz.prog.info? 40).map (·.size) = some 1 := by kernel_rfl
theorem sz44 : (Tryz.prog.info? 44).map (·.size) = some 1 := by kernel_rfl
theorem sz5 : (Tryz.prog.info? 5).map (·.size) = some 1 := by kernel_rfl
theorem sz53 : (Tryz.prog.info? 53).map (·.size) = some 4 := by kernel_rfl
theorem sz66 : (Tryz.prog.info? 66).map (·.size) = some 2 := by kernel_rfl
theorem sz76 : (Tryz.prog.info? 76).map (·.size) = some 2 := by kernel_rfl
theorem sz97 : (Tryz.prog.info? 97).map (·.size) = some 1 := by kernel_rfl
theorem zr117 : (Tryz.prog.info? 117).bind (·.zero) = some (.agg #[.pointer none, .slice none 0 0]) := by kernel_rfl
theorem zr148 : (Tryz.prog.info? 148).bind (·.zero) = some (.agg #[.int .u8 0, .int .u8 0, .int .u8 0, .int .u8 0, .int .u8 0, .int .u8 0, .int .u8 0, .int .u8 0, .int .u8 0, .int .u8 0, .int .u8 0, .int .u8 0, .int .u8 0, .int .u8 0, .int .u8 0, .int .u8 0, .int .u8 0, .int .u8 0, .int .u8 0, .int .u8 0, .int .u8 0, .int .u8 0, .int .u8 0, .int .u8 0, .int .u8 0, .int .u8 0, .int .u8 0, .int .u8 0, .int .u8 0, .int .u8 0, .int .u8 0, .int .u8 0, .int .u8 0, .int .u8 0, .int .u8 0, .int .u8 0, .int .u8 0, .int .u8 0, .int .u8 0, .int .u8 0, .int .u8 0, .int .u8 0, .int .u8 0, .int .u8 0, .int .u8 0, .int .u8 0, .int .u8 0, .int .u8 0, .int .u8 0, .int .u8 0, .int .u8 0, .int .u8 0, .int .u8 0, .int .u8 0, .int .u8 0, .int .u8 0, .int .u8 0, .int .u8 0, .int .u8 0, .int .u8 0, .int .u8 0, .int .u8 0, .int .u8 0, .int .u8 0, .int .u8 0]) := by kernel_rfl
theorem zr26 : (Tryz.prog.info? 26).bind (·.zero) = some (.agg #[.slice none 0 0]) := by kernel_rfl
theorem zr29 : (Tryz.prog.info? 29).bind (·.zero) = some (.agg #[.slice none 0 0]) := by kernel_rfl
theorem zr3 : (Tryz.prog.info? 3).bind (·.zero) = some (.int .i64 0) := by kernel_rfl
theorem zr4 : (Tryz.prog.info? 4).bind (·.zero) = some (.bool false) := by kernel_rfl
theorem zr40 : (Tryz.prog.info? 40).bind (·.zero) = some (.slice none 0 0) := by kernel_rfl
theorem zr46 : (Tryz.prog.info? 46).bind (·.zero) = some (.agg #[.slice none 0 0, .int .i64 0, .int .u64 0]) := by kernel_rfl
theorem zr5 : (Tryz.prog.info? 5).bind (·.zero) = some (.int .u8 0) := by kernel_rfl
theorem zr53 : (Tryz.prog.info? 53).bind (·.zero) = some (.agg #[.int .i64 0, .int .i64 0, .slice none 0 0, .slice none 0 0]) := by kernel_rfl
theorem zr66 : (Tryz.prog.info? 66).bind (·.zero) = some (.agg #[.int .i64 0, .int .i64 0]) := by kernel_rfl
theorem zr76 : (Tryz.prog.info? 76).bind (·.zero) = some (.agg #[.slice none 0 0, .slice none 0 0]) := by kernel_rfl
theorem zr92 : (Tryz.prog.info? 92).bind (·.zero) = some (.agg #[.slice none 0 0, .slice none 0 0]) := by kernel_rfl
theorem zr99 : (Tryz.prog.info? 99).bind (·.zero) = some (.agg #[.slice none 0 0, .slice none 0 0, .slice none 0 0, .map none, .map none, .map none, .map none, .map none]) := by kernel_rfl
theorem dB : type_of% @Tryz.underlying40 := @Tryz.underlying40
theorem dC : type_of% @Tryz.underlying24 := @Tryz.underlying24
theorem dD : type_of% @Tryz.underlying53 := @Tryz.underlying53
theorem dE : type_of% @Tryz.underlying26 := @Tryz.underlying26
theorem dF : type_of% @Tryz.underlying76 := @Tryz.underlying76
theorem dG : type_of% @Tryz.underlying27 := @Tryz.underlying27
theorem dH : type_of% @Tryz.underlying106 := @Tryz.underlying106
theorem dI : type_of% @Tryz.underlying29 := @Tryz.underlying29
theorem dJ : type_of% @Tryz.underlying92 := @Tryz.underlying92
theorem dK : type_of% @Tryz.underlying46 := @Tryz.underlying46
theorem dL : type_of% @Tryz.underlying99 := @Tryz.underlying99
theorem dN : type_of% @Tryz.underlying22 := @Tryz.underlying22
theorem dR : type_of% @Tryz.underlying84 := @Tryz.underlying84
theorem dS : type_of% @Tryz.underlying117 := @Tryz.underlying117
theorem dU : type_of% @Tryz.underlying87 := @Tryz.underlying87
theorem dV : type_of% @Tryz.underlying66 := @Tryz.underlying66
theorem dW : type_of% @Tryz.underlying3 := @Tryz.underlying3
theorem dX : type_of% @Tryz.underlying44 := @Tryz.underlying44
theorem dY : type_of% @Tryz.underlying97 := @Tryz.underlying97
theorem dZ : type_of% @Tryz.underlying9 := @Tryz.underlying9
end
namespace B1
theorem mk3 : (Tryz.prog.info? 3).map (fun i => (i.size, i.bytes, i.zero)) = some (1, 8, some (.int .i64 0)) := by kernel_rfl
theorem mk4 : (Tryz.prog.info? 4).map (fun i => (i.size, i.bytes, i.zero)) = some (1, 1, some (.bool false)) := by kernel_rfl
variable {G : Pin} {v : Value} {xs : List Int} {x : Int} {p : Bool} {ns : List Nd}
theorem kP {w : World} {b : Int} (hP : Pins G w) (hv : RSl eInt G v xs) :
  Calls Tryz.prog 38 #[v, vJ b] w fun e w' => e = .returned (.bool (goodOpts xs b)) ∧ w' = w := by
 refine yA (n := 27) Tryz.func38 Tryz.ntmps38 rfl rfl ?_
 have h := exr noS hP
 have hm := hv.max
 refine w9d ?_
 refine qM (.bool false) ?_
 refine qe (zA (w9b ?_))
 refine qM v ?_
 refine qD rfl (run_len Tryz.underlying40 (v := v) rfl hv) (qD rfl (jV rfl rfl) (qe (zA ?_)))
 refine yE (p := (24 : Int) < (xs.length : Int)) rfl rfl (fun a => ?_) (fun a => ?_)
 refine w9d ?_
 refine qM (.bool false) ?_
 refine qe (zA ?_)
 exact cN (zQ (zS (v := .bool false) rfl rfl rfl (⟨cgA eB (by unfold goodOpts; rw [if_pos a]), rfl⟩)))
 refine cM (w9a ?_)
 refine qM (vJ (-1)) ?_
 refine qe (zA (w9b ?_))
 refine qM v ?_
 refine qD rfl (run_len Tryz.underlying40 (v := v) rfl hv) (qM (vJ 0) ?_)
 refine qe (zA ?_)
 refine zX (yO (fun k en W => ∃ (f : Nat → Value) (j : Nat) (last : Int), en = (upd (upd (upd (upd (upd f 1 (vJ b)) 5 (vJ last)) 11 v) 12 (vJ (xs.length : Int))) 13 (vJ (j : Int))) ∧ k = xs.length - j ∧ Ext noS G w G W ∧ (j ≤ xs.length) ∧ (W = w) ∧ (goodOpts xs b = goodFrom last b (xs.drop j))) _ ⟨_, 0, (-1), (pS 13 (pS 12 (pS 11 (pS 5 (pU 1))))), rfl, h, cH _, rfl, (by unfold goodOpts; rw [if_neg a]; rfl)⟩ ?_)
 rintro l _ m ⟨f, j, last, rfl, o, g, hj, hw, hr⟩
 subst hw
 refine w9d ?_
 refine qD rfl (yR rfl rfl) (qe (zA (zB ?_)))
 refine yE (p := ((j : Int) : Int) < (xs.length : Int)) rfl rfl (fun i => ?_) (fun i => ?_)
 refine cM (zA (zB ?_))
 refine zX (w9d ?_)
 refine qD rfl (zI Tryz.underlying40 sz3 (v := v) rfl rfl hv (by omega) (by omega)) (qD rfl (zN (r := xs.getD j 0) rfl ag3 (z := (j : Int)) rfl hv g.pins (by omega) (by omega)) (qM (vJ (xs.getD j 0)) ?_))
 refine qe (zA (w9b ?_))
 refine qM (vJ (xs.getD j 0)) ?_
 refine qM (vJ last) ?_
 refine qD rfl (gN rfl rfl) (qM (.bool (decide ((xs.getD j 0 : Int) ≤ last))) ?_)
 refine qbd (p := (xs.getD j 0 : Int) ≤ last) (t := 20) rfl (fun c => ?_) (fun c => ?_)
 refine qW ?_
 refine qW ?_
 refine qW ?_
 refine qD rfl (yJ (v := .bool true) rfl rfl) (qe (zA ?_))
 refine xW rfl rfl (w9d ?_)
 refine qM (.bool false) ?_
 refine qe (zA ?_)
 exact cN (zQ (zS (v := .bool false) rfl rfl rfl (⟨cgA eB ((hr.trans (gV (by omega) (cE c))).symm), rfl⟩)))
 refine qN (zU (v := vJ (xs.getD j 0)) rfl) ?_
 refine qN (zU (v := vJ b) rfl) ?_
 refine qN (vU rfl rfl) ?_
 refine qD rfl (yH (v := .bool (decide ((b : Int) ≤ (xs.getD j 0)))) rfl rfl) (qe (zA ?_))
 refine yE (p := (b : Int) ≤ (xs.getD j 0)) rfl rfl (fun d => ?_) (fun d => ?_)
 refine w9d ?_
 refine qM (.bool false) ?_
 refine qe (zA ?_)
 exact cN (zQ (zS (v := .bool false) rfl rfl rfl (⟨cgA eB ((hr.trans (gV (by omega) (cF d))).symm), rfl⟩)))
 refine cM (zA (zC ?_))
 refine qM (vJ (xs.getD j 0)) ?_
 refine qM (vJ (xs.getD j 0)) ?_
 refine qe (w9c ?_)
 refine qD rfl (yP rfl rfl (by omega)) (qM (vJ ((j : Int) + 1)) ?_)
 refine qe (yK (⟨_, ?_, _, rfl, _, j + 1, xs.getD j 0, (pS 13 (pS 12 (pS 11 (pS 5 (pU 1))))), rfl, g, (by omega), rfl, (hr.trans (nD (by omega) c d))⟩))
 omega
 refine cO (zZ (yM (yL (w9a ?_))))
 refine qM (.bool true) ?_
 refine qe (zA ?_)
 exact cN (zQ (zS (v := .bool true) rfl rfl rfl (⟨cgA eB ((hr.trans (sK (by omega))).symm), rfl⟩)))
theorem mJ {w : World} (hP : Pins G w) :
  Calls Tryz.prog 67 #[.int .i64 x] w fun e w' => e = .returned (.bool false) ∧ w' = w := by
 refine yA (n := 6) Tryz.func67 Tryz.ntmps67 rfl rfl ?_
 have hX0 := exr noS hP
 refine w9d ?_
 refine qM (.bool false) ?_
 refine qe (w9a ?_)
 refine qM (.int .i64 x) ?_
 refine qM (.int .i64 x) ?_
 refine qD rfl (jU rfl rfl) (qM (.bool (decide ((x : Int) ≠ x))) ?_)
 refine qe (zA ?_)
 exact cN (zQ (zS (v := .bool (decide ((x : Int) ≠ x))) rfl rfl rfl (⟨cgA eB (decide_eq_false (fun h => h rfl)), rfl⟩)))
theorem fC {w : World} {y : Int} (hP : Pins G w) :
  Calls Tryz.prog 41 #[.int .i64 x, .int .i64 y] w fun e w' => e = .returned (.int .i64 (cmpI x y)) ∧ w' = w := by
 refine yA (n := 20) Tryz.func41 Tryz.ntmps41 rfl rfl ?_
 have hX0 := exr noS hP
 refine w9d ?_
 refine qM (.int .i64 0) ?_
 refine qe (w9a ?_)
 refine qM (.int .i64 x) ?_
 refine qI rfl (zO (vs := [.int .i64 x]) Tryz.func67 nm67 rfl rfl rfl ?_)
 refine cC (mJ hX0.pins) ?_
 rintro _ _ ⟨rfl, rfl⟩
 refine rt9 (qM (.bool false) ?_)
 refine qe (w9a ?_)
 refine qM (.int .i64 y) ?_
 refine qI rfl (zO (vs := [.int .i64 y]) Tryz.func67 nm67 rfl rfl rfl ?_)
 refine cC (mJ hX0.pins) ?_
 rintro _ _ ⟨rfl, rfl⟩
 refine rt9 (qM (.bool false) ?_)
 refine qe (zA (w9b ?_))
 refine qM (.bool false) ?_
 refine qe (zA ?_)
 refine qY rfl rfl (cM (zA (w9b ?_)))
 refine qM (.bool false) ?_
 refine qe (zA ?_)
 refine qY rfl rfl (cM (zA (w9b ?_)))
 refine qM (.int .i64 x) ?_
 refine qM (.int .i64 y) ?_
 refine qD rfl (yR rfl rfl) (qe (zA ?_))
 refine yE (p := (x : Int) < y) rfl rfl (fun h1 => ?_) (fun h1 => ?_)
 refine w9d ?_
 refine qM (.int .i64 (-1)) ?_
 refine qe (zA ?_)
 exact cN (zQ (zS (v := .int .i64 (-1)) rfl rfl rfl (⟨cgA eI (by unfold cmpI; (first | rw [if_pos (by omega)] | (rw [if_neg (by omega)]; first | rw [if_pos (by omega)] | rw [if_neg (by omega)]))), rfl⟩)))
 refine cM (zA (w9b ?_))
 refine qM (.int .i64 x) ?_
 refine qM (.int .i64 y) ?_
 refine qD rfl (jV rfl rfl) (qe (zA ?_))
 refine yE (p := (y : Int) < x) rfl rfl (fun h2 => ?_) (fun h2 => ?_)
 refine w9d ?_
 refine qM (.int .i64 1) ?_
 refine qe (zA ?_)
 exact cN (zQ (zS (v := .int .i64 1) rfl rfl rfl (⟨cgA eI (by unfold cmpI; (first | rw [if_pos (by omega)] | (rw [if_neg (by omega)]; first | rw [if_pos (by omega)] | rw [if_neg (by omega)]))), rfl⟩)))
 refine cM (w9a ?_)
 refine qM (.int .i64 0) ?_
 refine qe (zA ?_)
 exact cN (zQ (zS (v := .int .i64 0) rfl rfl rfl (⟨cgA eI (by unfold cmpI; (first | rw [if_pos (by omega)] | (rw [if_neg (by omega)]; first | rw [if_pos (by omega)] | rw [if_neg (by omega)]))), rfl⟩)))
theorem cmpOr_spec {w : World} (hP : Pins G w) (hv : RSl eInt G v xs) :
  Calls Tryz.prog 40 #[v] w fun e w' => e = .returned (.int .i64 (orL xs)) ∧ w' = w := by
 refine yA (n := 18) Tryz.func40 Tryz.ntmps40 rfl rfl ?_
 have d := exr noS hP
 have hm := hv.max
 refine w9d ?_
 refine qM (.int .i64 0) ?_
 refine qe (w9a ?_)
 refine qM (.int .i64 0) ?_
 refine qe (zA (w9b ?_))
 refine qM v ?_
 refine qD rfl (run_len Tryz.underlying40 (v := v) rfl hv) (qM (.int .i64 0) ?_)
 refine qe (zA ?_)
 refine zX (yO (fun (k : Nat) (en : Nat → Value) (W : World) => ∃ (b : Nat → Value) (j : Nat), en = (upd (upd (upd (upd b 3 (.int .i64 0)) 6 v) 7 (.int .i64 (xs.length : Int))) 8 (.int .i64 (j : Int))) ∧ k = xs.length - j ∧ Ext noS G w G W ∧ (j ≤ xs.length) ∧ (W = w) ∧ (orL xs = orL (xs.drop j))) _ ⟨_, 0, (pS 8 (pS 7 (pS 6 (pU 3)))), rfl, d, cH _, rfl, rfl⟩ ?_)
 rintro g _ h ⟨b, j, rfl, i, c, hj, hw, hr⟩
 subst hw
 refine w9d ?_
 refine qD rfl (yR rfl rfl) (qe (zA (zB ?_)))
 refine yE (p := ((j : Int) : Int) < (xs.length : Int)) rfl rfl (fun f => ?_) (fun f => ?_)
 refine cM (zA (zB ?_))
 refine zX (w9d ?_)
 refine qD rfl (zI Tryz.underlying40 sz3 (v := v) rfl rfl hv (by omega) (by omega)) (qD rfl (zN (r := xs.getD j 0) rfl ag3 (z := (j : Int)) rfl hv c.pins (by omega) (by omega)) (qM (.int .i64 (xs.getD j 0)) ?_))
 refine qe (w9a ?_)
 refine qM (.int .i64 (xs.getD j 0)) ?_
 refine qM (.int .i64 0) ?_
 refine qD rfl (jU rfl rfl) (qe (zA ?_))
 refine yE (p := (xs.getD j 0 : Int) ≠ 0) rfl rfl (fun a => ?_) (fun a => ?_)
 refine w9d ?_
 refine qM (.int .i64 (xs.getD j 0)) ?_
 refine qM (.int .i64 (xs.getD j 0)) ?_
 refine qe (zA ?_)
 exact cN (zQ (zS (v := .int .i64 (xs.getD j 0)) rfl rfl rfl (⟨cgA eI ((hr.trans (orL_hit (by omega) a)).symm), rfl⟩)))
 refine cM (w9c ?_)
 refine qD rfl (yP rfl rfl (by omega)) (qM (.int .i64 ((j : Int) + 1)) ?_)
 refine qe (yK (⟨_, ?_, _, rfl, _, j + 1, (pS 8 (pS 7 (pS 6 (pU 3)))), rfl, c, (by omega), rfl, (hr.trans (orL_next (by omega) a))⟩))
 omega
 refine cO (zZ (yM (yL (w9a ?_))))
 refine qM (.int .i64 0) ?_
 refine qM (.int .i64 0) ?_
 refine qe (zA ?_)
 exact cN (zQ (zS (v := .int .i64 0) rfl rfl rfl (⟨cgA eI ((hr.trans (orL_end (by omega))).symm), rfl⟩)))
theorem fE {w : World} {u : Value} {ys : List Int} (hP : Pins G w) (hu : RSl eInt G u xs) (hv : RSl eInt G v ys) :
  Calls Tryz.prog 42 #[u, v] w fun e w' => e = .returned (vJ (cmpL xs ys)) ∧ w' = w := by
 refine yA (n := 36) Tryz.func42 Tryz.ntmps42 rfl rfl ?_
 have d := exr noS hP
 have hm := hu.max
 refine w9d ?_
 refine qM (vJ 0) ?_
 refine qe (zA (w9b ?_))
 refine qM u ?_
 refine qD rfl (run_len Tryz.underlying40 (v := u) rfl hu) (qM (vJ 0) ?_)
 refine qe (zA ?_)
 refine zX (yO (fun k en W => ∃ (c : Nat → Value) (j : Nat), en = (upd (upd (upd (upd (upd c 0 u) 1 v) 9 u) 10 (vJ (xs.length : Int))) 11 (vJ (j : Int))) ∧ k = xs.length - j ∧ Ext noS G w G W ∧ (j ≤ xs.length ∧ j ≤ ys.length) ∧ (W = w) ∧ (cmpL xs ys = cmpL (xs.drop j) (ys.drop j))) _ ⟨_, 0, (pS 11 (pS 10 (pS 9 (pS 1 (pU 0))))), rfl, d, ⟨cH _, cH _⟩, rfl, rfl⟩ ?_)
 rintro i _ l ⟨c, j, rfl, m, a, hj, hw, hr⟩
 subst hw
 refine w9d ?_
 refine qD rfl (yR rfl rfl) (qe (zA (zB ?_)))
 refine yE (p := ((j : Int) : Int) < (xs.length : Int)) rfl rfl (fun f => ?_) (fun f => ?_)
 refine cM (zA (zB ?_))
 refine zX (w9d ?_)
 refine qM (vJ (j : Int)) ?_
 refine qD rfl (zI Tryz.underlying40 sz3 (v := u) rfl rfl hu (by omega) (by omega)) (qD rfl (zN (r := xs.getD j 0) rfl ag3 (z := (j : Int)) rfl hu a.pins (by omega) (by omega)) (qM (vJ (j : Int)) ?_))
 refine qM (vJ (xs.getD j 0)) ?_
 refine qe (zA (w9b ?_))
 refine qM (vJ (j : Int)) ?_
 refine qM v ?_
 refine qD rfl (run_len Tryz.underlying40 (v := v) rfl hv) (qD rfl (vU rfl rfl) (qe (zA ?_)))
 refine yE (p := ((ys.length : Int) : Int) ≤ (j : Int)) rfl rfl (fun g => ?_) (fun g => ?_)
 refine w9d ?_
 refine qM (vJ 1) ?_
 refine qe (zA ?_)
 exact cN (zQ (zS (v := vJ 1) rfl rfl rfl (⟨cgA eI ((hr.trans (tS (by omega) (by omega))).symm), rfl⟩)))
 refine cM (w9a ?_)
 refine qM v ?_
 refine qM (vJ (j : Int)) ?_
 refine qD rfl (zI Tryz.underlying40 sz3 (v := v) rfl rfl hv (by omega) (by omega)) (qD rfl (zN (r := ys.getD j 0) rfl ag3 (z := (j : Int)) rfl hv a.pins (by omega) (by omega)) (qM (vJ (ys.getD j 0)) ?_))
 refine qe (w9a ?_)
 refine qM (vJ (xs.getD j 0)) ?_
 refine qM (vJ (ys.getD j 0)) ?_
 refine qI rfl (zO (vs := [vJ (xs.getD j 0), vJ (ys.getD j 0)]) Tryz.func41 nm41 rfl rfl rfl ?_)
 refine cC (fC a.pins) ?_
 rintro _ _ ⟨rfl, rfl⟩
 refine rt9 (qM (vJ (cmpI (xs.getD j 0) (ys.getD j 0))) ?_)
 refine qe (w9a ?_)
 refine qM (vJ (cmpI (xs.getD j 0) (ys.getD j 0))) ?_
 refine qD rfl (jU rfl rfl) (qe (zA ?_))
 refine yE (p := (cmpI (xs.getD j 0) (ys.getD j 0) : Int) ≠ 0) rfl rfl (fun b => ?_) (fun b => ?_)
 refine w9d ?_
 refine qM (vJ (cmpI (xs.getD j 0) (ys.getD j 0))) ?_
 refine qM (vJ (cmpI (xs.getD j 0) (ys.getD j 0))) ?_
 refine qe (zA ?_)
 exact cN (zQ (zS (v := vJ (cmpI (xs.getD j 0) (ys.getD j 0))) rfl rfl rfl (⟨cgA eI ((hr.trans (sX (by omega) (by omega) b)).symm), rfl⟩)))
 refine cM (w9c ?_)
 refine qD rfl (yP rfl rfl (by omega)) (qM (vJ ((j : Int) + 1)) ?_)
 refine qe (yK (⟨_, ?_, _, rfl, _, j + 1, (pS 11 (pS 10 (pS 9 (pS 1 (pU 0))))), rfl, a, (by omega), rfl, (hr.trans (cmpL_eq (by omega) (by omega) b))⟩))
 omega
 refine cO (zZ (yM (yL (zA (w9b ?_)))))
 refine qM u ?_
 refine qD rfl (run_len Tryz.underlying40 (v := u) rfl hu) (qM v ?_)
 refine qD rfl (run_len Tryz.underlying40 (v := v) rfl hv) (qD rfl (yR rfl rfl) (qe (zA ?_)))
 refine yE (p := ((xs.length : Int) : Int) < (ys.length : Int)) rfl rfl (fun h => ?_) (fun h => ?_)
 refine w9d ?_
 refine qM (vJ (-1)) ?_
 refine qe (zA ?_)
 exact cN (zQ (zS (v := vJ (-1)) rfl rfl rfl (⟨cgA eI ((hr.trans (tT (by omega) (by omega))).symm), rfl⟩)))
 refine cM (w9a ?_)
 refine qM (vJ 0) ?_
 refine qe (zA ?_)
 exact cN (zQ (zS (v := vJ 0) rfl rfl rfl (⟨cgA eI ((hr.trans (tR (by omega) (by omega))).symm), rfl⟩)))
theorem mV {w : World} {xs : List Bool} (hP : Pins G w) (hv : RSl eBool G v xs) :
  Calls Tryz.prog 68 #[v, .bool p] w fun e w' => e = .returned (.int .i64 (idxB xs p)) ∧ w' = w := by
 refine yA (n := 19) Tryz.func68 Tryz.ntmps68 rfl rfl ?_
 have d := exr noS hP
 have hm := hv.max
 refine w9d ?_
 refine qM (.int .i64 0) ?_
 refine qe (zA (w9b ?_))
 refine qM v ?_
 refine qD rfl (run_len Tryz.underlying84 (v := v) rfl hv) (qM (.int .i64 0) ?_)
 refine qe (zA ?_)
 refine zX (yO (fun (k : Nat) (en : Nat → Value) (W : World) => ∃ (b : Nat → Value) (j : Nat), en = (upd (upd (upd (upd b 0 v) 1 (.bool p)) 7 (.int .i64 (xs.length : Int))) 8 (.int .i64 (j : Int))) ∧ k = xs.length - j ∧ Ext noS G w G W ∧ (j ≤ xs.length) ∧ (W = w) ∧ (idxB xs p = idxFrom p j (xs.drop j))) _ ⟨_, 0, (pS 8 (pS 7 (pS 1 (pU 0)))), rfl, d, cH _, rfl, rfl⟩ ?_)
 rintro g _ h ⟨b, j, rfl, i, c, hj, hw, hr⟩
 subst hw
 refine w9d ?_
 refine qD rfl (yR rfl rfl) (qe (zA (zB ?_)))
 refine yE (p := ((j : Int) : Int) < (xs.length : Int)) rfl rfl (fun f => ?_) (fun f => ?_)
 refine cM (zA (zB ?_))
 refine zX (w9d ?_)
 refine qM (.int .i64 (j : Int)) ?_
 refine qM (.int .i64 (j : Int)) ?_
 refine qe (w9a ?_)
 refine qM (.bool p) ?_
 refine qM v ?_
 refine qM (.int .i64 (j : Int)) ?_
 refine qD rfl (zI Tryz.underlying84 sz4 (v := v) rfl rfl hv (by omega) (by omega)) (qD rfl (qC (r := xs.getD j false) rfl ag4 (z := (j : Int)) rfl hv c.pins (by omega) (by omega)) (qD rfl (r_eqlB Tryz.underlying4 rfl rfl) (qe (zA ?_))))
 refine c_if rfl rfl (fun a => ?_) (fun a => ?_)
 refine w9d ?_
 refine qM (.int .i64 (j : Int)) ?_
 refine qM (.int .i64 (j : Int)) ?_
 refine qe (zA ?_)
 exact cN (zQ (zS (v := .int .i64 (j : Int)) rfl rfl rfl (⟨cgA eI ((hr.trans (idx_hit (by omega) a)).symm), rfl⟩)))
 refine cM (w9c ?_)
 refine qD rfl (yP rfl rfl (by omega)) (qM (.int .i64 ((j : Int) + 1)) ?_)
 refine qe (yK (⟨_, ?_, _, rfl, _, j + 1, (pS 8 (pS 7 (pS 1 (pU 0)))), rfl, c, (by omega), rfl, (hr.trans (idx_next (by omega) a))⟩))
 omega
 refine cO (zZ (yM (yL (w9a ?_))))
 refine qM (.int .i64 (-1)) ?_
 refine qe (zA ?_)
 exact cN (zQ (zS (v := .int .i64 (-1)) rfl rfl rfl (⟨cgA eI ((hr.trans (idx_end (by omega))).symm), rfl⟩)))
theorem rI {w : World} {xs : List Bool} (hP : Pins G w) (hv : RSl eBool G v xs) :
  Calls Tryz.prog 43 #[v, .bool p] w fun e w' => e = .returned (.bool (decide ((0 : Int) ≤ idxB xs p))) ∧ w' = w := by
 refine yA (n := 9) Tryz.func43 Tryz.ntmps43 rfl rfl ?_
 have hX0 := exr noS hP
 refine w9d ?_
 refine qM (.bool false) ?_
 refine qe (w9a ?_)
 refine qM v ?_
 refine qM (.bool p) ?_
 refine qI rfl (zO (vs := [v, .bool p]) Tryz.func68 nm68 rfl rfl rfl ?_)
 refine cC (mV hX0.pins hv) ?_
 rintro _ _ ⟨rfl, rfl⟩
 refine rt9 (qD rfl (vU rfl rfl) (qM (.bool (decide ((0 : Int) ≤ (idxB xs p)))) ?_))
 refine qe (zA ?_)
 exact cN (zQ (zS (v := .bool (decide ((0 : Int) ≤ (idxB xs p)))) rfl rfl rfl (⟨rfl, rfl⟩)))
theorem births_spec {w : World} (hP : Pins G w) (hv : RSl eNode G v ns) (ho : OptsOk ns) (hs : ns.length ≤ 1048576) :
  Calls Tryz.prog 39 #[v] w fun e w' => ∃ (u : Value) (G' : Pin), e = .returned u ∧ Own eInt 3 G' w' w.heap.size u (births ns) ∧ Ext noS G w G' w' := by
 refine yA (n := 64) Tryz.func39 Tryz.ntmps39 rfl rfl ?_
 have ao := exr noS hP
 refine w9d ?_
 refine qM vN ?_
 refine qe (w9a ?_)
 refine qM v ?_
 refine qD rfl (run_len Tryz.underlying24 (v := v) rfl hv) (qI rfl (fG (E := eInt) 0 8 (vJ 0) Tryz.underlying40 mk3 (fun _ => rfl) rfl rfl ao.pins (by omega) (by omega) (by omega) (fun a w2 bb bc bd b9 => ?_)))
 have be := ao.step bc bd
 have bf : Own eInt 3 G w2 w.heap.size a (List.replicate ns.length 0) := bb.weaken ao.size
 have ca : (List.replicate ns.length 0).length = ns.length := List.length_replicate ..
 refine qM a ?_
 refine qe (zA (w9b ?_))
 refine qM v ?_
 refine qD rfl (run_len Tryz.underlying24 (v := v) rfl hv) (qM (vJ 0) ?_)
 refine qe (zA ?_)
 refine zX (yO (fun k en W => ∃ (o : Nat → Value) (j : Nat) (b : List Int) (af : Pin), en = (upd (upd (upd (upd (upd o 2 vN) 3 a) 13 v) 14 (vJ (ns.length : Int))) 15 (vJ (j : Int))) ∧ k = ns.length - j ∧ Ext noS G w af W ∧ Pin.le G af ∧ (j ≤ ns.length) ∧ (b.length = ns.length) ∧ (BOk b) ∧ (births ns = bgo j (ns.drop j) b) ∧ (Own eInt 3 af W w.heap.size a (b))) _ ⟨_, 0, List.replicate ns.length 0, G, (pS 15 (pS 14 (pS 13 (pS 3 (pU 2))))), rfl, be, cI _, cH _, (by simp), (BOk.replicate _), rfl, bf⟩ ?_)
 rintro cb _ cc ⟨o, j, b, af, rfl, cd, y, ag, hj, hnb, hkb, hr, ap⟩
 refine w9d ?_
 refine qD rfl (yR rfl rfl) (qe (zA (zB ?_)))
 refine yE (p := ((j : Int) : Int) < (ns.length : Int)) rfl rfl (fun bg => ?_) (fun bg => ?_)
 refine cM (zA (zB ?_))
 refine zX (w9d ?_)
 refine qM (vJ (j : Int)) ?_
 refine qD rfl (zI Tryz.underlying24 sz76 (v := v) rfl rfl hv (by omega) (by omega)) ?_
 obtain ⟨q, s, aa, ab, bh⟩ := vD (hv.at (z := (j : Int)) (by omega) (by omega)) (j := j) rfl
 have ce := aa.max
 have cf := ab.max
 refine qD rfl (bh ag76 sz76 rfl (cB y.pins ag)) (qI rfl (yN [vN, vN] zr76 rfl y.pins (fun au cg bi bj bk av => ?_)))
 have aw := y.step bk av
 have bl := ap.below av
 have ax := zL (cgA some bi) ap.lt
 have ay : w.heap.size ≤ au := by have := y.size; omega
 refine qM (vJ (j : Int)) ?_
 refine q0 rfl rfl rfl (o_stp (cs' := [q, s]) (us := [q, s]) (v := .agg #[q, s]) sz76 rfl rfl rfl (jZ aa.one ab.one) aw.pins bj (cD rfl) rfl (fun ch bm bn az ci => ?_))
 have bo := aw.write bn az ((zW ay))
 have bp := bl.keptA az ax.symm
 obtain ⟨t, ah, a0, a1, bq⟩ := bm.shut bo ay
 have br := bp.moreA ah bq ax.symm
 refine qe (zA (w9b ?_))
 refine qD rfl (zK (k := 0) rfl Tryz.underlying76 rfl nz40 rfl) (qD rfl (zM (u := q) ag40 rfl (a0.pins _ _ _ (a1 0 _ rfl))) (qD rfl (run_len Tryz.underlying40 (v := q) rfl aa) (qM (vJ 0) ?_)))
 refine qe (zA ?_)
 refine zX (yO (fun k en W => ∃ (o : Nat → Value) (i : Nat) (d : List Int), en = (upd (upd (upd (upd (upd (upd (upd (upd (upd (upd o 2 vN) 3 a) 4 (vJ (j : Int))) 5 (vP au)) 13 v) 14 (vJ (ns.length : Int))) 15 (vJ (j : Int))) 21 q) 22 (vJ (((ns.getD j default).l).length : Int))) 23 (vJ (i : Int))) ∧ k = (ns.getD j default).l.length - i ∧ Ext noS G w t W ∧ (i ≤ (ns.getD j default).l.length) ∧ (d.length = ns.length) ∧ (BOk d) ∧ (brow j b (ns.getD j default).l = brow j d ((ns.getD j default).l.drop i)) ∧ (Own eInt 3 t W w.heap.size a (d))) _ ⟨_, 0, b, (pS 23 (pS 22 (pS 21 (pS 15 (pS 14 (pS 13 (pS 5 (pS 4 (pS 3 (pU 2)))))))))), rfl, a0, cH _, hnb, hkb, rfl, br⟩ ?_)
 rintro cj _ ai ⟨o, i, d, rfl, ck, x, hii, a2, aj, a3, aq⟩
 refine w9d ?_
 refine qD rfl (yR rfl rfl) (qe (zA (zB ?_)))
 refine yE (p := ((i : Int) : Int) < (((ns.getD j default).l).length : Int)) rfl rfl (fun bs => ?_) (fun bs => ?_)
 have hk := ho.left (j := j) (i := i) (by omega) (by omega)
 have hbj := aj j
 have hbk := aj ((ns.getD j default).l.getD i 0).toNat
 refine cM (zA (zB ?_))
 refine zX (w9d ?_)
 refine qD rfl (zI Tryz.underlying40 sz3 (v := q) rfl rfl aa (by omega) (by omega)) (qD rfl (zN (r := ((ns.getD j default).l).getD i 0) rfl ag3 (z := (i : Int)) rfl aa (cB x.pins (cA ag ah)) (by omega) (by omega)) (qM (vJ (((ns.getD j default).l).getD i 0)) ?_))
 refine qe (zA ?_)
 have bt := cK x.pins a
 have ac := aq.read
 refine yQ (S := fun wz => Pins (Gadd t ai a) wz) (last := 13) (by kernel_rfl) rfl ?_
 have ak := bdr ai
 have bu := x.pins.below ak
 have a4 := x.step bu ak
 have a5 := aq.below ak
 have f := bt.below ak
 refine dM 0 a f ?_
 refine dM 1 (vJ (j : Int)) f ?_
 refine dM 2 a f ?_
 refine dM 3 (vJ (j : Int)) f ?_
 refine dT (i := 4) rfl rfl (by kernel_rfl) (fun _ _ => zI Tryz.underlying40 sz3 (v := a) rfl rfl ac (by omega) (by omega)) f ?_
 refine dT (i := 5) rfl rfl (by kernel_rfl) (fun _ hS => zN (r := d.getD j 0) rfl ag3 (z := (j : Int)) rfl ac hS (by omega) (by omega)) f ?_
 refine dM 6 a f ?_
 refine dM 7 (vJ (((ns.getD j default).l).getD i 0)) f ?_
 refine dT (i := 8) rfl rfl (by kernel_rfl) (fun _ _ => zI Tryz.underlying40 sz3 (v := a) rfl rfl ac (by omega) (by omega)) f ?_
 refine dT (i := 9) rfl rfl (by kernel_rfl) (fun _ hS => zN (r := d.getD (((ns.getD j default).l).getD i 0).toNat 0) rfl ag3 (z := ((ns.getD j default).l).getD i 0) rfl ac hS (by omega) (by omega)) f ?_
 refine dT (i := 10) rfl rfl (by kernel_rfl) (fun _ _ => yP rfl rfl (by omega)) f ?_
 refine dT (i := 11) rfl rfl (by kernel_rfl) (fun _ _ => r_max rfl rfl) f ?_
 refine dT (i := 12) rfl rfl (by kernel_rfl) (fun _ _ => zI Tryz.underlying40 sz3 (v := a) rfl rfl ac (by omega) (by omega)) f ?_
 refine dO (i := 13) (xJ (i := 13) rfl rfl rfl (yB rfl _) (jL (E := eInt) (v := a) (u := vJ (max (d.getD j 0) ((d.getD (((ns.getD j default).l).getD i 0).toNat 0) + 1))) (z := (j : Int)) (max (d.getD j 0) ((d.getD (((ns.getD j default).l).getD i 0).toNat 0) + 1)) sz3 rfl rfl rfl rfl a4.pins a5 (by omega) (by omega) (fun cl bv bw bx cm => ?_)))
 have bz := a4.write bw bx ((yG a5))
 refine ⟨fun h => absurd rfl h, ?_⟩
 refine zY (by kernel_rfl) (w9c ?_)
 refine qD rfl (yP rfl rfl (by omega)) (qM (vJ ((i : Int) + 1)) ?_)
 refine qe (yK (⟨_, ?_, _, rfl, _, i + 1, bmax j d ((ns.getD j default).l.getD i 0), (pS 23 (pS 22 (pS 21 (pS 15 (pS 14 (pS 13 (pS 5 (pS 4 (pS 3 (pU 2)))))))))), rfl, bz, (by omega), ((kD _ _ _).trans a2), (aj.max hk.1 hk.2), (a3.trans (pD (by omega))), bv⟩))
 omega
 refine cO (zZ (yM (yL (w9a ?_))))
 refine qD rfl (zK (k := 1) rfl Tryz.underlying76 rfl nz40 rfl) (qD rfl (zM (u := s) ag40 rfl (x.pins _ _ _ (a1 1 _ rfl))) (qD rfl (run_len Tryz.underlying40 (v := s) rfl ab) (qM (vJ 0) ?_)))
 refine qe (zA ?_)
 refine zX (yO (fun k en W => ∃ (o : Nat → Value) (c : Nat) (g : List Int), en = (upd (upd (upd (upd (upd (upd (upd (upd (upd o 2 vN) 3 a) 4 (vJ (j : Int))) 13 v) 14 (vJ (ns.length : Int))) 15 (vJ (j : Int))) 42 s) 43 (vJ (((ns.getD j default).r).length : Int))) 44 (vJ (c : Int))) ∧ k = (ns.getD j default).r.length - c ∧ Ext noS G w t W ∧ (c ≤ (ns.getD j default).r.length) ∧ (g.length = ns.length) ∧ (BOk g) ∧ (brow j d (ns.getD j default).r = brow j g ((ns.getD j default).r.drop c)) ∧ (Own eInt 3 t W w.heap.size a (g))) _ ⟨_, 0, d, (pS 44 (pS 43 (pS 42 (pS 15 (pS 14 (pS 13 (pS 4 (pS 3 (pU 2))))))))), rfl, x, cH _, a2, aj, rfl, aq⟩ ?_)
 rintro cn _ al ⟨o, c, g, rfl, co, ad, cp, a6, am, a7, ar⟩
 refine w9d ?_
 refine qD rfl (yR rfl rfl) (qe (zA (zB ?_)))
 refine yE (p := ((c : Int) : Int) < (((ns.getD j default).r).length : Int)) rfl rfl (fun b0 => ?_) (fun b0 => ?_)
 have hk := ho.right (j := j) (i := c) (by omega) (by omega)
 have hbj := am j
 have hbk := am ((ns.getD j default).r.getD c 0).toNat
 refine cM (zA (zB ?_))
 refine zX (w9d ?_)
 refine qD rfl (zI Tryz.underlying40 sz3 (v := s) rfl rfl ab (by omega) (by omega)) (qD rfl (zN (r := ((ns.getD j default).r).getD c 0) rfl ag3 (z := (c : Int)) rfl ab (cB ad.pins (cA ag ah)) (by omega) (by omega)) (qM (vJ (((ns.getD j default).r).getD c 0)) ?_))
 refine qe (zA ?_)
 have b1 := cK ad.pins a
 have ae := ar.read
 refine yQ (S := fun wz => Pins (Gadd t al a) wz) (last := 13) (by kernel_rfl) rfl ?_
 have an := bdr al
 have b4 := ad.pins.below an
 have a8 := ad.step b4 an
 have a9 := ar.below an
 have m := b1.below an
 refine dM 0 a m ?_
 refine dM 1 (vJ (j : Int)) m ?_
 refine dM 2 a m ?_
 refine dM 3 (vJ (j : Int)) m ?_
 refine dT (i := 4) rfl rfl (by kernel_rfl) (fun _ _ => zI Tryz.underlying40 sz3 (v := a) rfl rfl ae (by omega) (by omega)) m ?_
 refine dT (i := 5) rfl rfl (by kernel_rfl) (fun _ hS => zN (r := g.getD j 0) rfl ag3 (z := (j : Int)) rfl ae hS (by omega) (by omega)) m ?_
 refine dM 6 a m ?_
 refine dM 7 (vJ (((ns.getD j default).r).getD c 0)) m ?_
 refine dT (i := 8) rfl rfl (by kernel_rfl) (fun _ _ => zI Tryz.underlying40 sz3 (v := a) rfl rfl ae (by omega) (by omega)) m ?_
 refine dT (i := 9) rfl rfl (by kernel_rfl) (fun _ hS => zN (r := g.getD (((ns.getD j default).r).getD c 0).toNat 0) rfl ag3 (z := ((ns.getD j default).r).getD c 0) rfl ae hS (by omega) (by omega)) m ?_
 refine dT (i := 10) rfl rfl (by kernel_rfl) (fun _ _ => yP rfl rfl (by omega)) m ?_
 refine dT (i := 11) rfl rfl (by kernel_rfl) (fun _ _ => r_max rfl rfl) m ?_
 refine dT (i := 12) rfl rfl (by kernel_rfl) (fun _ _ => zI Tryz.underlying40 sz3 (v := a) rfl rfl ae (by omega) (by omega)) m ?_
 refine dO (i := 13) (xJ (i := 13) rfl rfl rfl (yB rfl _) (jL (E := eInt) (v := a) (u := vJ (max (g.getD j 0) ((g.getD (((ns.getD j default).r).getD c 0).toNat 0) + 1))) (z := (j : Int)) (max (g.getD j 0) ((g.getD (((ns.getD j default).r).getD c 0).toNat 0) + 1)) sz3 rfl rfl rfl rfl a8.pins a9 (by omega) (by omega) (fun cq b5 b6 b7 cr => ?_)))
 have b8 := a8.write b6 b7 ((yG a9))
 refine ⟨fun h => absurd rfl h, ?_⟩
 refine zY (by kernel_rfl) (w9c ?_)
 refine qD rfl (yP rfl rfl (by omega)) (qM (vJ ((c : Int) + 1)) ?_)
 refine qe (yK (⟨_, ?_, _, rfl, _, c + 1, bmax j g ((ns.getD j default).r.getD c 0), (pS 44 (pS 43 (pS 42 (pS 15 (pS 14 (pS 13 (pS 4 (pS 3 (pU 2))))))))), rfl, b8, (by omega), ((kD _ _ _).trans a6), (am.max hk.1 hk.2), (a7.trans (pD (by omega))), b5⟩))
 omega
 refine cO (zZ (yM (yL (w9c ?_))))
 refine qD rfl (yP rfl rfl (by omega)) (qM (vJ ((j : Int) + 1)) ?_)
 refine qe (yK (⟨_, ?_, _, rfl, _, j + 1, g, t, (pS 15 (pS 14 (pS 13 (pS 3 (pU 2))))), rfl, ad, (cA ag ah), (by omega), a6, am, (hr.trans ((bgo_next (by omega)).trans (by rw [a3, brow_end (by omega), a7, brow_end (by omega)]))), ar⟩))
 omega
 refine cO (zZ (yM (yL (w9a ?_))))
 refine qM a ?_
 refine qM a ?_
 refine qe (zA ?_)
 exact cN (zQ (zS (v := a) rfl rfl rfl (⟨_, _, rfl, (by rw [hr, bgo_end (by omega)]; exact ap), y⟩)))
theorem used_spec {w : World} {m : Int} (hP : Pins G w) (hv : RSl eNode G v ns) (ho : OptsOk ns) (hs : (0 ≤ m ∧ m < ns.length) ∧ ns.length ≤ 1048576) :
  Calls Tryz.prog 44 #[v, vJ m] w fun e w' => ∃ (u : Value) (G' : Pin), e = .returned u ∧ Own eBool 4 G' w' w.heap.size u (usedM ns m.toNat) ∧ Ext noS G w G' w' := by
 refine yA (n := 56) Tryz.func44 Tryz.ntmps44 rfl rfl ?_
 have ab := exr noS hP
 refine w9d ?_
 refine qM vN ?_
 refine qe (w9a ?_)
 refine qM v ?_
 refine qD rfl (run_len Tryz.underlying24 (v := v) rfl hv) (qI rfl (fG (E := eBool) false 1 (.bool false) Tryz.underlying84 mk4 (fun _ => rfl) rfl rfl ab.pins (by omega) (by omega) (by omega) (fun a w2 am an ao a8 => ?_)))
 have ag := ab.step an ao
 have ac : Own eBool 4 G w2 w.heap.size a (List.replicate ns.length false) := am.weaken ab.size
 have a9 : (List.replicate ns.length false).length = ns.length := List.length_replicate ..
 refine qM a ?_
 refine qe (w9a ?_)
 refine qM a ?_
 refine qM (vJ m) ?_
 refine qD rfl (zI Tryz.underlying84 sz4 (v := a) rfl rfl ac.read (by omega) (by omega)) (q0 rfl rfl rfl (jL (E := eBool) (v := a) (u := .bool true) (z := m) (true) sz4 rfl rfl rfl rfl ag.pins ac (by omega) (by omega) (fun ba ap aq ar bb => ?_)))
 have au := ag.write aq ar ((yG ac))
 refine qe (zA (w9b ?_))
 refine qM (vJ m) ?_
 refine qM (vJ m) ?_
 refine qe (zA ?_)
 refine zX (yO (fun k en W => ∃ (d : Nat → Value) (z : Int) (b : List Bool), en = (upd (upd (upd (upd d 0 v) 4 vN) 5 a) 6 (vJ z)) ∧ k = (z + 1).toNat ∧ Ext noS G w G W ∧ (-1 ≤ z ∧ z ≤ m) ∧ (b.length = ns.length) ∧ (usedM ns m.toNat = ugo ns (z + 1).toNat b) ∧ (Own eBool 4 G W w.heap.size a (b))) _ ⟨_, m, (List.replicate ns.length false).set m.toNat true, (pS 6 (pS 5 (pS 4 (pU 0)))), rfl, au, (by omega), (by simp), (by rw [show (m + 1).toNat = m.toNat + 1 by omega]; rfl), ap⟩ ?_)
 rintro bc _ bd ⟨d, z, b, rfl, be, h, hz, hnb, hr, o⟩
 refine w9b ?_
 refine qM (vJ z) ?_
 refine qD rfl (vU rfl rfl) (qe (zA ?_))
 refine yE (p := (0 : Int) ≤ z) rfl rfl (fun av => ?_) (fun av => ?_)
 refine cM (zA (zB ?_))
 refine zX (w9b ?_)
 refine qM a ?_
 refine qM (vJ z) ?_
 refine qD rfl (zI Tryz.underlying84 sz4 (v := a) rfl rfl o.read (by omega) (by omega)) (qD rfl (qC (r := b.getD (z).toNat false) rfl ag4 (z := z) rfl o.read (cK h.pins a) (by omega) (by omega)) (qD rfl (xM rfl) (qe (zA ?_))))
 refine qQ rfl rfl (fun ad => ?_) (fun ad => ?_)
 refine cM (zA (w9b ?_))
 refine qM v ?_
 refine qM (vJ z) ?_
 refine qD rfl (zI Tryz.underlying24 sz76 (v := v) rfl rfl hv (by omega) (by omega)) (qD rfl (yI (off := 0) Tryz.underlying76 rfl rfl nz40 (z := z) (k := 0) rfl hv (by omega) (by omega)) ?_)
 obtain ⟨ae, s, aw⟩ := jC (hv.at (z := z) (by omega) (by omega)) (j := (z).toNat) rfl
 have bf := s.max
 refine qD rfl (aw ag40 rfl h.pins) (qD rfl (run_len Tryz.underlying40 (v := ae) rfl s) (qM (vJ 0) ?_))
 refine qe (zA ?_)
 refine zX (yO (fun k en W => ∃ (d : Nat → Value) (i : Nat) (f : List Bool), en = (upd (upd (upd (upd (upd (upd (upd d 0 v) 4 vN) 5 a) 6 (vJ z)) 31 ae) 32 (vJ (((ns.getD (z).toNat default).l).length : Int))) 33 (vJ (i : Int))) ∧ k = (ns.getD (z).toNat default).l.length - i ∧ Ext noS G w G W ∧ (i ≤ (ns.getD (z).toNat default).l.length) ∧ (f.length = ns.length) ∧ (setAll b (ns.getD (z).toNat default).l = setAll f ((ns.getD (z).toNat default).l.drop i)) ∧ (Own eBool 4 G W w.heap.size a (f))) _ ⟨_, 0, b, (pS 33 (pS 32 (pS 31 (pS 6 (pS 5 (pS 4 (pU 0))))))), rfl, h, cH _, hnb, rfl, o⟩ ?_)
 rintro bg _ bh ⟨d, i, f, rfl, bi, q, hii, ah, ai, t⟩
 refine w9d ?_
 refine qD rfl (yR rfl rfl) (qe (zA (zB ?_)))
 refine yE (p := ((i : Int) : Int) < (((ns.getD (z).toNat default).l).length : Int)) rfl rfl (fun ax => ?_) (fun ax => ?_)
 have hk := ho.left (j := (z).toNat) (i := i) (by omega) (by omega)
 refine cM (zA (zB ?_))
 refine zX (w9d ?_)
 refine qD rfl (zI Tryz.underlying40 sz3 (v := ae) rfl rfl s (by omega) (by omega)) (qD rfl (zN (r := ((ns.getD (z).toNat default).l).getD i 0) rfl ag3 (z := (i : Int)) rfl s q.pins (by omega) (by omega)) (qM (vJ (((ns.getD (z).toNat default).l).getD i 0)) ?_))
 refine qe (zA (zC ?_))
 refine qM a ?_
 refine qM (vJ (((ns.getD (z).toNat default).l).getD i 0)) ?_
 refine qD rfl (zI Tryz.underlying84 sz4 (v := a) rfl rfl t.read (by omega) (by omega)) (q0 rfl rfl rfl (jL (E := eBool) (v := a) (u := .bool true) (z := ((ns.getD (z).toNat default).l).getD i 0) (true) sz4 rfl rfl rfl rfl q.pins t (by omega) (by omega) (fun bj ay az a0 bk => ?_)))
 have a1 := q.write az a0 ((yG t))
 refine qe (w9c ?_)
 refine qD rfl (yP rfl rfl (by omega)) (qM (vJ ((i : Int) + 1)) ?_)
 refine qe (yK (⟨_, ?_, _, rfl, _, i + 1, f.set ((ns.getD (z).toNat default).l.getD i 0).toNat true, (pS 33 (pS 32 (pS 31 (pS 6 (pS 5 (pS 4 (pU 0))))))), rfl, a1, (by omega), ((cR ..).trans ah), (ai.trans (vR (by omega))), ay⟩))
 omega
 refine cO (zZ (yM (yL (w9a ?_))))
 refine qM v ?_
 refine qM (vJ z) ?_
 refine qD rfl (zI Tryz.underlying24 sz76 (v := v) rfl rfl hv (by omega) (by omega)) (qD rfl (yI (off := 1) Tryz.underlying76 rfl rfl nz40 (z := z) (k := 0) rfl hv (by omega) (by omega)) ?_)
 obtain ⟨af, x, a2⟩ := qV (hv.at (z := z) (by omega) (by omega)) (j := (z).toNat) rfl
 have bl := x.max
 refine qD rfl (a2 ag40 rfl q.pins) (qD rfl (run_len Tryz.underlying40 (v := af) rfl x) (qM (vJ 0) ?_))
 refine qe (zA ?_)
 refine zX (yO (fun k en W => ∃ (d : Nat → Value) (c : Nat) (g : List Bool), en = (upd (upd (upd (upd (upd (upd (upd d 0 v) 4 vN) 5 a) 6 (vJ z)) 45 af) 46 (vJ (((ns.getD (z).toNat default).r).length : Int))) 47 (vJ (c : Int))) ∧ k = (ns.getD (z).toNat default).r.length - c ∧ Ext noS G w G W ∧ (c ≤ (ns.getD (z).toNat default).r.length) ∧ (g.length = ns.length) ∧ (setAll f (ns.getD (z).toNat default).r = setAll g ((ns.getD (z).toNat default).r.drop c)) ∧ (Own eBool 4 G W w.heap.size a (g))) _ ⟨_, 0, f, (pS 47 (pS 46 (pS 45 (pS 6 (pS 5 (pS 4 (pU 0))))))), rfl, q, cH _, ah, rfl, t⟩ ?_)
 rintro bm _ bn ⟨d, c, g, rfl, bo, y, bp, aj, ak, aa⟩
 refine w9d ?_
 refine qD rfl (yR rfl rfl) (qe (zA (zB ?_)))
 refine yE (p := ((c : Int) : Int) < (((ns.getD (z).toNat default).r).length : Int)) rfl rfl (fun a3 => ?_) (fun a3 => ?_)
 have hk := ho.right (j := (z).toNat) (i := c) (by omega) (by omega)
 refine cM (zA (zB ?_))
 refine zX (w9d ?_)
 refine qD rfl (zI Tryz.underlying40 sz3 (v := af) rfl rfl x (by omega) (by omega)) (qD rfl (zN (r := ((ns.getD (z).toNat default).r).getD c 0) rfl ag3 (z := (c : Int)) rfl x y.pins (by omega) (by omega)) (qM (vJ (((ns.getD (z).toNat default).r).getD c 0)) ?_))
 refine qe (zA (zC ?_))
 refine qM a ?_
 refine qM (vJ (((ns.getD (z).toNat default).r).getD c 0)) ?_
 refine qD rfl (zI Tryz.underlying84 sz4 (v := a) rfl rfl aa.read (by omega) (by omega)) (q0 rfl rfl rfl (jL (E := eBool) (v := a) (u := .bool true) (z := ((ns.getD (z).toNat default).r).getD c 0) (true) sz4 rfl rfl rfl rfl y.pins aa (by omega) (by omega) (fun bq a4 a5 a6 br => ?_)))
 have a7 := y.write a5 a6 ((yG aa))
 refine qe (w9c ?_)
 refine qD rfl (yP rfl rfl (by omega)) (qM (vJ ((c : Int) + 1)) ?_)
 refine qe (yK (⟨_, ?_, _, rfl, _, c + 1, g.set ((ns.getD (z).toNat default).r.getD c 0).toNat true, (pS 47 (pS 46 (pS 45 (pS 6 (pS 5 (pS 4 (pU 0))))))), rfl, a7, (by omega), ((cR ..).trans aj), (ak.trans (vR (by omega))), a4⟩))
 omega
 refine cO (zZ (yM (yL (w9c ?_))))
 refine qM (vJ z) ?_
 refine qD rfl (xR rfl rfl (by omega)) (qM (vJ (z - 1)) ?_)
 refine qe (yK (⟨_, ?_, _, rfl, _, z - 1, g, (pS 6 (pS 5 (pS 4 (pU 0)))), rfl, y, (by omega), aj, (hr.trans ((gI (by omega)).trans (by rw [fL ad, ai, kU (by omega), ak, kU (by omega)]))), aa⟩))
 omega
 refine cO (zZ (yL (zA (zC ?_))))
 refine qM (vJ z) ?_
 refine qD rfl (xR rfl rfl (by omega)) (qM (vJ (z - 1)) ?_)
 refine qe (yK (⟨_, ?_, _, rfl, _, z - 1, b, (pS 6 (pS 5 (pS 4 (pU 0)))), rfl, h, (by omega), hnb, (hr.trans ((gI (by omega)).trans (by rw [rR ad]))), o⟩))
 omega
 refine cO (zZ (yM (yL (w9a ?_))))
 refine qM a ?_
 refine qM a ?_
 refine qe (zA ?_)
 exact cN (zQ (zS (v := a) rfl rfl rfl (⟨_, _, rfl, (by rw [hr, ugo_end (by omega)]; exact o), h⟩)))
theorem jT {w : World} (hP : Pins G w) (hv : RSl eNode G v ns) :
  Calls Tryz.prog 19 [.agg #[v]].toArray w fun e w' => ∃ G', e = .returned (.bool (goodB ns)) ∧ Ext noS G w G' w' := by
 refine yA (n := 93) Tryz.func19 Tryz.ntmps19 rfl rfl ?_
 have a6 := exr noS hP
 have hm := hv.max
 refine w9d ?_
 refine qI rfl (xH [v] (v := .agg #[v]) rfl rfl a6.pins (fun b1 w2 e4 ck cl cm => ?_))
 have cn := a6.step cl cm
 have co : w.heap.size ≤ b1 := by have := a6.size; omega
 obtain ⟨G9, s, aj, y, e5⟩ := ck.shut cn co
 refine qM (.bool false) ?_
 refine qe (zA (w9b ?_))
 refine qD rfl (zK (k := 0) rfl Tryz.underlying26 rfl nz24 rfl) (qD rfl (zM (u := v) ag24 rfl (aj.pins _ _ _ (y 0 _ rfl))) (qD rfl (run_len Tryz.underlying24 (v := v) rfl hv) (qD rfl (yR rfl rfl) (qM (.bool (decide (((ns.length : Int) : Int) < 1))) ?_))))
 refine qbd (p := ((ns.length : Int) : Int) < 1) (t := 13) rfl (fun cp => ?_) (fun cp => ?_)
 refine qW ?_
 refine qW ?_
 refine qW ?_
 refine qW ?_
 refine qD rfl (yJ (v := .bool true) rfl rfl) (qe (zA ?_))
 refine xW rfl rfl (w9d ?_)
 refine qM (.bool false) ?_
 refine qe (zA ?_)
 exact cN (zQ (zS (v := .bool false) rfl rfl rfl (⟨_, cgA eB (goodB_false.2 (fun g => by have := g.lo; omega)).symm, aj⟩)))
 refine qN (zK (k := 0) rfl Tryz.underlying26 rfl nz24 rfl) ?_
 refine qN (zM (u := v) ag24 rfl (aj.pins _ _ _ (y 0 _ rfl))) ?_
 refine qN (run_len Tryz.underlying24 (v := v) rfl hv) ?_
 refine qN (jV rfl rfl) ?_
 refine qD rfl (yH (v := .bool (decide ((120 : Int) < (ns.length : Int)))) rfl rfl) (qe (zA ?_))
 refine yE (p := (120 : Int) < (ns.length : Int)) rfl rfl (fun cq => ?_) (fun cq => ?_)
 refine w9d ?_
 refine qM (.bool false) ?_
 refine qe (zA ?_)
 exact cN (zQ (zS (v := .bool false) rfl rfl rfl (⟨_, cgA eB (goodB_false.2 (fun g => by have := g.hi; omega)).symm, aj⟩)))
 refine cM (zA (w9b ?_))
 refine qD rfl (zK (k := 0) rfl Tryz.underlying26 rfl nz24 rfl) (qD rfl (zM (u := v) ag24 rfl (aj.pins _ _ _ (y 0 _ rfl))) (qD rfl (run_len Tryz.underlying24 (v := v) rfl hv) (qM (vJ 0) ?_)))
 refine qe (zA ?_)
 refine zX (yO (fun k en W => ∃ (aa : Nat → Value) (j : Nat) (a7 : Pin), en = (upd (upd (upd (upd aa 1 (vP b1)) 20 v) 21 (vJ (ns.length : Int))) 22 (vJ (j : Int))) ∧ k = ns.length - j ∧ Ext noS G w a7 W ∧ Pin.le G9 a7 ∧ (j ≤ ns.length) ∧ (∀ i, i < j → goodOpts (ns.getD i default).l i = true ∧ goodOpts (ns.getD i default).r i = true)) _ ⟨_, 0, G9, (pS 22 (pS 21 (pS 20 (pU 1)))), rfl, aj, cI _, cH _, (fun i hi => absurd hi (cJ i))⟩ ?_)
 rintro e6 _ e7 ⟨aa, j, a7, rfl, e8, ab, d, hj, hg⟩
 refine w9d ?_
 refine qD rfl (yR rfl rfl) (qe (zA (zB ?_)))
 refine yE (p := ((j : Int) : Int) < (ns.length : Int)) rfl rfl (fun cr => ?_) (fun cr => ?_)
 refine cM (zA (zB ?_))
 refine zX (w9d ?_)
 refine qM (vJ (j : Int)) ?_
 refine qD rfl (zI Tryz.underlying24 sz76 (v := v) rfl rfl hv (by omega) (by omega)) ?_
 obtain ⟨ao, ap, a8, a9, cs⟩ := vD (hv.at (z := (j : Int)) (by omega) (by omega)) (j := j) rfl
 have e9 := a8.max
 have fa := a9.max
 refine qD rfl (cs ag76 sz76 rfl (cB ab.pins (cA s d))) (qI rfl (yN [vN, vN] zr76 rfl ab.pins (fun ct fb fc cu cv cw => ?_)))
 have bp := ab.step cv cw
 have bq : w.heap.size ≤ ct := by have := ab.size; omega
 refine qM (vJ (j : Int)) ?_
 refine q0 rfl rfl rfl (o_stp (cs' := [ao, ap]) (us := [ao, ap]) (v := .agg #[ao, ap]) sz76 rfl rfl rfl (jZ a8.one a9.one) bp.pins cu (cD rfl) rfl (fun fd cx cy cz fe => ?_))
 have c0 := bp.write cy cz ((zW bq))
 obtain ⟨c1, ba, ai, br, ff⟩ := cx.shut c0 bq
 refine qe (w9a ?_)
 refine qD rfl (zK (k := 0) rfl Tryz.underlying76 rfl nz40 rfl) (qD rfl (zM (u := ao) ag40 rfl (ai.pins _ _ _ (br 0 _ rfl))) (qM (vJ (j : Int)) ?_))
 refine qI rfl (zO (vs := [ao, vJ (j : Int)]) Tryz.func38 nm38 rfl rfl rfl ?_)
 refine cC (kP ai.pins (a8.mono (cA (cA s d) ba))) ?_
 rintro _ _ ⟨rfl, rfl⟩
 refine rt9 (qD rfl (xM rfl) (qM (.bool (!(goodOpts ((ns.getD j default).l) (j : Int)))) ?_))
 refine qbn (t := 32) rfl (fun bb => ?_) (fun bb => ?_)
 refine qN (zK (k := 1) rfl Tryz.underlying76 rfl nz40 rfl) ?_
 refine qN (zM (u := ap) ag40 rfl (ai.pins _ _ _ (br 1 _ rfl))) ?_
 refine qN (zU (v := vJ (j : Int)) rfl) ?_
 refine q1g rfl rfl rfl rfl rfl rfl (zO (vs := [ap, vJ (j : Int)]) Tryz.func38 nm38 rfl rfl rfl ?_)
 refine cC (kP ai.pins (a9.mono (cA (cA s d) ba))) ?_
 rintro _ _ ⟨rfl, rfl⟩
 refine rt9 (qN (xM rfl) ?_)
 refine qD rfl (yH (v := .bool (!(goodOpts ((ns.getD j default).r) (j : Int)))) rfl rfl) (qe (zA ?_))
 refine qQ rfl rfl (fun bc => ?_) (fun bc => ?_)
 refine cM (w9c ?_)
 refine qD rfl (yP rfl rfl (by omega)) (qM (vJ ((j : Int) + 1)) ?_)
 refine qe (yK (⟨_, ?_, _, rfl, _, j + 1, c1, (pS 22 (pS 21 (pS 20 (pU 1)))), rfl, ai, (cA d ba), (by omega), (fun k hk => if h3 : k = j then h3 ▸ ⟨bb, bc⟩ else hg k (by omega))⟩))
 omega
 refine w9d ?_
 refine qM (.bool false) ?_
 refine qe (zA ?_)
 exact cN (zQ (zS (v := .bool false) rfl rfl rfl (⟨_, cgA eB (goodB_false.2 (fun g => by have := (g.opts j (by omega)).2; rw [bc] at this; cases this)).symm, ai⟩)))
 refine qW ?_
 refine qW ?_
 refine qW ?_
 refine qW ?_
 refine qW ?_
 refine qD rfl (yJ (v := .bool true) rfl rfl) (qe (zA ?_))
 refine xW rfl rfl (w9d ?_)
 refine qM (.bool false) ?_
 refine qe (zA ?_)
 exact cN (zQ (zS (v := .bool false) rfl rfl rfl (⟨_, cgA eB (goodB_false.2 (fun g => by have := (g.opts j (by omega)).1; rw [bb] at this; cases this)).symm, ai⟩)))
 refine cO (zZ (yM (yL (w9a ?_))))
 refine qD rfl (zK (k := 0) rfl Tryz.underlying26 rfl nz24 rfl) (qD rfl (zM (u := v) ag24 rfl ((cB ab.pins d) _ _ _ (y 0 _ rfl))) ?_)
 have hopts : ∀ i, i < ns.length → goodOpts (ns.getD i default).l i = true ∧ goodOpts (ns.getD i default).r i = true := fun i hi => hg i (by omega)
 refine qI rfl (zO (vs := [v]) Tryz.func39 nm39 rfl rfl rfl ?_)
 refine cC (births_spec ab.pins (hv.mono (cA s d)) (pV hopts) (by omega)) ?_
 rintro _ c2 ⟨ac, c3, rfl, c4, m⟩
 refine rt9 ?_
 have c5 := ab.tr m
 have c6 := c4.weaken ab.size
 refine qM ac ?_
 refine qe (zA (w9b ?_))
 have hnb := kF ns
 obtain ⟨bs, q, c7, a3, fg⟩ := c6.sealed c5
 refine qM (vJ 1) ?_
 refine qe (zA ?_)
 refine zX (yO (fun k en W => ∃ (aa : Nat → Value) (i : Nat) (aq : Pin), en = (upd (upd (upd aa 1 (vP b1)) 5 ac) 6 (vJ (i : Int))) ∧ k = ns.length - i ∧ Ext noS G w aq W ∧ Pin.le bs aq ∧ (1 ≤ i ∧ i ≤ ns.length) ∧ (∀ k, 1 ≤ k → k < i → pairC ns (births ns) k < 0)) _ ⟨_, 1, bs, (pS 6 (pS 5 (pU 1))), rfl, c7, cI _, (by omega), (fun k a b => absurd a (by omega))⟩ ?_)
 rintro fh _ bd ⟨aa, i, aq, rfl, fi, ad, f, hi, hsr⟩
 refine w9b ?_
 refine qM (vJ (i : Int)) ?_
 refine qD rfl (zK (k := 0) rfl Tryz.underlying26 rfl nz24 rfl) (qD rfl (zM (u := v) ag24 rfl ((cB ad.pins (cA (cA (cA d m.le) q) f)) _ _ _ (y 0 _ rfl))) (qD rfl (run_len Tryz.underlying24 (v := v) rfl hv) (qD rfl (yR rfl rfl) (qe (zA ?_)))))
 refine yE (p := ((i : Int) : Int) < (ns.length : Int)) rfl rfl (fun c8 => ?_) (fun c8 => ?_)
 refine cM (zA (zB ?_))
 refine zX (zB (pC (fun (en : Nat → Value) (W : World) => ∃ (aa : Nat → Value) (be : Nat) (ar : Value) (au : Value) (bf : Nat) (av : Value) (aw : Value) (x : Pin), en = (upd (upd (upd (upd (upd aa 1 (vP b1)) 5 ac) 6 (vJ (i : Int))) 7 (vP be)) 8 (vP bf)) ∧ Ext noS G w x W ∧ Pin.le aq x ∧ (RSl eInt x ar ((ns.getD ((i : Int) - 1).toNat default).l)) ∧ (RSl eInt x au ((ns.getD ((i : Int) - 1).toNat default).r)) ∧ (RSl eInt x av ((ns.getD i default).l)) ∧ (RSl eInt x aw ((ns.getD i default).r)) ∧ (BxP x be [ar, au]) ∧ (BxP x bf [av, aw])) ?_ ?_))
 ·rintro _ bg ⟨aa, be, ar, au, bf, av, aw, x, rfl, bt, bh, c9, da, db, dc, bu, bv⟩
  refine zA (zB ?_)
  refine yQ (S := fun wz => Pins x wz) (last := 23) (by kernel_rfl) rfl ?_
  have bw := bdr bg
  have dd := bt.pins.below bw
  have c := bt.step dd bw
  refine dM 0 ac c.pins ?_
  refine dM 1 (vJ (i : Int)) c.pins ?_
  refine dT (i := 2) rfl rfl (by kernel_rfl) (fun _ _ => xR rfl rfl (by omega)) c.pins ?_
  refine dT (i := 3) rfl rfl (by kernel_rfl) (fun _ _ => zI Tryz.underlying40 sz3 (v := ac) rfl rfl a3 (by omega) (by omega)) c.pins ?_
  refine dT (i := 4) rfl rfl (by kernel_rfl) (fun _ hS => zN (r := (births ns).getD ((i : Int) - 1).toNat 0) rfl ag3 (z := (i : Int) - 1) rfl a3 (cB hS (cA f bh)) (by omega) (by omega)) c.pins ?_
  refine dM 5 ac c.pins ?_
  refine dM 6 (vJ (i : Int)) c.pins ?_
  refine dT (i := 7) rfl rfl (by kernel_rfl) (fun _ _ => zI Tryz.underlying40 sz3 (v := ac) rfl rfl a3 (by omega) (by omega)) c.pins ?_
  refine dT (i := 8) rfl rfl (by kernel_rfl) (fun _ hS => zN (r := (births ns).getD i 0) rfl ag3 (z := (i : Int)) rfl a3 (cB hS (cA f bh)) (by omega) (by omega)) c.pins ?_
  refine dT (i := 10) rfl rfl (by kernel_rfl) (fun _ _ => zK (k := 0) rfl Tryz.underlying76 rfl nz40 rfl) c.pins ?_
  refine dT (i := 11) rfl rfl (by kernel_rfl) (fun _ hS => zM (u := ar) ag40 rfl (hS _ _ _ (bu 0 _ rfl))) c.pins ?_
  refine dT (i := 12) rfl rfl (by kernel_rfl) (fun _ _ => zK (k := 0) rfl Tryz.underlying76 rfl nz40 rfl) c.pins ?_
  refine dT (i := 13) rfl rfl (by kernel_rfl) (fun _ hS => zM (u := av) ag40 rfl (hS _ _ _ (bv 0 _ rfl))) c.pins ?_
  refine dT (i := 15) rfl rfl (by kernel_rfl) (fun _ _ => zK (k := 1) rfl Tryz.underlying76 rfl nz40 rfl) c.pins ?_
  refine dT (i := 16) rfl rfl (by kernel_rfl) (fun _ hS => zM (u := au) ag40 rfl (hS _ _ _ (bu 1 _ rfl))) c.pins ?_
  refine dT (i := 17) rfl rfl (by kernel_rfl) (fun _ _ => zK (k := 1) rfl Tryz.underlying76 rfl nz40 rfl) c.pins ?_
  refine dT (i := 18) rfl rfl (by kernel_rfl) (fun _ hS => zM (u := aw) ag40 rfl (hS _ _ _ (bv 1 _ rfl))) c.pins ?_
  refine dP (i := 9) rfl rfl (zO (vs := [vJ ((births ns).getD ((i : Int) - 1).toNat 0), vJ ((births ns).getD i 0)]) Tryz.func41 nm41 rfl rfl rfl ?_)
  refine cC (fC c.pins) ?_
  rintro _ _ ⟨rfl, rfl⟩
  refine rt9 (⟨fun _ => c.pins, ?_⟩)
  refine dP (i := 14) rfl rfl (zO (vs := [ar, av]) Tryz.func42 nm42 rfl rfl rfl ?_)
  refine cC (fE c.pins c9 db) ?_
  rintro _ _ ⟨rfl, rfl⟩
  refine rt9 (⟨fun _ => c.pins, ?_⟩)
  refine dP (i := 19) rfl rfl (zO (vs := [au, aw]) Tryz.func42 nm42 rfl rfl rfl ?_)
  refine cC (fE c.pins da dc) ?_
  rintro _ _ ⟨rfl, rfl⟩
  refine rt9 (⟨fun _ => c.pins, ?_⟩)
  refine dP (i := 20) rfl rfl (yX (E := eInt) (e := 3) [vJ (cmpI ((births ns).getD ((i : Int) - 1).toNat 0) ((births ns).getD i 0)), vJ (cmpL ((ns.getD ((i : Int) - 1).toNat default).l) ((ns.getD i default).l)), vJ (cmpL ((ns.getD ((i : Int) - 1).toNat default).r) ((ns.getD i default).r))] [cmpI ((births ns).getD ((i : Int) - 1).toNat 0) ((births ns).getD i 0), cmpL ((ns.getD ((i : Int) - 1).toNat default).l) ((ns.getD i default).l), cmpL ((ns.getD ((i : Int) - 1).toNat default).r) ((ns.getD i default).r)] Tryz.underlying40 sz3 zr3 (by exact reps3 (by rfl) (by rfl) (by rfl)) (ones3 (by rfl) (by rfl) (by rfl)) rfl rfl rfl rfl (by decide) c.pins (fun bx de df dg dh fj => ?_))
  have bz := c.step dg dh
  have di := df.weaken c.size
  refine ⟨fun _ => bz.pins, ?_⟩
  obtain ⟨dj, bi, ax, dk, fk⟩ := di.sealed bz
  refine dP (i := 21) rfl rfl (zO (vs := [bx]) Tryz.func40 nm40 rfl rfl rfl ?_)
  refine cC (cmpOr_spec ax.pins dk) ?_
  rintro _ _ ⟨rfl, rfl⟩
  refine rt9 (⟨fun _ => (cB ax.pins bi), ?_⟩)
  refine dT (i := 22) rfl rfl (by kernel_rfl) (fun _ _ => vU rfl rfl) (cB ax.pins bi) ?_
  refine zY (by kernel_rfl) (zA (yE (p := (0 : Int) ≤ (orL ([cmpI ((births ns).getD ((i : Int) - 1).toNat 0) ((births ns).getD i 0), cmpL ((ns.getD ((i : Int) - 1).toNat default).l) ((ns.getD i default).l), cmpL ((ns.getD ((i : Int) - 1).toNat default).r) ((ns.getD i default).r)]))) rfl rfl (fun dl => ?_) (fun dl => ?_)))
  refine w9d ?_
  refine qM (.bool false) ?_
  refine qe (zA ?_)
  exact cN (zQ (zS (v := .bool false) rfl rfl rfl (⟨_, cgA eB (goodB_false.2 (fun g => by have := g.sorted i (by omega) (by omega); unfold pairC at this; rw [show i - 1 = ((i : Int) - 1).toNat by omega] at this; omega)).symm, ax⟩)))
  refine cM (w9c ?_)
  refine qM (vJ (i : Int)) ?_
  refine qD rfl (yP rfl rfl (by omega)) (qM (vJ ((i : Int) + 1)) ?_)
  refine qe (yK ?_)
  have hstep : pairC ns (births ns) i < 0 := by
   unfold pairC; rw [show i - 1 = ((i : Int) - 1).toNat by omega]; omega
  refine ⟨_, ?_, _, rfl, _, i + 1, dj, (pS 6 (pS 5 (pU 1))), rfl, ax, (cA (cA f bh) bi), (by omega), (fun k h1 h2 => if h3 : k = i then h3 ▸ hstep else hsr k h1 (by omega))⟩
  omega
 refine yQ (S := fun wz => Pins aq wz) (last := 14) (by kernel_rfl) rfl ?_
 have b0 := bdr bd
 have dn := ad.pins.below b0
 have o := ad.step dn b0
 refine dT (i := 0) rfl rfl (by kernel_rfl) (fun _ _ => zK (k := 0) rfl Tryz.underlying26 rfl nz24 rfl) o.pins ?_
 refine dT (i := 1) rfl rfl (by kernel_rfl) (fun _ hS => zM (u := v) ag24 rfl ((cB hS (cA (cA (cA d m.le) q) f)) _ _ _ (y 0 _ rfl))) o.pins ?_
 refine dM 2 (vJ (i : Int)) o.pins ?_
 refine dT (i := 3) rfl rfl (by kernel_rfl) (fun _ _ => xR rfl rfl (by omega)) o.pins ?_
 refine dT (i := 4) rfl rfl (by kernel_rfl) (fun _ _ => zI Tryz.underlying24 sz76 (v := v) rfl rfl hv (by omega) (by omega)) o.pins ?_
 obtain ⟨ae, af, ay, az, dp⟩ := vD (hv.at (z := (i : Int) - 1) (by omega) (by omega)) (j := ((i : Int) - 1).toNat) rfl
 have fl := ay.max
 have fm := az.max
 refine dT (i := 5) rfl rfl (by kernel_rfl) (fun _ hS => dp ag76 sz76 rfl (cB hS (cA (cA (cA (cA s d) m.le) q) f))) o.pins ?_
 refine dT (i := 6) rfl rfl (by kernel_rfl) (fun _ _ => zK (k := 0) rfl Tryz.underlying26 rfl nz24 rfl) o.pins ?_
 refine dT (i := 7) rfl rfl (by kernel_rfl) (fun _ hS => zM (u := v) ag24 rfl ((cB hS (cA (cA (cA d m.le) q) f)) _ _ _ (y 0 _ rfl))) o.pins ?_
 refine dM 8 (vJ (i : Int)) o.pins ?_
 refine dT (i := 9) rfl rfl (by kernel_rfl) (fun _ _ => zI Tryz.underlying24 sz76 (v := v) rfl rfl hv (by omega) (by omega)) o.pins ?_
 obtain ⟨ag, ah, a0, a1, dq⟩ := vD (hv.at (z := (i : Int)) (by omega) (by omega)) (j := i) rfl
 have fn := a0.max
 have fo := a1.max
 refine dT (i := 10) rfl rfl (by kernel_rfl) (fun _ hS => dq ag76 sz76 rfl (cB hS (cA (cA (cA (cA s d) m.le) q) f))) o.pins ?_
 refine jN (i := 11) (j := 12) (by kernel_rfl) ?_ ?_
 refine (dQ (i := 11) rfl rfl (yN [vN, vN] zr76 rfl o.pins (fun b2 fp fq b3 dr ds => ?_)))
 have a4 := o.step dr ds
 have b4 : w.heap.size ≤ b2 := by have := o.size; omega
 refine ⟨fun _ => a4.pins, ?_⟩
 refine dP (i := 12) rfl rfl (yN [vN, vN] zr76 rfl a4.pins (fun b5 fr dt du dv b6 => ?_))
 have bk := a4.step dv b6
 have dw := b3.below b6
 have b7 := zF (cgA some dt) b3.lt
 have b8 : w.heap.size ≤ b5 := by have := a4.size; omega
 refine ⟨fun _ => bk.pins, ?_⟩
 refine dO (i := 13) (xJ (i := 13) rfl rfl rfl (yB rfl _) (o_stp (cs' := [ae, af]) (us := [ae, af]) (v := .agg #[ae, af]) sz76 rfl rfl rfl (jZ ay.one az.one) bk.pins dw (cD rfl) rfl (fun fs dx dy b9 ft => ?_)))
 have dz := bk.write dy b9 ((zW b4))
 have d0 := du.keptA b9 b7
 obtain ⟨fu, ak, bl, d1, d2⟩ := dx.shut dz b4
 have d3 := d0.moreA d2 b7
 refine ⟨fun _ => (cB bl.pins ak), ?_⟩
 refine dO (i := 14) (xJ (i := 14) rfl rfl rfl (yB rfl _) (o_stp (cs' := [ag, ah]) (us := [ag, ah]) (v := .agg #[ag, ah]) sz76 rfl rfl rfl (jZ a0.one a1.one) bl.pins d3 (cD rfl) rfl (fun fv d4 d5 d6 fw => ?_)))
 have d7 := bl.write d5 d6 ((zW b8))
 obtain ⟨d8, al, d9, ea, fx⟩ := d4.shut d7 b8
 refine ⟨fun h => absurd rfl h, ?_⟩
 exact zY (by kernel_rfl) (qL ⟨_, b2, ae, af, b5, ag, ah, d8, (pS 8 (pS 7 (pS 6 (pS 5 (pU 1))))), d9, (cA ak al), (ay.mono (cA (cA (cA (cA (cA (cA s d) m.le) q) f) ak) al)), (az.mono (cA (cA (cA (cA (cA (cA s d) m.le) q) f) ak) al)), (a0.mono (cA (cA (cA (cA (cA (cA s d) m.le) q) f) ak) al)), (a1.mono (cA (cA (cA (cA (cA (cA s d) m.le) q) f) ak) al)), (d1.mono al), (ea.mono (cI _))⟩)
 refine (dQ (i := 12) rfl rfl (yN [vN, vN] zr76 rfl o.pins (fun ca fy fz cb eb ec => ?_)))
 have a5 := o.step eb ec
 have cc : w.heap.size ≤ ca := by have := o.size; omega
 refine ⟨fun _ => a5.pins, ?_⟩
 refine dP (i := 11) rfl rfl (yN [vN, vN] zr76 rfl a5.pins (fun cd f0 ed ee ef ce => ?_))
 have bm := a5.step ef ce
 have eg := cb.below ce
 have cf := zF (cgA some ed) cb.lt
 have cg : w.heap.size ≤ cd := by have := a5.size; omega
 refine ⟨fun _ => bm.pins, ?_⟩
 refine dO (i := 13) (xJ (i := 13) rfl rfl rfl (yB rfl _) (o_stp (cs' := [ae, af]) (us := [ae, af]) (v := .agg #[ae, af]) sz76 rfl rfl rfl (jZ ay.one az.one) bm.pins ee (cD rfl) rfl (fun f1 eh ei ch f2 => ?_)))
 have ej := bm.write ei ch ((zW cg))
 have ek := eg.keptA ch cf.symm
 obtain ⟨f3, am, bn, el, em⟩ := eh.shut ej cg
 have eo := ek.moreA em cf.symm
 refine ⟨fun _ => (cB bn.pins am), ?_⟩
 refine dO (i := 14) (xJ (i := 14) rfl rfl rfl (yB rfl _) (o_stp (cs' := [ag, ah]) (us := [ag, ah]) (v := .agg #[ag, ah]) sz76 rfl rfl rfl (jZ a0.one a1.one) bn.pins eo (cD rfl) rfl (fun f4 ep eq er f5 => ?_)))
 have es := bn.write eq er ((zW cc))
 obtain ⟨et, an, eu, ev, f6⟩ := ep.shut es cc
 refine ⟨fun h => absurd rfl h, ?_⟩
 exact zY (by kernel_rfl) (qL ⟨_, cd, ae, af, ca, ag, ah, et, (pS 8 (pS 7 (pS 6 (pS 5 (pU 1))))), eu, (cA am an), (ay.mono (cA (cA (cA (cA (cA (cA s d) m.le) q) f) am) an)), (az.mono (cA (cA (cA (cA (cA (cA s d) m.le) q) f) am) an)), (a0.mono (cA (cA (cA (cA (cA (cA s d) m.le) q) f) am) an)), (a1.mono (cA (cA (cA (cA (cA (cA s d) m.le) q) f) am) an)), (el.mono an), (ev.mono (cI _))⟩)
 refine cO (zZ (yM (yL (w9a ?_))))
 refine qD rfl (zK (k := 0) rfl Tryz.underlying26 rfl nz24 rfl) (qD rfl (zM (u := v) ag24 rfl ((cB ad.pins (cA (cA (cA d m.le) q) f)) _ _ _ (y 0 _ rfl))) (qD rfl (zK (k := 0) rfl Tryz.underlying26 rfl nz24 rfl) (qD rfl (zM (u := v) ag24 rfl ((cB ad.pins (cA (cA (cA d m.le) q) f)) _ _ _ (y 0 _ rfl))) (qD rfl (run_len Tryz.underlying24 (v := v) rfl hv) (qD rfl (xR rfl rfl (by omega)) (qI rfl (zO (vs := [v, vJ ((ns.length : Int) - 1)]) Tryz.func44 nm44 rfl rfl rfl ?_)))))))
 refine cC (used_spec ad.pins (hv.mono (cA (cA (cA (cA s d) m.le) q) f)) (pV hopts) (by omega)) ?_
 rintro _ ew ⟨ci, ex, rfl, ey, ez⟩
 refine rt9 ?_
 have e0 := ad.tr ez
 have e1 := ey.weaken ad.size
 obtain ⟨f7, f8, cj, e2, f9⟩ := e1.sealed e0
 refine qI rfl (zO (vs := [ci, .bool false]) Tryz.func43 nm43 rfl rfl rfl ?_)
 refine cC (rI cj.pins e2) ?_
 rintro _ _ ⟨rfl, rfl⟩
 refine rt9 (qD rfl (xM rfl) (qM (.bool (!(decide ((0 : Int) ≤ idxB (usedM ns ((ns.length : Int) - 1).toNat) false)))) ?_))
 refine qe (zA ?_)
 exact cN (zQ (zS (v := .bool (!(decide ((0 : Int) ≤ idxB (usedM ns ((ns.length : Int) - 1).toNat) false)))) rfl rfl rfl (⟨_, cgA eB (goodB_used (by omega) (by omega) (by omega) hopts (fun k h1 h2 => hsr k h1 (by omega))).symm, cj⟩)))
end B1
namespace C1
open B1
variable {G : Pin} {x : Int} {v u : Value} {xs : List Int}
theorem jJ {w : World} {a b : Int} (hP : Pins G w) :
  Calls Tryz.prog 22 #[.int .i64 x, .int .i64 a, .int .i64 b] w fun e w' => e = .returned (.bool (decide (a ≤ x ∧ x ≤ b))) ∧ w' = w := by
 refine yA (n := 15) Tryz.func22 Tryz.ntmps22 rfl rfl ?_
 have hX0 := exr noS hP
 refine w9d ?_
 refine qM (.bool false) ?_
 refine qe (w9a ?_)
 refine qM (.int .i64 x) ?_
 refine qM (.int .i64 a) ?_
 refine qD rfl (vU rfl rfl) (qM (.bool (decide ((a : Int) ≤ x))) ?_)
 refine qbd (p := (a : Int) ≤ x) (t := 10) rfl (fun h1 => ?_) (fun h1 => ?_)
 refine qN (zU (v := .int .i64 x) rfl) ?_
 refine qN (zU (v := .int .i64 b) rfl) ?_
 refine qN (gN rfl rfl) ?_
 refine qD rfl (yJ (v := .bool (decide ((x : Int) ≤ b))) rfl rfl) (qM (.bool (decide ((x : Int) ≤ b))) ?_)
 refine qe (zA ?_)
 exact cN (zQ (zS (v := .bool (decide ((x : Int) ≤ b))) rfl rfl rfl (⟨cgA eB (decide_eq_decide.2 (by omega)), rfl⟩)))
 refine qW ?_
 refine qW ?_
 refine qW ?_
 refine qD rfl (yH (v := .bool false) rfl rfl) (qM (.bool false) ?_)
 refine qe (zA ?_)
 exact cN (zQ (zS (v := .bool false) rfl rfl rfl (⟨cgA eB ((decide_eq_false (by omega)).symm), rfl⟩)))
theorem rD {w : World} {y : Int} (hP : Pins G w) :
  Calls Tryz.prog 83 #[.int .i64 x, .int .i64 y] w fun e w' => e = .returned (.int .i64 (max x y)) ∧ w' = w := by
 refine yA (n := 10) Tryz.func83 Tryz.ntmps83 rfl rfl ?_
 have hX0 := exr noS hP
 refine w9d ?_
 refine qM (.int .i64 0) ?_
 refine qe (zA (w9b ?_))
 refine qM (.int .i64 x) ?_
 refine qM (.int .i64 y) ?_
 refine qD rfl (jV rfl rfl) (qe (zA ?_))
 refine yE (p := (y : Int) < x) rfl rfl (fun h1 => ?_) (fun h1 => ?_)
 refine w9d ?_
 refine qM (.int .i64 x) ?_
 refine qM (.int .i64 x) ?_
 refine qe (zA ?_)
 exact cN (zQ (zS (v := .int .i64 x) rfl rfl rfl (⟨cgA eI (by omega), rfl⟩)))
 refine cM (w9a ?_)
 refine qM (.int .i64 y) ?_
 refine qM (.int .i64 y) ?_
 refine qe (zA ?_)
 exact cN (zQ (zS (v := .int .i64 y) rfl rfl rfl (⟨cgA eI (by omega), rfl⟩)))
theorem fU {w : World} {lo hi : Int} (hP : Pins G w) (hv : RSl eInt G v xs) :
  Calls Tryz.prog 49 #[v, vJ lo, vJ hi] w fun e w' => e = .returned (.bool (decP (Rise xs lo hi))) ∧ Ext noS G w G w' := by
 refine yA (n := 38) Tryz.func49 Tryz.ntmps49 rfl rfl ?_
 have h := exr noS hP
 have hm := hv.max
 refine w9d ?_
 refine qM (.bool false) ?_
 refine qe (zA (w9b ?_))
 refine qM (vJ 0) ?_
 refine qe (zA ?_)
 refine zX (yO (fun k en W => ∃ (f : Nat → Value) (j : Nat), en = (upd (upd (upd (upd f 0 v) 1 (vJ lo)) 2 (vJ hi)) 7 (vJ (j : Int))) ∧ k = xs.length - j ∧ Ext noS G w G W ∧ (j ≤ xs.length) ∧ (∀ i, i < j → (lo ≤ xs.getD i 0 ∧ xs.getD i 0 ≤ hi) ∧ (0 < i → xs.getD (i - 1) 0 < xs.getD i 0))) _ ⟨_, 0, (pS 7 (pS 2 (pS 1 (pU 0)))), rfl, h, cH _, (fun i hi => absurd hi (cJ i))⟩ ?_)
 rintro u _ c ⟨f, j, rfl, x, d, hj, hp⟩
 refine w9b ?_
 refine qM (vJ (j : Int)) ?_
 refine qM v ?_
 refine qD rfl (run_len dB (v := v) rfl hv) (qD rfl (yR rfl rfl) (qe (zA ?_)))
 refine yE (p := ((j : Int) : Int) < (xs.length : Int)) rfl rfl (fun l => ?_) (fun l => ?_)
 refine cM (zA (zB ?_))
 refine zX (zB (yQ (S := fun wz => Pins G wz) (last := 24) (by kernel_rfl) rfl ?_))
 have g := bdr c
 have m := d.pins.below g
 have a := d.step m g
 refine dM 0 v a.pins ?_
 refine dM 1 (vJ (j : Int)) a.pins ?_
 refine dT (i := 2) rfl rfl (by kernel_rfl) (fun _ _ => zI dB sz3 (v := v) rfl rfl hv (by omega) (by omega)) a.pins ?_
 refine dT (i := 3) rfl rfl (by kernel_rfl) (fun _ hS => zN (r := xs.getD j 0) rfl ag3 (z := (j : Int)) rfl hv hS (by omega) (by omega)) a.pins ?_
 refine dM 4 (vJ lo) a.pins ?_
 refine dM 5 (vJ hi) a.pins ?_
 refine dP (i := 6) rfl rfl (zO (vs := [vJ (xs.getD j 0), vJ lo, vJ hi]) Tryz.func22 nm22 rfl rfl rfl ?_)
 refine cC (jJ a.pins) ?_
 rintro _ _ ⟨rfl, rfl⟩
 refine rt9 (⟨fun _ => a.pins, ?_⟩)
 refine dT (i := 7) rfl rfl (by kernel_rfl) (fun _ _ => xM rfl) a.pins ?_
 refine dM 8 (.bool (!(decide ((lo : Int) ≤ (xs.getD j 0) ∧ (xs.getD j 0 : Int) ≤ hi)))) a.pins ?_
 refine drbn (t := 22) rfl (fun b => ?_) (fun b => ?_)
 replace b := of_decide_eq_true b
 refine zH (i := 9) rfl rfl rfl (zE rfl rfl rfl rfl) (by kernel_rfl) (fun _ _ => zU (v := vJ (j : Int)) rfl) a.pins (zH (i := 10) rfl rfl rfl (zE rfl rfl rfl rfl) (by kernel_rfl) (fun _ _ => jV rfl rfl) a.pins (zH (i := 11) rfl rfl rfl (zE rfl rfl rfl rfl) (by kernel_rfl) (fun _ _ => zU (v := .bool (decide ((0 : Int) < (j : Int)))) rfl) a.pins (drbd (p := (0 : Int) < (j : Int)) (t := 25) rfl (fun o => ?_) (fun o => ?_))))
 refine zH (i := 12) rfl rfl rfl (zE rfl rfl rfl rfl) (by kernel_rfl) (fun _ _ => zU (v := v) rfl) a.pins (zH (i := 13) rfl rfl rfl (zE rfl rfl rfl rfl) (by kernel_rfl) (fun _ _ => zU (v := vJ (j : Int)) rfl) a.pins (zH (i := 14) rfl rfl rfl (zE rfl rfl rfl rfl) (by kernel_rfl) (fun _ _ => xR rfl rfl (by omega)) a.pins (zH (i := 15) rfl rfl rfl (zE rfl rfl rfl rfl) (by kernel_rfl) (fun _ _ => zI dB sz3 (v := v) rfl rfl hv (by omega) (by omega)) a.pins (zH (i := 16) rfl rfl rfl (zE rfl rfl rfl rfl) (by kernel_rfl) (fun _ hS => zN (r := xs.getD ((j : Int) - 1).toNat 0) rfl ag3 (z := (j : Int) - 1) rfl hv hS (by omega) (by omega)) a.pins (zH (i := 17) rfl rfl rfl (zE rfl rfl rfl rfl) (by kernel_rfl) (fun _ _ => zU (v := v) rfl) a.pins (zH (i := 18) rfl rfl rfl (zE rfl rfl rfl rfl) (by kernel_rfl) (fun _ _ => zU (v := vJ (j : Int)) rfl) a.pins (zH (i := 19) rfl rfl rfl (zE rfl rfl rfl rfl) (by kernel_rfl) (fun _ _ => zI dB sz3 (v := v) rfl rfl hv (by omega) (by omega)) a.pins (zH (i := 20) rfl rfl rfl (zE rfl rfl rfl rfl) (by kernel_rfl) (fun _ hS => zN (r := xs.getD j 0) rfl ag3 (z := (j : Int)) rfl hv hS (by omega) (by omega)) a.pins (zH (i := 21) rfl rfl rfl (zE rfl rfl rfl rfl) (by kernel_rfl) (fun _ _ => vU rfl rfl) a.pins (zH (i := 22) rfl rfl rfl (zE rfl rfl rfl rfl) (by kernel_rfl) (fun _ _ => yJ (v := .bool (decide ((xs.getD j 0 : Int) ≤ (xs.getD ((j : Int) - 1).toNat 0)))) rfl rfl) a.pins (dT (i := 23) rfl rfl (by kernel_rfl) (fun _ _ => yH (v := .bool (decide ((xs.getD j 0 : Int) ≤ (xs.getD ((j : Int) - 1).toNat 0)))) rfl rfl) a.pins ?_)))))))))))
 refine zY (by kernel_rfl) (zA (yE (p := (xs.getD j 0 : Int) ≤ (xs.getD ((j : Int) - 1).toNat 0)) rfl rfl (fun q => ?_) (fun q => ?_)))
 refine w9d ?_
 refine qM (.bool false) ?_
 refine qe (zA ?_)
 exact cN (zQ (zS (v := .bool false) rfl rfl rfl (⟨cgA eB (decP_false.2 (fun hR => by have := hR j (by omega); rw [show j - 1 = ((j : Int) - 1).toNat by omega] at this; omega)).symm, a⟩)))
 refine cM (w9c ?_)
 refine qM (vJ (j : Int)) ?_
 refine qD rfl (yP rfl rfl (by omega)) (qM (vJ ((j : Int) + 1)) ?_)
 refine qe (yK (⟨_, ?_, _, rfl, _, j + 1, (pS 7 (pS 2 (pS 1 (pU 0)))), rfl, a, (by omega), (nM hp (by omega) (fun s => by rw [show j - 1 = ((j : Int) - 1).toNat by omega]; omega))⟩))
 omega
 refine zD (i := 12) rfl rfl (zG rfl rfl rfl rfl rfl) (by kernel_rfl) a.pins (zD (i := 13) rfl rfl (zG rfl rfl rfl rfl rfl) (by kernel_rfl) a.pins (zD (i := 14) rfl rfl (zG rfl rfl rfl rfl rfl) (by kernel_rfl) a.pins (zD (i := 15) rfl rfl (zG rfl rfl rfl rfl rfl) (by kernel_rfl) a.pins (zD (i := 16) rfl rfl (zG rfl rfl rfl rfl rfl) (by kernel_rfl) a.pins (zD (i := 17) rfl rfl (zG rfl rfl rfl rfl rfl) (by kernel_rfl) a.pins (zD (i := 18) rfl rfl (zG rfl rfl rfl rfl rfl) (by kernel_rfl) a.pins (zD (i := 19) rfl rfl (zG rfl rfl rfl rfl rfl) (by kernel_rfl) a.pins (zD (i := 20) rfl rfl (zG rfl rfl rfl rfl rfl) (by kernel_rfl) a.pins (zD (i := 21) rfl rfl (zG rfl rfl rfl rfl rfl) (by kernel_rfl) a.pins (zH (i := 22) rfl rfl rfl (zE rfl rfl rfl rfl) (by kernel_rfl) (fun _ _ => yH (v := .bool false) rfl rfl) a.pins (dT (i := 23) rfl rfl (by kernel_rfl) (fun _ _ => yH (v := .bool false) rfl rfl) a.pins ?_)))))))))))
 refine zY (by kernel_rfl) (zA (qY rfl rfl (cM (w9c ?_))))
 refine qM (vJ (j : Int)) ?_
 refine qD rfl (yP rfl rfl (by omega)) (qM (vJ ((j : Int) + 1)) ?_)
 refine qe (yK (⟨_, ?_, _, rfl, _, j + 1, (pS 7 (pS 2 (pS 1 (pU 0)))), rfl, a, (by omega), (nM hp (by omega) (fun s => by rw [show j - 1 = ((j : Int) - 1).toNat by omega]; omega))⟩))
 omega
 replace b := of_decide_eq_false b
 refine zD (i := 9) rfl rfl (zG rfl rfl rfl rfl rfl) (by kernel_rfl) a.pins (zD (i := 10) rfl rfl (zG rfl rfl rfl rfl rfl) (by kernel_rfl) a.pins (zD (i := 11) rfl rfl (zG rfl rfl rfl rfl rfl) (by kernel_rfl) a.pins (zD (i := 12) rfl rfl (yC rfl rfl rfl rfl) (by kernel_rfl) a.pins (zD (i := 13) rfl rfl (yC rfl rfl rfl rfl) (by kernel_rfl) a.pins (zD (i := 14) rfl rfl (yC rfl rfl rfl rfl) (by kernel_rfl) a.pins (zD (i := 15) rfl rfl (yC rfl rfl rfl rfl) (by kernel_rfl) a.pins (zD (i := 16) rfl rfl (yC rfl rfl rfl rfl) (by kernel_rfl) a.pins (zD (i := 17) rfl rfl (yC rfl rfl rfl rfl) (by kernel_rfl) a.pins (zD (i := 18) rfl rfl (yC rfl rfl rfl rfl) (by kernel_rfl) a.pins (zD (i := 19) rfl rfl (yC rfl rfl rfl rfl) (by kernel_rfl) a.pins (zD (i := 20) rfl rfl (yC rfl rfl rfl rfl) (by kernel_rfl) a.pins (zD (i := 21) rfl rfl (yC rfl rfl rfl rfl) (by kernel_rfl) a.pins (zD (i := 22) rfl rfl (zG rfl rfl rfl rfl rfl) (by kernel_rfl) a.pins (dT (i := 23) rfl rfl (by kernel_rfl) (fun _ _ => yJ (v := .bool true) rfl rfl) a.pins ?_))))))))))))))
 refine zY (by kernel_rfl) (zA (xW rfl rfl (w9d ?_)))
 refine qM (.bool false) ?_
 refine qe (zA ?_)
 exact cN (zQ (zS (v := .bool false) rfl rfl rfl (⟨cgA eB (decP_false.2 (fun hR => by have := hR j (by omega); rw [show j - 1 = ((j : Int) - 1).toNat by omega] at this; omega)).symm, a⟩)))
 refine cO (zZ (yM (yL (w9a ?_))))
 refine qM (.bool true) ?_
 refine qe (zA ?_)
 exact cN (zQ (zS (v := .bool true) rfl rfl rfl (⟨cgA eB (decP_true.2 (Rise.done (by omega) hp)).symm, d⟩)))
theorem l3Fits_spec {w : World} {ns : List Nd} (hP : Pins G w) (hv : RSl eNode G v ns) :
  Calls Tryz.prog 48 [.agg #[v]].toArray w fun e w' => ∃ G', e = .returned (.bool (decP (FitsP ns))) ∧ Ext noS G w G' w' := by
 refine yA (n := 37) Tryz.func48 Tryz.ntmps48 rfl rfl ?_
 have c := exr noS hP
 have hm := hv.max
 refine w9d ?_
 refine qI rfl (xH [v] (v := .agg #[v]) rfl rfl c.pins (fun d w2 am q s x => ?_))
 have y := c.step s x
 have aa : w.heap.size ≤ d := by have := c.size; omega
 obtain ⟨G9, f, ac, b, an⟩ := q.shut y aa
 refine qM (.bool false) ?_
 refine qe (zA (w9b ?_))
 refine qM (vJ 0) ?_
 refine qe (zA ?_)
 refine zX (yO (fun k en W => ∃ (h : Nat → Value) (j : Nat), en = (upd (upd h 1 (vP d)) 3 (vJ (j : Int))) ∧ k = 121 - j ∧ Ext noS G w G9 W ∧ (j ≤ ns.length ∧ j ≤ 121) ∧ (∀ k, k < j → (ns.getD k default).l.length ≤ 24 ∧ (ns.getD k default).r.length ≤ 24)) _ ⟨_, 0, (pS 3 (pU 1)), rfl, ac, (by omega), (fun i hi => absurd hi (cJ i))⟩ ?_)
 rintro ao _ ap ⟨h, j, rfl, aq, a, hj, hp⟩
 refine w9b ?_
 refine qM (vJ (j : Int)) ?_
 refine qD rfl (zK (k := 0) rfl dE rfl nz24 rfl) (qD rfl (zM (u := v) ag24 rfl (a.pins _ _ _ (b 0 _ rfl))) (qD rfl (run_len dC (v := v) rfl hv) (qD rfl (yR rfl rfl) (qM (.bool (decide (((j : Int) : Int) < (ns.length : Int)))) ?_))))
 refine qbd (p := ((j : Int) : Int) < (ns.length : Int)) (t := 9) rfl (fun ad => ?_) (fun ad => ?_)
 refine qN (zU (v := vJ (j : Int)) rfl) ?_
 refine qN (gN rfl rfl) ?_
 refine qD rfl (yJ (v := .bool (decide (((j : Int) : Int) ≤ 120))) rfl rfl) (qe (zA ?_))
 refine yE (p := ((j : Int) : Int) ≤ 120) rfl rfl (fun ae => ?_) (fun ae => ?_)
 refine cM (zA (zB ?_))
 refine zX (w9d ?_)
 refine qD rfl (zK (k := 0) rfl dE rfl nz24 rfl) (qD rfl (zM (u := v) ag24 rfl (a.pins _ _ _ (b 0 _ rfl))) (qM (vJ (j : Int)) ?_))
 refine qD rfl (zI dC sz76 (v := v) rfl rfl hv (by omega) (by omega)) (qD rfl (yI (off := 0) dF rfl rfl nz40 (z := (j : Int)) (k := 0) rfl hv (by omega) (by omega)) ?_)
 obtain ⟨af, m, ag⟩ := jC (hv.at (z := (j : Int)) (by omega) (by omega)) (j := j) rfl
 have ar := m.max
 refine qD rfl (ag ag40 rfl (cB a.pins f)) (qD rfl (run_len dB (v := af) rfl m) (qD rfl (jV rfl rfl) (qM (.bool (decide ((24 : Int) < (((ns.getD j default).l).length : Int)))) ?_)))
 refine qbd (p := (24 : Int) < (((ns.getD j default).l).length : Int)) (t := 23) rfl (fun ah => ?_) (fun ah => ?_)
 refine qW ?_
 refine qW ?_
 refine qW ?_
 refine qW ?_
 refine qW ?_
 refine qW ?_
 refine qW ?_
 refine qW ?_
 refine qD rfl (yJ (v := .bool true) rfl rfl) (qe (zA ?_))
 refine xW rfl rfl (w9d ?_)
 refine qM (.bool false) ?_
 refine qe (zA ?_)
 exact cN (zQ (zS (v := .bool false) rfl rfl rfl (⟨_, cgA eB (decP_false.2 (fun g => by have := g.opts j (by omega); omega)).symm, a⟩)))
 refine qN (zK (k := 0) rfl dE rfl nz24 rfl) ?_
 refine qN (zM (u := v) ag24 rfl (a.pins _ _ _ (b 0 _ rfl))) ?_
 refine qN (zU (v := vJ (j : Int)) rfl) ?_
 refine qN (zI dC sz76 (v := v) rfl rfl hv (by omega) (by omega)) ?_
 refine qN (yI (off := 1) dF rfl rfl nz40 (z := (j : Int)) (k := 0) rfl hv (by omega) (by omega)) ?_
 obtain ⟨ai, o, aj⟩ := qV (hv.at (z := (j : Int)) (by omega) (by omega)) (j := j) rfl
 have au := o.max
 refine qN (aj ag40 rfl (cB a.pins f)) ?_
 refine qN (run_len dB (v := ai) rfl o) ?_
 refine qN (jV rfl rfl) ?_
 refine qD rfl (yH (v := .bool (decide ((24 : Int) < (((ns.getD j default).r).length : Int)))) rfl rfl) (qe (zA ?_))
 refine yE (p := (24 : Int) < (((ns.getD j default).r).length : Int)) rfl rfl (fun ak => ?_) (fun ak => ?_)
 refine w9d ?_
 refine qM (.bool false) ?_
 refine qe (zA ?_)
 exact cN (zQ (zS (v := .bool false) rfl rfl rfl (⟨_, cgA eB (decP_false.2 (fun g => by have := g.opts j (by omega); omega)).symm, a⟩)))
 refine cM (w9c ?_)
 refine qM (vJ (j : Int)) ?_
 refine qD rfl (yP rfl rfl (by omega)) (qM (vJ ((j : Int) + 1)) ?_)
 refine qe (yK (⟨_, ?_, _, rfl, _, j + 1, (pS 3 (pU 1)), rfl, a, (by omega), (fun k hk => if h3 : k = j then h3 ▸ ⟨by omega, by omega⟩ else hp k (by omega))⟩))
 omega
 refine cO (zZ (yM (yL (w9a ?_))))
 refine qD rfl (zK (k := 0) rfl dE rfl nz24 rfl) (qD rfl (zM (u := v) ag24 rfl (a.pins _ _ _ (b 0 _ rfl))) (qD rfl (run_len dC (v := v) rfl hv) (qI rfl (zO (vs := [vJ (ns.length : Int), vJ 1, vJ 120]) Tryz.func22 nm22 rfl rfl rfl ?_))))
 refine cC (jJ a.pins) ?_
 rintro _ _ ⟨rfl, rfl⟩
 refine rt9 (qM (.bool (decide ((1 : Int) ≤ (ns.length : Int) ∧ ((ns.length : Int) : Int) ≤ 120))) ?_)
 refine qe (zA ?_)
 exact cN (zQ (zS (v := .bool (decide ((1 : Int) ≤ (ns.length : Int) ∧ ((ns.length : Int) : Int) ≤ 120))) rfl rfl rfl (⟨_, cgA eB (fits_end hp (by omega) (by omega)), a⟩)))
 refine qW ?_
 refine qW ?_
 refine qD rfl (yH (v := .bool false) rfl rfl) (qe (zA ?_))
 refine qY rfl rfl (cO (zZ (yM (yL (w9a ?_)))))
 refine qD rfl (zK (k := 0) rfl dE rfl nz24 rfl) (qD rfl (zM (u := v) ag24 rfl (a.pins _ _ _ (b 0 _ rfl))) (qD rfl (run_len dC (v := v) rfl hv) (qI rfl (zO (vs := [vJ (ns.length : Int), vJ 1, vJ 120]) Tryz.func22 nm22 rfl rfl rfl ?_))))
 refine cC (jJ a.pins) ?_
 rintro _ _ ⟨rfl, rfl⟩
 refine rt9 (qM (.bool (decide ((1 : Int) ≤ (ns.length : Int) ∧ ((ns.length : Int) : Int) ≤ 120))) ?_)
 refine qe (zA ?_)
 exact cN (zQ (zS (v := .bool (decide ((1 : Int) ≤ (ns.length : Int) ∧ ((ns.length : Int) : Int) ≤ 120))) rfl rfl rfl (⟨_, cgA eB (fits_end hp (by omega) (by omega)), a⟩)))
theorem fZ {w : World} {n : Int} (hP : Pins G w) (hv : RSl eInt G v xs) (hs : xs.length ≤ 2097152) :
  Calls Tryz.prog 79 #[v, vJ n] w fun e w' => ∃ (u : Value) (G' : Pin), e = .returned u ∧ RSl eInt G' u (putL xs n) ∧ Ext noS G w G' w' := by
 refine yA (n := 45) Tryz.func79 Tryz.ntmps79 rfl rfl ?_
 have cm := exr noS hP
 refine w9d ?_
 refine qM vN ?_
 refine qe (w9a ?_)
 refine qM (vJ 0) ?_
 refine qe (zA (zB ?_))
 refine zX (yO (fun k en W => ∃ (c : Nat → Value) (j : Nat), en = (upd (upd (upd (upd c 0 v) 1 (vJ n)) 4 vN) 5 (vJ (j : Int))) ∧ k = xs.length - j ∧ Ext noS G w G W ∧ (j ≤ xs.length) ∧ (putL xs n = xs.take j ++ putL (xs.drop j) n)) _ ⟨_, 0, (pS 5 (pS 4 (pS 1 (pU 0)))), rfl, cm, cH _, rfl⟩ ?_)
 rintro k1 _ l ⟨c, j, rfl, f3, d, hj, hr⟩
 refine w9b ?_
 refine qM (vJ (j : Int)) ?_
 refine qM v ?_
 refine qD rfl (run_len dB (v := v) rfl hv) (qD rfl (yR rfl rfl) (qM (.bool (decide (((j : Int) : Int) < (xs.length : Int)))) ?_))
 refine qbd (p := ((j : Int) : Int) < (xs.length : Int)) (t := 10) rfl (fun h5 => ?_) (fun h5 => ?_)
 refine qN (zU (v := v) rfl) ?_
 refine qN (zU (v := vJ (j : Int)) rfl) ?_
 refine qN (zI dB sz3 (v := v) rfl rfl hv (by omega) (by omega)) ?_
 refine qN (zN (r := xs.getD j 0) rfl ag3 (z := (j : Int)) rfl hv d.pins (by omega) (by omega)) ?_
 refine qN (zU (v := vJ n) rfl) ?_
 refine qN (yR rfl rfl) ?_
 refine qD rfl (yJ (v := .bool (decide ((xs.getD j 0 : Int) < n))) rfl rfl) (qe (zA ?_))
 refine yE (p := (xs.getD j 0 : Int) < n) rfl rfl (fun h6 => ?_) (fun h6 => ?_)
 refine cM (zA (zX (zC (qM (vJ (j : Int)) ?_))))
 refine qD rfl (yP rfl rfl (by omega)) (qM (vJ ((j : Int) + 1)) ?_)
 refine qe (yD (yK (⟨_, ?_, _, rfl, _, j + 1, (pS 5 (pS 4 (pS 1 (pU 0)))), rfl, d, (by omega), (put_next (by omega) (by omega) hr)⟩)))
 omega
 refine cO (zZ (yM (yL (zA (w9b ?_)))))
 refine qM (vJ (j : Int)) ?_
 refine qM v ?_
 refine qD rfl (run_len dB (v := v) rfl hv) (qD rfl (yR rfl rfl) (qM (.bool (decide (((j : Int) : Int) < (xs.length : Int)))) ?_))
 refine qbd (p := ((j : Int) : Int) < (xs.length : Int)) (t := 24) rfl (fun _ => ?_) (fun h => absurd h5 h)
 refine qN (zU (v := v) rfl) ?_
 refine qN (zU (v := vJ (j : Int)) rfl) ?_
 refine qN (zI dB sz3 (v := v) rfl rfl hv (by omega) (by omega)) ?_
 refine qN (zN (r := xs.getD j 0) rfl ag3 (z := (j : Int)) rfl hv d.pins (by omega) (by omega)) ?_
 refine qN (zU (v := vJ n) rfl) ?_
 refine qN (xY rfl rfl) ?_
 refine qD rfl (yJ (v := .bool (decide ((xs.getD j 0 : Int) = n))) rfl rfl) (qe (zA ?_))
 refine yE (p := (xs.getD j 0 : Int) = n) rfl rfl (fun h8 => ?_) (fun h8 => ?_)
 refine w9d ?_
 refine qM v ?_
 refine qM v ?_
 refine qe (zA ?_)
 exact cN (zQ (zS (v := v) rfl rfl rfl (⟨_, _, rfl, (by rw [put_hit (by omega) (by omega) hr]; exact hv), d⟩)))
 refine cM (zA (zB ?_))
 refine pC (fun (en : Nat → Value) (W : World) => ∃ (c : Nat → Value) (c9 : Value) (af : Pin), en = (upd c 4 c9) ∧ Ext noS G w af W ∧ Pin.le G af ∧ (Own eInt 3 af W w.heap.size c9 (((([]) ++ ((xs.take j).drop 0)) ++ ([n])) ++ ((xs.take xs.length).drop j)))) ?_ ?_
 ·rintro _ f4 ⟨c, c9, af, rfl, cp, f5, cq⟩
  refine zA (cN (zQ (zS (v := c9) rfl rfl rfl ?_)))
  obtain ⟨f6, f7, cr, cs, f8⟩ := cq.sealed cp
  exact ⟨_, _, rfl, (by rw [← put_new (fun h => ⟨by omega, by omega⟩) hr]; exact cs), cr⟩
 refine yQ (S := fun wz => Pins G wz) (last := 13) (by kernel_rfl) rfl ?_
 have bd := bdr l
 have ct := d.pins.below bd
 have a := d.step ct bd
 refine dM 1 v a.pins ?_
 refine dM 2 (vJ (j : Int)) a.pins ?_
 obtain ⟨ax, ay, cu⟩ := qK hv (lo := none) (hi := some ((j : Int))) (0) (j) (cE ⟨rfl, rfl⟩) (cF ⟨_, rfl, (by omega), rfl⟩) (by omega) (by omega)
 refine dT (i := 3) rfl rfl (by kernel_rfl) (fun _ _ => cu dB sz3 rfl rfl rfl) a.pins ?_
 refine dM 5 (vJ n) a.pins ?_
 refine dM 8 v a.pins ?_
 refine dM 9 (vJ (j : Int)) a.pins ?_
 obtain ⟨az, a0, cv⟩ := qK hv (lo := some ((j : Int))) (hi := none) (j) (xs.length) (cF ⟨_, rfl, (by omega), rfl⟩) (cE ⟨rfl, rfl⟩) (by omega) (by omega)
 refine dT (i := 10) rfl rfl (by kernel_rfl) (fun _ _ => cv dB sz3 rfl rfl rfl) a.pins ?_
 refine jN (i := 0) (j := 6) (by kernel_rfl) ?_ ?_
 refine (dQ (i := 0) rfl rfl (xD (E := eInt) (e := 3) dB sz3 a.pins (fun a1 cw cx cy cz f9 => ?_)))
 have f := a.step cy cz
 have ag := cx.weaken a.size
 refine ⟨fun _ => f.pins, ?_⟩
 refine jN (i := 4) (j := 6) (by kernel_rfl) ?_ ?_
 refine (dQ (i := 4) rfl rfl (oA (E := eInt) (v := a1) (u := ax) 8 dB ap3 (by decide) rfl rfl f.pins ag ((ay.mono (cI _)).src f.pins (by decide)) (f.size) (fun c0 ga c1 c2 c3 gb => ?_)))
 have ah := f.write c2 c3 ((yG ag))
 have gc := la2 ([]) ((xs.take j).drop 0)
 refine ⟨fun _ => ah.pins, ?_⟩
 refine dP (i := 6) rfl rfl (yX (E := eInt) (e := 3) [vJ n] [n] dB sz3 zr3 (by exact qG (by rfl)) (yF (by rfl)) rfl rfl rfl rfl (by decide) ah.pins (fun be c4 c5 c6 bf gd => ?_))
 have ai := ah.step c6 bf
 have bg := c1.below bf
 have c7 := c5.weaken ah.size
 refine ⟨fun _ => ai.pins, ?_⟩
 refine dP (i := 7) rfl rfl (oA (E := eInt) (v := c0) (u := be) 8 dB ap3 (by decide) rfl rfl ai.pins bg c7.src (ai.size) (fun c8 ge bh da db gf => ?_))
 have m := ai.write da db ((yG bg))
 have gg := la1 (([]) ++ ((xs.take j).drop 0)) n
 refine ⟨fun _ => m.pins, ?_⟩
 refine dP (i := 11) rfl rfl (oA (E := eInt) (v := c8) (u := az) 8 dB ap3 (by decide) rfl rfl m.pins bh ((a0.mono (cI _)).src m.pins (by decide)) (m.size) (fun bi gh dc dd de gi => ?_))
 have a2 := m.write dd de ((yG bh))
 have gj := la2 ((([]) ++ ((xs.take j).drop 0)) ++ ([n])) ((xs.take xs.length).drop j)
 refine ⟨fun _ => a2.pins, ?_⟩
 refine dM 12 bi a2.pins ?_
 exact zY (by kernel_rfl) (qL ⟨_, bi, G, (pU 4), a2, (cI _), dc⟩)
 refine (dQ (i := 6) rfl rfl (yX (E := eInt) (e := 3) [vJ n] [n] dB sz3 zr3 (by exact qG (by rfl)) (yF (by rfl)) rfl rfl rfl rfl (by decide) f.pins (fun bj df dg dh bk di => ?_)))
 have o := f.step dh bk
 have bl := ag.below bk
 have dj := zL di ag.lt
 have dk := dg.weaken f.size
 refine ⟨fun _ => o.pins, ?_⟩
 refine dP (i := 4) rfl rfl (oA (E := eInt) (v := a1) (u := ax) 8 dB ap3 (by decide) rfl rfl o.pins bl ((ay.mono (cI _)).src o.pins (by decide)) (o.size) (fun dl gk bm dm bn gl => ?_))
 have aj := o.write dm bn ((yG bl))
 have dn := dk.keptA bn dj
 have gm := la2 ([]) ((xs.take j).drop 0)
 refine ⟨fun _ => aj.pins, ?_⟩
 refine dP (i := 7) rfl rfl (oA (E := eInt) (v := dl) (u := bj) 8 dB ap3 (by decide) rfl rfl aj.pins bm dn.src (aj.size) (fun dp gn bo dq dr gp => ?_))
 have q := aj.write dq dr ((yG bm))
 have gq := la1 (([]) ++ ((xs.take j).drop 0)) n
 refine ⟨fun _ => q.pins, ?_⟩
 refine dP (i := 11) rfl rfl (oA (E := eInt) (v := dp) (u := az) 8 dB ap3 (by decide) rfl rfl q.pins bo ((a0.mono (cI _)).src q.pins (by decide)) (q.size) (fun bp gr ds dt du gs => ?_))
 have a3 := q.write dt du ((yG bo))
 have gt := la2 ((([]) ++ ((xs.take j).drop 0)) ++ ([n])) ((xs.take xs.length).drop j)
 refine ⟨fun _ => a3.pins, ?_⟩
 refine dM 12 bp a3.pins ?_
 exact zY (by kernel_rfl) (qL ⟨_, bp, G, (pU 4), a3, (cI _), ds⟩)
 refine (dQ (i := 6) rfl rfl (yX (E := eInt) (e := 3) [vJ n] [n] dB sz3 zr3 (by exact qG (by rfl)) (yF (by rfl)) rfl rfl rfl rfl (by decide) a.pins (fun bq dv dw dx dy gu => ?_)))
 have ak := a.step dx dy
 have br := dw.weaken a.size
 refine ⟨fun _ => ak.pins, ?_⟩
 refine dP (i := 0) rfl rfl (xD (E := eInt) (e := 3) dB sz3 ak.pins (fun bs dz d0 d1 bt d2 => ?_))
 have s := ak.step d1 bt
 have d3 := br.below bt
 have d4 := zL d2 br.lt
 have bu := d0.weaken ak.size
 refine ⟨fun _ => s.pins, ?_⟩
 refine dP (i := 4) rfl rfl (oA (E := eInt) (v := bs) (u := ax) 8 dB ap3 (by decide) rfl rfl s.pins bu ((ay.mono (cI _)).src s.pins (by decide)) (s.size) (fun d5 gv bv d6 bw gw => ?_))
 have al := s.write d6 bw ((yG bu))
 have d7 := d3.keptA bw d4.symm
 have gx := la2 ([]) ((xs.take j).drop 0)
 refine ⟨fun _ => al.pins, ?_⟩
 refine dP (i := 7) rfl rfl (oA (E := eInt) (v := d5) (u := bq) 8 dB ap3 (by decide) rfl rfl al.pins bv d7.src (al.size) (fun d8 gy bx d9 ea gz => ?_))
 have x := al.write d9 ea ((yG bv))
 have g0 := la1 (([]) ++ ((xs.take j).drop 0)) n
 refine ⟨fun _ => x.pins, ?_⟩
 refine dP (i := 11) rfl rfl (oA (E := eInt) (v := d8) (u := az) 8 dB ap3 (by decide) rfl rfl x.pins bx ((a0.mono (cI _)).src x.pins (by decide)) (x.size) (fun bz g1 eb ec ed g2 => ?_))
 have a4 := x.write ec ed ((yG bx))
 have g3 := la2 ((([]) ++ ((xs.take j).drop 0)) ++ ([n])) ((xs.take xs.length).drop j)
 refine ⟨fun _ => a4.pins, ?_⟩
 refine dM 12 bz a4.pins ?_
 exact zY (by kernel_rfl) (qL ⟨_, bz, G, (pU 4), a4, (cI _), eb⟩)
 refine qW ?_
 refine qW ?_
 refine qW ?_
 refine qW ?_
 refine qW ?_
 refine qW ?_
 refine qD rfl (yH (v := .bool false) rfl rfl) (qe (zA ?_))
 refine qY rfl rfl (cO (zZ (yM (yL (zA (w9b ?_))))))
 refine qM (vJ (j : Int)) ?_
 refine qM v ?_
 refine qD rfl (run_len dB (v := v) rfl hv) (qD rfl (yR rfl rfl) (qM (.bool (decide (((j : Int) : Int) < (xs.length : Int)))) ?_))
 refine qbd (p := ((j : Int) : Int) < (xs.length : Int)) (t := 24) rfl (fun h => absurd h h5) (fun _ => ?_)
 refine qW ?_
 refine qW ?_
 refine qW ?_
 refine qW ?_
 refine qW ?_
 refine qW ?_
 refine qD rfl (yH (v := .bool false) rfl rfl) (qe (zA ?_))
 refine qY rfl rfl (cM (zA (zB ?_)))
 refine pC (fun (en : Nat → Value) (W : World) => ∃ (c : Nat → Value) (am : Value) (an : Pin), en = (upd c 4 am) ∧ Ext noS G w an W ∧ Pin.le G an ∧ (Own eInt 3 an W w.heap.size am (((([]) ++ ((xs.take j).drop 0)) ++ ([n])) ++ ((xs.take xs.length).drop j)))) ?_ ?_
 ·rintro _ g4 ⟨c, am, an, rfl, ee, g5, ef⟩
  refine zA (cN (zQ (zS (v := am) rfl rfl rfl ?_)))
  obtain ⟨g6, g7, eg, eh, g8⟩ := ef.sealed ee
  exact ⟨_, _, rfl, (by rw [← put_new (fun h => ⟨by omega, by omega⟩) hr]; exact eh), eg⟩
 refine yQ (S := fun wz => Pins G wz) (last := 13) (by kernel_rfl) rfl ?_
 have b0 := bdr l
 have ei := d.pins.below b0
 have b := d.step ei b0
 refine dM 1 v b.pins ?_
 refine dM 2 (vJ (j : Int)) b.pins ?_
 obtain ⟨a5, a6, ej⟩ := qK hv (lo := none) (hi := some ((j : Int))) (0) (j) (cE ⟨rfl, rfl⟩) (cF ⟨_, rfl, (by omega), rfl⟩) (by omega) (by omega)
 refine dT (i := 3) rfl rfl (by kernel_rfl) (fun _ _ => ej dB sz3 rfl rfl rfl) b.pins ?_
 refine dM 5 (vJ n) b.pins ?_
 refine dM 8 v b.pins ?_
 refine dM 9 (vJ (j : Int)) b.pins ?_
 obtain ⟨a7, a8, ek⟩ := qK hv (lo := some ((j : Int))) (hi := none) (j) (xs.length) (cF ⟨_, rfl, (by omega), rfl⟩) (cE ⟨rfl, rfl⟩) (by omega) (by omega)
 refine dT (i := 10) rfl rfl (by kernel_rfl) (fun _ _ => ek dB sz3 rfl rfl rfl) b.pins ?_
 refine jN (i := 0) (j := 6) (by kernel_rfl) ?_ ?_
 refine (dQ (i := 0) rfl rfl (xD (E := eInt) (e := 3) dB sz3 b.pins (fun a9 el em eo ep g9 => ?_)))
 have g := b.step eo ep
 have ao := em.weaken b.size
 refine ⟨fun _ => g.pins, ?_⟩
 refine jN (i := 4) (j := 6) (by kernel_rfl) ?_ ?_
 refine (dQ (i := 4) rfl rfl (oA (E := eInt) (v := a9) (u := a5) 8 dB ap3 (by decide) rfl rfl g.pins ao ((a6.mono (cI _)).src g.pins (by decide)) (g.size) (fun eq ha er es et hb => ?_)))
 have ap := g.write es et ((yG ao))
 have hc := la2 ([]) ((xs.take j).drop 0)
 refine ⟨fun _ => ap.pins, ?_⟩
 refine dP (i := 6) rfl rfl (yX (E := eInt) (e := 3) [vJ n] [n] dB sz3 zr3 (by exact qG (by rfl)) (yF (by rfl)) rfl rfl rfl rfl (by decide) ap.pins (fun b1 eu ev ew b2 hd => ?_))
 have aq := ap.step ew b2
 have b3 := er.below b2
 have ex := ev.weaken ap.size
 refine ⟨fun _ => aq.pins, ?_⟩
 refine dP (i := 7) rfl rfl (oA (E := eInt) (v := eq) (u := b1) 8 dB ap3 (by decide) rfl rfl aq.pins b3 ex.src (aq.size) (fun ey he b4 ez e0 hf => ?_))
 have y := aq.write ez e0 ((yG b3))
 have hg := la1 (([]) ++ ((xs.take j).drop 0)) n
 refine ⟨fun _ => y.pins, ?_⟩
 refine dP (i := 11) rfl rfl (oA (E := eInt) (v := ey) (u := a7) 8 dB ap3 (by decide) rfl rfl y.pins b4 ((a8.mono (cI _)).src y.pins (by decide)) (y.size) (fun b5 hh e1 e2 e3 hk => ?_))
 have ba := y.write e2 e3 ((yG b4))
 have hl := la2 ((([]) ++ ((xs.take j).drop 0)) ++ ([n])) ((xs.take xs.length).drop j)
 refine ⟨fun _ => ba.pins, ?_⟩
 refine dM 12 b5 ba.pins ?_
 exact zY (by kernel_rfl) (qL ⟨_, b5, G, (pU 4), ba, (cI _), e1⟩)
 refine (dQ (i := 6) rfl rfl (yX (E := eInt) (e := 3) [vJ n] [n] dB sz3 zr3 (by exact qG (by rfl)) (yF (by rfl)) rfl rfl rfl rfl (by decide) g.pins (fun b6 e4 e5 e6 b7 e7 => ?_)))
 have aa := g.step e6 b7
 have b8 := ao.below b7
 have e8 := zL e7 ao.lt
 have e9 := e5.weaken g.size
 refine ⟨fun _ => aa.pins, ?_⟩
 refine dP (i := 4) rfl rfl (oA (E := eInt) (v := a9) (u := a5) 8 dB ap3 (by decide) rfl rfl aa.pins b8 ((a6.mono (cI _)).src aa.pins (by decide)) (aa.size) (fun fa hm b9 fb ca hn => ?_))
 have ar := aa.write fb ca ((yG b8))
 have fc := e9.keptA ca e8
 have ho := la2 ([]) ((xs.take j).drop 0)
 refine ⟨fun _ => ar.pins, ?_⟩
 refine dP (i := 7) rfl rfl (oA (E := eInt) (v := fa) (u := b6) 8 dB ap3 (by decide) rfl rfl ar.pins b9 fc.src (ar.size) (fun fd hp cb fe ff hq => ?_))
 have ab := ar.write fe ff ((yG b9))
 have ht := la1 (([]) ++ ((xs.take j).drop 0)) n
 refine ⟨fun _ => ab.pins, ?_⟩
 refine dP (i := 11) rfl rfl (oA (E := eInt) (v := fd) (u := a7) 8 dB ap3 (by decide) rfl rfl ab.pins cb ((a8.mono (cI _)).src ab.pins (by decide)) (ab.size) (fun cc hu fg fh fi hw => ?_))
 have bb := ab.write fh fi ((yG cb))
 have hx := la2 ((([]) ++ ((xs.take j).drop 0)) ++ ([n])) ((xs.take xs.length).drop j)
 refine ⟨fun _ => bb.pins, ?_⟩
 refine dM 12 cc bb.pins ?_
 exact zY (by kernel_rfl) (qL ⟨_, cc, G, (pU 4), bb, (cI _), fg⟩)
 refine (dQ (i := 6) rfl rfl (yX (E := eInt) (e := 3) [vJ n] [n] dB sz3 zr3 (by exact qG (by rfl)) (yF (by rfl)) rfl rfl rfl rfl (by decide) b.pins (fun cd fj fk fl fm hy => ?_)))
 have au := b.step fl fm
 have ce := fk.weaken b.size
 refine ⟨fun _ => au.pins, ?_⟩
 refine dP (i := 0) rfl rfl (xD (E := eInt) (e := 3) dB sz3 au.pins (fun cf fn fo fp cg fq => ?_))
 have ac := au.step fp cg
 have fr := ce.below cg
 have fs := zL fq ce.lt
 have ch := fo.weaken au.size
 refine ⟨fun _ => ac.pins, ?_⟩
 refine dP (i := 4) rfl rfl (oA (E := eInt) (v := cf) (u := a5) 8 dB ap3 (by decide) rfl rfl ac.pins ch ((a6.mono (cI _)).src ac.pins (by decide)) (ac.size) (fun ft hz ci fu cj h0 => ?_))
 have av := ac.write fu cj ((yG ch))
 have fv := fr.keptA cj fs.symm
 have h1 := la2 ([]) ((xs.take j).drop 0)
 refine ⟨fun _ => av.pins, ?_⟩
 refine dP (i := 7) rfl rfl (oA (E := eInt) (v := ft) (u := cd) 8 dB ap3 (by decide) rfl rfl av.pins ci fv.src (av.size) (fun fw h2 ck fx fy h3 => ?_))
 have ad := av.write fx fy ((yG ci))
 have h4 := la1 (([]) ++ ((xs.take j).drop 0)) n
 refine ⟨fun _ => ad.pins, ?_⟩
 refine dP (i := 11) rfl rfl (oA (E := eInt) (v := fw) (u := a7) 8 dB ap3 (by decide) rfl rfl ad.pins ck ((a8.mono (cI _)).src ad.pins (by decide)) (ad.size) (fun cl h7 fz f0 f1 h9 => ?_))
 have bc := ad.write f0 f1 ((yG ck))
 have ia := la2 ((([]) ++ ((xs.take j).drop 0)) ++ ([n])) ((xs.take xs.length).drop j)
 refine ⟨fun _ => bc.pins, ?_⟩
 refine dM 12 cl bc.pins ?_
 exact zY (by kernel_rfl) (qL ⟨_, cl, G, (pU 4), bc, (cI _), fz⟩)
theorem kB {w : World} {ys : List Int} (hP : Pins G w) (hu : RSl eInt G u xs) (hv : RSl eInt G v ys) :
  Calls Tryz.prog 70 #[u, v] w fun e w' => e = .returned (.bool (decide (xs = ys))) ∧ Ext noS G w G w' := by
 refine yA (n := 26) Tryz.func70 Tryz.ntmps70 rfl rfl ?_
 have f := exr noS hP
 have hm := hu.max
 refine w9d ?_
 refine qM (.bool false) ?_
 refine qe (zA (w9b ?_))
 refine qM u ?_
 refine qD rfl (run_len dB (v := u) rfl hu) (qM v ?_)
 refine qD rfl (run_len dB (v := v) rfl hv) (qD rfl (jU rfl rfl) (qe (zA ?_)))
 refine yE (p := ((xs.length : Int) : Int) ≠ (ys.length : Int)) rfl rfl (fun g => ?_) (fun g => ?_)
 refine w9d ?_
 refine qM (.bool false) ?_
 refine qe (zA ?_)
 exact cN (zQ (zS (v := .bool false) rfl rfl rfl (⟨cgA eB (decide_eq_false (fun e => g (by rw [e]))).symm, f⟩)))
 refine cM (zA (w9b ?_))
 refine qM (vJ 0) ?_
 refine qe (zA ?_)
 refine zX (yO (fun k en W => ∃ (h : Nat → Value) (j : Nat), en = (upd (upd (upd h 0 u) 1 v) 5 (vJ (j : Int))) ∧ k = xs.length - j ∧ Ext noS G w G W ∧ (j ≤ xs.length) ∧ (xs.length = ys.length) ∧ (∀ i, i < j → xs.getD i 0 = ys.getD i 0)) _ ⟨_, 0, (pS 5 (pS 1 (pU 0))), rfl, f, cH _, (by omega), (fun i hi => absurd hi (cJ i))⟩ ?_)
 rintro q _ b ⟨h, j, rfl, s, c, hj, heq, hp⟩
 refine w9b ?_
 refine qM (vJ (j : Int)) ?_
 refine qM u ?_
 refine qD rfl (run_len dB (v := u) rfl hu) (qD rfl (yR rfl rfl) (qe (zA ?_)))
 refine yE (p := ((j : Int) : Int) < (xs.length : Int)) rfl rfl (fun m => ?_) (fun m => ?_)
 refine cM (zA (zB ?_))
 refine zX (zB (yQ (S := fun wz => Pins G wz) (last := 9) (by kernel_rfl) rfl ?_))
 have l := bdr b
 have o := c.pins.below l
 have a := c.step o l
 refine dM 0 u a.pins ?_
 refine dM 1 (vJ (j : Int)) a.pins ?_
 refine dT (i := 2) rfl rfl (by kernel_rfl) (fun _ _ => zI dB sz3 (v := u) rfl rfl hu (by omega) (by omega)) a.pins ?_
 refine dT (i := 3) rfl rfl (by kernel_rfl) (fun _ hS => zN (r := xs.getD j 0) rfl ag3 (z := (j : Int)) rfl hu hS (by omega) (by omega)) a.pins ?_
 refine dM 4 v a.pins ?_
 refine dM 5 (vJ (j : Int)) a.pins ?_
 refine dT (i := 6) rfl rfl (by kernel_rfl) (fun _ _ => zI dB sz3 (v := v) rfl rfl hv (by omega) (by omega)) a.pins ?_
 refine dT (i := 7) rfl rfl (by kernel_rfl) (fun _ hS => zN (r := ys.getD j 0) rfl ag3 (z := (j : Int)) rfl hv hS (by omega) (by omega)) a.pins ?_
 refine dT (i := 8) rfl rfl (by kernel_rfl) (fun _ _ => jU rfl rfl) a.pins ?_
 refine zY (by kernel_rfl) (zA (yE (p := (xs.getD j 0 : Int) ≠ (ys.getD j 0)) rfl rfl (fun d => ?_) (fun d => ?_)))
 refine w9d ?_
 refine qM (.bool false) ?_
 refine qe (zA ?_)
 exact cN (zQ (zS (v := .bool false) rfl rfl rfl (⟨cgA eB (decide_eq_false (fun e => d (by rw [e]))).symm, a⟩)))
 refine cM (w9c ?_)
 refine qM (vJ (j : Int)) ?_
 refine qD rfl (yP rfl rfl (by omega)) (qM (vJ ((j : Int) + 1)) ?_)
 refine qe (yK (⟨_, ?_, _, rfl, _, j + 1, (pS 5 (pS 1 (pU 0))), rfl, a, (by omega), heq, (eqstep hp d)⟩))
 omega
 refine cO (zZ (yM (yL (w9a ?_))))
 refine qM (.bool true) ?_
 refine qe (zA ?_)
 exact cN (zQ (zS (v := .bool true) rfl rfl rfl (⟨cgA eB (decide_eq_true (eqdone heq (by omega) hp)).symm, c⟩)))
theorem qR {w : World} {Gr : Pin} {a : List Int} (hP : Pins G w) (hPr : Pins Gr w) (hu : RSl eInt Gr u a) (hv : RSl eInt G v xs) (hs : xs.length ≤ 1048576) (hk : ∀ i, i < xs.length → 0 ≤ xs.getD i 0 ∧ xs.getD i 0 < a.length) :
  Calls Tryz.prog 60 #[u, v] w fun e w' => ∃ (u : Value) (G' : Pin), e = .returned u ∧ Own eInt 3 G' w' w.heap.size u (atL a xs) ∧ Ext noS G w G' w' := by
 refine yA (n := 25) Tryz.func60 Tryz.ntmps60 rfl rfl ?_
 have c := exr noS hP
 refine w9d ?_
 refine qM vN ?_
 refine qe (w9a ?_)
 refine qI rfl (xD (E := eInt) (e := 3) dB sz3 c.pins (fun d t x y aa am => ?_))
 have ab := c.step y aa
 have ac := x.weaken c.size
 refine qM d ?_
 refine qe (zA (w9b ?_))
 refine qM (vJ 0) ?_
 refine qe (zA ?_)
 refine zX (yO (fun k en W => ∃ (g : Nat → Value) (j : Nat) (o : Value) (os : List Int), en = (upd (upd (upd (upd (upd g 0 u) 1 v) 4 vN) 5 o) 6 (vJ (j : Int))) ∧ k = xs.length - j ∧ Ext noS G w G W ∧ (j ≤ xs.length) ∧ (os = atL a (xs.take j)) ∧ (os.length = j) ∧ (Own eInt 3 G W w.heap.size o (os))) _ ⟨_, 0, d, [], (pS 6 (pS 5 (pS 4 (pS 1 (pU 0))))), rfl, ab, cH _, rfl, rfl, ac⟩ ?_)
 rintro k9 _ ao ⟨g, j, o, os, rfl, ap, b, hj, hr, hol, h⟩
 refine w9b ?_
 refine qM (vJ (j : Int)) ?_
 refine qM v ?_
 refine qD rfl (run_len dB (v := v) rfl hv) (qD rfl (yR rfl rfl) (qe (zA ?_)))
 refine yE (p := ((j : Int) : Int) < (xs.length : Int)) rfl rfl (fun ad => ?_) (fun ad => ?_)
 have hkj := hk j (by omega)
 refine cM (zA (zB ?_))
 refine zX (zC (qM o ?_))
 refine qM u ?_
 refine qM v ?_
 refine qM (vJ (j : Int)) ?_
 refine qD rfl (zI dB sz3 (v := v) rfl rfl hv (by omega) (by omega)) (qD rfl (zN (r := xs.getD j 0) rfl ag3 (z := (j : Int)) rfl hv b.pins (by omega) (by omega)) (qD rfl (zI dB sz3 (v := u) rfl rfl hu (by omega) (by omega)) (qD rfl (zN (r := a.getD (xs.getD j 0).toNat 0) rfl ag3 (z := xs.getD j 0) rfl hu (hPr.ext0 b) (by omega) (by omega)) (qI rfl (yX (E := eInt) (e := 3) [vJ (a.getD (xs.getD j 0).toNat 0)] [a.getD (xs.getD j 0).toNat 0] dB sz3 zr3 (by exact qG (by rfl)) (yF (by rfl)) rfl rfl rfl rfl (by decide) b.pins (fun l ae af ag m aq => ?_))))))
 have f := b.step ag m
 have q := h.below m
 have ah := af.weaken b.size
 refine qI rfl (oA (E := eInt) (v := o) (u := l) 8 dB ap3 (by decide) rfl rfl f.pins q ah.src (f.size) (fun s ar ai aj ak au => ?_))
 have al := f.write aj ak ((yG q))
 have av := la1 os (a.getD (xs.getD j 0).toNat 0)
 refine qM s ?_
 refine qe (w9c ?_)
 refine qM (vJ (j : Int)) ?_
 refine qD rfl (yP rfl rfl (by omega)) (qM (vJ ((j : Int) + 1)) ?_)
 refine qe (yK (⟨_, ?_, _, rfl, _, j + 1, s, os ++ [a.getD (xs.getD j 0).toNat 0], (pS 6 (pS 5 (pS 4 (pS 1 (pU 0))))), rfl, al, (by omega), (by rw [hr, at_next (by omega)]), (by rw [List.length_append, hol]; rfl), ai⟩))
 omega
 refine cO (zZ (yM (yL (w9a ?_))))
 refine qM o ?_
 refine qM o ?_
 refine qe (zA ?_)
 exact cN (zQ (zS (v := o) rfl rfl rfl (⟨_, _, rfl, (by rw [qZ (by omega)] at hr; rw [← hr]; exact h), b⟩)))
theorem xV {w : World} (hP : Pins G w) (hv : RSl eInt G v xs) (hs : xs.length ≤ 1048576) :
  Calls Tryz.prog 72 #[v] w fun e w' => ∃ (u : Value) (G' : Pin), e = .returned u ∧ RSl eInt G' u (sortL xs) ∧ Ext noS G w G' w' := by
 refine yA (n := 19) Tryz.func72 Tryz.ntmps72 rfl rfl ?_
 have c := exr noS hP
 refine w9d ?_
 refine qM vN ?_
 refine qe (w9a ?_)
 refine qI rfl (xD (E := eInt) (e := 3) dB sz3 c.pins (fun d q s t x ai => ?_))
 have y := c.step t x
 have aa := s.weaken c.size
 refine qM d ?_
 refine qe (zA (w9b ?_))
 refine qM (vJ 0) ?_
 refine qe (zA ?_)
 refine zX ?_
 obtain ⟨f, ab, ac, ad, aj⟩ := aa.sealed y
 refine yO (fun k en W => ∃ (g : Nat → Value) (j : Nat) (o : Value) (os : List Int) (a : Pin), en = (upd (upd (upd (upd g 0 v) 2 vN) 3 o) 4 (vJ (j : Int))) ∧ k = xs.length - j ∧ Ext noS G w a W ∧ Pin.le f a ∧ (j ≤ xs.length) ∧ (os = sortL (xs.take j)) ∧ (os.length ≤ j) ∧ (RSl eInt a o (os))) _ ⟨_, 0, d, [], f, (pS 4 (pS 3 (pS 2 (pU 0)))), rfl, ac, cI _, cH _, rfl, cG 0, ad⟩ ?_
 rintro k9 _ al ⟨g, j, o, os, a, rfl, am, b, h, hj, hr, hol, i⟩
 refine w9b ?_
 refine qM (vJ (j : Int)) ?_
 refine qM v ?_
 refine qD rfl (run_len dB (v := v) rfl hv) (qD rfl (yR rfl rfl) (qe (zA ?_)))
 refine yE (p := ((j : Int) : Int) < (xs.length : Int)) rfl rfl (fun ae => ?_) (fun ae => ?_)
 refine cM (zA (zB ?_))
 refine zX (zC (qM o ?_))
 refine qM v ?_
 refine qM (vJ (j : Int)) ?_
 refine qD rfl (zI dB sz3 (v := v) rfl rfl hv (by omega) (by omega)) (qD rfl (zN (r := xs.getD j 0) rfl ag3 (z := (j : Int)) rfl hv (cB b.pins (cA ab h)) (by omega) (by omega)) (qI rfl (zO (vs := [o, vJ (xs.getD j 0)]) Tryz.func79 nm79 rfl rfl rfl ?_)))
 refine cC (fZ b.pins i (by omega)) ?_
 rintro _ an ⟨l, af, rfl, ag, m⟩
 refine rt9 ?_
 have ah := b.tr m
 refine qM l ?_
 refine qe (w9c ?_)
 refine qM (vJ (j : Int)) ?_
 refine qD rfl (yP rfl rfl (by omega)) (qM (vJ ((j : Int) + 1)) ?_)
 refine qe (yK (⟨_, ?_, _, rfl, _, j + 1, l, putL os (xs.getD j 0), af, (pS 4 (pS 3 (pS 2 (pU 0)))), rfl, ah, (cA h m.le), (by omega), (by rw [hr, tD (by omega)]), (cP jW (by omega)), ag⟩))
 omega
 refine cO (zZ (yM (yL (w9a ?_))))
 refine qM o ?_
 refine qM o ?_
 refine qe (zA ?_)
 exact cN (zQ (zS (v := o) rfl rfl rfl (⟨_, _, rfl, (by rw [qZ (by omega)] at hr; rw [← hr]; exact i), b⟩)))
end C1
namespace D1
open C1
theorem pl76 : (Tryz.prog.underlying 76).bind (placesD Tryz.prog) = some [(0, 1), (1, 1)] := by kernel_rfl
variable {G : Pin} {u v : Value} {xs ys : List Int}
theorem rC {w : World} (hP : Pins G w) (hu : RSl eInt G u xs) (hv : RSl eInt G v ys) :
  Calls Tryz.prog 80 #[u, v] w fun e w' => e = .returned (vJ (cmpL xs ys)) ∧ Ext noS G w G w' := by
 refine yA (n := 48) Tryz.func80 Tryz.ntmps80 rfl rfl ?_
 have m := exr noS hP
 have hm := hu.max
 refine w9d ?_
 refine qM (vJ 0) ?_
 refine qe (zA (w9b ?_))
 refine qM (vJ 0) ?_
 refine qe (zA ?_)
 refine zX (yO (fun k en W => ∃ (g : Nat → Value) (j : Nat), en = (upd (upd (upd g 0 u) 1 v) 5 (vJ (j : Int))) ∧ k = xs.length - j ∧ Ext noS G w G W ∧ (j ≤ xs.length ∧ j ≤ ys.length) ∧ (cmpL xs ys = cmpL (xs.drop j) (ys.drop j))) _ ⟨_, 0, (pS 5 (pS 1 (pU 0))), rfl, m, ⟨cH _, cH _⟩, rfl⟩ ?_)
 rintro k1 _ d ⟨g, j, rfl, af, c, hj, hr⟩
 refine w9b ?_
 refine qM (vJ (j : Int)) ?_
 refine qM u ?_
 refine qD rfl (run_len dB (v := u) rfl hu) (qD rfl (yR rfl rfl) (qM (.bool (decide (((j : Int) : Int) < (xs.length : Int)))) ?_))
 refine qbd (p := ((j : Int) : Int) < (xs.length : Int)) (t := 10) rfl (fun o => ?_) (fun o => ?_)
 refine qN (zU (v := vJ (j : Int)) rfl) ?_
 refine qN (zU (v := v) rfl) ?_
 refine qN (run_len dB (v := v) rfl hv) ?_
 refine qN (yR rfl rfl) ?_
 refine qD rfl (yJ (v := .bool (decide (((j : Int) : Int) < (ys.length : Int)))) rfl rfl) (qe (zA ?_))
 refine yE (p := ((j : Int) : Int) < (ys.length : Int)) rfl rfl (fun q => ?_) (fun q => ?_)
 refine cM (zA (zB ?_))
 refine zX (zB (yQ (S := fun wz => Pins G wz) (last := 9) (by kernel_rfl) rfl ?_))
 have h := bdr d
 have s := c.pins.below h
 have a := c.step s h
 refine dM 0 u a.pins ?_
 refine dM 1 (vJ (j : Int)) a.pins ?_
 refine dT (i := 2) rfl rfl (by kernel_rfl) (fun _ _ => zI dB sz3 (v := u) rfl rfl hu (by omega) (by omega)) a.pins ?_
 refine dT (i := 3) rfl rfl (by kernel_rfl) (fun _ hS => zN (r := xs.getD j 0) rfl ag3 (z := (j : Int)) rfl hu hS (by omega) (by omega)) a.pins ?_
 refine dM 4 v a.pins ?_
 refine dM 5 (vJ (j : Int)) a.pins ?_
 refine dT (i := 6) rfl rfl (by kernel_rfl) (fun _ _ => zI dB sz3 (v := v) rfl rfl hv (by omega) (by omega)) a.pins ?_
 refine dT (i := 7) rfl rfl (by kernel_rfl) (fun _ hS => zN (r := ys.getD j 0) rfl ag3 (z := (j : Int)) rfl hv hS (by omega) (by omega)) a.pins ?_
 refine dT (i := 8) rfl rfl (by kernel_rfl) (fun _ _ => jU rfl rfl) a.pins ?_
 refine zY (by kernel_rfl) (zA (yE (p := (xs.getD j 0 : Int) ≠ (ys.getD j 0)) rfl rfl (fun x => ?_) (fun x => ?_)))
 refine zB (zB ?_)
 refine yQ (S := fun wz => Pins G wz) (last := 9) (by kernel_rfl) rfl ?_
 have l : Below d.drew.heap.size d.drew d.drew.drew := (Below.refl _ _).drew
 have y := a.pins.below l
 have b := a.step y l
 refine dM 0 u b.pins ?_
 refine dM 1 (vJ (j : Int)) b.pins ?_
 refine dT (i := 2) rfl rfl (by kernel_rfl) (fun _ _ => zI dB sz3 (v := u) rfl rfl hu (by omega) (by omega)) b.pins ?_
 refine dT (i := 3) rfl rfl (by kernel_rfl) (fun _ hS => zN (r := xs.getD j 0) rfl ag3 (z := (j : Int)) rfl hu hS (by omega) (by omega)) b.pins ?_
 refine dM 4 v b.pins ?_
 refine dM 5 (vJ (j : Int)) b.pins ?_
 refine dT (i := 6) rfl rfl (by kernel_rfl) (fun _ _ => zI dB sz3 (v := v) rfl rfl hv (by omega) (by omega)) b.pins ?_
 refine dT (i := 7) rfl rfl (by kernel_rfl) (fun _ hS => zN (r := ys.getD j 0) rfl ag3 (z := (j : Int)) rfl hv hS (by omega) (by omega)) b.pins ?_
 refine dT (i := 8) rfl rfl (by kernel_rfl) (fun _ _ => yR rfl rfl) b.pins ?_
 refine zY (by kernel_rfl) (zA (yE (p := (xs.getD j 0 : Int) < (ys.getD j 0)) rfl rfl (fun f => ?_) (fun f => ?_)))
 refine w9d ?_
 refine qM (vJ (-1)) ?_
 refine qe (zA ?_)
 exact cN (zQ (zS (v := vJ (-1)) rfl rfl rfl (⟨cgA eI ((hr.trans ((sX (by omega) (by omega) (by unfold cmpI; split <;> omega)).trans (by unfold cmpI; rw [if_pos f]))).symm), b⟩)))
 refine cM (w9a ?_)
 refine qM (vJ 1) ?_
 refine qe (zA ?_)
 exact cN (zQ (zS (v := vJ 1) rfl rfl rfl (⟨cgA eI ((hr.trans ((sX (by omega) (by omega) (by unfold cmpI; split <;> omega)).trans (by unfold cmpI; rw [if_neg f, if_pos (by omega)]))).symm), b⟩)))
 refine cM (w9c ?_)
 refine qM (vJ (j : Int)) ?_
 refine qD rfl (yP rfl rfl (by omega)) (qM (vJ ((j : Int) + 1)) ?_)
 refine qe (yK (⟨_, ?_, _, rfl, _, j + 1, (pS 5 (pS 1 (pU 0))), rfl, a, (by omega), (hr.trans (cmpL_eq (by omega) (by omega) (by unfold cmpI; rw [if_neg (by omega), if_neg (by omega)]; omega)))⟩))
 omega
 refine cO (zZ (yM (yL (zA (zB ?_)))))
 refine zX (w9d ?_)
 refine qM u ?_
 refine qD rfl (run_len dB (v := u) rfl hu) (qM v ?_)
 refine qD rfl (run_len dB (v := v) rfl hv) (qD rfl (yR rfl rfl) (qM (.bool (decide (((xs.length : Int) : Int) < (ys.length : Int)))) ?_))
 refine qe (zA ?_)
 refine yE (p := ((xs.length : Int) : Int) < (ys.length : Int)) rfl rfl (fun aa => ?_) (fun aa => ?_)
 refine w9d ?_
 refine qM (vJ (-1)) ?_
 refine qe (zA ?_)
 exact cN (zQ (zS (v := vJ (-1)) rfl rfl rfl (⟨cgA eI ((hr.trans (tT (by omega) (by omega))).symm), c⟩)))
 refine w9d ?_
 refine qM u ?_
 refine qD rfl (run_len dB (v := u) rfl hu) (qM v ?_)
 refine qD rfl (run_len dB (v := v) rfl hv) (qD rfl (jV rfl rfl) (qM (.bool (decide (((ys.length : Int) : Int) < (xs.length : Int)))) ?_))
 refine qe (zA ?_)
 refine yE (p := ((ys.length : Int) : Int) < (xs.length : Int)) rfl rfl (fun ab => ?_) (fun ab => ?_)
 refine w9d ?_
 refine qM (vJ 1) ?_
 refine qe (zA ?_)
 exact cN (zQ (zS (v := vJ 1) rfl rfl rfl (⟨cgA eI ((hr.trans (tS (by omega) (by omega))).symm), c⟩)))
 refine cM (yD (w9a ?_))
 refine qM (vJ 0) ?_
 refine qe (zA ?_)
 exact cN (zQ (zS (v := vJ 0) rfl rfl rfl (⟨cgA eI ((hr.trans (tR (by omega) (by omega))).symm), c⟩)))
 refine qW ?_
 refine qW ?_
 refine qW ?_
 refine qW ?_
 refine qD rfl (yH (v := .bool false) rfl rfl) (qe (zA ?_))
 refine qY rfl rfl (cO (zZ (yM (yL (zA (zB ?_))))))
 refine zX (w9d ?_)
 refine qM u ?_
 refine qD rfl (run_len dB (v := u) rfl hu) (qM v ?_)
 refine qD rfl (run_len dB (v := v) rfl hv) (qD rfl (yR rfl rfl) (qM (.bool (decide (((xs.length : Int) : Int) < (ys.length : Int)))) ?_))
 refine qe (zA ?_)
 refine yE (p := ((xs.length : Int) : Int) < (ys.length : Int)) rfl rfl (fun ac => ?_) (fun ac => ?_)
 refine w9d ?_
 refine qM (vJ (-1)) ?_
 refine qe (zA ?_)
 exact cN (zQ (zS (v := vJ (-1)) rfl rfl rfl (⟨cgA eI ((hr.trans (tT (by omega) (by omega))).symm), c⟩)))
 refine w9d ?_
 refine qM u ?_
 refine qD rfl (run_len dB (v := u) rfl hu) (qM v ?_)
 refine qD rfl (run_len dB (v := v) rfl hv) (qD rfl (jV rfl rfl) (qM (.bool (decide (((ys.length : Int) : Int) < (xs.length : Int)))) ?_))
 refine qe (zA ?_)
 refine yE (p := ((ys.length : Int) : Int) < (xs.length : Int)) rfl rfl (fun ad => ?_) (fun ad => ?_)
 refine w9d ?_
 refine qM (vJ 1) ?_
 refine qe (zA ?_)
 exact cN (zQ (zS (v := vJ 1) rfl rfl rfl (⟨cgA eI ((hr.trans (tS (by omega) (by omega))).symm), c⟩)))
 refine cM (yD (w9a ?_))
 refine qM (vJ 0) ?_
 refine qe (zA ?_)
 exact cN (zQ (zS (v := vJ 0) rfl rfl rfl (⟨cgA eI ((hr.trans (tR (by omega) (by omega))).symm), c⟩)))
theorem tJ {w : World} {al ar bl br : Value} {a b : Nd} (hP : Pins G w) (hal : RSl eInt G al a.l) (har : RSl eInt G ar a.r) (hbl : RSl eInt G bl b.l) (hbr : RSl eInt G br b.r) :
  Calls Tryz.prog 73 [.agg #[al, ar], .agg #[bl, br]].toArray w fun e w' => ∃ G', e = .returned (.bool (decide (aheadI a b < 0))) ∧ Ext noS G w G' w' := by
 refine yA (n := 21) Tryz.func73 Tryz.ntmps73 rfl rfl ?_
 have h := exr noS hP
 refine w9d ?_
 refine qI rfl (xH [al, ar] (v := .agg #[al, ar]) rfl rfl h.pins (fun t w2 ak x y z => ?_))
 have aa := h.step y z
 have ab : w.heap.size ≤ t := by have := h.size; omega
 obtain ⟨G9, f, i, j, an⟩ := x.shut aa ab
 refine qI rfl (xH [bl, br] (v := .agg #[bl, br]) rfl rfl i.pins (fun ac ao ap ad ae af => ?_))
 have ag := i.step ae af
 have ah : w.heap.size ≤ ac := by have := i.size; omega
 obtain ⟨aq, c, g, m, au⟩ := ad.shut ag ah
 refine qM (.bool false) ?_
 refine qe (zA (w9b ?_))
 refine qD rfl (zK (k := 0) rfl dF rfl nz40 rfl) (qD rfl (zM (u := al) ag40 rfl ((cB g.pins c) _ _ _ (j 0 _ rfl))) (qD rfl (zK (k := 0) rfl dF rfl nz40 rfl) (qD rfl (zM (u := bl) ag40 rfl (g.pins _ _ _ (m 0 _ rfl))) (qI rfl (zO (vs := [al, bl]) Tryz.func80 nm80 rfl rfl rfl ?_)))))
 refine cC (rC g.pins (hal.mono (cA f c)) (hbl.mono (cA f c))) ?_
 rintro _ av ⟨rfl, o⟩
 refine rt9 ?_
 have d := g.step o.pins o.below
 refine qM (vJ (cmpL a.l b.l)) ?_
 refine qe (w9a ?_)
 refine qM (vJ (cmpL a.l b.l)) ?_
 refine qD rfl (jU rfl rfl) (qe (zA ?_))
 refine yE (p := (cmpL a.l b.l : Int) ≠ 0) rfl rfl (fun q => ?_) (fun q => ?_)
 refine w9d ?_
 refine qM (vJ (cmpL a.l b.l)) ?_
 refine qD rfl (yR rfl rfl) (qM (.bool (decide ((cmpL a.l b.l : Int) < 0))) ?_)
 refine qe (zA ?_)
 exact cN (zQ (zS (v := .bool (decide ((cmpL a.l b.l : Int) < 0))) rfl rfl rfl (⟨_, cgA eB (by rw [vO q]), d⟩)))
 refine cM (w9a ?_)
 refine qD rfl (zK (k := 1) rfl dF rfl nz40 rfl) (qD rfl (zM (u := ar) ag40 rfl ((cB d.pins c) _ _ _ (j 1 _ rfl))) (qD rfl (zK (k := 1) rfl dF rfl nz40 rfl) (qD rfl (zM (u := br) ag40 rfl (d.pins _ _ _ (m 1 _ rfl))) (qI rfl (zO (vs := [ar, br]) Tryz.func80 nm80 rfl rfl rfl ?_)))))
 refine cC (rC d.pins (har.mono (cA f c)) (hbr.mono (cA f c))) ?_
 rintro _ aw ⟨rfl, s⟩
 refine rt9 ?_
 have ai := d.step s.pins s.below
 refine qD rfl (yR rfl rfl) (qM (.bool (decide ((cmpL a.r b.r : Int) < 0))) ?_)
 refine qe (zA ?_)
 exact cN (zQ (zS (v := .bool (decide ((cmpL a.r b.r : Int) < 0))) rfl rfl rfl (⟨_, cgA eB (by rw [jY (by omega)]), ai⟩)))
theorem l3Same_spec {w : World} {xs ys : List Nd} (hP : Pins G w) (hu : RSl eNode G u xs) (hv : RSl eNode G v ys) :
  Calls Tryz.prog 50 [.agg #[u], .agg #[v]].toArray w fun e w' => ∃ G', e = .returned (.bool (decide (xs = ys))) ∧ Ext noS G w G' w' := by
 refine yA (n := 50) Tryz.func50 Tryz.ntmps50 rfl rfl ?_
 have s := exr noS hP
 have hm := hu.max
 refine w9d ?_
 refine qI rfl (xH [u] (v := .agg #[u]) rfl rfl s.pins (fun b1 w2 ba an ao ap => ?_))
 have aq := s.step ao ap
 have ar : w.heap.size ≤ b1 := by have := s.size; omega
 obtain ⟨G9, d, x, m, bc⟩ := an.shut aq ar
 refine qI rfl (xH [v] (v := .agg #[v]) rfl rfl x.pins (fun ac bd be au av aw => ?_))
 have ax := x.step av aw
 have ay : w.heap.size ≤ ac := by have := x.size; omega
 obtain ⟨ad, c, o, y, bf⟩ := au.shut ax ay
 refine qM (.bool false) ?_
 refine qe (zA (w9b ?_))
 refine qD rfl (zK (k := 0) rfl dE rfl nz24 rfl) (qD rfl (zM (u := u) ag24 rfl ((cB o.pins c) _ _ _ (m 0 _ rfl))) (qD rfl (run_len dC (v := u) rfl hu) (qD rfl (zK (k := 0) rfl dE rfl nz24 rfl) (qD rfl (zM (u := v) ag24 rfl (o.pins _ _ _ (y 0 _ rfl))) (qD rfl (run_len dC (v := v) rfl hv) (qD rfl (jU rfl rfl) (qe (zA ?_))))))))
 refine yE (p := ((xs.length : Int) : Int) ≠ (ys.length : Int)) rfl rfl (fun ae => ?_) (fun ae => ?_)
 refine w9d ?_
 refine qM (.bool false) ?_
 refine qe (zA ?_)
 exact cN (zQ (zS (v := .bool false) rfl rfl rfl (⟨_, cgA eB (decide_eq_false (fun e => ae (by rw [e]))).symm, o⟩)))
 refine cM (zA (w9b ?_))
 refine qM (vJ 0) ?_
 refine qe (zA ?_)
 refine zX (yO (fun k en W => ∃ (af : Nat → Value) (j : Nat), en = (upd (upd (upd af 2 (vP b1)) 3 (vP ac)) 5 (vJ (j : Int))) ∧ k = xs.length - j ∧ Ext noS G w ad W ∧ (j ≤ xs.length) ∧ (xs.length = ys.length) ∧ (∀ i, i < j → xs.getD i default = ys.getD i default)) _ ⟨_, 0, (pS 5 (pS 3 (pU 2))), rfl, o, cH _, (by omega), (fun i hi => absurd hi (cJ i))⟩ ?_)
 rintro bg _ aa ⟨af, j, rfl, bh, q, hj, heq, hp⟩
 refine w9b ?_
 refine qM (vJ (j : Int)) ?_
 refine qD rfl (zK (k := 0) rfl dE rfl nz24 rfl) (qD rfl (zM (u := u) ag24 rfl ((cB q.pins c) _ _ _ (m 0 _ rfl))) (qD rfl (run_len dC (v := u) rfl hu) (qD rfl (yR rfl rfl) (qe (zA ?_)))))
 refine yE (p := ((j : Int) : Int) < (xs.length : Int)) rfl rfl (fun az => ?_) (fun az => ?_)
 refine cM (zA (zB ?_))
 refine zX (zB (yQ (S := fun wz => Pins ad wz) (last := 30) (by kernel_rfl) rfl ?_))
 have ag := bdr aa
 have a0 := q.pins.below ag
 have b := q.step a0 ag
 refine dT (i := 0) rfl rfl (by kernel_rfl) (fun _ _ => zK (k := 0) rfl dE rfl nz24 rfl) b.pins ?_
 refine dT (i := 1) rfl rfl (by kernel_rfl) (fun _ hS => zM (u := u) ag24 rfl ((cB hS c) _ _ _ (m 0 _ rfl))) b.pins ?_
 refine dM 2 (vJ (j : Int)) b.pins ?_
 refine dT (i := 3) rfl rfl (by kernel_rfl) (fun _ _ => zI dC sz76 (v := u) rfl rfl hu (by omega) (by omega)) b.pins ?_
 refine dT (i := 4) rfl rfl (by kernel_rfl) (fun _ _ => yI (off := 0) dF rfl rfl nz40 (z := (j : Int)) (k := 0) rfl hu (by omega) (by omega)) b.pins ?_
 obtain ⟨a1, ah, a2⟩ := jC (hu.at (z := (j : Int)) (by omega) (by omega)) (j := j) rfl
 have bi := ah.max
 refine dT (i := 5) rfl rfl (by kernel_rfl) (fun _ hS => a2 ag40 rfl (cB hS (cA d c))) b.pins ?_
 refine dT (i := 6) rfl rfl (by kernel_rfl) (fun _ _ => zK (k := 0) rfl dE rfl nz24 rfl) b.pins ?_
 refine dT (i := 7) rfl rfl (by kernel_rfl) (fun _ hS => zM (u := v) ag24 rfl (hS _ _ _ (y 0 _ rfl))) b.pins ?_
 refine dM 8 (vJ (j : Int)) b.pins ?_
 refine dT (i := 9) rfl rfl (by kernel_rfl) (fun _ _ => zI dC sz76 (v := v) rfl rfl hv (by omega) (by omega)) b.pins ?_
 refine dT (i := 10) rfl rfl (by kernel_rfl) (fun _ _ => yI (off := 0) dF rfl rfl nz40 (z := (j : Int)) (k := 0) rfl hv (by omega) (by omega)) b.pins ?_
 obtain ⟨a3, ai, a4⟩ := jC (hv.at (z := (j : Int)) (by omega) (by omega)) (j := j) rfl
 have bj := ai.max
 refine dT (i := 11) rfl rfl (by kernel_rfl) (fun _ hS => a4 ag40 rfl (cB hS (cA d c))) b.pins ?_
 refine dP (i := 12) rfl rfl (zO (vs := [a1, a3]) Tryz.func70 nm70 rfl rfl rfl ?_)
 refine cC (kB b.pins (ah.mono (cA d c)) (ai.mono (cA d c))) ?_
 rintro _ bk ⟨rfl, aj⟩
 refine rt9 ?_
 have a := b.step aj.pins aj.below
 refine ⟨fun _ => a.pins, ?_⟩
 refine dT (i := 13) rfl rfl (by kernel_rfl) (fun _ _ => xM rfl) a.pins ?_
 refine dM 14 (.bool (!(decide (((xs.getD j default).l) = ((ys.getD j default).l))))) a.pins ?_
 refine drbn (t := 34) rfl (fun f => ?_) (fun f => ?_)
 replace f := of_decide_eq_true f
 refine zH (i := 15) rfl rfl rfl (zE rfl rfl rfl rfl) (by kernel_rfl) (fun _ _ => zK (k := 0) rfl dE rfl nz24 rfl) a.pins (zH (i := 16) rfl rfl rfl (zE rfl rfl rfl rfl) (by kernel_rfl) (fun _ hS => zM (u := u) ag24 rfl ((cB hS c) _ _ _ (m 0 _ rfl))) a.pins (zH (i := 17) rfl rfl rfl (zE rfl rfl rfl rfl) (by kernel_rfl) (fun _ _ => zU (v := vJ (j : Int)) rfl) a.pins (zH (i := 18) rfl rfl rfl (zE rfl rfl rfl rfl) (by kernel_rfl) (fun _ _ => zI dC sz76 (v := u) rfl rfl hu (by omega) (by omega)) a.pins (zH (i := 19) rfl rfl rfl (zE rfl rfl rfl rfl) (by kernel_rfl) (fun _ _ => yI (off := 1) dF rfl rfl nz40 (z := (j : Int)) (k := 0) rfl hu (by omega) (by omega)) a.pins ?_))))
 obtain ⟨a5, ak, a6⟩ := qV (hu.at (z := (j : Int)) (by omega) (by omega)) (j := j) rfl
 have bl := ak.max
 refine zH (i := 20) rfl rfl rfl (zE rfl rfl rfl rfl) (by kernel_rfl) (fun _ hS => a6 ag40 rfl (cB hS (cA d c))) a.pins (zH (i := 21) rfl rfl rfl (zE rfl rfl rfl rfl) (by kernel_rfl) (fun _ _ => zK (k := 0) rfl dE rfl nz24 rfl) a.pins (zH (i := 22) rfl rfl rfl (zE rfl rfl rfl rfl) (by kernel_rfl) (fun _ hS => zM (u := v) ag24 rfl (hS _ _ _ (y 0 _ rfl))) a.pins (zH (i := 23) rfl rfl rfl (zE rfl rfl rfl rfl) (by kernel_rfl) (fun _ _ => zU (v := vJ (j : Int)) rfl) a.pins (zH (i := 24) rfl rfl rfl (zE rfl rfl rfl rfl) (by kernel_rfl) (fun _ _ => zI dC sz76 (v := v) rfl rfl hv (by omega) (by omega)) a.pins (zH (i := 25) rfl rfl rfl (zE rfl rfl rfl rfl) (by kernel_rfl) (fun _ _ => yI (off := 1) dF rfl rfl nz40 (z := (j : Int)) (k := 0) rfl hv (by omega) (by omega)) a.pins ?_)))))
 obtain ⟨a7, al, a8⟩ := qV (hv.at (z := (j : Int)) (by omega) (by omega)) (j := j) rfl
 have bm := al.max
 refine zH (i := 26) rfl rfl rfl (zE rfl rfl rfl rfl) (by kernel_rfl) (fun _ hS => a8 ag40 rfl (cB hS (cA d c))) a.pins ?_
 refine dO (i := 27) (kC (i := 27) rfl rfl rfl (zE rfl rfl rfl rfl) (zO (vs := [a5, a7]) Tryz.func70 nm70 rfl rfl rfl ?_))
 refine cC (kB a.pins (ak.mono (cA d c)) (al.mono (cA d c))) ?_
 rintro _ bn ⟨rfl, am⟩
 refine rt9 ?_
 have h := a.step am.pins am.below
 refine ⟨fun _ => h.pins, ?_⟩
 refine zH (i := 28) rfl rfl rfl (zE rfl rfl rfl rfl) (by kernel_rfl) (fun _ _ => xM rfl) h.pins (dT (i := 29) rfl rfl (by kernel_rfl) (fun _ _ => yH (v := .bool (!(decide (((xs.getD j default).r) = ((ys.getD j default).r))))) rfl rfl) h.pins ?_)
 refine zY (by kernel_rfl) (zA (qQ rfl rfl (fun g => ?_) (fun g => ?_)))
 replace g := of_decide_eq_true g
 refine cM (w9c ?_)
 refine qM (vJ (j : Int)) ?_
 refine qD rfl (yP rfl rfl (by omega)) (qM (vJ ((j : Int) + 1)) ?_)
 refine qe (yK (⟨_, ?_, _, rfl, _, j + 1, (pS 5 (pS 3 (pU 2))), rfl, h, (by omega), heq, (eqstepN hp f g)⟩))
 omega
 replace g := of_decide_eq_false g
 refine w9d ?_
 refine qM (.bool false) ?_
 refine qe (zA ?_)
 exact cN (zQ (zS (v := .bool false) rfl rfl rfl (⟨_, cgA eB (decide_eq_false (fun e => g (by rw [e]))).symm, h⟩)))
 replace f := of_decide_eq_false f
 refine zD (i := 15) rfl rfl (zG rfl rfl rfl rfl rfl) (by kernel_rfl) a.pins (zD (i := 16) rfl rfl (zG rfl rfl rfl rfl rfl) (by kernel_rfl) a.pins (zD (i := 17) rfl rfl (zG rfl rfl rfl rfl rfl) (by kernel_rfl) a.pins (zD (i := 18) rfl rfl (zG rfl rfl rfl rfl rfl) (by kernel_rfl) a.pins (zD (i := 19) rfl rfl (zG rfl rfl rfl rfl rfl) (by kernel_rfl) a.pins (zD (i := 20) rfl rfl (zG rfl rfl rfl rfl rfl) (by kernel_rfl) a.pins (zD (i := 21) rfl rfl (zG rfl rfl rfl rfl rfl) (by kernel_rfl) a.pins (zD (i := 22) rfl rfl (zG rfl rfl rfl rfl rfl) (by kernel_rfl) a.pins (zD (i := 23) rfl rfl (zG rfl rfl rfl rfl rfl) (by kernel_rfl) a.pins (zD (i := 24) rfl rfl (zG rfl rfl rfl rfl rfl) (by kernel_rfl) a.pins (zD (i := 25) rfl rfl (zG rfl rfl rfl rfl rfl) (by kernel_rfl) a.pins (zD (i := 26) rfl rfl (zG rfl rfl rfl rfl rfl) (by kernel_rfl) a.pins (zD (i := 27) rfl rfl (zG rfl rfl rfl rfl rfl) (by kernel_rfl) a.pins (zD (i := 28) rfl rfl (zG rfl rfl rfl rfl rfl) (by kernel_rfl) a.pins (dT (i := 29) rfl rfl (by kernel_rfl) (fun _ _ => yJ (v := .bool true) rfl rfl) a.pins ?_))))))))))))))
 refine zY (by kernel_rfl) (zA (xW rfl rfl (w9d ?_)))
 refine qM (.bool false) ?_
 refine qe (zA ?_)
 exact cN (zQ (zS (v := .bool false) rfl rfl rfl (⟨_, cgA eB (decide_eq_false (fun e => f (by rw [e]))).symm, a⟩)))
 refine cO (zZ (yM (yL (w9a ?_))))
 refine qM (.bool true) ?_
 refine qe (zA ?_)
 exact cN (zQ (zS (v := .bool true) rfl rfl rfl (⟨_, cgA eB (decide_eq_true (eqdoneN heq (by omega) hp)).symm, q⟩)))
theorem eT {w : World} {b : Nat} {bu bv : Value} {ns : List Nd} {bs : List Int} (hP : Pins G w) (hB : Bk 76 3 G w b bu bv ns bs) (hok : BookOk ns bs) {x y : Value} (hx : RSl eInt G x xs) (hy : RSl eInt G y ys) (hls : xs.length ≤ 1048576 ∧ ys.length ≤ 1048576) (hk1 : ∀ i, i < xs.length → 0 ≤ xs.getD i 0 ∧ xs.getD i 0 < ns.length) (hk2 : ∀ i, i < ys.length → 0 ≤ ys.getD i 0 ∧ ys.getD i 0 < ns.length) :
  Calls Tryz.prog 77 #[vP b, x, y] w fun e w' => ∃ (u' v' : Value) (G' : Pin), e = .returned (vJ (putK ns bs xs ys)) ∧ Bk 76 3 G' w' b u' v' (putN ns bs xs ys) (putB ns bs xs ys) ∧ Ext (inS b bu bv) G w G' w' ∧ Lo w (inS b bu bv) u'.ownBlock ∧ Lo w (inS b bu bv) v'.ownBlock := by
 refine yA (n := 136) Tryz.func77 Tryz.ntmps77 rfl rfl ?_
 have ba := exr (inS b bu bv) hP
 have hbx := hB.bx
 have hou := hB.ou
 have hov := hB.ov
 have habu := hB.abu
 have habv := hB.abv
 have hauv := hB.auv
 have hlob : Lo w (inS b bu bv) (some b) := lo_b
 have hlou : Lo w (inS b bu bv) bu.ownBlock := lo_u
 have hlov : Lo w (inS b bu bv) bv.ownBlock := lo_v
 have hlen := hok.len
 have hlim := hok.lim
 refine w9d ?_
 refine qM (vJ 0) ?_
 refine qe (w9a ?_)
 refine qI rfl (xD (E := eInt) (e := 3) dB sz3 ba.pins (fun u1 w2 dc dd ay bc => ?_))
 have bd := ba.step dd ay
 have b8 := hou.below ay
 have b9 := hov.below ay
 have ca := hbx.below ay
 have de := zL bc hou.lt
 have df := zL bc hov.lt
 have dg := zF bc hbx.lt
 have cb := dc.weaken ba.size
 refine qI rfl (xD (E := eInt) (e := 3) dB sz3 bd.pins (fun an dh di dj ao az => ?_))
 have dk := bd.step dj ao
 have dl := b8.below ao
 have dm := b9.below ao
 have dn := cb.below ao
 have dp := ca.below ao
 have dq := zL az b8.lt
 have dr := zL az b9.lt
 have ds := zL az cb.lt
 have dt := zF az ca.lt
 have du := di.weaken bd.size
 refine qM u1 ?_
 refine qM an ?_
 refine qe (w9a ?_)
 refine qM (vJ 0) ?_
 refine qe (zA (w9b ?_))
 refine qM (vJ 0) ?_
 refine qe (zA ?_)
 refine zX ?_
 obtain ⟨cc, af, dv, dw, a0⟩ := dn.sealed dk
 have dx := dl.moreO af a0 de.symm
 have dy := dm.moreO af a0 df.symm
 have dz := du.moreO af a0 ds
 have d0 := dp.moreO a0 dg.symm
 refine yO (fun k en W => ∃ (ac : Nat → Value) (i : Nat) (lo : Value) (ls : List Int) (bn : Int) (GLi : Pin), en = (upd (upd (upd (upd (upd (upd (upd (upd ac 0 (vP b)) 1 x) 2 y) 6 (vJ 0)) 7 lo) 8 an) 9 (vJ bn)) 10 (vJ (i : Int))) ∧ k = xs.length - i ∧ Ext (inS b bu bv) G w GLi W ∧ Pin.le cc GLi ∧ (i ≤ xs.length) ∧ (ls = sortL (xs.take i)) ∧ (ls.length ≤ i) ∧ (bn = bornOf bs (xs.take i) 0) ∧ (0 ≤ bn ∧ bn ≤ ns.length) ∧ (Own eNode 76 GLi W 0 bu (ns)) ∧ (Own eInt 3 GLi W 0 bv (bs)) ∧ (Own eInt 3 GLi W w.heap.size an ([])) ∧ (Bx GLi W b [bu, bv]) ∧ (RSl eInt GLi lo (ls))) _ ⟨_, 0, u1, [], 0, cc, (pS 10 (pS 9 (pS 8 (pS 7 (pS 6 (pS 2 (pS 1 (pU 0)))))))), rfl, dv, cI _, cH _, rfl, cG 0, rfl, (by omega), dx, dy, dz, d0, dw⟩ ?_
 rintro fm _ fn ⟨ac, i, lo, ls, bn, GLi, rfl, fo, a1, ap, hji, hrls, holls, hbbn, hlbn, cd, ce, cf, cg, a2⟩
 refine w9b ?_
 refine qM (vJ (i : Int)) ?_
 refine qM x ?_
 refine qD rfl (run_len dB (v := x) rfl hx) (qD rfl (yR rfl rfl) (qe (zA ?_)))
 refine yE (p := ((i : Int) : Int) < (xs.length : Int)) rfl rfl (fun d1 => ?_) (fun d1 => ?_)
 have hki := hk1 i (by omega)
 have hbk := hok.born (xs.getD i 0).toNat (by omega)
 refine cM (zA (zB ?_))
 refine zX (w9d ?_)
 refine qM lo ?_
 refine qM x ?_
 refine qM (vJ (i : Int)) ?_
 refine qD rfl (zI dB sz3 (v := x) rfl rfl hx (by omega) (by omega)) (qD rfl (zN (r := xs.getD i 0) rfl ag3 (z := (i : Int)) rfl hx (cB a1.pins (cA af ap)) (by omega) (by omega)) (qI rfl (zO (vs := [lo, vJ (xs.getD i 0)]) Tryz.func79 nm79 rfl rfl rfl ?_)))
 refine cC (fZ a1.pins a2 (by omega)) ?_
 rintro _ a3 ⟨ch, be, rfl, d2, ag⟩
 refine rt9 ?_
 have bf := a1.tr ag
 have d3 := cd.ext ag
 have ci := ce.ext ag
 have d4 := cf.ext ag
 have d5 := cg.ext ag
 refine qM ch ?_
 refine qe (zA ?_)
 have d6 := cK bf.pins bv
 have cj := ci.read
 refine yQ (S := fun wz => BxR wz b [bu, bv] ∧ Pins be wz ∧ Pins (Gadd be a3 bv) wz) (last := 14) (by kernel_rfl) rfl ?_
 have ah := bdr a3
 have d7 := bf.pins.below ah
 have c := bf.step d7 ah
 have d8 := d3.below ah
 have d9 := ci.below ah
 have ea := d4.below ah
 have f := d5.below ah
 have s := d6.below ah
 refine dT (i := 0) rfl rfl (by kernel_rfl) (fun _ _ => zU (v := vJ bn) rfl) ⟨f.reads, c.pins, s⟩ ?_
 refine dT (i := 1) rfl rfl (by kernel_rfl) (fun _ _ => zU (v := vP b) rfl) ⟨f.reads, c.pins, s⟩ ?_
 refine dT (i := 2) rfl rfl (by kernel_rfl) (fun _ _ => yU rfl) ⟨f.reads, c.pins, s⟩ ?_
 refine dT (i := 3) rfl rfl (by kernel_rfl) (fun _ _ => zK (k := 1) rfl dJ rfl nz40 rfl) ⟨f.reads, c.pins, s⟩ ?_
 refine dT (i := 4) rfl rfl (by kernel_rfl) (fun _ hS => zM (u := bv) ag40 rfl (hS.1 1 _ rfl)) ⟨f.reads, c.pins, s⟩ ?_
 refine dT (i := 5) rfl rfl (by kernel_rfl) (fun _ _ => zU (v := x) rfl) ⟨f.reads, c.pins, s⟩ ?_
 refine dT (i := 6) rfl rfl (by kernel_rfl) (fun _ _ => zU (v := vJ (i : Int)) rfl) ⟨f.reads, c.pins, s⟩ ?_
 refine dT (i := 7) rfl rfl (by kernel_rfl) (fun _ _ => zI dB sz3 (v := x) rfl rfl hx (by omega) (by omega)) ⟨f.reads, c.pins, s⟩ ?_
 refine dT (i := 8) rfl rfl (by kernel_rfl) (fun _ hS => zN (r := xs.getD i 0) rfl ag3 (z := (i : Int)) rfl hx (cB hS.2.1 (cA (cA af ap) ag.le)) (by omega) (by omega)) ⟨f.reads, c.pins, s⟩ ?_
 refine dT (i := 9) rfl rfl (by kernel_rfl) (fun _ _ => zI dB sz3 (v := bv) rfl rfl cj (by omega) (by omega)) ⟨f.reads, c.pins, s⟩ ?_
 refine dT (i := 10) rfl rfl (by kernel_rfl) (fun _ hS => zN (r := bs.getD (xs.getD i 0).toNat 0) rfl ag3 (z := xs.getD i 0) rfl cj hS.2.2 (by omega) (by omega)) ⟨f.reads, c.pins, s⟩ ?_
 refine dT (i := 11) rfl rfl (by kernel_rfl) (fun _ _ => yP rfl rfl (by omega)) ⟨f.reads, c.pins, s⟩ ?_
 refine dP (i := 12) rfl rfl (zO (vs := [vJ bn, vJ ((bs.getD (xs.getD i 0).toNat 0) + 1)]) Tryz.func83 nm83 rfl rfl rfl ?_)
 refine cC (rD c.pins) ?_
 rintro _ _ ⟨rfl, rfl⟩
 refine rt9 (⟨fun _ => ⟨f.reads, c.pins, s⟩, ?_⟩)
 refine dT (i := 13) rfl rfl (by kernel_rfl) (fun _ _ => jB (v := vJ (max bn ((bs.getD (xs.getD i 0).toNat 0) + 1))) rfl) ⟨f.reads, c.pins, s⟩ ?_
 refine zY (by kernel_rfl) (w9c ?_)
 refine qM (vJ (i : Int)) ?_
 refine qD rfl (yP rfl rfl (by omega)) (qM (vJ ((i : Int) + 1)) ?_)
 refine qe (yK (⟨_, ?_, _, rfl, _, i + 1, ch, putL ls (xs.getD i 0), max bn ((bs.getD (xs.getD i 0).toNat 0) + 1), be, (pS 10 (pS 9 (pS 8 (pS 7 (pS 6 (pS 2 (pS 1 (pU 0)))))))), rfl, c, (cA ap ag.le), (by omega), (by rw [hrls, tD (by omega)]), (cP jW (by omega)), (by rw [hbbn, fS (by omega)]), (by omega), d8, d9, ea, f, d2⟩))
 omega
 refine cO (zZ (yM (yL (zA (w9b ?_)))))
 refine qM (vJ 0) ?_
 refine qe (zA ?_)
 refine zX ?_
 obtain ⟨ck, ak, eb, ec, bg⟩ := cf.sealed a1
 have ed := cd.moreO ak bg dq.symm
 have ee := ce.moreO ak bg dr.symm
 have ef := cg.moreO bg dt.symm
 refine yO (fun k en W => ∃ (ac : Nat → Value) (a : Nat) (ro : Value) (rs : List Int) (bm : Int) (ab : Pin), en = (upd (upd (upd (upd (upd (upd (upd ac 0 (vP b)) 2 y) 6 (vJ 0)) 7 lo) 8 ro) 9 (vJ bm)) 11 (vJ (a : Int))) ∧ k = ys.length - a ∧ Ext (inS b bu bv) G w ab W ∧ Pin.le ck ab ∧ (a ≤ ys.length) ∧ (rs = sortL (ys.take a)) ∧ (rs.length ≤ a) ∧ (bm = bornOf bs (ys.take a) bn) ∧ (0 ≤ bm ∧ bm ≤ ns.length) ∧ (Own eNode 76 ab W 0 bu (ns)) ∧ (Own eInt 3 ab W 0 bv (bs)) ∧ (Bx ab W b [bu, bv]) ∧ (RSl eInt ab ro (rs))) _ ⟨_, 0, an, [], bn, ck, (pS 11 (pS 9 (pS 8 (pS 7 (pS 6 (pS 2 (pU 0))))))), rfl, eb, cI _, cH _, rfl, cG 0, rfl, (by omega), ed, ee, ef, ec⟩ ?_
 rintro fp _ fq ⟨ac, a, ro, rs, bm, ab, rfl, fr, a4, aq, fs, hrrs, holrs, hbbm, hlbm, cl, cm, cn, a5⟩
 refine w9b ?_
 refine qM (vJ (a : Int)) ?_
 refine qM y ?_
 refine qD rfl (run_len dB (v := y) rfl hy) (qD rfl (yR rfl rfl) (qe (zA ?_)))
 refine yE (p := ((a : Int) : Int) < (ys.length : Int)) rfl rfl (fun eg => ?_) (fun eg => ?_)
 have hki := hk2 a (by omega)
 have hbk := hok.born (ys.getD a 0).toNat (by omega)
 refine cM (zA (zB ?_))
 refine zX (w9d ?_)
 refine qM ro ?_
 refine qM y ?_
 refine qM (vJ (a : Int)) ?_
 refine qD rfl (zI dB sz3 (v := y) rfl rfl hy (by omega) (by omega)) (qD rfl (zN (r := ys.getD a 0) rfl ag3 (z := (a : Int)) rfl hy (cB a4.pins (cA (cA (cA af ap) ak) aq)) (by omega) (by omega)) (qI rfl (zO (vs := [ro, vJ (ys.getD a 0)]) Tryz.func79 nm79 rfl rfl rfl ?_)))
 refine cC (fZ a4.pins a5 (by omega)) ?_
 rintro _ a6 ⟨co, bh, rfl, eh, al⟩
 refine rt9 ?_
 have bi := a4.tr al
 have ei := cl.ext al
 have cp := cm.ext al
 have ej := cn.ext al
 refine qM co ?_
 refine qe (zA ?_)
 have ek := cK bi.pins bv
 have cq := cp.read
 refine yQ (S := fun wz => BxR wz b [bu, bv] ∧ Pins bh wz ∧ Pins (Gadd bh a6 bv) wz) (last := 14) (by kernel_rfl) rfl ?_
 have am := bdr a6
 have el := bi.pins.below am
 have d := bi.step el am
 have em := ei.below am
 have eo := cp.below am
 have m := ej.below am
 have aa := ek.below am
 refine dT (i := 0) rfl rfl (by kernel_rfl) (fun _ _ => zU (v := vJ bm) rfl) ⟨m.reads, d.pins, aa⟩ ?_
 refine dT (i := 1) rfl rfl (by kernel_rfl) (fun _ _ => zU (v := vP b) rfl) ⟨m.reads, d.pins, aa⟩ ?_
 refine dT (i := 2) rfl rfl (by kernel_rfl) (fun _ _ => yU rfl) ⟨m.reads, d.pins, aa⟩ ?_
 refine dT (i := 3) rfl rfl (by kernel_rfl) (fun _ _ => zK (k := 1) rfl dJ rfl nz40 rfl) ⟨m.reads, d.pins, aa⟩ ?_
 refine dT (i := 4) rfl rfl (by kernel_rfl) (fun _ hS => zM (u := bv) ag40 rfl (hS.1 1 _ rfl)) ⟨m.reads, d.pins, aa⟩ ?_
 refine dT (i := 5) rfl rfl (by kernel_rfl) (fun _ _ => zU (v := y) rfl) ⟨m.reads, d.pins, aa⟩ ?_
 refine dT (i := 6) rfl rfl (by kernel_rfl) (fun _ _ => zU (v := vJ (a : Int)) rfl) ⟨m.reads, d.pins, aa⟩ ?_
 refine dT (i := 7) rfl rfl (by kernel_rfl) (fun _ _ => zI dB sz3 (v := y) rfl rfl hy (by omega) (by omega)) ⟨m.reads, d.pins, aa⟩ ?_
 refine dT (i := 8) rfl rfl (by kernel_rfl) (fun _ hS => zN (r := ys.getD a 0) rfl ag3 (z := (a : Int)) rfl hy (cB hS.2.1 (cA (cA (cA (cA af ap) ak) aq) al.le)) (by omega) (by omega)) ⟨m.reads, d.pins, aa⟩ ?_
 refine dT (i := 9) rfl rfl (by kernel_rfl) (fun _ _ => zI dB sz3 (v := bv) rfl rfl cq (by omega) (by omega)) ⟨m.reads, d.pins, aa⟩ ?_
 refine dT (i := 10) rfl rfl (by kernel_rfl) (fun _ hS => zN (r := bs.getD (ys.getD a 0).toNat 0) rfl ag3 (z := ys.getD a 0) rfl cq hS.2.2 (by omega) (by omega)) ⟨m.reads, d.pins, aa⟩ ?_
 refine dT (i := 11) rfl rfl (by kernel_rfl) (fun _ _ => yP rfl rfl (by omega)) ⟨m.reads, d.pins, aa⟩ ?_
 refine dP (i := 12) rfl rfl (zO (vs := [vJ bm, vJ ((bs.getD (ys.getD a 0).toNat 0) + 1)]) Tryz.func83 nm83 rfl rfl rfl ?_)
 refine cC (rD d.pins) ?_
 rintro _ _ ⟨rfl, rfl⟩
 refine rt9 (⟨fun _ => ⟨m.reads, d.pins, aa⟩, ?_⟩)
 refine dT (i := 13) rfl rfl (by kernel_rfl) (fun _ _ => jB (v := vJ (max bm ((bs.getD (ys.getD a 0).toNat 0) + 1))) rfl) ⟨m.reads, d.pins, aa⟩ ?_
 refine zY (by kernel_rfl) (w9c ?_)
 refine qM (vJ (a : Int)) ?_
 refine qD rfl (yP rfl rfl (by omega)) (qM (vJ ((a : Int) + 1)) ?_)
 refine qe (yK (⟨_, ?_, _, rfl, _, a + 1, co, putL rs (ys.getD a 0), max bm ((bs.getD (ys.getD a 0).toNat 0) + 1), bh, (pS 11 (pS 9 (pS 8 (pS 7 (pS 6 (pS 2 (pU 0))))))), rfl, d, (cA aq al.le), (by omega), (by rw [hrrs, tD (by omega)]), (cP jW (by omega)), (by rw [hbbm, fS (by omega)]), (by omega), em, eo, m, eh⟩))
 omega
 refine cO (zZ (yM (yL (zA (w9b ?_)))))
 rw [qZ (by omega)] at hrls hrrs hbbn hbbm
 have e1 : putNd xs ys = ⟨ls, rs⟩ := by unfold putNd; rw [hrls, hrrs]
 have e2 : putBorn bs xs ys = bm := by unfold putBorn; rw [← hbbn, ← hbbm]
 refine qM (vJ 0) ?_
 refine qe (zA ?_)
 refine zX ?_
 have e0 : True := trivial
 refine yO (fun k en W => ∃ (ac : Nat → Value) (q : Nat), en = (upd (upd (upd (upd (upd ac 0 (vP b)) 7 lo) 8 ro) 9 (vJ bm)) 12 (vJ (q : Int))) ∧ k = ns.length - q ∧ Ext (inS b bu bv) G w ab W ∧ (q ≤ ns.length) ∧ (∀ i, i < q → NotAt ns bs ⟨ls, rs⟩ bm i) ∧ (Own eNode 76 ab W 0 bu (ns)) ∧ (Own eInt 3 ab W 0 bv (bs)) ∧ (Bx ab W b [bu, bv])) _ ⟨_, 0, (pS 12 (pS 9 (pS 8 (pS 7 (pU 0))))), rfl, a4, cH _, (fun i hi => absurd hi (cJ i)), cl, cm, cn⟩ ?_
 rintro fu _ fv ⟨ac, q, rfl, fw, ad, fx, hp, ai, ar, aj⟩
 refine w9b ?_
 refine qM (vJ (q : Int)) ?_
 refine qM (vP b) ?_
 refine qD rfl (yU rfl) (qD rfl (zK (k := 0) rfl dJ rfl nz24 rfl) (qD rfl (zM (u := bu) ag24 rfl (aj.cell (o := 0) rfl)) (qD rfl (run_len dC (v := bu) rfl ai.read) (qD rfl (yR rfl rfl) (qe (zA ?_))))))
 refine yE (p := ((q : Int) : Int) < (ns.length : Int)) rfl rfl (fun ep => ?_) (fun ep => ?_)
 refine cM (zA (zB ?_))
 refine zX (w9d ?_)
 refine qM (vP b) ?_
 refine qD rfl (yU rfl) (qD rfl (zK (k := 1) rfl dJ rfl nz40 rfl) (qD rfl (zM (u := bv) ag40 rfl (aj.cell (o := 1) rfl)) (qM (vJ (q : Int)) ?_)))
 refine qD rfl (zI dB sz3 (v := bv) rfl rfl ar.read (by omega) (by omega)) (qD rfl (zN (r := bs.getD q 0) rfl ag3 (z := (q : Int)) rfl ar.read (cK ad.pins bv) (by omega) (by omega)) (qM (vJ bm) ?_))
 refine qD rfl (xY rfl rfl) (qM (.bool (decide ((bs.getD q 0 : Int) = bm))) ?_)
 refine qbd (p := (bs.getD q 0 : Int) = bm) (t := 83) rfl (fun bl => ?_) (fun bl => ?_)
 refine qN (zU (v := vP b) rfl) ?_
 refine qN (yU rfl) ?_
 refine qN (zK (k := 0) rfl dJ rfl nz24 rfl) ?_
 refine qN (zM (u := bu) ag24 rfl (aj.cell (o := 0) rfl)) ?_
 refine qN (zU (v := vJ (q : Int)) rfl) ?_
 refine qN (zI dC sz76 (v := bu) rfl rfl ai.read (by omega) (by omega)) ?_
 refine qN (yI (off := 0) dF rfl rfl nz40 (z := (q : Int)) (k := 0) rfl ai.read (by omega) (by omega)) ?_
 obtain ⟨eq, cr, er⟩ := jC (ai.at (z := (q : Int)) (by omega) (by omega)) (j := q) rfl
 have fy := cr.max
 refine qN (er ag40 rfl (cK ad.pins bu)) ?_
 refine qN (zU (v := lo) rfl) ?_
 refine q1g rfl rfl rfl rfl rfl rfl (zO (vs := [eq, lo]) Tryz.func70 nm70 rfl rfl rfl ?_)
 refine cC (kB ad.pins cr (a2.mono (cA ak aq))) ?_
 rintro _ fz ⟨rfl, au⟩
 refine rt9 ?_
 have a7 := ad.step au.pins au.below
 have av := ai.below au.below
 have cs := ar.below au.below
 have bo := aj.below au.below
 refine qD rfl (yJ (v := .bool (decide (((ns.getD q default).l) = ls))) rfl rfl) (qM (.bool (decide (((ns.getD q default).l) = ls))) ?_)
 refine qbd (p := ((ns.getD q default).l) = ls) (t := 95) rfl (fun bp => ?_) (fun bp => ?_)
 refine qN (zU (v := vP b) rfl) ?_
 refine qN (yU rfl) ?_
 refine qN (zK (k := 0) rfl dJ rfl nz24 rfl) ?_
 refine qN (zM (u := bu) ag24 rfl (bo.cell (o := 0) rfl)) ?_
 refine qN (zU (v := vJ (q : Int)) rfl) ?_
 refine qN (zI dC sz76 (v := bu) rfl rfl av.read (by omega) (by omega)) ?_
 refine qN (yI (off := 1) dF rfl rfl nz40 (z := (q : Int)) (k := 0) rfl av.read (by omega) (by omega)) ?_
 obtain ⟨es, ct, et⟩ := qV (av.at (z := (q : Int)) (by omega) (by omega)) (j := q) rfl
 have f0 := ct.max
 refine qN (et ag40 rfl (cK a7.pins bu)) ?_
 refine qN (zU (v := ro) rfl) ?_
 refine q1g rfl rfl rfl rfl rfl rfl (zO (vs := [es, ro]) Tryz.func70 nm70 rfl rfl rfl ?_)
 refine cC (kB a7.pins ct a5) ?_
 rintro _ f1 ⟨rfl, aw⟩
 refine rt9 ?_
 have cu := a7.step aw.pins aw.below
 have cv := av.below aw.below
 have cw := cs.below aw.below
 have cx := bo.below aw.below
 refine qD rfl (yJ (v := .bool (decide (((ns.getD q default).r) = rs))) rfl rfl) (qe (zA ?_))
 refine yE (p := ((ns.getD q default).r) = rs) rfl rfl (fun bq => ?_) (fun bq => ?_)
 refine w9d ?_
 refine qM (vJ (q : Int)) ?_
 refine qM (vJ (q : Int)) ?_
 refine qe (zA ?_)
 refine cN (zQ (zS (v := vJ (q : Int)) rfl rfl rfl ?_))
 have hf : findK ns bs (putNd xs ys) (putBorn bs xs ys) = some q := by rw [e1, e2]; exact find_some (by omega) hp ⟨bl, bp, bq⟩
 have eN : putN ns bs xs ys = ns := by unfold putN; rw [hf]
 have eB : putB ns bs xs ys = bs := by unfold putB; rw [hf]
 refine ⟨bu, bv, _, cgA eI (by unfold putK; rw [hf]), ?_, cu, hlou, hlov⟩
 rw [eN, eB]
 exact ⟨cx, cv, cw, habu, habv, hauv⟩
 refine cM (w9c ?_)
 refine qM (vJ (q : Int)) ?_
 refine qD rfl (yP rfl rfl (by omega)) (qM (vJ ((q : Int) + 1)) ?_)
 refine qe (yK (⟨_, ?_, _, rfl, _, q + 1, (pS 12 (pS 9 (pS 8 (pS 7 (pU 0))))), rfl, cu, (by omega), (fun i hi => if h3 : i = q then h3 ▸ (fun g => absurd g.2.2 bq) else hp i (by omega)), cv, cw, cx⟩))
 omega
 refine qW ?_
 refine qW ?_
 refine qW ?_
 refine qW ?_
 refine qW ?_
 refine qW ?_
 refine qW ?_
 refine qW ?_
 refine qW ?_
 refine qW ?_
 refine qD rfl (yH (v := .bool false) rfl rfl) (qe (zA ?_))
 refine qY rfl rfl (cM (w9c ?_))
 refine qM (vJ (q : Int)) ?_
 refine qD rfl (yP rfl rfl (by omega)) (qM (vJ ((q : Int) + 1)) ?_)
 refine qe (yK (⟨_, ?_, _, rfl, _, q + 1, (pS 12 (pS 9 (pS 8 (pS 7 (pU 0))))), rfl, a7, (by omega), (fun i hi => if h3 : i = q then h3 ▸ (fun g => absurd g.2.1 bp) else hp i (by omega)), av, cs, bo⟩))
 omega
 refine qW ?_
 refine qW ?_
 refine qW ?_
 refine qW ?_
 refine qW ?_
 refine qW ?_
 refine qW ?_
 refine qW ?_
 refine qW ?_
 refine qW ?_
 refine qD rfl (yH (v := .bool false) rfl rfl) (qM (.bool false) ?_)
 refine qW ?_
 refine qW ?_
 refine qW ?_
 refine qW ?_
 refine qW ?_
 refine qW ?_
 refine qW ?_
 refine qW ?_
 refine qW ?_
 refine qW ?_
 refine qD rfl (yH (v := .bool false) rfl rfl) (qe (zA ?_))
 refine qY rfl rfl (cM (w9c ?_))
 refine qM (vJ (q : Int)) ?_
 refine qD rfl (yP rfl rfl (by omega)) (qM (vJ ((q : Int) + 1)) ?_)
 refine qe (yK (⟨_, ?_, _, rfl, _, q + 1, (pS 12 (pS 9 (pS 8 (pS 7 (pU 0))))), rfl, ad, (by omega), (fun i hi => if h3 : i = q then h3 ▸ (fun g => absurd g.1 bl) else hp i (by omega)), ai, ar, aj⟩))
 omega
 refine cO (zZ (yM (yL (w9a ?_))))
 refine qM (vP b) ?_
 refine qM (vP b) ?_
 refine qD rfl (yU rfl) (qD rfl (zK (k := 0) rfl dJ rfl nz24 rfl) (qD rfl (zM (u := bu) ag24 rfl (aj.cell (o := 0) rfl)) (qM lo ?_)))
 refine qM ro ?_
 refine qD rfl (xQ [vN, vN] [lo, ro] [(0, lo, [lo]), (1, ro, [ro])] dF zr76 rfl pl76 rfl (cL.2 ⟨(xB a2.one), (cL.2 ⟨(xB a5.one), (fun _ h => by cases h)⟩)⟩) rfl) (qI rfl (xF (E := eNode) (e := 76) [lo, ro] (⟨ls, rs⟩ : Nd) dC sz76 zr76 ⟨_, _, rfl, (a2.mono (cA ak aq)), a5⟩ rfl (by decide) ad.pins (fun cy eu ev ew a8 f2 => ?_)))
 have br := ad.step ew a8
 have ex := ai.below a8
 have cz := ar.below a8
 have c0 := aj.below a8
 have ey := ev.weaken ad.size
 refine qI rfl (oA (E := eNode) (v := bu) (u := cy) 48 dC ap76 (by decide) rfl rfl br.pins ex ey.src (cH _) (fun ae f3 bt ez bw bz => ?_))
 have c1 := br.write ez bw (hlou)
 have e3 := cz.keptA bw hauv.symm
 have e4 := c0.keptA bw habu
 have c2 := zJ hauv.symm bz cz.lt
 have b0 := zP habu bz c0.lt
 have e5 : Lo w (inS b bu bv) ae.ownBlock := tI hlou bz br.size
 have f4 := la1 ns (⟨ls, rs⟩ : Nd)
 refine qD rfl (yU rfl) (qD rfl (zK (k := 0) rfl dJ rfl nz24 rfl) (q0 rfl rfl rfl (o_stp (cs' := [ae, bv]) (us := [ae]) (v := ae) sz24 rfl rfl (vK bt.one) (yF bt.one) c1.pins e4 (cD rfl) rfl (fun f5 c3 e6 b1 f6 => ?_))))
 have b2 := c1.write e6 b1 (hlob)
 have e7 := e3.keptA b1 habv.symm
 have e8 := bt.keptA b1 b0.symm
 refine qe (w9a ?_)
 refine qM (vP b) ?_
 refine qM (vP b) ?_
 refine qD rfl (yU rfl) (qD rfl (zK (k := 1) rfl dJ rfl nz40 rfl) (qD rfl (zM (u := bv) ag40 rfl (c3.cell (o := 1) rfl)) (qM (vJ bm) ?_)))
 refine qI rfl (yX (E := eInt) (e := 3) [vJ bm] [bm] dB sz3 zr3 (by exact qG (by rfl)) (yF (by rfl)) rfl rfl rfl rfl (by decide) b2.pins (fun c4 e9 fa fb a9 f7 => ?_))
 have b3 := b2.step fb a9
 have fc := e7.below a9
 have c5 := e8.below a9
 have c6 := c3.below a9
 have fd := fa.weaken b2.size
 refine qI rfl (oA (E := eInt) (v := bv) (u := c4) 8 dB ap3 (by decide) rfl rfl b3.pins fc fd.src (cH _) (fun ax f8 b4 fe b5 b6 => ?_))
 have c7 := b3.write fe b5 (hlov)
 have ff := c5.keptA b5 c2.symm
 have fg := c6.keptA b5 habv
 have fh := zJ c2.symm b6 c5.lt
 have c8 := zP habv b6 c6.lt
 have fi : Lo w (inS b bu bv) ax.ownBlock := tI hlov b6 b3.size
 have f9 := la1 bs bm
 refine qD rfl (yU rfl) (qD rfl (zK (k := 1) rfl dJ rfl nz40 rfl) (q0 rfl rfl rfl (o_stp (cs' := [ae, ax]) (us := [ax]) (v := ax) sz40 rfl rfl (vK b4.one) (yF b4.one) c7.pins fg (cD rfl) rfl (fun ga c9 fj b7 gb => ?_))))
 have fk := c7.write fj b7 (hlob)
 have da := ff.keptA b7 b0.symm
 have fl := b4.keptA b7 c8.symm
 refine qe (w9a ?_)
 refine qM (vP b) ?_
 refine qD rfl (yU rfl) (qD rfl (zK (k := 0) rfl dJ rfl nz24 rfl) (qD rfl (zM (u := ae) ag24 rfl (c9.cell (o := 0) rfl)) (qD rfl (run_len dC (v := ae) rfl da.read) (qD rfl (xR rfl rfl (by omega)) (qM (vJ (((ns ++ ([(⟨ls, rs⟩ : Nd)])).length : Int) - 1)) ?_)))))
 refine qe (zA ?_)
 refine cN (zQ (zS (v := vJ (((ns ++ ([(⟨ls, rs⟩ : Nd)])).length : Int) - 1)) rfl rfl rfl ?_))
 have hf : findK ns bs (putNd xs ys) (putBorn bs xs ys) = none := by rw [e1, e2]; exact pA (by omega) hp
 have eN : putN ns bs xs ys = ns ++ [⟨ls, rs⟩] := by unfold putN; rw [hf, e1]
 have eB : putB ns bs xs ys = bs ++ [bm] := by unfold putB; rw [hf, e2]
 refine ⟨ae, ax, _, cgA eI (by unfold putK; rw [hf]; simp), ?_, fk, e5, fi⟩
 rw [eN, eB]
 exact ⟨c9, da, fl, b0, c8, fh⟩
end D1
namespace E1
open C1 D1
theorem mk3 : (Tryz.prog.info? 3).map (fun i => (i.size, i.bytes, i.zero)) = some (1, 8, some (.int .i64 0)) := by kernel_rfl
theorem mk4 : (Tryz.prog.info? 4).map (fun i => (i.size, i.bytes, i.zero)) = some (1, 1, some (.bool false)) := by kernel_rfl
theorem pl26 : (Tryz.prog.underlying 26).bind (placesD Tryz.prog) = some [(0, 1)] := by kernel_rfl
theorem pl76 : (Tryz.prog.underlying 76).bind (placesD Tryz.prog) = some [(0, 1), (1, 1)] := by kernel_rfl
theorem pl92 : (Tryz.prog.underlying 92).bind (placesD Tryz.prog) = some [(0, 1), (1, 1)] := by kernel_rfl
variable {G : Pin} {b : Nat} {bu bv x : Value} {ns fs : List Nd} {bs : List Int} {m : Int}
theorem mU {w : World} (hP : Pins G w) (hB : Bk 76 3 G w b bu bv ns bs) (hok : BookOk ns bs) (hx : RSl eNode G x fs) (hf : FormOk fs) (hl : ns.length + fs.length ≤ 1048576) :
  Calls Tryz.prog 61 [vP b, .agg #[x]].toArray w fun e w' => ∃ (r u' v' : Value) (G' : Pin), e = .returned r ∧ RSl eInt G' r (addM ns bs fs).1 ∧ Bk 76 3 G' w' b u' v' (addM ns bs fs).2.1 (addM ns bs fs).2.2 ∧ Ext (inS b bu bv) G w G' w' ∧ Lo w (inS b bu bv) u'.ownBlock ∧ Lo w (inS b bu bv) v'.ownBlock := by
 refine yA (n := 37) Tryz.func61 Tryz.ntmps61 rfl rfl ?_
 have av := exr (inS b bu bv) hP
 have hbx := hB.bx
 have hou := hB.ou
 have hov := hB.ov
 have habu := hB.abu
 have habv := hB.abv
 have hauv := hB.auv
 have hlob : Lo w (inS b bu bv) (some b) := lo_b
 have hlou : Lo w (inS b bu bv) bu.ownBlock := lo_u
 have hlov : Lo w (inS b bu bv) bv.ownBlock := lo_v
 have hlen := hok.len
 have hlim := hok.lim
 refine w9d ?_
 refine qI rfl (xH [x] (v := .agg #[x]) rfl rfl av.pins (fun b1 w2 aw cm cn aj => ?_))
 have co := av.step cn aj
 have cp := hou.below aj
 have cq := hov.below aj
 have cr := hbx.below aj
 have cs := zL (cgA some aw) hou.lt
 have ct := zL (cgA some aw) hov.lt
 have cu := zF (cgA some aw) hbx.lt
 have cv : w.heap.size ≤ b1 := by have := av.size; omega
 obtain ⟨ax, ab, ay, az, a0⟩ := cm.shut co cv
 have bd := cp.moreA ab a0 cs.symm
 have be := cq.moreA ab a0 ct.symm
 have bf := cr.moreA a0 cu.symm
 refine qM vN ?_
 refine qe (w9a ?_)
 refine qI rfl (xD (E := eInt) (e := 3) dB sz3 ay.pins (fun a1 cw cx cy ak a2 => ?_))
 have cz := ay.step cy ak
 have c0 := bd.below ak
 have c1 := be.below ak
 have c2 := bf.below ak
 have c3 := zL a2 bd.lt
 have c4 := zL a2 be.lt
 have c5 := zF a2 bf.lt
 have c6 := cx.weaken ay.size
 refine qM a1 ?_
 refine qe (zA (w9b ?_))
 refine qM (vJ 0) ?_
 refine qe (zA ?_)
 refine zX (yO (fun k en W => ∃ (bg : Nat → Value) (a : Nat) (at_ : Value) (ats : List Int) (m : Value) (o : Value) (g : List Nd) (h : List Int) (t : Pin), en = (upd (upd (upd (upd (upd bg 0 (vP b)) 3 (vP b1)) 4 vN) 5 at_) 6 (vJ (a : Int))) ∧ k = fs.length - a ∧ Ext (inS b bu bv) G w t W ∧ Pin.le ax t ∧ (a ≤ fs.length) ∧ (addM ns bs (fs.take a) = (ats, g, h)) ∧ (AddOk ns a ats g h) ∧ (Own eInt 3 t W w.heap.size at_ (ats)) ∧ (Own eNode 76 t W 0 m (g)) ∧ (Own eInt 3 t W 0 o (h)) ∧ (Bx t W b [m, o]) ∧ (Apart at_.ownBlock m.ownBlock) ∧ (Apart at_.ownBlock o.ownBlock) ∧ (Apart at_.ownBlock (some b)) ∧ (Apart m.ownBlock o.ownBlock) ∧ (Apart m.ownBlock (some b)) ∧ (Apart o.ownBlock (some b)) ∧ (Lo w (inS b bu bv) m.ownBlock) ∧ (Lo w (inS b bu bv) o.ownBlock)) _ ⟨_, 0, a1, [], bu, bv, ns, bs, ax, (pS 6 (pS 5 (pS 4 (pS 3 (pU 0))))), rfl, cz, cI _, cH _, rfl, AddOk.start hok, c6, c0, c1, c2, c3, c4, c5, hauv, habu.symm, habv.symm, hlou, hlov⟩ ?_)
 rintro e2 _ a3 ⟨bg, a, at_, ats, m, o, g, h, t, rfl, e3, al, y, hj, hr, hao, bh, bi, bj, bk, bl, bm, am, bn, bo, bp, bq, br⟩
 have hal := hao.len
 have hah := hao.hi
 have hfl := hf.len
 refine w9b ?_
 refine qM (vJ (a : Int)) ?_
 refine qD rfl (zK (k := 0) rfl dE rfl nz24 rfl) (qD rfl (zM (u := x) ag24 rfl ((cB al.pins y) _ _ _ (az 0 _ rfl))) (qD rfl (run_len dC (v := x) rfl hx) (qD rfl (yR rfl rfl) (qe (zA ?_)))))
 refine yE (p := ((a : Int) : Int) < (fs.length : Int)) rfl rfl (fun c7 => ?_) (fun c7 => ?_)
 have an := hao.at1 hf (by omega)
 have hfe := hf.lens a (by omega)
 refine cM (zA (zB ?_))
 refine zX (yQ (S := fun wz => Pins t wz) (last := 22) (by kernel_rfl) rfl ?_)
 have ac := bdr a3
 have c8 := al.pins.below ac
 have c := al.step c8 ac
 have a4 := bh.below ac
 have bt := bi.below ac
 have bw := bj.below ac
 have bz := bk.below ac
 refine dM 0 at_ c.pins ?_
 refine dM 1 (vP b) c.pins ?_
 refine dM 2 at_ c.pins ?_
 refine dT (i := 3) rfl rfl (by kernel_rfl) (fun _ _ => zK (k := 0) rfl dE rfl nz24 rfl) c.pins ?_
 refine dT (i := 4) rfl rfl (by kernel_rfl) (fun _ hS => zM (u := x) ag24 rfl ((cB hS y) _ _ _ (az 0 _ rfl))) c.pins ?_
 refine dM 5 (vJ (a : Int)) c.pins ?_
 refine dT (i := 6) rfl rfl (by kernel_rfl) (fun _ _ => zI dC sz76 (v := x) rfl rfl hx (by omega) (by omega)) c.pins ?_
 refine dT (i := 7) rfl rfl (by kernel_rfl) (fun _ _ => yI (off := 0) dF rfl rfl nz40 (z := (a : Int)) (k := 0) rfl hx (by omega) (by omega)) c.pins ?_
 obtain ⟨c9, b0, da⟩ := jC (hx.at (z := (a : Int)) (by omega) (by omega)) (j := a) rfl
 have e4 := b0.max
 refine dT (i := 8) rfl rfl (by kernel_rfl) (fun _ hS => da ag40 rfl (cB hS (cA ab y))) c.pins ?_
 refine dM 10 at_ c.pins ?_
 refine dT (i := 11) rfl rfl (by kernel_rfl) (fun _ _ => zK (k := 0) rfl dE rfl nz24 rfl) c.pins ?_
 refine dT (i := 12) rfl rfl (by kernel_rfl) (fun _ hS => zM (u := x) ag24 rfl ((cB hS y) _ _ _ (az 0 _ rfl))) c.pins ?_
 refine dM 13 (vJ (a : Int)) c.pins ?_
 refine dT (i := 14) rfl rfl (by kernel_rfl) (fun _ _ => zI dC sz76 (v := x) rfl rfl hx (by omega) (by omega)) c.pins ?_
 refine dT (i := 15) rfl rfl (by kernel_rfl) (fun _ _ => yI (off := 1) dF rfl rfl nz40 (z := (a : Int)) (k := 0) rfl hx (by omega) (by omega)) c.pins ?_
 obtain ⟨db, b2, dc⟩ := qV (hx.at (z := (a : Int)) (by omega) (by omega)) (j := a) rfl
 have e5 := b2.max
 refine dT (i := 16) rfl rfl (by kernel_rfl) (fun _ hS => dc ag40 rfl (cB hS (cA ab y))) c.pins ?_
 refine dP (i := 9) rfl rfl (zO (vs := [at_, c9]) Tryz.func60 nm60 rfl rfl rfl ?_)
 refine cC (qR c.pins (cK c.pins at_) a4.read (b0.mono (cA ab y)) (by omega) an.1) ?_
 rintro _ dd ⟨b3, de, rfl, af, d⟩
 refine rt9 ?_
 have ag := c.tr d
 have a5 := a4.ext d
 have b4 := bt.ext d
 have b5 := bw.ext d
 have b6 := bz.ext d
 have df := zT af.lt a4.lt
 have dg := zT af.lt bt.lt
 have dh := zT af.lt bw.lt
 have di := zV af.lt bz.lt
 have b7 := af.weaken c.size
 refine ⟨fun _ => (cB ag.pins d.le), ?_⟩
 refine dP (i := 17) rfl rfl (zO (vs := [at_, db]) Tryz.func60 nm60 rfl rfl rfl ?_)
 refine cC (qR ag.pins (cK ag.pins at_) a5.read (b2.mono (cA (cA ab y) d.le)) (by omega) an.2) ?_
 rintro _ dj ⟨b8, dk, rfl, ad, f⟩
 refine rt9 ?_
 have b9 := ag.tr f
 have dl := a5.ext f
 have dm := b4.ext f
 have dn := b5.ext f
 have dp := b7.ext f
 have dq := b6.ext f
 have dr := zT ad.lt a5.lt
 have ds := zT ad.lt b4.lt
 have dt := zT ad.lt b5.lt
 have du := zT ad.lt b7.lt
 have dv := zV ad.lt b6.lt
 have dw := ad.weaken ag.size
 refine ⟨fun _ => (cB b9.pins (cA d.le f.le)), ?_⟩
 obtain ⟨e6, q, dx, dy, ah⟩ := dp.sealed b9
 have dz := dl.moreO q ah df.symm
 have d0 := dm.moreO q ah dg.symm
 have d1 := dn.moreO q ah dh.symm
 have d2 := dw.moreO q ah du
 have d3 := dq.moreO ah di.symm
 obtain ⟨e7, s, ao, d4, ap⟩ := d2.sealed dx
 have a6 := dz.moreO s ap dr.symm
 have d5 := d0.moreO s ap ds.symm
 have d6 := d1.moreO s ap dt.symm
 have d7 := d3.moreO ap dv.symm
 refine dP (i := 18) rfl rfl (zO (vs := [vP b, b3, b8]) Tryz.func77 nm77 rfl rfl rfl ?_)
 refine cC (eT ao.pins ⟨d7, d5, d6, bo.symm, bp.symm, bn⟩ hao.book (dy.mono s) d4 ⟨by rw [xC]; omega, by rw [xC]; omega⟩ (vG hao.places an.1) (vG hao.places an.2)) ?_
 rintro _ e8 ⟨d8, d9, ca, rfl, ae, aa, cb, cc⟩
 refine rt9 ?_
 have a7 : ∀ i, inS b m o i → w.heap.size ≤ i ∨ (inS b bu bv) i := kE hlob bq br
 have aq := ao.trans aa a7
 have a8 := notS (u := m) (v := o) am bl bm
 have ea := a6.extS aa a8
 have cd := qT cb a8 (jE a6)
 have ce := qT cc a8 (jE a6)
 have eb := ae.bx
 have ec := ae.ou
 have ed := ae.ov
 have ee := ae.abu
 have ef := ae.abv
 have eg := ae.auv
 have eh := xU cb a7 ao.size
 have ei := xU cc a7 ao.size
 refine ⟨fun _ => (cB aq.pins (cA (cA (cA (cA d.le f.le) q) s) aa.le)), ?_⟩
 refine dP (i := 19) rfl rfl (yX (E := eInt) (e := 3) [vJ (putK g h (atL ats ((fs.getD a default).l)) (atL ats ((fs.getD a default).r)))] [putK g h (atL ats ((fs.getD a default).l)) (atL ats ((fs.getD a default).r))] dB sz3 zr3 (by exact qG (by rfl)) (yF (by rfl)) rfl rfl rfl rfl (by decide) aq.pins (fun cf ej ek el ai e9 => ?_))
 have ar := aq.step el ai
 have cg := ea.below ai
 have ch := ec.below ai
 have ci := ed.below ai
 have cj := eb.below ai
 have em := ek.weaken aq.size
 refine ⟨fun _ => (cB ar.pins (cA (cA (cA (cA d.le f.le) q) s) aa.le)), ?_⟩
 refine dP (i := 20) rfl rfl (oA (E := eInt) (v := at_) (u := cf) 8 dB ap3 (by decide) rfl rfl ar.pins cg em.src (ar.size) (fun ck fa eo ep au a9 => ?_))
 have ba := ar.write ep au ((yG cg))
 have eq := ch.keptA au cd.symm
 have er := ci.keptA au ce.symm
 have es := cj.keptA au am.symm
 have et := zJ cd.symm a9 ch.lt
 have eu := zJ ce.symm a9 ci.lt
 have ev := zP am.symm a9 cj.lt
 have fb := la1 ats (putK g h (atL ats ((fs.getD a default).l)) (atL ats ((fs.getD a default).r)))
 refine ⟨fun _ => (cB ba.pins (cA (cA (cA (cA d.le f.le) q) s) aa.le)), ?_⟩
 refine dM 21 ck (cB ba.pins (cA (cA (cA (cA d.le f.le) q) s) aa.le)) ?_
 refine zY (by kernel_rfl) (w9c ?_)
 refine qM (vJ (a : Int)) ?_
 refine qD rfl (yP rfl rfl (by omega)) (qM (vJ ((a : Int) + 1)) ?_)
 refine qe (yK (⟨_, ?_, _, rfl, _, a + 1, ck, (addStep (ats, g, h) (fs.getD a default)).1, d8, d9, (addStep (ats, g, h) (fs.getD a default)).2.1, (addStep (ats, g, h) (fs.getD a default)).2.2, ca, (pS 6 (pS 5 (pS 4 (pS 3 (pU 0))))), rfl, ba, (cA (cA (cA (cA (cA y d.le) f.le) q) s) aa.le), (by omega), ((jK (by omega)).trans (by rw [hr])), (hao.step hf (by omega) hl), eo, eq, er, es, et.symm, eu.symm, ev.symm, eg, ee.symm, ef.symm, eh, ei⟩))
 omega
 refine cO (zZ (yM (yL (w9a ?_))))
 refine qM at_ ?_
 refine qM at_ ?_
 refine qe (zA ?_)
 refine cN (zQ (zS (v := at_) rfl rfl rfl ?_))
 obtain ⟨fc, cl, ew, ex, bb⟩ := bh.sealed al
 have ey := bi.moreO cl bb bl.symm
 have ez := bj.moreO cl bb bm.symm
 have e0 := bk.moreO bb am.symm
 rw [qZ (by omega)] at hr
 refine ⟨_, m, o, _, rfl, ?_, ?_, ew, bq, br⟩
 ·rw [hr]; exact ex
 ·rw [hr]; exact ⟨e0, ey, ez, bo.symm, bp.symm, bn⟩
theorem jI {w : World} (hP : Pins G w) (hB : Bk 76 3 G w b bu bv ns bs) (hok : BookOk ns bs) (hx : RSl eNode G x fs) (hf : FormOk fs ∧ 1 ≤ fs.length) (hl : ns.length + fs.length ≤ 1048576) :
  Calls Tryz.prog 52 [vP b, .agg #[x]].toArray w fun e w' => ∃ (u' v' : Value) (G' : Pin), e = .returned (vJ (rootM ns bs fs)) ∧ Bk 76 3 G' w' b u' v' (addM ns bs fs).2.1 (addM ns bs fs).2.2 ∧ Ext (inS b bu bv) G w G' w' ∧ Lo w (inS b bu bv) u'.ownBlock ∧ Lo w (inS b bu bv) v'.ownBlock := by
 refine yA (n := 15) Tryz.func52 Tryz.ntmps52 rfl rfl ?_
 have g := exr (inS b bu bv) hP
 have hbx := hB.bx
 have hou := hB.ou
 have hov := hB.ov
 have habu := hB.abu
 have habv := hB.abv
 have hauv := hB.auv
 have hlob : Lo w (inS b bu bv) (some b) := lo_b
 have hlou : Lo w (inS b bu bv) bu.ownBlock := lo_u
 have hlov : Lo w (inS b bu bv) bv.ownBlock := lo_v
 have hlen := hok.len
 have hlim := hok.lim
 have hal := (jD hok hf.1 hl).len
 have hfl := hf.1.len
 refine w9d ?_
 refine qI rfl (xH [x] (v := .agg #[x]) rfl rfl g.pins (fun q w2 h s t f => ?_))
 have y := g.step t f
 have aa := hou.below f
 have ab := hov.below f
 have ac := hbx.below f
 have ad := zL (cgA some h) hou.lt
 have ae := zL (cgA some h) hov.lt
 have af := zF (cgA some h) hbx.lt
 have ag : w.heap.size ≤ q := by have := g.size; omega
 obtain ⟨az, k, c, ah, l⟩ := s.shut y ag
 have ai := aa.moreA k l ad.symm
 have aj := ab.moreA k l ae.symm
 have ak := ac.moreA l af.symm
 refine qM (vJ 0) ?_
 refine qe (w9a ?_)
 refine qM (vP b) ?_
 refine qD rfl (zR (cs := [x]) ag26 sz26 rfl (fun j u hj => c.pins _ _ _ (ah _ _ (by simpa using hj)))) (qI rfl (zO (vs := [vP b, .agg #[x]]) Tryz.func61 nm61 rfl rfl rfl ?_))
 refine cC (mU c.pins ⟨ak, ai, aj, habu, habv, hauv⟩ hok (hx.mono k) hf.1 (by first | omega | (simp; omega))) ?_
 rintro _ a0 ⟨d, a1, a2, a3, rfl, m, a, al, am, an⟩
 refine rt9 ?_
 have o : ∀ i, inS b bu bv i → w.heap.size ≤ i ∨ (inS b bu bv) i := kE hlob hlou hlov
 have p := c.trans al o
 have ao := a.bx
 have ap := a.ou
 have aq := a.ov
 have ar := a.abu
 have au := a.abv
 have av := a.auv
 have aw := xU am o c.size
 have ax := xU an o c.size
 refine qM d ?_
 refine qe (w9a ?_)
 refine qM d ?_
 refine qM d ?_
 refine qD rfl (run_len dB (v := d) rfl m) (qD rfl (xR rfl rfl (by omega)) (qD rfl (zI dB sz3 (v := d) rfl rfl m (by omega) (by omega)) (qD rfl (zN (r := ((addM ns bs fs).1).getD ((((addM ns bs fs).1).length : Int) - 1).toNat 0) rfl ag3 (z := (((addM ns bs fs).1).length : Int) - 1) rfl m p.pins (by omega) (by omega)) (qM (vJ (((addM ns bs fs).1).getD ((((addM ns bs fs).1).length : Int) - 1).toNat 0)) ?_))))
 refine qe (zA ?_)
 exact cN (zQ (zS (v := vJ (((addM ns bs fs).1).getD ((((addM ns bs fs).1).length : Int) - 1).toNat 0)) rfl rfl rfl (⟨_, _, _, cgA eI (by unfold rootM; rw [show (((addM ns bs fs).1.length : Int) - 1).toNat = (addM ns bs fs).1.length - 1 by omega]), ⟨ao, ap, aq, ar, au, av⟩, p, aw, ax⟩)))
theorem pP {w : World} (hP : Pins G w) (hB : Bk 76 3 G w b bu bv ns bs) (hok : BookOk ns bs) (hm : 0 ≤ m ∧ m < ns.length) :
  Calls Tryz.prog 71 #[vP b, vJ m] w fun e w' => ∃ (u : Value) (G' : Pin), e = .returned u ∧ Own eBool 4 G' w' w.heap.size u (reachM ns m.toNat) ∧ Ext noS G w G' w' := by
 refine yA (n := 78) Tryz.func71 Tryz.ntmps71 rfl rfl ?_
 have ai := exr noS hP
 have hbx := hB.bx
 have hou := hB.ou
 have hov := hB.ov
 have habu := hB.abu
 have habv := hB.abv
 have hauv := hB.auv
 have hlob : Lo w (inS b bu bv) (some b) := lo_b
 have hlou : Lo w (inS b bu bv) bu.ownBlock := lo_u
 have hlov : Lo w (inS b bu bv) bv.ownBlock := lo_v
 have hlen := hok.len
 have hlim := hok.lim
 have hoo : OptsOk ns := hok.optsOk
 refine w9d ?_
 refine qM vN ?_
 refine qe (w9a ?_)
 refine qM (vJ m) ?_
 refine qD rfl (yP rfl rfl (by omega)) (qI rfl (fG (E := eBool) false 1 (.bool false) dR mk4 (fun _ => rfl) rfl rfl ai.pins (by omega) (by omega) (by omega) (fun a w2 a6 a7 y aj => ?_)))
 have ar := ai.step a7 y
 have a8 := hou.below y
 have a9 := hov.below y
 have ba := hbx.below y
 have ak := zL aj hou.lt
 have al := zL aj hov.lt
 have am := zF aj hbx.lt
 have an : Own eBool 4 G w2 w.heap.size a (List.replicate (m + 1).toNat false) := a6.weaken ai.size
 have b9 : (List.replicate (m + 1).toNat false).length = (m + 1).toNat := List.length_replicate ..
 refine qM a ?_
 refine qe (w9a ?_)
 refine qM a ?_
 refine qM (vJ m) ?_
 refine qD rfl (zI dR sz4 (v := a) rfl rfl an.read (by omega) (by omega)) (q0 rfl rfl rfl (jL (E := eBool) (v := a) (u := .bool true) (z := m) (true) sz4 rfl rfl rfl rfl ar.pins an (by omega) (by omega) (fun ca bb bc aa cb => ?_)))
 have bd := ar.write bc aa ((yG an))
 have be := a8.keptA aa ak.symm
 have bf := a9.keptA aa al.symm
 have bg := ba.keptA aa am.symm
 refine qe (zA (w9b ?_))
 refine qM (vJ m) ?_
 refine qM (vJ m) ?_
 refine qe (zA ?_)
 refine zX (yO (fun k en W => ∃ (d : Nat → Value) (z : Int) (is : List Bool), en = (upd (upd (upd (upd d 0 (vP b)) 4 vN) 5 a) 6 (vJ z)) ∧ k = (z + 1).toNat ∧ Ext noS G w G W ∧ (-1 ≤ z ∧ z ≤ m) ∧ (is.length = m.toNat + 1) ∧ (reachM ns m.toNat = ugo ns (z + 1).toNat is) ∧ (Own eBool 4 G W w.heap.size a (is)) ∧ (Own eNode 76 G W 0 bu (ns)) ∧ (Own eInt 3 G W 0 bv (bs)) ∧ (Bx G W b [bu, bv])) _ ⟨_, m, (List.replicate (m + 1).toNat false).set m.toNat true, (pS 6 (pS 5 (pS 4 (pU 0)))), rfl, bd, (by omega), (by simp; omega), (by rw [show (m + 1).toNat = m.toNat + 1 by omega]; rfl), bb, be, bf, bg⟩ ?_)
 rintro cc _ cd ⟨d, z, is, rfl, ce, ab, hz, hnis, hr, x, au, av, aw⟩
 refine w9b ?_
 refine qM (vJ z) ?_
 refine qD rfl (vU rfl rfl) (qe (zA ?_))
 refine yE (p := (0 : Int) ≤ z) rfl rfl (fun bh => ?_) (fun bh => ?_)
 refine cM (zA (zB ?_))
 refine zX (w9b ?_)
 refine qM a ?_
 refine qM (vJ z) ?_
 refine qD rfl (zI dR sz4 (v := a) rfl rfl x.read (by omega) (by omega)) (qD rfl (qC (r := is.getD (z).toNat false) rfl ag4 (z := z) rfl x.read (cK ab.pins a) (by omega) (by omega)) (qD rfl (xM rfl) (qe (zA ?_))))
 refine qQ rfl rfl (fun ao => ?_) (fun ao => ?_)
 refine cM (zA (w9b ?_))
 refine qM (vJ 0) ?_
 refine qe (zA ?_)
 refine zX (yO (fun k en W => ∃ (d : Nat → Value) (i : Nat) (h : List Bool), en = (upd (upd (upd (upd (upd d 0 (vP b)) 4 vN) 5 a) 6 (vJ z)) 7 (vJ (i : Int))) ∧ k = (ns.getD (z).toNat default).l.length - i ∧ Ext noS G w G W ∧ (i ≤ (ns.getD (z).toNat default).l.length) ∧ (h.length = m.toNat + 1) ∧ (setAll is (ns.getD (z).toNat default).l = setAll h ((ns.getD (z).toNat default).l.drop i)) ∧ (Own eBool 4 G W w.heap.size a (h)) ∧ (Own eNode 76 G W 0 bu (ns)) ∧ (Own eInt 3 G W 0 bv (bs)) ∧ (Bx G W b [bu, bv])) _ ⟨_, 0, is, (pS 7 (pS 6 (pS 5 (pS 4 (pU 0))))), rfl, ab, cH _, hnis, rfl, x, au, av, aw⟩ ?_)
 rintro cf _ cg ⟨d, i, h, rfl, ch, q, hii, ax, ay, ac, f, az, ad⟩
 refine w9b ?_
 refine qM (vJ (i : Int)) ?_
 refine qM (vP b) ?_
 refine qD rfl (yU rfl) (qD rfl (zK (k := 0) rfl dJ rfl nz24 rfl) (qD rfl (zM (u := bu) ag24 rfl (ad.cell (o := 0) rfl)) (qM (vJ z) ?_)))
 refine qD rfl (zI dC sz76 (v := bu) rfl rfl f.read (by omega) (by omega)) (qD rfl (yI (off := 0) dF rfl rfl nz40 (z := z) (k := 0) rfl f.read (by omega) (by omega)) ?_)
 obtain ⟨bi, a0, bj⟩ := jC (f.at (z := z) (by omega) (by omega)) (j := (z).toNat) rfl
 have ci := a0.max
 refine qD rfl (bj ag40 rfl (cK q.pins bu)) (qD rfl (run_len dB (v := bi) rfl a0) (qD rfl (yR rfl rfl) (qe (zA ?_))))
 refine yE (p := ((i : Int) : Int) < (((ns.getD (z).toNat default).l).length : Int)) rfl rfl (fun bk => ?_) (fun bk => ?_)
 have hk := hoo.left (j := (z).toNat) (i := i) (by omega) (by omega)
 refine cM (zA (zB ?_))
 refine zX (zC (qM a ?_))
 refine qM (vP b) ?_
 refine qD rfl (yU rfl) (qD rfl (zK (k := 0) rfl dJ rfl nz24 rfl) (qD rfl (zM (u := bu) ag24 rfl (ad.cell (o := 0) rfl)) (qM (vJ z) ?_)))
 refine qD rfl (zI dC sz76 (v := bu) rfl rfl f.read (by omega) (by omega)) (qD rfl (yI (off := 0) dF rfl rfl nz40 (z := z) (k := 0) rfl f.read (by omega) (by omega)) ?_)
 obtain ⟨bl, ap, bm⟩ := jC (f.at (z := z) (by omega) (by omega)) (j := (z).toNat) rfl
 have cj := ap.max
 refine qD rfl (bm ag40 rfl (cK q.pins bu)) (qM (vJ (i : Int)) ?_)
 refine qD rfl (zI dB sz3 (v := bl) rfl rfl ap (by omega) (by omega)) (qD rfl (zN (r := ((ns.getD (z).toNat default).l).getD i 0) rfl ag3 (z := (i : Int)) rfl ap q.pins (by omega) (by omega)) (qD rfl (zI dR sz4 (v := a) rfl rfl ac.read (by omega) (by omega)) (q0 rfl rfl rfl (jL (E := eBool) (v := a) (u := .bool true) (z := ((ns.getD (z).toNat default).l).getD i 0) (true) sz4 rfl rfl rfl rfl q.pins ac (by omega) (by omega) (fun ck bn bo ae cl => ?_)))))
 have bp := q.write bo ae ((yG ac))
 have bq := f.keptA ae ak.symm
 have br := az.keptA ae al.symm
 have bt := ad.keptA ae am.symm
 refine qe (w9c ?_)
 refine qM (vJ (i : Int)) ?_
 refine qD rfl (yP rfl rfl (by omega)) (qM (vJ ((i : Int) + 1)) ?_)
 refine qe (yK (⟨_, ?_, _, rfl, _, i + 1, h.set ((ns.getD (z).toNat default).l.getD i 0).toNat true, (pS 7 (pS 6 (pS 5 (pS 4 (pU 0))))), rfl, bp, (by omega), ((cR ..).trans ax), (ay.trans (vR (by omega))), bn, bq, br, bt⟩))
 omega
 refine cO (zZ (yM (yL (w9a ?_))))
 refine qM (vJ 0) ?_
 refine qe (zA ?_)
 refine zX (yO (fun k en W => ∃ (d : Nat → Value) (c : Nat) (s : List Bool), en = (upd (upd (upd (upd (upd d 0 (vP b)) 4 vN) 5 a) 6 (vJ z)) 8 (vJ (c : Int))) ∧ k = (ns.getD (z).toNat default).r.length - c ∧ Ext noS G w G W ∧ (c ≤ (ns.getD (z).toNat default).r.length) ∧ (s.length = m.toNat + 1) ∧ (setAll h (ns.getD (z).toNat default).r = setAll s ((ns.getD (z).toNat default).r.drop c)) ∧ (Own eBool 4 G W w.heap.size a (s)) ∧ (Own eNode 76 G W 0 bu (ns)) ∧ (Own eInt 3 G W 0 bv (bs)) ∧ (Bx G W b [bu, bv])) _ ⟨_, 0, h, (pS 8 (pS 6 (pS 5 (pS 4 (pU 0))))), rfl, q, cH _, ax, rfl, ac, f, az, ad⟩ ?_)
 rintro cm _ cn ⟨d, c, s, rfl, co, t, cp, a1, a2, af, g, a3, ag⟩
 refine w9b ?_
 refine qM (vJ (c : Int)) ?_
 refine qM (vP b) ?_
 refine qD rfl (yU rfl) (qD rfl (zK (k := 0) rfl dJ rfl nz24 rfl) (qD rfl (zM (u := bu) ag24 rfl (ag.cell (o := 0) rfl)) (qM (vJ z) ?_)))
 refine qD rfl (zI dC sz76 (v := bu) rfl rfl g.read (by omega) (by omega)) (qD rfl (yI (off := 1) dF rfl rfl nz40 (z := z) (k := 0) rfl g.read (by omega) (by omega)) ?_)
 obtain ⟨bw, a4, bz⟩ := qV (g.at (z := z) (by omega) (by omega)) (j := (z).toNat) rfl
 have cq := a4.max
 refine qD rfl (bz ag40 rfl (cK t.pins bu)) (qD rfl (run_len dB (v := bw) rfl a4) (qD rfl (yR rfl rfl) (qe (zA ?_))))
 refine yE (p := ((c : Int) : Int) < (((ns.getD (z).toNat default).r).length : Int)) rfl rfl (fun b0 => ?_) (fun b0 => ?_)
 have hk := hoo.right (j := (z).toNat) (i := c) (by omega) (by omega)
 refine cM (zA (zB ?_))
 refine zX (zC (qM a ?_))
 refine qM (vP b) ?_
 refine qD rfl (yU rfl) (qD rfl (zK (k := 0) rfl dJ rfl nz24 rfl) (qD rfl (zM (u := bu) ag24 rfl (ag.cell (o := 0) rfl)) (qM (vJ z) ?_)))
 refine qD rfl (zI dC sz76 (v := bu) rfl rfl g.read (by omega) (by omega)) (qD rfl (yI (off := 1) dF rfl rfl nz40 (z := z) (k := 0) rfl g.read (by omega) (by omega)) ?_)
 obtain ⟨b1, aq, b2⟩ := qV (g.at (z := z) (by omega) (by omega)) (j := (z).toNat) rfl
 have cr := aq.max
 refine qD rfl (b2 ag40 rfl (cK t.pins bu)) (qM (vJ (c : Int)) ?_)
 refine qD rfl (zI dB sz3 (v := b1) rfl rfl aq (by omega) (by omega)) (qD rfl (zN (r := ((ns.getD (z).toNat default).r).getD c 0) rfl ag3 (z := (c : Int)) rfl aq t.pins (by omega) (by omega)) (qD rfl (zI dR sz4 (v := a) rfl rfl af.read (by omega) (by omega)) (q0 rfl rfl rfl (jL (E := eBool) (v := a) (u := .bool true) (z := ((ns.getD (z).toNat default).r).getD c 0) (true) sz4 rfl rfl rfl rfl t.pins af (by omega) (by omega) (fun cs b3 b4 ah ct => ?_)))))
 have b5 := t.write b4 ah ((yG af))
 have b6 := g.keptA ah ak.symm
 have b7 := a3.keptA ah al.symm
 have b8 := ag.keptA ah am.symm
 refine qe (w9c ?_)
 refine qM (vJ (c : Int)) ?_
 refine qD rfl (yP rfl rfl (by omega)) (qM (vJ ((c : Int) + 1)) ?_)
 refine qe (yK (⟨_, ?_, _, rfl, _, c + 1, s.set ((ns.getD (z).toNat default).r.getD c 0).toNat true, (pS 8 (pS 6 (pS 5 (pS 4 (pU 0))))), rfl, b5, (by omega), ((cR ..).trans a1), (a2.trans (vR (by omega))), b3, b6, b7, b8⟩))
 omega
 refine cO (zZ (yM (yL (w9c ?_))))
 refine qM (vJ z) ?_
 refine qD rfl (xR rfl rfl (by omega)) (qM (vJ (z - 1)) ?_)
 refine qe (yK (⟨_, ?_, _, rfl, _, z - 1, s, (pS 6 (pS 5 (pS 4 (pU 0)))), rfl, t, (by omega), a1, (hr.trans ((gI (by omega)).trans (by rw [fL ao, ay, kU (by omega), a2, kU (by omega)]))), af, g, a3, ag⟩))
 omega
 refine cO (zZ (yL (zA (zC ?_))))
 refine qM (vJ z) ?_
 refine qD rfl (xR rfl rfl (by omega)) (qM (vJ (z - 1)) ?_)
 refine qe (yK (⟨_, ?_, _, rfl, _, z - 1, is, (pS 6 (pS 5 (pS 4 (pU 0)))), rfl, ab, (by omega), hnis, (hr.trans ((gI (by omega)).trans (by rw [rR ao]))), x, au, av, aw⟩))
 omega
 refine cO (zZ (yM (yL (w9a ?_))))
 refine qM a ?_
 refine qM a ?_
 refine qe (zA ?_)
 exact cN (zQ (zS (v := a) rfl rfl rfl (⟨_, _, rfl, (by rw [hr, ugo_end (by omega)]; exact x), ab⟩)))
theorem form_own {w : World} (hP : Pins G w) (hB : Bk 76 3 G w b bu bv ns bs) (hok : BookOk ns bs) (hm : 0 ≤ m ∧ m < ns.length) :
  Calls Tryz.prog 51 #[vP b, vJ m] w fun e w' => ∃ (u : Value) (G' : Pin), e = .returned (.agg #[u]) ∧ RSl eNode G' u (formM ns bs m.toNat) ∧ Ext noS G w G' w' ∧ ∃ Gi, Own eNode 76 Gi w' w.heap.size u (formM ns bs m.toNat) ∧ Pin.le Gi G' := by
 refine yA (n := 143) Tryz.func51 Tryz.ntmps51 rfl rfl ?_
 have iq := exr noS hP
 have hbx := hB.bx
 have hou := hB.ou
 have hov := hB.ov
 have habu := hB.abu
 have habv := hB.abv
 have hauv := hB.auv
 have hlob : Lo w (inS b bu bv) (some b) := lo_b
 have hlou : Lo w (inS b bu bv) bu.ownBlock := lo_u
 have hlov : Lo w (inS b bu bv) bv.ownBlock := lo_v
 have hlen := hok.len
 have hlim := hok.lim
 have hoo : OptsOk ns := hok.optsOk
 refine w9d ?_
 refine qI rfl (yN [vN] zr26 rfl iq.pins (fun b1 w2 hk3 mj hp5 gm => ?_))
 have ir := iq.step hp5 gm
 have it := hou.below gm
 have iu := hov.below gm
 have iv := hbx.below gm
 have aac : w.heap.size ≤ b1 := by have := iq.size; omega
 refine qe (w9a ?_)
 refine qM (vP b) ?_
 refine qM (vJ m) ?_
 refine qI rfl (zO (vs := [vP b, vJ m]) Tryz.func71 nm71 rfl rfl rfl ?_)
 refine cC (pP ir.pins ⟨iv, it, iu, habu, habv, hauv⟩ hok hm) ?_
 rintro _ w17 ⟨aw, G16, rfl, fy, fz⟩
 refine rt9 ?_
 have aaf := ir.tr fz
 have aag := it.ext fz
 have aah := iu.ext fz
 have aai := iv.ext fz
 have aaj := mj.ext fz
 have aak := zT fy.lt it.lt
 have aal := zT fy.lt iu.lt
 have aam := zV fy.lt iv.lt
 have aan := zV fy.lt mj.lt
 have aao := fy.weaken ir.size
 obtain ⟨gn, mk, iw, ml, gp⟩ := aao.sealed aaf
 have mm := aag.moreO mk gp aak.symm
 have mn := aah.moreO mk gp aal.symm
 have mo := aai.moreO gp aam.symm
 have mp := aaj.moreO gp aan.symm
 have hnl := kV ns m.toNat
 refine qM aw ?_
 refine qe (w9a ?_)
 refine qM (vJ m) ?_
 refine qD rfl (yP rfl rfl (by omega)) (qI rfl (fG (E := eInt) 0 8 (vJ 0) dB mk3 (fun _ => rfl) rfl rfl iw.pins (by omega) (by omega) (by omega) (fun ix w40 aaq aar f0 gq => ?_)))
 have iy := iw.step aar f0
 have mq := mm.below f0
 have mr := mn.below f0
 have ms := mo.below f0
 have mt := mp.below f0
 have aas := zL gq mm.lt
 have aat := zL gq mn.lt
 have aau := zF gq mo.lt
 have aav := zF gq mp.lt
 have mu : Own eInt 3 gn w40 w.heap.size ix (List.replicate (m + 1).toNat 0) := aaq.weaken iw.size
 have avc : (List.replicate (m + 1).toNat 0).length = (m + 1).toNat := List.length_replicate ..
 refine qM ix ?_
 refine qe (w9a ?_)
 refine qI rfl (xD (E := eNode) (e := 76) dC sz76 iy.pins (fun ct w57 aax aay ff f1 => ?_))
 have iz := iy.step aay ff
 have mv := mq.below ff
 have mw := mr.below ff
 have mx := mu.below ff
 have my := ms.below ff
 have mz := mt.below ff
 have aaz := zL f1 mq.lt
 have aa0 := zL f1 mr.lt
 have aa1 := zL f1 mu.lt
 have aa2 := zF f1 ms.lt
 have aa3 := zF f1 mt.lt
 have i0 := aax.weaken iy.size
 refine qD rfl (xQ [vN] [ct] [(0, ct, [ct])] dE zr26 rfl pl26 rfl (cL.2 ⟨(xB i0.one), (fun _ h => by cases h)⟩) rfl) (qI rfl (yN [vN] zr26 rfl iz.pins (fun y w75 fg aa4 aa5 d2 => ?_)))
 have m0 := iz.step aa5 d2
 have aa6 := mv.below d2
 have aa7 := mw.below d2
 have aa8 := mx.below d2
 have m1 := i0.below d2
 have aa9 := my.below d2
 have aba := mz.below d2
 have m2 := zL (cgA some fg) mv.lt
 have m3 := zL (cgA some fg) mw.lt
 have m4 := zL (cgA some fg) mx.lt
 have m5 := zL (cgA some fg) i0.lt
 have m6 := zF (cgA some fg) my.lt
 have m7 := zF (cgA some fg) mz.lt
 have m8 : w.heap.size ≤ y := by have := iz.size; omega
 refine q0 rfl rfl rfl (o_stp (cs' := [ct]) (us := [ct]) (v := .agg #[ct]) sz26 rfl rfl rfl (yF m1.one) m0.pins aa4 (cD rfl) rfl (fun w94 abb abc d3 avf => ?_))
 have abd := m0.write abc d3 ((zW m8))
 have abe := aa6.keptA d3 m2.symm
 have abf := aa7.keptA d3 m3.symm
 have abg := aa8.keptA d3 m4.symm
 have abh := m1.keptA d3 m5.symm
 have abi := aa9.keptA d3 m6.symm
 have abj := aba.keptA d3 m7.symm
 refine qe (zA (w9b ?_))
 refine qM (vJ 0) ?_
 refine qe (zA ?_)
 refine zX (yO (fun k en W => ∃ (ab : Nat → Value) (q : Nat) (at_ : Value) (ats : List Int) (ov : Value) (outs : List Nd) (aq : Pin), en = (upd (upd (upd (upd (upd (upd (upd ab 0 (vP b)) 1 (vJ m)) 4 (vP b1)) 5 aw) 6 at_) 7 (vP y)) 8 (vJ (q : Int))) ∧ k = (bs.getD m.toNat 0).toNat + 1 - q ∧ Ext noS G w aq W ∧ Pin.le gn aq ∧ (q ≤ (bs.getD m.toNat 0).toNat + 1) ∧ (formGo ns bs (reachM ns m.toNat) (m.toNat + 1) q = (ats, outs)) ∧ (ats.length = m.toNat + 1) ∧ (outs.length ≤ q * 1048576) ∧ (Own eInt 3 aq W w.heap.size at_ (ats)) ∧ (Own eNode 76 aq W w.heap.size ov (outs)) ∧ (Own eNode 76 aq W 0 bu (ns)) ∧ (Own eInt 3 aq W 0 bv (bs)) ∧ (Bx aq W b [bu, bv]) ∧ (Bx aq W b1 [vN]) ∧ (Bx aq W y [ov]) ∧ (Apart at_.ownBlock ov.ownBlock) ∧ (Apart at_.ownBlock bu.ownBlock) ∧ (Apart at_.ownBlock bv.ownBlock) ∧ (Apart at_.ownBlock (some b)) ∧ (Apart at_.ownBlock (some b1)) ∧ (Apart at_.ownBlock (some y)) ∧ (Apart ov.ownBlock bu.ownBlock) ∧ (Apart ov.ownBlock bv.ownBlock) ∧ (Apart ov.ownBlock (some b)) ∧ (Apart ov.ownBlock (some b1)) ∧ (Apart ov.ownBlock (some y))) _ ⟨_, 0, ix, List.replicate (m + 1).toNat 0, ct, [], gn, (pS 8 (pS 7 (pS 6 (pS 5 (pS 4 (pS 1 (pU 0))))))), rfl, abd, cI _, cH _, (by rw [show (m + 1).toNat = m.toNat + 1 by omega]; rfl), (by simp; omega), cG 0, abg, abh, abe, abf, abi, abj, abb, aa1.symm, aas, aat, aau, aav, m4.symm, aaz, aa0, aa2, aa3, m5.symm⟩ ?_)
 rintro avg _ avh ⟨ab, q, at_, ats, ov, outs, aq, rfl, avi, fh, m9, hq, hr, hatl, hol, na, gr, nb, gs, i1, i2, i3, abk, abl, abm, abn, abo, abp, abq, abr, abs, nc, abt⟩
 have hbm := hok.born m.toNat (by omega)
 refine w9b ?_
 refine qM (vJ (q : Int)) ?_
 refine qM (vP b) ?_
 refine qD rfl (yU rfl) (qD rfl (zK (k := 1) rfl dJ rfl nz40 rfl) (qD rfl (zM (u := bv) ag40 rfl (i1.cell (o := 1) rfl)) (qM (vJ m) ?_)))
 refine qD rfl (zI dB sz3 (v := bv) rfl rfl gs.read (by omega) (by omega)) (qD rfl (zN (r := bs.getD (m).toNat 0) rfl ag3 (z := m) rfl gs.read (cK fh.pins bv) (by omega) (by omega)) (qD rfl (gN rfl rfl) (qe (zA ?_))))
 refine yE (p := ((q : Int) : Int) ≤ (bs.getD (m).toNat 0)) rfl rfl (fun abw => ?_) (fun abw => ?_)
 refine cM (zA (zB ?_))
 refine zX (w9d ?_)
 refine qI rfl (xD (E := eNode) (e := 76) dC sz76 fh.pins (fun i5 abx aby abz cu d4 => ?_))
 have i6 := fh.step abz cu
 have nd := na.below cu
 have ne := gr.below cu
 have nf := nb.below cu
 have ng := gs.below cu
 have nh := i1.below cu
 have ni := i2.below cu
 have nj := i3.below cu
 have ab0 := zL d4 na.lt
 have ab1 := zL d4 gr.lt
 have ab2 := zL d4 nb.lt
 have ab3 := zL d4 gs.lt
 have ab4 := zF d4 i1.lt
 have ab5 := zF d4 i2.lt
 have ab6 := zF d4 i3.lt
 have nk := aby.weaken fh.size
 refine qI rfl (xD (E := eInt) (e := 3) dB sz3 i6.pins (fun i7 ab7 ab8 ab9 bp cv => ?_))
 have aca := i6.step ab9 bp
 have acb := nd.below bp
 have acc := ne.below bp
 have acd := nf.below bp
 have ace := ng.below bp
 have acf := nk.below bp
 have acg := nh.below bp
 have ach := ni.below bp
 have aci := nj.below bp
 have acj := zL cv nd.lt
 have ack := zL cv ne.lt
 have acl := zL cv nf.lt
 have acm := zL cv ng.lt
 have acn := zL cv nk.lt
 have aco := zF cv nh.lt
 have acp := zF cv ni.lt
 have acq := zF cv nj.lt
 have acr := ab8.weaken i6.size
 refine qM i5 ?_
 refine qM i7 ?_
 refine qe (zA (w9b ?_))
 refine qM (vJ 0) ?_
 refine qe (zA ?_)
 refine zX ?_
 obtain ⟨avj, d5, acs, act, cw⟩ := acf.sealed aca
 have acu := acb.moreO d5 cw ab0.symm
 have acv := acc.moreO d5 cw ab1.symm
 have acw := acd.moreO d5 cw ab2.symm
 have acx := ace.moreO d5 cw ab3.symm
 have acy := acr.moreO d5 cw acn
 have acz := acg.moreO cw ab4.symm
 have ac0 := ach.moreO cw ab5.symm
 have ac1 := aci.moreO cw ab6.symm
 obtain ⟨nl, d6, ac2, ac3, d7⟩ := acy.sealed acs
 have ac4 := acu.moreO d6 d7 acj.symm
 have ac5 := acv.moreO d6 d7 ack.symm
 have ac6 := acw.moreO d6 d7 acl.symm
 have ac7 := acx.moreO d6 d7 acm.symm
 have ac8 := acz.moreO d7 aco.symm
 have ac9 := ac0.moreO d7 acp.symm
 have ada := ac1.moreO d7 acq.symm
 refine yO (fun k en W => ∃ (ab : Nat → Value) (c : Nat) (lv : Value) (ls : List Nd) (fv : Value) (fr : List Int) (ah : Pin), en = (upd (upd (upd (upd (upd (upd (upd (upd (upd (upd ab 0 (vP b)) 1 (vJ m)) 4 (vP b1)) 5 aw) 6 at_) 7 (vP y)) 8 (vJ (q : Int))) 9 lv) 10 fv) 11 (vJ (c : Int))) ∧ k = m.toNat + 1 - c ∧ Ext noS G w ah W ∧ Pin.le nl ah ∧ (c ≤ m.toNat + 1) ∧ (lvM ns bs (reachM ns m.toNat) ats q c = (ls, fr)) ∧ (ls.length = fr.length ∧ ls.length ≤ c) ∧ (∀ i, i < fr.length → 0 ≤ fr.getD i 0 ∧ fr.getD i 0 ≤ m) ∧ (Own eInt 3 ah W w.heap.size at_ (ats)) ∧ (Own eNode 76 ah W w.heap.size ov (outs)) ∧ (Own eNode 76 ah W 0 bu (ns)) ∧ (Own eInt 3 ah W 0 bv (bs)) ∧ (Bx ah W b [bu, bv]) ∧ (Bx ah W b1 [vN]) ∧ (Bx ah W y [ov]) ∧ (RSl eNode ah lv (ls)) ∧ (RSl eInt ah fv (fr))) _ ⟨_, 0, i5, [], i7, [], nl, (pS 11 (pS 10 (pS 9 (pS 8 (pS 7 (pS 6 (pS 5 (pS 4 (pS 1 (pU 0)))))))))), rfl, ac2, cI _, cH _, rfl, ⟨rfl, cG 0⟩, (fun i hi => absurd hi (cJ i)), ac4, ac5, ac6, ac7, ac8, ac9, ada, (act.mono d6), ac3⟩ ?_
 rintro avk _ gt ⟨ab, c, lv, ls, fv, fr, ah, rfl, avl, cx, f2, hk5, hrl, hll, hfb, gu, gv, d8, fi, f3, gw, gx, be, fj⟩
 refine w9b ?_
 refine qM (vJ (c : Int)) ?_
 refine qM (vJ m) ?_
 refine qD rfl (gN rfl rfl) (qe (zA ?_))
 refine yE (p := ((c : Int) : Int) ≤ m) rfl rfl (fun adb => ?_) (fun adb => ?_)
 have hlk := hok.lens c (by omega)
 refine cM (zA (zB ?_))
 refine zX (w9b ?_)
 refine qM aw ?_
 refine qM (vJ (c : Int)) ?_
 refine qD rfl (zI dR sz4 (v := aw) rfl rfl ml (by omega) (by omega)) (qD rfl (qC (r := (reachM ns (m).toNat).getD c false) rfl ag4 (z := (c : Int)) rfl ml (cB cx.pins (cA (cA (cA m9 d5) d6) f2)) (by omega) (by omega)) (qD rfl (xM rfl) (qM (.bool (!((reachM ns (m).toNat).getD c false))) ?_)))
 refine qbn (t := 46) rfl (fun i8 => ?_) (fun i8 => ?_)
 refine qN (zU (v := vP b) rfl) ?_
 refine qN (yU rfl) ?_
 refine qN (zK (k := 1) rfl dJ rfl nz40 rfl) ?_
 refine qN (zM (u := bv) ag40 rfl (f3.cell (o := 1) rfl)) ?_
 refine qN (zU (v := vJ (c : Int)) rfl) ?_
 refine qN (zI dB sz3 (v := bv) rfl rfl fi.read (by omega) (by omega)) ?_
 refine qN (zN (r := bs.getD c 0) rfl ag3 (z := (c : Int)) rfl fi.read (cK cx.pins bv) (by omega) (by omega)) ?_
 refine qN (zU (v := vJ (q : Int)) rfl) ?_
 refine qN (jU rfl rfl) ?_
 refine qD rfl (yH (v := .bool (decide ((bs.getD c 0 : Int) ≠ (q : Int)))) rfl rfl) (qe (zA ?_))
 refine yE (p := (bs.getD c 0 : Int) ≠ (q : Int)) rfl rfl (fun adc => ?_) (fun adc => ?_)
 refine cO (zZ (yL (zA (zC ?_))))
 refine qM (vJ (c : Int)) ?_
 refine qD rfl (yP rfl rfl (by omega)) (qM (vJ ((c : Int) + 1)) ?_)
 refine qe (yK (⟨_, ?_, _, rfl, _, c + 1, lv, ls, fv, fr, ah, (pS 11 (pS 10 (pS 9 (pS 8 (pS 7 (pS 6 (pS 5 (pS 4 (pS 1 (pU 0)))))))))), rfl, cx, f2, (by omega), (lv_skip hrl (fun g => by have := g.2; omega)), (by omega), hfb, gu, gv, d8, fi, f3, gw, gx, be, fj⟩))
 omega
 refine cM (zA (zB ?_))
 refine pC (fun (en : Nat → Value) (W : World) => ∃ (ab : Nat → Value) (f4 : Nat) (bq : Value) (br : Value) (ak : Pin), en = (upd (upd (upd (upd (upd (upd (upd (upd (upd (upd (upd ab 0 (vP b)) 1 (vJ m)) 4 (vP b1)) 5 aw) 6 at_) 7 (vP y)) 8 (vJ (q : Int))) 9 lv) 10 fv) 11 (vJ (c : Int))) 12 (vP f4)) ∧ Ext noS G w ak W ∧ Pin.le ah ak ∧ (RSl eInt ak bq (sortL (atL ats ((ns.getD c default).l)))) ∧ (RSl eInt ak br (sortL (atL ats ((ns.getD c default).r)))) ∧ (Own eInt 3 ak W w.heap.size at_ ats) ∧ (Own eNode 76 ak W w.heap.size ov outs) ∧ (Own eNode 76 ak W 0 bu ns) ∧ (Own eInt 3 ak W 0 bv bs) ∧ (Bx ak W b [bu, bv]) ∧ (Bx ak W b1 [vN]) ∧ (Bx ak W y [ov]) ∧ (BxP ak f4 [bq, br])) ?_ ?_
 ·rintro _ avn ⟨ab, f4, bq, br, ak, rfl, add, al, gy, gz, ade, adf, adg, adh, adi, adj, adk, nm⟩
  refine w9a ?_
  refine qM (vJ 0) ?_
  refine qe (zA (zB ?_))
  refine zX (c_cutE (fun (en : Nat → Value) (W : World) => ∃ (ab : Nat → Value) (i : Nat) (d : Pin), en = (upd (upd (upd (upd (upd (upd (upd (upd (upd (upd (upd (upd ab 0 (vP b)) 1 (vJ m)) 4 (vP b1)) 5 aw) 6 at_) 7 (vP y)) 8 (vJ (q : Int))) 9 lv) 10 fv) 11 (vJ (c : Int))) 12 (vP f4)) 13 (vJ (i : Int))) ∧ Ext noS G w d W ∧ Pin.le ak d ∧ (i ≤ ls.length) ∧ (posM ls (ndAt ats (ns.getD c default)) = i) ∧ (Own eInt 3 d W w.heap.size at_ (ats)) ∧ (Own eNode 76 d W w.heap.size ov (outs)) ∧ (Own eNode 76 d W 0 bu (ns)) ∧ (Own eInt 3 d W 0 bv (bs)) ∧ (Bx d W b [bu, bv]) ∧ (Bx d W b1 [vN]) ∧ (Bx d W y [ov])) 4 ?_ ?_)
  ·rintro _ d9 ⟨ab, i, d, rfl, f5, f, hi, hpe, i9, ja, jb, jc, jd, je, jf⟩
   refine yL (zA (zB ?_))
   refine pC (fun (en : Nat → Value) (W : World) => ∃ (ab : Nat → Value) (ao : Value) (ad : Pin), en = (upd (upd (upd (upd (upd (upd (upd (upd (upd (upd (upd ab 0 (vP b)) 1 (vJ m)) 4 (vP b1)) 5 aw) 6 at_) 7 (vP y)) 8 (vJ (q : Int))) 9 ao) 10 fv) 11 (vJ (c : Int))) 13 (vJ (i : Int))) ∧ Ext noS G w ad W ∧ Pin.le d ad ∧ (Own eInt 3 ad W w.heap.size at_ ats) ∧ (Own eNode 76 ad W w.heap.size ov outs) ∧ (Own eNode 76 ad W 0 bu ns) ∧ (Own eInt 3 ad W 0 bv bs) ∧ (Own eNode 76 ad W w.heap.size ao (((([]) ++ ((ls.take i).drop 0)) ++ ([(⟨sortL (atL ats ((ns.getD c default).l)), sortL (atL ats ((ns.getD c default).r))⟩ : Nd)])) ++ ((ls.take ls.length).drop i))) ∧ (Bx ad W b [bu, bv]) ∧ (Bx ad W b1 [vN]) ∧ (Bx ad W y [ov]) ∧ (Apart at_.ownBlock ao.ownBlock) ∧ (Apart ov.ownBlock ao.ownBlock) ∧ (Apart bu.ownBlock ao.ownBlock) ∧ (Apart bv.ownBlock ao.ownBlock) ∧ (Apart ao.ownBlock (some b)) ∧ (Apart ao.ownBlock (some b1)) ∧ (Apart ao.ownBlock (some y))) ?_ ?_
   ·rintro _ jg ⟨ab, ao, ad, rfl, nn, ea, adl, adm, adn, ado, adp, adq, adr, ads, adt, adu, adv, adw, adx, ady, adz⟩
    refine zA (pC (fun (en : Nat → Value) (W : World) => ∃ (ab : Nat → Value) (ax : Value) (ay : Pin), en = (upd (upd (upd (upd (upd (upd (upd (upd (upd (upd ab 0 (vP b)) 1 (vJ m)) 4 (vP b1)) 5 aw) 6 at_) 7 (vP y)) 8 (vJ (q : Int))) 9 ao) 10 ax) 11 (vJ (c : Int))) ∧ Ext noS G w ay W ∧ Pin.le ad ay ∧ (Own eInt 3 ay W w.heap.size at_ ats) ∧ (Own eNode 76 ay W w.heap.size ov outs) ∧ (Own eNode 76 ay W 0 bu ns) ∧ (Own eInt 3 ay W 0 bv bs) ∧ (Own eNode 76 ay W w.heap.size ao (((([]) ++ ((ls.take i).drop 0)) ++ ([(⟨sortL (atL ats ((ns.getD c default).l)), sortL (atL ats ((ns.getD c default).r))⟩ : Nd)])) ++ ((ls.take ls.length).drop i))) ∧ (Own eInt 3 ay W w.heap.size ax (((([]) ++ ((fr.take i).drop 0)) ++ ([(c : Int)])) ++ ((fr.take fr.length).drop i))) ∧ (Bx ay W b [bu, bv]) ∧ (Bx ay W b1 [vN]) ∧ (Bx ay W y [ov]) ∧ (Apart at_.ownBlock ax.ownBlock) ∧ (Apart ov.ownBlock ax.ownBlock) ∧ (Apart bu.ownBlock ax.ownBlock) ∧ (Apart bv.ownBlock ax.ownBlock) ∧ (Apart ao.ownBlock ax.ownBlock) ∧ (Apart ax.ownBlock (some b)) ∧ (Apart ax.ownBlock (some b1)) ∧ (Apart ax.ownBlock (some y))) ?_ ?_)
    ·rintro _ avo ⟨ab, ax, ay, rfl, ad0, ad1, ad2, ad3, ad4, ad5, ad6, ad7, ad8, ad9, aea, aeb, aec, aed, aee, aef, aeg, aeh, aei⟩
     refine w9c ?_
     refine qM (vJ (c : Int)) ?_
     refine qD rfl (yP rfl rfl (by omega)) (qM (vJ ((c : Int) + 1)) ?_)
     refine qe (yK ?_)
     obtain ⟨avp, fk, aej, aek, cy⟩ := ad6.sealed ad0
     have ael := ad2.moreO fk cy adt
     have aem := ad3.moreO fk cy adu
     have aen := ad4.moreO fk cy adv
     have aeo := ad5.moreO fk cy adw
     have aep := ad7.moreO fk cy aef.symm
     have aeq := ad8.moreO cy adx.symm
     have aer := ad9.moreO cy ady.symm
     have aes := aea.moreO cy adz.symm
     obtain ⟨aet, fl, aeu, aev, eb⟩ := aep.sealed aej
     have aew := ael.moreO fl eb aeb
     have aex := aem.moreO fl eb aec
     have aey := aen.moreO fl eb aed
     have aez := aeo.moreO fl eb aee
     have ae0 := aeq.moreO eb aeg.symm
     have ae1 := aer.moreO eb aeh.symm
     have ae2 := aes.moreO eb aei.symm
     have jh := ins_len (x := ndAt ats (ns.getD c default)) (l := ls) (i := i) (by omega)
     have hi2 := ins_len (x := (c : Int)) (l := fr) (i := i) (by omega)
     refine ⟨_, ?_, _, rfl, _, c + 1, ao, ((([]) ++ ((ls.take i).drop 0)) ++ ([(⟨sortL (atL ats ((ns.getD c default).l)), sortL (atL ats ((ns.getD c default).r))⟩ : Nd)])) ++ ((ls.take ls.length).drop i), ax, ((([]) ++ ((fr.take i).drop 0)) ++ ([(c : Int)])) ++ ((fr.take fr.length).drop i), aet, (pS 11 (pS 10 (pS 9 (pS 8 (pS 7 (pS 6 (pS 5 (pS 4 (pS 1 (pU 0)))))))))), rfl, aeu, (cA (cA (cA (cA (cA (cA f2 al) f) ea) ad1) fk) fl), (by omega), (lv_ins hrl i8 (by omega) hpe), ⟨jh.trans ((cgA (· + 1) hll.1).trans hi2.symm), (by have : _ = _ := jh; exact cP (Nat.le_of_eq jh) (by omega))⟩, (ins_all (P := fun x => 0 ≤ x ∧ x ≤ m) hfb (by omega)), aew, aex, aey, aez, ae0, ae1, ae2, (aek.mono fl), aev⟩
     omega
    refine yQ (S := fun wz => Pins ad wz) (last := 13) (by kernel_rfl) rfl ?_
    have bf := bdr jg
    have ae4 := nn.pins.below bf
    have ar := nn.step ae4 bf
    have ji := adl.below bf
    have jj := adm.below bf
    have jk := adn.below bf
    have jl := ado.below bf
    have jm := adp.below bf
    have jn := adq.below bf
    have jo := adr.below bf
    have jp := ads.below bf
    refine dM 1 fv ar.pins ?_
    refine dM 2 (vJ (i : Int)) ar.pins ?_
    obtain ⟨jq, jr, ae5⟩ := qK fj (lo := none) (hi := some ((i : Int))) (0) (i) (cE ⟨rfl, rfl⟩) (cF ⟨_, rfl, (by omega), rfl⟩) (by omega) (by omega)
    refine dT (i := 3) rfl rfl (by kernel_rfl) (fun _ _ => ae5 dB sz3 rfl rfl rfl) ar.pins ?_
    refine dM 5 (vJ (c : Int)) ar.pins ?_
    refine dM 8 fv ar.pins ?_
    refine dM 9 (vJ (i : Int)) ar.pins ?_
    obtain ⟨js, jt, ae6⟩ := qK fj (lo := some ((i : Int))) (hi := none) (i) (fr.length) (cF ⟨_, rfl, (by omega), rfl⟩) (cE ⟨rfl, rfl⟩) (by omega) (by omega)
    refine dT (i := 10) rfl rfl (by kernel_rfl) (fun _ _ => ae6 dB sz3 rfl rfl rfl) ar.pins ?_
    refine jN (i := 0) (j := 6) (by kernel_rfl) ?_ ?_
    refine (dQ (i := 0) rfl rfl (xD (E := eInt) (e := 3) dB sz3 ar.pins (fun ju ae7 ae8 ae9 bt cz => ?_)))
    have c0 := ar.step ae9 bt
    have jv := ji.below bt
    have jw := jj.below bt
    have jx := jk.below bt
    have jy := jl.below bt
    have jz := jm.below bt
    have j0 := jn.below bt
    have j1 := jo.below bt
    have j2 := jp.below bt
    have g0 := zL cz ji.lt
    have g1 := zL cz jj.lt
    have g2 := zL cz jk.lt
    have g3 := zL cz jl.lt
    have g4 := zL cz jm.lt
    have g5 := zF cz jn.lt
    have g6 := zF cz jo.lt
    have g7 := zF cz jp.lt
    have g8 := ae8.weaken ar.size
    refine ⟨fun _ => c0.pins, ?_⟩
    refine jN (i := 4) (j := 6) (by kernel_rfl) ?_ ?_
    refine (dQ (i := 4) rfl rfl (oA (E := eInt) (v := ju) (u := jq) 8 dB ap3 (by decide) rfl rfl c0.pins g8 ((jr.mono (cA (cA al f) ea)).src c0.pins (by decide)) (c0.size) (fun afa avq afb afc bw c1 => ?_)))
    have g9 := c0.write afc bw ((yG g8))
    have afd := jv.keptA bw g0.symm
    have afe := jw.keptA bw g1.symm
    have aff := jx.keptA bw g2.symm
    have afg := jy.keptA bw g3.symm
    have afh := jz.keptA bw g4.symm
    have afi := j0.keptA bw g5.symm
    have afj := j1.keptA bw g6.symm
    have afk := j2.keptA bw g7.symm
    have no := zJ g0.symm c1 jv.lt
    have np := zJ g1.symm c1 jw.lt
    have nq := zJ g2.symm c1 jx.lt
    have nr := zJ g3.symm c1 jy.lt
    have nt := zJ g4.symm c1 jz.lt
    have nu := zP g5.symm c1 j0.lt
    have nv := zP g6.symm c1 j1.lt
    have nw := zP g7.symm c1 j2.lt
    have avr := la2 ([]) ((fr.take i).drop 0)
    refine ⟨fun _ => g9.pins, ?_⟩
    refine dP (i := 6) rfl rfl (yX (E := eInt) (e := 3) [vJ (c : Int)] [(c : Int)] dB sz3 zr3 (by exact qG (by rfl)) (yF (by rfl)) rfl rfl rfl rfl (by decide) g9.pins (fun nx afl afm afn bg avs => ?_))
    have ha := g9.step afn bg
    have ny := afd.below bg
    have nz := afe.below bg
    have n0 := aff.below bg
    have n1 := afg.below bg
    have n2 := afh.below bg
    have n3 := afb.below bg
    have n4 := afi.below bg
    have n5 := afj.below bg
    have n6 := afk.below bg
    have afo := afm.weaken g9.size
    refine ⟨fun _ => ha.pins, ?_⟩
    refine dP (i := 7) rfl rfl (oA (E := eInt) (v := afa) (u := nx) 8 dB ap3 (by decide) rfl rfl ha.pins n3 afo.src (ha.size) (fun afp avt n7 afq bz c2 => ?_))
    have f6 := ha.write afq bz ((yG n3))
    have n8 := ny.keptA bz no
    have n9 := nz.keptA bz np
    have oa := n0.keptA bz nq
    have ob := n1.keptA bz nr
    have oc := n2.keptA bz nt
    have od := n4.keptA bz nu
    have oe := n5.keptA bz nv
    have og := n6.keptA bz nw
    have oh := zJ no c2 ny.lt
    have oi := zJ np c2 nz.lt
    have oj := zJ nq c2 n0.lt
    have ok := zJ nr c2 n1.lt
    have ol := zJ nt c2 n2.lt
    have om := zP nu c2 n4.lt
    have oo := zP nv c2 n5.lt
    have op := zP nw c2 n6.lt
    have avu := la1 (([]) ++ ((fr.take i).drop 0)) (c : Int)
    refine ⟨fun _ => f6.pins, ?_⟩
    refine dP (i := 11) rfl rfl (oA (E := eInt) (v := afp) (u := js) 8 dB ap3 (by decide) rfl rfl f6.pins n7 ((jt.mono (cA (cA al f) ea)).src f6.pins (by decide)) (f6.size) (fun oq avv afr afs b0 c3 => ?_))
    have j3 := f6.write afs b0 ((yG n7))
    have aft := n8.keptA b0 oh
    have afu := n9.keptA b0 oi
    have afv := oa.keptA b0 oj
    have afw := ob.keptA b0 ok
    have afx := oc.keptA b0 ol
    have afy := od.keptA b0 om
    have afz := oe.keptA b0 oo
    have af0 := og.keptA b0 op
    have af1 := zJ oh c3 n8.lt
    have af2 := zJ oi c3 n9.lt
    have af3 := zJ oj c3 oa.lt
    have af4 := zJ ok c3 ob.lt
    have af5 := zJ ol c3 oc.lt
    have af6 := zP om c3 od.lt
    have af7 := zP oo c3 oe.lt
    have af8 := zP op c3 og.lt
    have avw := la2 ((([]) ++ ((fr.take i).drop 0)) ++ ([(c : Int)])) ((fr.take fr.length).drop i)
    refine ⟨fun _ => j3.pins, ?_⟩
    refine dM 12 oq j3.pins ?_
    exact zY (by kernel_rfl) (qL ⟨_, oq, ad, (pS 11 (pS 10 (pS 9 (pS 8 (pS 7 (pS 6 (pS 5 (pS 4 (pS 1 (pU 0)))))))))), j3, (cI _), aft, afu, afv, afw, afx, afr, afy, afz, af0, af1, af2, af3, af4, af5, af6.symm, af7.symm, af8.symm⟩)
    refine (dQ (i := 6) rfl rfl (yX (E := eInt) (e := 3) [vJ (c : Int)] [(c : Int)] dB sz3 zr3 (by exact qG (by rfl)) (yF (by rfl)) rfl rfl rfl rfl (by decide) c0.pins (fun os af9 aga agb bh agc => ?_)))
    have f7 := c0.step agb bh
    have ot := jv.below bh
    have ow := jw.below bh
    have ox := jx.below bh
    have oy := jy.below bh
    have oz := jz.below bh
    have o0 := g8.below bh
    have o1 := j0.below bh
    have o2 := j1.below bh
    have o3 := j2.below bh
    have agd := zL agc g8.lt
    have age := aga.weaken c0.size
    refine ⟨fun _ => f7.pins, ?_⟩
    refine dP (i := 4) rfl rfl (oA (E := eInt) (v := ju) (u := jq) 8 dB ap3 (by decide) rfl rfl f7.pins o0 ((jr.mono (cA (cA al f) ea)).src f7.pins (by decide)) (f7.size) (fun agf avx o4 agh bi c4 => ?_))
    have hb := f7.write agh bi ((yG o0))
    have o5 := ot.keptA bi g0.symm
    have o6 := ow.keptA bi g1.symm
    have o7 := ox.keptA bi g2.symm
    have o8 := oy.keptA bi g3.symm
    have o9 := oz.keptA bi g4.symm
    have agi := age.keptA bi agd
    have pa := o1.keptA bi g5.symm
    have pb := o2.keptA bi g6.symm
    have pc := o3.keptA bi g7.symm
    have pd := zJ g0.symm c4 ot.lt
    have pe := zJ g1.symm c4 ow.lt
    have pf := zJ g2.symm c4 ox.lt
    have pg := zJ g3.symm c4 oy.lt
    have ph := zJ g4.symm c4 oz.lt
    have pi := zP g5.symm c4 o1.lt
    have pj := zP g6.symm c4 o2.lt
    have pk := zP g7.symm c4 o3.lt
    have avy := la2 ([]) ((fr.take i).drop 0)
    refine ⟨fun _ => hb.pins, ?_⟩
    refine dP (i := 7) rfl rfl (oA (E := eInt) (v := agf) (u := os) 8 dB ap3 (by decide) rfl rfl hb.pins o4 agi.src (hb.size) (fun agj avz pl agk b2 c5 => ?_))
    have f8 := hb.write agk b2 ((yG o4))
    have pm := o5.keptA b2 pd
    have pn := o6.keptA b2 pe
    have po := o7.keptA b2 pf
    have pp := o8.keptA b2 pg
    have pq := o9.keptA b2 ph
    have pr := pa.keptA b2 pi
    have ps := pb.keptA b2 pj
    have pt := pc.keptA b2 pk
    have pu := zJ pd c5 o5.lt
    have pv := zJ pe c5 o6.lt
    have pw := zJ pf c5 o7.lt
    have px := zJ pg c5 o8.lt
    have py := zJ ph c5 o9.lt
    have pz := zP pi c5 pa.lt
    have p0 := zP pj c5 pb.lt
    have p1 := zP pk c5 pc.lt
    have av0 := la1 (([]) ++ ((fr.take i).drop 0)) (c : Int)
    refine ⟨fun _ => f8.pins, ?_⟩
    refine dP (i := 11) rfl rfl (oA (E := eInt) (v := agj) (u := js) 8 dB ap3 (by decide) rfl rfl f8.pins pl ((jt.mono (cA (cA al f) ea)).src f8.pins (by decide)) (f8.size) (fun p2 av1 agl agm b3 c6 => ?_))
    have j4 := f8.write agm b3 ((yG pl))
    have agn := pm.keptA b3 pu
    have ago := pn.keptA b3 pv
    have agp := po.keptA b3 pw
    have agq := pp.keptA b3 px
    have agr := pq.keptA b3 py
    have ags := pr.keptA b3 pz
    have agt := ps.keptA b3 p0
    have agu := pt.keptA b3 p1
    have agv := zJ pu c6 pm.lt
    have agw := zJ pv c6 pn.lt
    have agx := zJ pw c6 po.lt
    have agy := zJ px c6 pp.lt
    have agz := zJ py c6 pq.lt
    have ag0 := zP pz c6 pr.lt
    have ag1 := zP p0 c6 ps.lt
    have ag2 := zP p1 c6 pt.lt
    have av2 := la2 ((([]) ++ ((fr.take i).drop 0)) ++ ([(c : Int)])) ((fr.take fr.length).drop i)
    refine ⟨fun _ => j4.pins, ?_⟩
    refine dM 12 p2 j4.pins ?_
    exact zY (by kernel_rfl) (qL ⟨_, p2, ad, (pS 11 (pS 10 (pS 9 (pS 8 (pS 7 (pS 6 (pS 5 (pS 4 (pS 1 (pU 0)))))))))), j4, (cI _), agn, ago, agp, agq, agr, agl, ags, agt, agu, agv, agw, agx, agy, agz, ag0.symm, ag1.symm, ag2.symm⟩)
    refine (dQ (i := 6) rfl rfl (yX (E := eInt) (e := 3) [vJ (c : Int)] [(c : Int)] dB sz3 zr3 (by exact qG (by rfl)) (yF (by rfl)) rfl rfl rfl rfl (by decide) ar.pins (fun p3 ag5 ag6 ag7 b4 av3 => ?_)))
    have hc := ar.step ag7 b4
    have p4 := ji.below b4
    have p5 := jj.below b4
    have p6 := jk.below b4
    have p7 := jl.below b4
    have p8 := jm.below b4
    have p9 := jn.below b4
    have qa := jo.below b4
    have qb := jp.below b4
    have qc := ag6.weaken ar.size
    refine ⟨fun _ => hc.pins, ?_⟩
    refine dP (i := 0) rfl rfl (xD (E := eInt) (e := 3) dB sz3 hc.pins (fun qf ag8 ag9 aha bj b5 => ?_))
    have f9 := hc.step aha bj
    have qg := p4.below bj
    have qh := p5.below bj
    have qi := p6.below bj
    have qj := p7.below bj
    have qk := p8.below bj
    have ahb := qc.below bj
    have ql := p9.below bj
    have qm := qa.below bj
    have qn := qb.below bj
    have qo := zL b5 p4.lt
    have qp := zL b5 p5.lt
    have qq := zL b5 p6.lt
    have qr := zL b5 p7.lt
    have qs := zL b5 p8.lt
    have ahc := zL b5 qc.lt
    have qt := zF b5 p9.lt
    have qu := zF b5 qa.lt
    have qv := zF b5 qb.lt
    have qw := ag9.weaken hc.size
    refine ⟨fun _ => f9.pins, ?_⟩
    refine dP (i := 4) rfl rfl (oA (E := eInt) (v := qf) (u := jq) 8 dB ap3 (by decide) rfl rfl f9.pins qw ((jr.mono (cA (cA al f) ea)).src f9.pins (by decide)) (f9.size) (fun ahd av4 qx ahe bk c7 => ?_))
    have hd := f9.write ahe bk ((yG qw))
    have qy := qg.keptA bk qo.symm
    have qz := qh.keptA bk qp.symm
    have q2 := qi.keptA bk qq.symm
    have q3 := qj.keptA bk qr.symm
    have q4 := qk.keptA bk qs.symm
    have ahf := ahb.keptA bk ahc.symm
    have q5 := ql.keptA bk qt.symm
    have q6 := qm.keptA bk qu.symm
    have q7 := qn.keptA bk qv.symm
    have q8 := zJ qo.symm c7 qg.lt
    have q9 := zJ qp.symm c7 qh.lt
    have ra := zJ qq.symm c7 qi.lt
    have rb := zJ qr.symm c7 qj.lt
    have rc := zJ qs.symm c7 qk.lt
    have rd := zP qt.symm c7 ql.lt
    have re := zP qu.symm c7 qm.lt
    have rf := zP qv.symm c7 qn.lt
    have av5 := la2 ([]) ((fr.take i).drop 0)
    refine ⟨fun _ => hd.pins, ?_⟩
    refine dP (i := 7) rfl rfl (oA (E := eInt) (v := ahd) (u := p3) 8 dB ap3 (by decide) rfl rfl hd.pins qx ahf.src (hd.size) (fun ahg av6 rg ahh b6 c8 => ?_))
    have ga := hd.write ahh b6 ((yG qx))
    have rh := qy.keptA b6 q8
    have ri := qz.keptA b6 q9
    have rj := q2.keptA b6 ra
    have rk := q3.keptA b6 rb
    have rl := q4.keptA b6 rc
    have rm := q5.keptA b6 rd
    have rn := q6.keptA b6 re
    have ro := q7.keptA b6 rf
    have rp := zJ q8 c8 qy.lt
    have rq := zJ q9 c8 qz.lt
    have rr := zJ ra c8 q2.lt
    have rs := zJ rb c8 q3.lt
    have rt := zJ rc c8 q4.lt
    have ru := zP rd c8 q5.lt
    have rv := zP re c8 q6.lt
    have rx := zP rf c8 q7.lt
    have av7 := la1 (([]) ++ ((fr.take i).drop 0)) (c : Int)
    refine ⟨fun _ => ga.pins, ?_⟩
    refine dP (i := 11) rfl rfl (oA (E := eInt) (v := ahg) (u := js) 8 dB ap3 (by decide) rfl rfl ga.pins rg ((jt.mono (cA (cA al f) ea)).src ga.pins (by decide)) (ga.size) (fun ry av8 ahi ahj b7 c9 => ?_))
    have j5 := ga.write ahj b7 ((yG rg))
    have ahk := rh.keptA b7 rp
    have ahl := ri.keptA b7 rq
    have ahm := rj.keptA b7 rr
    have ahn := rk.keptA b7 rs
    have aho := rl.keptA b7 rt
    have ahp := rm.keptA b7 ru
    have ahq := rn.keptA b7 rv
    have ahr := ro.keptA b7 rx
    have ahs := zJ rp c9 rh.lt
    have aht := zJ rq c9 ri.lt
    have ahu := zJ rr c9 rj.lt
    have ahv := zJ rs c9 rk.lt
    have ahw := zJ rt c9 rl.lt
    have ahx := zP ru c9 rm.lt
    have ahy := zP rv c9 rn.lt
    have ahz := zP rx c9 ro.lt
    have av9 := la2 ((([]) ++ ((fr.take i).drop 0)) ++ ([(c : Int)])) ((fr.take fr.length).drop i)
    refine ⟨fun _ => j5.pins, ?_⟩
    refine dM 12 ry j5.pins ?_
    exact zY (by kernel_rfl) (qL ⟨_, ry, ad, (pS 11 (pS 10 (pS 9 (pS 8 (pS 7 (pS 6 (pS 5 (pS 4 (pS 1 (pU 0)))))))))), j5, (cI _), ahk, ahl, ahm, ahn, aho, ahi, ahp, ahq, ahr, ahs, aht, ahu, ahv, ahw, ahx.symm, ahy.symm, ahz.symm⟩)
   refine yQ (S := fun wz => Pins d wz) (last := 13) (by kernel_rfl) rfl ?_
   have b8 := bdr d9
   have ah0 := f5.pins.below b8
   have au := f5.step ah0 b8
   have j6 := i9.below b8
   have j7 := ja.below b8
   have j8 := jb.below b8
   have j9 := jc.below b8
   have ka := jd.below b8
   have kb := je.below b8
   have kc := jf.below b8
   refine dM 1 lv au.pins ?_
   refine dM 2 (vJ (i : Int)) au.pins ?_
   obtain ⟨kd, ke, ah1⟩ := qK be (lo := none) (hi := some ((i : Int))) (0) (i) (cE ⟨rfl, rfl⟩) (cF ⟨_, rfl, (by omega), rfl⟩) (by omega) (by omega)
   refine dT (i := 3) rfl rfl (by kernel_rfl) (fun _ _ => ah1 dC sz76 rfl rfl rfl) au.pins ?_
   refine dT (i := 5) rfl rfl (by kernel_rfl) (fun _ hS => zR (cs := [bq, br]) ag76 sz76 rfl (fun j u hj => (cB hS f) _ _ _ (nm _ _ (by simpa using hj)))) au.pins ?_
   refine dM 8 lv au.pins ?_
   refine dM 9 (vJ (i : Int)) au.pins ?_
   obtain ⟨kf, kg, ah2⟩ := qK be (lo := some ((i : Int))) (hi := none) (i) (ls.length) (cF ⟨_, rfl, (by omega), rfl⟩) (cE ⟨rfl, rfl⟩) (by omega) (by omega)
   refine dT (i := 10) rfl rfl (by kernel_rfl) (fun _ _ => ah2 dC sz76 rfl rfl rfl) au.pins ?_
   refine jN (i := 0) (j := 6) (by kernel_rfl) ?_ ?_
   refine (dQ (i := 0) rfl rfl (xD (E := eNode) (e := 76) dC sz76 au.pins (fun kh ah3 ah4 ah5 da ec => ?_)))
   have db := au.step ah5 da
   have ki := j6.below da
   have kj := j7.below da
   have kk := j8.below da
   have kl := j9.below da
   have km := ka.below da
   have kn := kb.below da
   have ko := kc.below da
   have he := zL ec j6.lt
   have hf := zL ec j7.lt
   have hg := zL ec j8.lt
   have hh := zL ec j9.lt
   have hk := zF ec ka.lt
   have hl := zF ec kb.lt
   have hn := zF ec kc.lt
   have ho := ah4.weaken au.size
   refine ⟨fun _ => db.pins, ?_⟩
   refine jN (i := 4) (j := 6) (by kernel_rfl) ?_ ?_
   refine (dQ (i := 4) rfl rfl (oA (E := eNode) (v := kh) (u := kd) 48 dC ap76 (by decide) rfl rfl db.pins ho ((ke.mono (cA al f)).src db.pins (by decide)) (db.size) (fun ah6 awa ah7 ah8 dc ed => ?_)))
   have hp := db.write ah8 dc ((yG ho))
   have ah9 := ki.keptA dc he.symm
   have aia := kj.keptA dc hf.symm
   have aib := kk.keptA dc hg.symm
   have aic := kl.keptA dc hh.symm
   have aid := km.keptA dc hk.symm
   have aie := kn.keptA dc hl.symm
   have aif := ko.keptA dc hn.symm
   have rz := zJ he.symm ed ki.lt
   have r0 := zJ hf.symm ed kj.lt
   have r1 := zJ hg.symm ed kk.lt
   have r2 := zJ hh.symm ed kl.lt
   have r3 := zP hk.symm ed km.lt
   have r4 := zP hl.symm ed kn.lt
   have r5 := zP hn.symm ed ko.lt
   have awb := la2 ([]) ((ls.take i).drop 0)
   refine ⟨fun _ => hp.pins, ?_⟩
   refine dP (i := 6) rfl rfl (xF (E := eNode) (e := 76) [bq, br] (⟨sortL (atL ats ((ns.getD c default).l)), sortL (atL ats ((ns.getD c default).r))⟩ : Nd) dC sz76 zr76 ⟨_, _, rfl, (gy.mono f), (gz.mono f)⟩ rfl (by decide) hp.pins (fun r6 aig aih aii b9 awc => ?_))
   have hs := hp.step aii b9
   have r7 := ah9.below b9
   have r8 := aia.below b9
   have r9 := aib.below b9
   have sa := aic.below b9
   have sb := ah7.below b9
   have sc := aid.below b9
   have sd := aie.below b9
   have se := aif.below b9
   have aij := aih.weaken hp.size
   refine ⟨fun _ => hs.pins, ?_⟩
   refine dP (i := 7) rfl rfl (oA (E := eNode) (v := ah6) (u := r6) 48 dC ap76 (by decide) rfl rfl hs.pins sb aij.src (hs.size) (fun aik awd sf ail dd ee => ?_))
   have gb := hs.write ail dd ((yG sb))
   have sg := r7.keptA dd rz
   have sh := r8.keptA dd r0
   have si := r9.keptA dd r1
   have sj := sa.keptA dd r2
   have sk := sc.keptA dd r3
   have sl := sd.keptA dd r4
   have sm := se.keptA dd r5
   have sn := zJ rz ee r7.lt
   have sp := zJ r0 ee r8.lt
   have sq := zJ r1 ee r9.lt
   have sr := zJ r2 ee sa.lt
   have ss := zP r3 ee sc.lt
   have st := zP r4 ee sd.lt
   have su := zP r5 ee se.lt
   have awe := la1 (([]) ++ ((ls.take i).drop 0)) (⟨sortL (atL ats ((ns.getD c default).l)), sortL (atL ats ((ns.getD c default).r))⟩ : Nd)
   refine ⟨fun _ => gb.pins, ?_⟩
   refine dP (i := 11) rfl rfl (oA (E := eNode) (v := aik) (u := kf) 48 dC ap76 (by decide) rfl rfl gb.pins sf ((kg.mono (cA al f)).src gb.pins (by decide)) (gb.size) (fun sv awf aim ain de ef => ?_))
   have kp := gb.write ain de ((yG sf))
   have aio := sg.keptA de sn
   have aip := sh.keptA de sp
   have aiq := si.keptA de sq
   have air := sj.keptA de sr
   have ais := sk.keptA de ss
   have ait := sl.keptA de st
   have aiu := sm.keptA de su
   have aiv := zJ sn ef sg.lt
   have aiw := zJ sp ef sh.lt
   have aix := zJ sq ef si.lt
   have aiy := zJ sr ef sj.lt
   have aiz := zP ss ef sk.lt
   have ai0 := zP st ef sl.lt
   have ai1 := zP su ef sm.lt
   have awg := la2 ((([]) ++ ((ls.take i).drop 0)) ++ ([(⟨sortL (atL ats ((ns.getD c default).l)), sortL (atL ats ((ns.getD c default).r))⟩ : Nd)])) ((ls.take ls.length).drop i)
   refine ⟨fun _ => kp.pins, ?_⟩
   refine dM 12 sv kp.pins ?_
   exact zY (by kernel_rfl) (qL ⟨_, sv, d, (pS 13 (pS 11 (pS 10 (pS 9 (pS 8 (pS 7 (pS 6 (pS 5 (pS 4 (pS 1 (pU 0))))))))))), kp, (cI _), aio, aip, aiq, air, aim, ais, ait, aiu, aiv, aiw, aix, aiy, aiz.symm, ai0.symm, ai1.symm⟩)
   refine (dQ (i := 6) rfl rfl (xF (E := eNode) (e := 76) [bq, br] (⟨sortL (atL ats ((ns.getD c default).l)), sortL (atL ats ((ns.getD c default).r))⟩ : Nd) dC sz76 zr76 ⟨_, _, rfl, (gy.mono f), (gz.mono f)⟩ rfl (by decide) db.pins (fun sw ai2 ai3 ai4 ca ai5 => ?_)))
   have gc := db.step ai4 ca
   have sx := ki.below ca
   have sy := kj.below ca
   have sz := kk.below ca
   have s0 := kl.below ca
   have s1 := ho.below ca
   have s2 := km.below ca
   have s3 := kn.below ca
   have s4 := ko.below ca
   have ai6 := zL ai5 ho.lt
   have ai7 := ai3.weaken db.size
   refine ⟨fun _ => gc.pins, ?_⟩
   refine dP (i := 4) rfl rfl (oA (E := eNode) (v := kh) (u := kd) 48 dC ap76 (by decide) rfl rfl gc.pins s1 ((ke.mono (cA al f)).src gc.pins (by decide)) (gc.size) (fun ai8 awh s5 ai9 cb eg => ?_))
   have ht := gc.write ai9 cb ((yG s1))
   have s6 := sx.keptA cb he.symm
   have s7 := sy.keptA cb hf.symm
   have s8 := sz.keptA cb hg.symm
   have s9 := s0.keptA cb hh.symm
   have aja := ai7.keptA cb ai6
   have ta := s2.keptA cb hk.symm
   have tb := s3.keptA cb hl.symm
   have tc := s4.keptA cb hn.symm
   have td := zJ he.symm eg sx.lt
   have te := zJ hf.symm eg sy.lt
   have tf := zJ hg.symm eg sz.lt
   have tg := zJ hh.symm eg s0.lt
   have th := zP hk.symm eg s2.lt
   have ti := zP hl.symm eg s3.lt
   have tj := zP hn.symm eg s4.lt
   have awi := la2 ([]) ((ls.take i).drop 0)
   refine ⟨fun _ => ht.pins, ?_⟩
   refine dP (i := 7) rfl rfl (oA (E := eNode) (v := ai8) (u := sw) 48 dC ap76 (by decide) rfl rfl ht.pins s5 aja.src (ht.size) (fun ajb awj tk ajc df eh => ?_))
   have gd := ht.write ajc df ((yG s5))
   have tl := s6.keptA df td
   have tm := s7.keptA df te
   have tn := s8.keptA df tf
   have tp := s9.keptA df tg
   have tq := ta.keptA df th
   have ts := tb.keptA df ti
   have tt := tc.keptA df tj
   have tu := zJ td eh s6.lt
   have tv := zJ te eh s7.lt
   have tw := zJ tf eh s8.lt
   have tx := zJ tg eh s9.lt
   have ty := zP th eh ta.lt
   have tz := zP ti eh tb.lt
   have t0 := zP tj eh tc.lt
   have awk := la1 (([]) ++ ((ls.take i).drop 0)) (⟨sortL (atL ats ((ns.getD c default).l)), sortL (atL ats ((ns.getD c default).r))⟩ : Nd)
   refine ⟨fun _ => gd.pins, ?_⟩
   refine dP (i := 11) rfl rfl (oA (E := eNode) (v := ajb) (u := kf) 48 dC ap76 (by decide) rfl rfl gd.pins tk ((kg.mono (cA al f)).src gd.pins (by decide)) (gd.size) (fun t1 awl ajd aje dg ei => ?_))
   have kq := gd.write aje dg ((yG tk))
   have ajf := tl.keptA dg tu
   have ajg := tm.keptA dg tv
   have ajh := tn.keptA dg tw
   have aji := tp.keptA dg tx
   have ajj := tq.keptA dg ty
   have ajk := ts.keptA dg tz
   have ajl := tt.keptA dg t0
   have ajm := zJ tu ei tl.lt
   have ajn := zJ tv ei tm.lt
   have ajo := zJ tw ei tn.lt
   have ajp := zJ tx ei tp.lt
   have ajq := zP ty ei tq.lt
   have ajr := zP tz ei ts.lt
   have ajs := zP t0 ei tt.lt
   have awm := la2 ((([]) ++ ((ls.take i).drop 0)) ++ ([(⟨sortL (atL ats ((ns.getD c default).l)), sortL (atL ats ((ns.getD c default).r))⟩ : Nd)])) ((ls.take ls.length).drop i)
   refine ⟨fun _ => kq.pins, ?_⟩
   refine dM 12 t1 kq.pins ?_
   exact zY (by kernel_rfl) (qL ⟨_, t1, d, (pS 13 (pS 11 (pS 10 (pS 9 (pS 8 (pS 7 (pS 6 (pS 5 (pS 4 (pS 1 (pU 0))))))))))), kq, (cI _), ajf, ajg, ajh, aji, ajd, ajj, ajk, ajl, ajm, ajn, ajo, ajp, ajq.symm, ajr.symm, ajs.symm⟩)
   refine (dQ (i := 6) rfl rfl (xF (E := eNode) (e := 76) [bq, br] (⟨sortL (atL ats ((ns.getD c default).l)), sortL (atL ats ((ns.getD c default).r))⟩ : Nd) dC sz76 zr76 ⟨_, _, rfl, (gy.mono f), (gz.mono f)⟩ rfl (by decide) au.pins (fun t2 ajt aju ajv dh awn => ?_)))
   have hu := au.step ajv dh
   have t3 := j6.below dh
   have t4 := j7.below dh
   have t5 := j8.below dh
   have t6 := j9.below dh
   have t7 := ka.below dh
   have t8 := kb.below dh
   have t9 := kc.below dh
   have ua := aju.weaken au.size
   refine ⟨fun _ => hu.pins, ?_⟩
   refine dP (i := 0) rfl rfl (xD (E := eNode) (e := 76) dC sz76 hu.pins (fun ub ajw ajx ajy cc di => ?_))
   have ge := hu.step ajy cc
   have uc := t3.below cc
   have ud := t4.below cc
   have ue := t5.below cc
   have uf := t6.below cc
   have ajz := ua.below cc
   have ug := t7.below cc
   have uh := t8.below cc
   have ui := t9.below cc
   have uj := zL di t3.lt
   have uk := zL di t4.lt
   have ul := zL di t5.lt
   have um := zL di t6.lt
   have aj0 := zL di ua.lt
   have un := zF di t7.lt
   have uo := zF di t8.lt
   have up := zF di t9.lt
   have uq := ajx.weaken hu.size
   refine ⟨fun _ => ge.pins, ?_⟩
   refine dP (i := 4) rfl rfl (oA (E := eNode) (v := ub) (u := kd) 48 dC ap76 (by decide) rfl rfl ge.pins uq ((ke.mono (cA al f)).src ge.pins (by decide)) (ge.size) (fun aj1 awo ur aj2 cd ej => ?_))
   have hv := ge.write aj2 cd ((yG uq))
   have ut := uc.keptA cd uj.symm
   have uu := ud.keptA cd uk.symm
   have uv := ue.keptA cd ul.symm
   have uw := uf.keptA cd um.symm
   have aj3 := ajz.keptA cd aj0.symm
   have ux := ug.keptA cd un.symm
   have uy := uh.keptA cd uo.symm
   have uz := ui.keptA cd up.symm
   have u0 := zJ uj.symm ej uc.lt
   have u1 := zJ uk.symm ej ud.lt
   have u2 := zJ ul.symm ej ue.lt
   have u3 := zJ um.symm ej uf.lt
   have u4 := zP un.symm ej ug.lt
   have u5 := zP uo.symm ej uh.lt
   have u6 := zP up.symm ej ui.lt
   have awp := la2 ([]) ((ls.take i).drop 0)
   refine ⟨fun _ => hv.pins, ?_⟩
   refine dP (i := 7) rfl rfl (oA (E := eNode) (v := aj1) (u := t2) 48 dC ap76 (by decide) rfl rfl hv.pins ur aj3.src (hv.size) (fun aj4 awq u7 aj5 dj ek => ?_))
   have gf := hv.write aj5 dj ((yG ur))
   have u8 := ut.keptA dj u0
   have u9 := uu.keptA dj u1
   have va := uv.keptA dj u2
   have vb := uw.keptA dj u3
   have vc := ux.keptA dj u4
   have vd := uy.keptA dj u5
   have ve := uz.keptA dj u6
   have vf := zJ u0 ek ut.lt
   have vg := zJ u1 ek uu.lt
   have vh := zJ u2 ek uv.lt
   have vi := zJ u3 ek uw.lt
   have vj := zP u4 ek ux.lt
   have vk := zP u5 ek uy.lt
   have vl := zP u6 ek uz.lt
   have awr := la1 (([]) ++ ((ls.take i).drop 0)) (⟨sortL (atL ats ((ns.getD c default).l)), sortL (atL ats ((ns.getD c default).r))⟩ : Nd)
   refine ⟨fun _ => gf.pins, ?_⟩
   refine dP (i := 11) rfl rfl (oA (E := eNode) (v := aj4) (u := kf) 48 dC ap76 (by decide) rfl rfl gf.pins u7 ((kg.mono (cA al f)).src gf.pins (by decide)) (gf.size) (fun vm aws aj6 aj7 dk el => ?_))
   have kr := gf.write aj7 dk ((yG u7))
   have aj8 := u8.keptA dk vf
   have aj9 := u9.keptA dk vg
   have aka := va.keptA dk vh
   have akb := vb.keptA dk vi
   have akc := vc.keptA dk vj
   have akd := vd.keptA dk vk
   have ake := ve.keptA dk vl
   have akf := zJ vf el u8.lt
   have akg := zJ vg el u9.lt
   have akh := zJ vh el va.lt
   have aki := zJ vi el vb.lt
   have akj := zP vj el vc.lt
   have akk := zP vk el vd.lt
   have akl := zP vl el ve.lt
   have awt := la2 ((([]) ++ ((ls.take i).drop 0)) ++ ([(⟨sortL (atL ats ((ns.getD c default).l)), sortL (atL ats ((ns.getD c default).r))⟩ : Nd)])) ((ls.take ls.length).drop i)
   refine ⟨fun _ => kr.pins, ?_⟩
   refine dM 12 vm kr.pins ?_
   exact zY (by kernel_rfl) (qL ⟨_, vm, d, (pS 13 (pS 11 (pS 10 (pS 9 (pS 8 (pS 7 (pS 6 (pS 5 (pS 4 (pS 1 (pU 0))))))))))), kr, (cI _), aj8, aj9, aka, akb, aj6, akc, akd, ake, akf, akg, akh, aki, akj.symm, akk.symm, akl.symm⟩)
  refine yO (fun k en W => ∃ (ab : Nat → Value) (i : Nat) (d : Pin), en = (upd (upd (upd (upd (upd (upd (upd (upd (upd (upd (upd (upd ab 0 (vP b)) 1 (vJ m)) 4 (vP b1)) 5 aw) 6 at_) 7 (vP y)) 8 (vJ (q : Int))) 9 lv) 10 fv) 11 (vJ (c : Int))) 12 (vP f4)) 13 (vJ (i : Int))) ∧ k = ls.length - i ∧ Ext noS G w d W ∧ Pin.le ak d ∧ (i ≤ ls.length) ∧ (posM ls (ndAt ats (ns.getD c default)) = i + posM (ls.drop i) (ndAt ats (ns.getD c default))) ∧ (Own eInt 3 d W w.heap.size at_ (ats)) ∧ (Own eNode 76 d W w.heap.size ov (outs)) ∧ (Own eNode 76 d W 0 bu (ns)) ∧ (Own eInt 3 d W 0 bv (bs)) ∧ (Bx d W b [bu, bv]) ∧ (Bx d W b1 [vN]) ∧ (Bx d W y [ov])) _ ⟨_, 0, ak, (pS 13 (pS 12 (pS 11 (pS 10 (pS 9 (pS 8 (pS 7 (pS 6 (pS 5 (pS 4 (pS 1 (pU 0)))))))))))), rfl, add, cI _, cH _, (cQ _).symm, ade, adf, adg, adh, adi, adj, adk⟩ ?_
  rintro awu _ d9 ⟨ab, i, d, rfl, awv, f5, f, hi, hpp, i9, ja, jb, jc, jd, je, jf⟩
  refine zB (zB ?_)
  refine yQ (S := fun wz => Pins d wz) (last := 12) (by kernel_rfl) rfl ?_
  have ce := bdr d9
  have akm := f5.pins.below ce
  have af := f5.step akm ce
  have vn := i9.below ce
  have vo := ja.below ce
  have vp := jb.below ce
  have vq := jc.below ce
  have vr := jd.below ce
  have vt := je.below ce
  have vu := jf.below ce
  refine dM 0 (vJ (i : Int)) af.pins ?_
  refine dM 1 lv af.pins ?_
  refine dT (i := 2) rfl rfl (by kernel_rfl) (fun _ _ => run_len dC (v := lv) rfl be) af.pins ?_
  refine dT (i := 3) rfl rfl (by kernel_rfl) (fun _ _ => yR rfl rfl) af.pins ?_
  refine dM 4 (.bool (decide (((i : Int) : Int) < (ls.length : Int)))) af.pins ?_
  refine drbd (p := ((i : Int) : Int) < (ls.length : Int)) (t := 84) rfl (fun akn => ?_) (fun akn => ?_)
  refine zH (i := 5) rfl rfl rfl (zE rfl rfl rfl rfl) (by kernel_rfl) (fun _ _ => zU (v := lv) rfl) af.pins (zH (i := 6) rfl rfl rfl (zE rfl rfl rfl rfl) (by kernel_rfl) (fun _ _ => zU (v := vJ (i : Int)) rfl) af.pins (zH (i := 7) rfl rfl rfl (zE rfl rfl rfl rfl) (by kernel_rfl) (fun _ _ => zI dC sz76 (v := lv) rfl rfl be (by omega) (by omega)) af.pins ?_))
  obtain ⟨ako, akp, vv, vw, akq⟩ := vD (be.at (z := (i : Int)) (by omega) (by omega)) (j := i) rfl
  have aww := vv.max
  have awx := vw.max
  refine zH (i := 8) rfl rfl rfl (zE rfl rfl rfl rfl) (by kernel_rfl) (fun _ hS => akq ag76 sz76 rfl (cB hS (cA al f))) af.pins (zH (i := 9) rfl rfl rfl (zE rfl rfl rfl rfl) (by kernel_rfl) (fun _ hS => zR (cs := [bq, br]) ag76 sz76 rfl (fun j u hj => (cB hS f) _ _ _ (nm _ _ (by simpa using hj)))) af.pins ?_)
  refine dO (i := 10) (kC (i := 10) rfl rfl rfl (zE rfl rfl rfl rfl) (zO (vs := [.agg #[ako, akp], .agg #[bq, br]]) Tryz.func73 nm73 rfl rfl rfl ?_))
  refine cC (tJ (a := ⟨(ls.getD i default).l, (ls.getD i default).r⟩) (b := ⟨sortL (atL ats ((ns.getD c default).l)), sortL (atL ats ((ns.getD c default).r))⟩) af.pins (vv.mono (cA al f)) (vw.mono (cA al f)) (gy.mono f) (gz.mono f)) ?_
  rintro _ awy ⟨vx, rfl, az⟩
  refine rt9 ?_
  have hw := af.tr az
  have vy := vn.ext az
  have vz := vo.ext az
  have v0 := vp.ext az
  have v1 := vq.ext az
  have v2 := vr.ext az
  have v3 := vt.ext az
  have v4 := vu.ext az
  refine ⟨fun _ => (cB hw.pins az.le), ?_⟩
  refine dT (i := 11) rfl rfl (by kernel_rfl) (fun _ _ => yJ (v := .bool (decide ((aheadI (⟨(ls.getD i default).l, (ls.getD i default).r⟩ : Nd) (⟨sortL (atL ats ((ns.getD c default).l)), sortL (atL ats ((ns.getD c default).r))⟩ : Nd)) < 0))) rfl rfl) (cB hw.pins az.le) ?_
  refine zY (by kernel_rfl) (zA (yE (p := (aheadI (⟨(ls.getD i default).l, (ls.getD i default).r⟩ : Nd) (⟨sortL (atL ats ((ns.getD c default).l)), sortL (atL ats ((ns.getD c default).r))⟩ : Nd)) < 0) rfl rfl (fun ks => ?_) (fun ks => ?_)))
  refine cM (zA (zX (zC (qM (vJ (i : Int)) ?_))))
  refine qD rfl (yP rfl rfl (by omega)) (qM (vJ ((i : Int) + 1)) ?_)
  refine qe (yD (yK (⟨_, ?_, _, rfl, _, i + 1, vx, (pS 13 (pS 12 (pS 11 (pS 10 (pS 9 (pS 8 (pS 7 (pS 6 (pS 5 (pS 4 (pS 1 (pU 0)))))))))))), rfl, hw, (cA f az.le), (by omega), (pos_next (by omega) ks hpp), vy, vz, v0, v1, v2, v3, v4⟩)))
  omega
  exact cO (zZ (yM (fR ⟨_, i, vx, (pS 13 (pS 12 (pS 11 (pS 10 (pS 9 (pS 8 (pS 7 (pS 6 (pS 5 (pS 4 (pS 1 (pU 0)))))))))))), hw, (cA f az.le), hi, (pos_stop (by omega) ks hpp), vy, vz, v0, v1, v2, v3, v4⟩)))
  refine zD (i := 5) rfl rfl (zG rfl rfl rfl rfl rfl) (by kernel_rfl) af.pins (zD (i := 6) rfl rfl (zG rfl rfl rfl rfl rfl) (by kernel_rfl) af.pins (zD (i := 7) rfl rfl (zG rfl rfl rfl rfl rfl) (by kernel_rfl) af.pins (zD (i := 8) rfl rfl (zG rfl rfl rfl rfl rfl) (by kernel_rfl) af.pins (zD (i := 9) rfl rfl (zG rfl rfl rfl rfl rfl) (by kernel_rfl) af.pins (zD (i := 10) rfl rfl (zG rfl rfl rfl rfl rfl) (by kernel_rfl) af.pins (dT (i := 11) rfl rfl (by kernel_rfl) (fun _ _ => yH (v := .bool false) rfl rfl) af.pins ?_))))))
  exact zY (by kernel_rfl) (zA (qY rfl rfl (cO (zZ (yM (fR ⟨_, i, d, (pS 13 (pS 12 (pS 11 (pS 10 (pS 9 (pS 8 (pS 7 (pS 6 (pS 5 (pS 4 (pS 1 (pU 0)))))))))))), af, f, hi, (pos_end (by omega) hpp), vn, vo, vp, vq, vr, vt, vu⟩))))))
 have akr := cK cx.pins bu
 have hx := d8.read
 refine yQ (S := fun wz => BxR wz b [bu, bv] ∧ Pins (Gadd ah gt bu) wz) (last := 24) (by kernel_rfl) rfl ?_
 have bl := bdr gt
 have aks := cx.pins.below bl
 have em := cx.step aks bl
 have gg := gu.below bl
 have hy := gv.below bl
 have hz := d8.below bl
 have h0 := fi.below bl
 have ac := f3.below bl
 have h1 := gw.below bl
 have h2 := gx.below bl
 have ag := akr.below bl
 refine dT (i := 0) rfl rfl (by kernel_rfl) (fun _ _ => zU (v := at_) rfl) ⟨ac.reads, ag⟩ ?_
 refine dT (i := 1) rfl rfl (by kernel_rfl) (fun _ _ => zU (v := vP b) rfl) ⟨ac.reads, ag⟩ ?_
 refine dT (i := 2) rfl rfl (by kernel_rfl) (fun _ _ => yU rfl) ⟨ac.reads, ag⟩ ?_
 refine dT (i := 3) rfl rfl (by kernel_rfl) (fun _ _ => zK (k := 0) rfl dJ rfl nz24 rfl) ⟨ac.reads, ag⟩ ?_
 refine dT (i := 4) rfl rfl (by kernel_rfl) (fun _ hS => zM (u := bu) ag24 rfl (hS.1 0 _ rfl)) ⟨ac.reads, ag⟩ ?_
 refine dT (i := 5) rfl rfl (by kernel_rfl) (fun _ _ => zU (v := vJ (c : Int)) rfl) ⟨ac.reads, ag⟩ ?_
 refine dT (i := 6) rfl rfl (by kernel_rfl) (fun _ _ => zI dC sz76 (v := bu) rfl rfl hx (by omega) (by omega)) ⟨ac.reads, ag⟩ ?_
 refine dT (i := 7) rfl rfl (by kernel_rfl) (fun _ _ => yI (off := 0) dF rfl rfl nz40 (z := (c : Int)) (k := 0) rfl hx (by omega) (by omega)) ⟨ac.reads, ag⟩ ?_
 obtain ⟨v5, kt, akt⟩ := jC (d8.at (z := (c : Int)) (by omega) (by omega)) (j := c) rfl
 have awz := kt.max
 refine dT (i := 8) rfl rfl (by kernel_rfl) (fun _ hS => akt ag40 rfl hS.2) ⟨ac.reads, ag⟩ ?_
 refine dT (i := 11) rfl rfl (by kernel_rfl) (fun _ _ => zU (v := at_) rfl) ⟨ac.reads, ag⟩ ?_
 refine dT (i := 12) rfl rfl (by kernel_rfl) (fun _ _ => zU (v := vP b) rfl) ⟨ac.reads, ag⟩ ?_
 refine dT (i := 13) rfl rfl (by kernel_rfl) (fun _ _ => yU rfl) ⟨ac.reads, ag⟩ ?_
 refine dT (i := 14) rfl rfl (by kernel_rfl) (fun _ _ => zK (k := 0) rfl dJ rfl nz24 rfl) ⟨ac.reads, ag⟩ ?_
 refine dT (i := 15) rfl rfl (by kernel_rfl) (fun _ hS => zM (u := bu) ag24 rfl (hS.1 0 _ rfl)) ⟨ac.reads, ag⟩ ?_
 refine dT (i := 16) rfl rfl (by kernel_rfl) (fun _ _ => zU (v := vJ (c : Int)) rfl) ⟨ac.reads, ag⟩ ?_
 refine dT (i := 17) rfl rfl (by kernel_rfl) (fun _ _ => zI dC sz76 (v := bu) rfl rfl hx (by omega) (by omega)) ⟨ac.reads, ag⟩ ?_
 refine dT (i := 18) rfl rfl (by kernel_rfl) (fun _ _ => yI (off := 1) dF rfl rfl nz40 (z := (c : Int)) (k := 0) rfl hx (by omega) (by omega)) ⟨ac.reads, ag⟩ ?_
 obtain ⟨h3, gh, aku⟩ := qV (d8.at (z := (c : Int)) (by omega) (by omega)) (j := c) rfl
 have aw0 := gh.max
 refine dT (i := 19) rfl rfl (by kernel_rfl) (fun _ hS => aku ag40 rfl hS.2) ⟨ac.reads, ag⟩ ?_
 refine jN (i := 9) (j := 23) (by kernel_rfl) ?_ ?_
 refine (dQ (i := 9) rfl rfl (zO (vs := [at_, v5]) Tryz.func60 nm60 rfl rfl rfl ?_))
 refine cC (qR em.pins (cK em.pins at_) gg.read kt (by omega) (fun i hi => by have := hoo.left (j := c) (by omega) hi; omega)) ?_
 rintro _ akv ⟨ku, akw, rfl, dl, am⟩
 refine rt9 ?_
 have h4 := em.tr am
 have kv := gg.ext am
 have kw := hy.ext am
 have kx := hz.ext am
 have ky := h0.ext am
 have h5 := ac.ext am
 have kz := h1.ext am
 have k0 := h2.ext am
 have v6 := zT dl.lt gg.lt
 have v7 := zT dl.lt hy.lt
 have v8 := zT dl.lt hz.lt
 have v9 := zT dl.lt h0.lt
 have wa := zV dl.lt ac.lt
 have wb := zV dl.lt h1.lt
 have wc := zV dl.lt h2.lt
 have k1 := dl.weaken em.size
 have k2 := ag.below am.below
 refine ⟨fun _ => ⟨h5.reads, k2⟩, ?_⟩
 refine jN (i := 10) (j := 23) (by kernel_rfl) ?_ ?_
 obtain ⟨aw1, cf, wd, akx, eo⟩ := k1.sealed h4
 have aky := kv.moreO cf eo v6.symm
 have akz := kw.moreO cf eo v7.symm
 have ak0 := kx.moreO cf eo v8.symm
 have ak1 := ky.moreO cf eo v9.symm
 have ak2 := h5.moreO eo wa.symm
 have ak3 := kz.moreO eo wb.symm
 have ak4 := k0.moreO eo wc.symm
 refine (dQ (i := 10) rfl rfl (zO (vs := [ku]) Tryz.func72 nm72 rfl rfl rfl ?_))
 refine cC (xV wd.pins akx (by first | omega | (rw [xC]; omega))) ?_
 rintro _ aw2 ⟨ae, aw3, rfl, cg, ap⟩
 refine rt9 ?_
 have ep := wd.tr ap
 have gi := aky.ext ap
 have h6 := akz.ext ap
 have h7 := ak0.ext ap
 have h8 := ak1.ext ap
 have gj := ak2.ext ap
 have h9 := ak3.ext ap
 have ia := ak4.ext ap
 have k3 := k2.below ap.below
 refine ⟨fun _ => ⟨gj.reads, k3⟩, ?_⟩
 refine jN (i := 20) (j := 23) (by kernel_rfl) ?_ ?_
 refine (dQ (i := 20) rfl rfl (zO (vs := [at_, h3]) Tryz.func60 nm60 rfl rfl rfl ?_))
 refine cC (qR ep.pins (cK ep.pins at_) gi.read (gh.mono (cA (cA am.le cf) ap.le)) (by omega) (fun i hi => by have := hoo.right (j := c) (by omega) hi; omega)) ?_
 rintro _ ak5 ⟨k4, ak6, rfl, dm, av⟩
 refine rt9 ?_
 have ib := ep.tr av
 have k6 := gi.ext av
 have k7 := h6.ext av
 have k8 := h7.ext av
 have k9 := h8.ext av
 have ic := gj.ext av
 have la := h9.ext av
 have lb := ia.ext av
 have we := zT dm.lt gi.lt
 have wf := zT dm.lt h6.lt
 have wg := zT dm.lt h7.lt
 have wh := zT dm.lt h8.lt
 have wi := zV dm.lt gj.lt
 have wj := zV dm.lt h9.lt
 have wk := zV dm.lt ia.lt
 have lc := dm.weaken ep.size
 have ld := k3.below av.below
 refine ⟨fun _ => ⟨ic.reads, ld⟩, ?_⟩
 refine jN (i := 21) (j := 23) (by kernel_rfl) ?_ ?_
 obtain ⟨aw4, fm, wl, ak7, eq⟩ := lc.sealed ib
 have ak8 := k6.moreO fm eq we.symm
 have ak9 := k7.moreO fm eq wf.symm
 have ala := k8.moreO fm eq wg.symm
 have alb := k9.moreO fm eq wh.symm
 have alc := ic.moreO eq wi.symm
 have ald := la.moreO eq wj.symm
 have ale := lb.moreO eq wk.symm
 refine (dQ (i := 21) rfl rfl (zO (vs := [k4]) Tryz.func72 nm72 rfl rfl rfl ?_))
 refine cC (xV wl.pins ak7 (by first | omega | (rw [xC]; omega))) ?_
 rintro _ aw5 ⟨er, aw6, rfl, lf, ba⟩
 refine rt9 ?_
 have lg := wl.tr ba
 have wm := ak8.ext ba
 have wn := ak9.ext ba
 have wo := ala.ext ba
 have wp := alb.ext ba
 have ie := alc.ext ba
 have wq := ald.ext ba
 have wr := ale.ext ba
 have lh := ld.below ba.below
 refine ⟨fun _ => ⟨ie.reads, lh⟩, ?_⟩
 refine dT (i := 22) rfl rfl (by kernel_rfl) (fun _ _ => xQ [vN, vN] [ae, er] [(0, ae, [ae]), (1, er, [er])] dF zr76 rfl pl76 rfl (cL.2 ⟨(xB cg.one), (cL.2 ⟨(xB lf.one), (fun _ h => by cases h)⟩)⟩) rfl) ⟨ie.reads, lh⟩ ?_
 refine dP (i := 23) rfl rfl (yN [vN, vN] zr76 rfl lg.pins (fun ws aw7 es alf alg ch => ?_))
 have wt := lg.step alg ch
 have alh := wm.below ch
 have ali := wn.below ch
 have alj := wo.below ch
 have alk := wp.below ch
 have wu := ie.below ch
 have all := wq.below ch
 have alm := wr.below ch
 have wv := zL (cgA some es) wm.lt
 have ww := zL (cgA some es) wn.lt
 have wx := zL (cgA some es) wo.lt
 have wy := zL (cgA some es) wp.lt
 have w0 := zF (cgA some es) ie.lt
 have w1 := zF (cgA some es) wq.lt
 have w3 := zF (cgA some es) wr.lt
 have w4 : w.heap.size ≤ ws := by have := lg.size; omega
 have aln := lh.below ch
 refine ⟨fun _ => ⟨wu.reads, aln⟩, ?_⟩
 refine dO (i := 24) (xJ (i := 24) rfl rfl rfl (yB rfl _) (o_stp (cs' := [ae, er]) (us := [ae, er]) (v := .agg #[ae, er]) sz76 rfl rfl rfl (jZ cg.one lf.one) wt.pins alf (cD rfl) rfl (fun aw8 alo alp dn aw9 => ?_)))
 have alq := wt.write alp dn ((zW w4))
 have alr := alh.keptA dn wv.symm
 have als := ali.keptA dn ww.symm
 have alt := alj.keptA dn wx.symm
 have alu := alk.keptA dn wy.symm
 have alv := wu.keptA dn w0.symm
 have alw := all.keptA dn w1.symm
 have alx := alm.keptA dn w3.symm
 obtain ⟨aly, et, alz, al0, eu⟩ := alo.shut alq w4
 have al1 := alr.moreA et eu wv.symm
 have al2 := als.moreA et eu ww.symm
 have al3 := alt.moreA et eu wx.symm
 have al4 := alu.moreA et eu wy.symm
 have al5 := alv.moreA eu w0.symm
 have al6 := alw.moreA eu w1.symm
 have al7 := alx.moreA eu w3.symm
 refine ⟨fun h => absurd rfl h, ?_⟩
 exact zY (by kernel_rfl) (qL ⟨_, ws, ae, er, aly, (pS 12 (pS 11 (pS 10 (pS 9 (pS 8 (pS 7 (pS 6 (pS 5 (pS 4 (pS 1 (pU 0))))))))))), alz, (cA (cA (cA (cA (cA (cA am.le cf) ap.le) av.le) fm) ba.le) et), (cg.mono (cA (cA (cA av.le fm) ba.le) et)), (lf.mono et), al1, al2, al3, al4, al5, al6, al7, (al0.mono (cI _))⟩)
 refine (dQ (i := 23) rfl rfl (yN [vN, vN] zr76 rfl ib.pins (fun w5 axa dp al8 al9 bm => ?_)))
 have ama := ib.step al9 bm
 have amb := k6.below bm
 have amc := k7.below bm
 have amd := k8.below bm
 have ame := k9.below bm
 have amf := lc.below bm
 have w6 := ic.below bm
 have amg := la.below bm
 have amh := lb.below bm
 have w7 := zL (cgA some dp) k6.lt
 have w8 := zL (cgA some dp) k7.lt
 have w9 := zL (cgA some dp) k8.lt
 have xa := zL (cgA some dp) k9.lt
 have ami := zL (cgA some dp) lc.lt
 have xb := zF (cgA some dp) ic.lt
 have xc := zF (cgA some dp) la.lt
 have xd := zF (cgA some dp) lb.lt
 have xe : w.heap.size ≤ w5 := by have := ib.size; omega
 have xf := ld.below bm
 refine ⟨fun _ => ⟨w6.reads, xf⟩, ?_⟩
 obtain ⟨axb, fn, xg, amj, dq⟩ := amf.sealed ama
 have amk := amb.moreO fn dq we.symm
 have aml := amc.moreO fn dq wf.symm
 have amm := amd.moreO fn dq wg.symm
 have amn := ame.moreO fn dq wh.symm
 have amo := w6.moreO dq wi.symm
 have amp := amg.moreO dq wj.symm
 have amq := amh.moreO dq wk.symm
 have amr := al8.moreO dq ami
 refine dP (i := 21) rfl rfl (zO (vs := [k4]) Tryz.func72 nm72 rfl rfl rfl ?_)
 refine cC (xV xg.pins amj (by first | omega | (rw [xC]; omega))) ?_
 rintro _ axc ⟨ev, axd, rfl, li, a0⟩
 refine rt9 ?_
 have xh := xg.tr a0
 have ams := amk.ext a0
 have amt := aml.ext a0
 have amu := amm.ext a0
 have amv := amn.ext a0
 have lj := amo.ext a0
 have amw := amp.ext a0
 have amx := amq.ext a0
 have amy := amr.ext a0
 have xi := xf.below a0.below
 refine ⟨fun _ => ⟨lj.reads, xi⟩, ?_⟩
 refine dT (i := 22) rfl rfl (by kernel_rfl) (fun _ _ => xQ [vN, vN] [ae, ev] [(0, ae, [ae]), (1, ev, [ev])] dF zr76 rfl pl76 rfl (cL.2 ⟨(xB cg.one), (cL.2 ⟨(xB li.one), (fun _ h => by cases h)⟩)⟩) rfl) ⟨lj.reads, xi⟩ ?_
 refine dO (i := 24) (xJ (i := 24) rfl rfl rfl (yB rfl _) (o_stp (cs' := [ae, ev]) (us := [ae, ev]) (v := .agg #[ae, ev]) sz76 rfl rfl rfl (jZ cg.one li.one) xh.pins amy (cD rfl) rfl (fun axe amz am0 dr axf => ?_)))
 have am1 := xh.write am0 dr ((zW xe))
 have am2 := ams.keptA dr w7.symm
 have am3 := amt.keptA dr w8.symm
 have am4 := amu.keptA dr w9.symm
 have am5 := amv.keptA dr xa.symm
 have am6 := lj.keptA dr xb.symm
 have am7 := amw.keptA dr xc.symm
 have am8 := amx.keptA dr xd.symm
 obtain ⟨am9, ew, ana, anb, ex⟩ := amz.shut am1 xe
 have anc := am2.moreA ew ex w7.symm
 have ane := am3.moreA ew ex w8.symm
 have anf := am4.moreA ew ex w9.symm
 have ang := am5.moreA ew ex xa.symm
 have anh := am6.moreA ex xb.symm
 have ani := am7.moreA ex xc.symm
 have anj := am8.moreA ex xd.symm
 refine ⟨fun h => absurd rfl h, ?_⟩
 exact zY (by kernel_rfl) (qL ⟨_, w5, ae, ev, am9, (pS 12 (pS 11 (pS 10 (pS 9 (pS 8 (pS 7 (pS 6 (pS 5 (pS 4 (pS 1 (pU 0))))))))))), ana, (cA (cA (cA (cA (cA (cA am.le cf) ap.le) av.le) fn) a0.le) ew), (cg.mono (cA (cA (cA av.le fn) a0.le) ew)), (li.mono ew), anc, ane, anf, ang, anh, ani, anj, (anb.mono (cI _))⟩)
 refine (dQ (i := 23) rfl rfl (yN [vN, vN] zr76 rfl ep.pins (fun xj axg ey xk ank ci => ?_)))
 have ig := ep.step ank ci
 have lk := gi.below ci
 have xl := h6.below ci
 have xm := h7.below ci
 have xn := h8.below ci
 have ll := gj.below ci
 have xo := h9.below ci
 have xp := ia.below ci
 have xq := zL (cgA some ey) gi.lt
 have xr := zL (cgA some ey) h6.lt
 have xs := zL (cgA some ey) h7.lt
 have xt := zL (cgA some ey) h8.lt
 have xu := zF (cgA some ey) gj.lt
 have xv := zF (cgA some ey) h9.lt
 have xw := zF (cgA some ey) ia.lt
 have xx : w.heap.size ≤ xj := by have := ep.size; omega
 have xy := k3.below ci
 refine ⟨fun _ => ⟨ll.reads, xy⟩, ?_⟩
 refine dP (i := 20) rfl rfl (zO (vs := [at_, h3]) Tryz.func60 nm60 rfl rfl rfl ?_)
 refine cC (qR ig.pins (cK ig.pins at_) lk.read (gh.mono (cA (cA am.le cf) ap.le)) (by omega) (fun i hi => by have := hoo.right (j := c) (by omega) hi; omega)) ?_
 rintro _ anl ⟨xz, anm, rfl, cj, a1⟩
 refine rt9 ?_
 have ann := ig.tr a1
 have ano := lk.ext a1
 have anp := xl.ext a1
 have anq := xm.ext a1
 have anr := xn.ext a1
 have x0 := ll.ext a1
 have ans := xo.ext a1
 have ant := xp.ext a1
 have anu := xk.ext a1
 have anv := zT cj.lt lk.lt
 have anw := zT cj.lt xl.lt
 have anx := zT cj.lt xm.lt
 have any := zT cj.lt xn.lt
 have anz := zV cj.lt ll.lt
 have an0 := zV cj.lt xo.lt
 have an1 := zV cj.lt xp.lt
 have an2 := zV cj.lt xk.lt
 have an3 := cj.weaken ig.size
 have x1 := xy.below a1.below
 refine ⟨fun _ => ⟨x0.reads, x1⟩, ?_⟩
 obtain ⟨axh, fo, x2, an4, ds⟩ := an3.sealed ann
 have an5 := ano.moreO fo ds anv.symm
 have an6 := anp.moreO fo ds anw.symm
 have an7 := anq.moreO fo ds anx.symm
 have an8 := anr.moreO fo ds any.symm
 have an9 := x0.moreO ds anz.symm
 have aoa := ans.moreO ds an0.symm
 have aob := ant.moreO ds an1.symm
 have aoc := anu.moreO ds an2.symm
 refine dP (i := 21) rfl rfl (zO (vs := [xz]) Tryz.func72 nm72 rfl rfl rfl ?_)
 refine cC (xV x2.pins an4 (by first | omega | (rw [xC]; omega))) ?_
 rintro _ axi ⟨ez, axj, rfl, lm, a2⟩
 refine rt9 ?_
 have x3 := x2.tr a2
 have aod := an5.ext a2
 have aoe := an6.ext a2
 have aof := an7.ext a2
 have aog := an8.ext a2
 have ln := an9.ext a2
 have aoh := aoa.ext a2
 have aoi := aob.ext a2
 have aoj := aoc.ext a2
 have x4 := x1.below a2.below
 refine ⟨fun _ => ⟨ln.reads, x4⟩, ?_⟩
 refine dT (i := 22) rfl rfl (by kernel_rfl) (fun _ _ => xQ [vN, vN] [ae, ez] [(0, ae, [ae]), (1, ez, [ez])] dF zr76 rfl pl76 rfl (cL.2 ⟨(xB cg.one), (cL.2 ⟨(xB lm.one), (fun _ h => by cases h)⟩)⟩) rfl) ⟨ln.reads, x4⟩ ?_
 refine dO (i := 24) (xJ (i := 24) rfl rfl rfl (yB rfl _) (o_stp (cs' := [ae, ez]) (us := [ae, ez]) (v := .agg #[ae, ez]) sz76 rfl rfl rfl (jZ cg.one lm.one) x3.pins aoj (cD rfl) rfl (fun axk aok aol dt axl => ?_)))
 have aom := x3.write aol dt ((zW xx))
 have aon := aod.keptA dt xq.symm
 have aoo := aoe.keptA dt xr.symm
 have aop := aof.keptA dt xs.symm
 have aoq := aog.keptA dt xt.symm
 have aor := ln.keptA dt xu.symm
 have aos := aoh.keptA dt xv.symm
 have aot := aoi.keptA dt xw.symm
 obtain ⟨aou, e0, aov, aow, e1⟩ := aok.shut aom xx
 have aox := aon.moreA e0 e1 xq.symm
 have aoy := aoo.moreA e0 e1 xr.symm
 have aoz := aop.moreA e0 e1 xs.symm
 have ao0 := aoq.moreA e0 e1 xt.symm
 have ao1 := aor.moreA e1 xu.symm
 have ao2 := aos.moreA e1 xv.symm
 have ao3 := aot.moreA e1 xw.symm
 refine ⟨fun h => absurd rfl h, ?_⟩
 exact zY (by kernel_rfl) (qL ⟨_, xj, ae, ez, aou, (pS 12 (pS 11 (pS 10 (pS 9 (pS 8 (pS 7 (pS 6 (pS 5 (pS 4 (pS 1 (pU 0))))))))))), aov, (cA (cA (cA (cA (cA (cA am.le cf) ap.le) a1.le) fo) a2.le) e0), (cg.mono (cA (cA (cA a1.le fo) a2.le) e0)), (lm.mono e0), aox, aoy, aoz, ao0, ao1, ao2, ao3, (aow.mono (cI _))⟩)
 refine (dQ (i := 23) rfl rfl (yN [vN, vN] zr76 rfl h4.pins (fun x5 axm du ao4 ao5 bn => ?_)))
 have ao6 := h4.step ao5 bn
 have ao7 := kv.below bn
 have ao8 := kw.below bn
 have ao9 := kx.below bn
 have apa := ky.below bn
 have apb := k1.below bn
 have x6 := h5.below bn
 have apc := kz.below bn
 have apd := k0.below bn
 have x7 := zL (cgA some du) kv.lt
 have x8 := zL (cgA some du) kw.lt
 have x9 := zL (cgA some du) kx.lt
 have ya := zL (cgA some du) ky.lt
 have ape := zL (cgA some du) k1.lt
 have yb := zF (cgA some du) h5.lt
 have yc := zF (cgA some du) kz.lt
 have yd := zF (cgA some du) k0.lt
 have ye : w.heap.size ≤ x5 := by have := h4.size; omega
 have yf := k2.below bn
 refine ⟨fun _ => ⟨x6.reads, yf⟩, ?_⟩
 obtain ⟨axn, fp, yg, apf, dv⟩ := apb.sealed ao6
 have apg := ao7.moreO fp dv v6.symm
 have aph := ao8.moreO fp dv v7.symm
 have api := ao9.moreO fp dv v8.symm
 have apj := apa.moreO fp dv v9.symm
 have apk := x6.moreO dv wa.symm
 have apl := apc.moreO dv wb.symm
 have apm := apd.moreO dv wc.symm
 have apn := ao4.moreO dv ape
 refine dP (i := 10) rfl rfl (zO (vs := [ku]) Tryz.func72 nm72 rfl rfl rfl ?_)
 refine cC (xV yg.pins apf (by first | omega | (rw [xC]; omega))) ?_
 rintro _ axo ⟨e2, axp, rfl, lp, a3⟩
 refine rt9 ?_
 have ih := yg.tr a3
 have lq := apg.ext a3
 have yh := aph.ext a3
 have yi := api.ext a3
 have yj := apj.ext a3
 have lr := apk.ext a3
 have yk := apl.ext a3
 have yl := apm.ext a3
 have ym := apn.ext a3
 have yn := yf.below a3.below
 refine ⟨fun _ => ⟨lr.reads, yn⟩, ?_⟩
 refine dP (i := 20) rfl rfl (zO (vs := [at_, h3]) Tryz.func60 nm60 rfl rfl rfl ?_)
 refine cC (qR ih.pins (cK ih.pins at_) lq.read (gh.mono (cA (cA am.le fp) a3.le)) (by omega) (fun i hi => by have := hoo.right (j := c) (by omega) hi; omega)) ?_
 rintro _ apo ⟨yo, app, rfl, ck, a4⟩
 refine rt9 ?_
 have apq := ih.tr a4
 have apr := lq.ext a4
 have aps := yh.ext a4
 have apt := yi.ext a4
 have apu := yj.ext a4
 have yp := lr.ext a4
 have apv := yk.ext a4
 have apw := yl.ext a4
 have apx := ym.ext a4
 have apy := zT ck.lt lq.lt
 have apz := zT ck.lt yh.lt
 have ap0 := zT ck.lt yi.lt
 have ap1 := zT ck.lt yj.lt
 have ap2 := zV ck.lt lr.lt
 have ap4 := zV ck.lt yk.lt
 have ap5 := zV ck.lt yl.lt
 have ap6 := zV ck.lt ym.lt
 have ap7 := ck.weaken ih.size
 have yq := yn.below a4.below
 refine ⟨fun _ => ⟨yp.reads, yq⟩, ?_⟩
 obtain ⟨axq, fq, yr, ap8, dw⟩ := ap7.sealed apq
 have ap9 := apr.moreO fq dw apy.symm
 have aqa := aps.moreO fq dw apz.symm
 have aqb := apt.moreO fq dw ap0.symm
 have aqc := apu.moreO fq dw ap1.symm
 have aqd := yp.moreO dw ap2.symm
 have aqe := apv.moreO dw ap4.symm
 have aqf := apw.moreO dw ap5.symm
 have aqg := apx.moreO dw ap6.symm
 refine dP (i := 21) rfl rfl (zO (vs := [yo]) Tryz.func72 nm72 rfl rfl rfl ?_)
 refine cC (xV yr.pins ap8 (by first | omega | (rw [xC]; omega))) ?_
 rintro _ axr ⟨e3, axs, rfl, lu, a5⟩
 refine rt9 ?_
 have ys := yr.tr a5
 have aqh := ap9.ext a5
 have aqi := aqa.ext a5
 have aqj := aqb.ext a5
 have aqk := aqc.ext a5
 have lw := aqd.ext a5
 have aql := aqe.ext a5
 have aqm := aqf.ext a5
 have aqn := aqg.ext a5
 have yt := yq.below a5.below
 refine ⟨fun _ => ⟨lw.reads, yt⟩, ?_⟩
 refine dT (i := 22) rfl rfl (by kernel_rfl) (fun _ _ => xQ [vN, vN] [e2, e3] [(0, e2, [e2]), (1, e3, [e3])] dF zr76 rfl pl76 rfl (cL.2 ⟨(xB lp.one), (cL.2 ⟨(xB lu.one), (fun _ h => by cases h)⟩)⟩) rfl) ⟨lw.reads, yt⟩ ?_
 refine dO (i := 24) (xJ (i := 24) rfl rfl rfl (yB rfl _) (o_stp (cs' := [e2, e3]) (us := [e2, e3]) (v := .agg #[e2, e3]) sz76 rfl rfl rfl (jZ lp.one lu.one) ys.pins aqn (cD rfl) rfl (fun axt aqo aqp dx axu => ?_)))
 have aqq := ys.write aqp dx ((zW ye))
 have aqr := aqh.keptA dx x7.symm
 have aqs := aqi.keptA dx x8.symm
 have aqt := aqj.keptA dx x9.symm
 have aqu := aqk.keptA dx ya.symm
 have aqv := lw.keptA dx yb.symm
 have aqw := aql.keptA dx yc.symm
 have aqx := aqm.keptA dx yd.symm
 obtain ⟨aqy, e4, aqz, aq0, e5⟩ := aqo.shut aqq ye
 have aq1 := aqr.moreA e4 e5 x7.symm
 have aq2 := aqs.moreA e4 e5 x8.symm
 have aq3 := aqt.moreA e4 e5 x9.symm
 have aq4 := aqu.moreA e4 e5 ya.symm
 have aq5 := aqv.moreA e5 yb.symm
 have aq6 := aqw.moreA e5 yc.symm
 have aq7 := aqx.moreA e5 yd.symm
 refine ⟨fun h => absurd rfl h, ?_⟩
 exact zY (by kernel_rfl) (qL ⟨_, x5, e2, e3, aqy, (pS 12 (pS 11 (pS 10 (pS 9 (pS 8 (pS 7 (pS 6 (pS 5 (pS 4 (pS 1 (pU 0))))))))))), aqz, (cA (cA (cA (cA (cA (cA am.le fp) a3.le) a4.le) fq) a5.le) e4), (lp.mono (cA (cA (cA a4.le fq) a5.le) e4)), (lu.mono e4), aq1, aq2, aq3, aq4, aq5, aq6, aq7, (aq0.mono (cI _))⟩)
 refine (dQ (i := 23) rfl rfl (yN [vN, vN] zr76 rfl em.pins (fun yu axv e6 yv aq8 cl => ?_)))
 have ii := em.step aq8 cl
 have lx := gg.below cl
 have yw := hy.below cl
 have yx := hz.below cl
 have yy := h0.below cl
 have ly := ac.below cl
 have yz := h1.below cl
 have y0 := h2.below cl
 have y1 := zL (cgA some e6) gg.lt
 have y2 := zL (cgA some e6) hy.lt
 have y3 := zL (cgA some e6) hz.lt
 have y4 := zL (cgA some e6) h0.lt
 have y5 := zF (cgA some e6) ac.lt
 have y6 := zF (cgA some e6) h1.lt
 have y7 := zF (cgA some e6) h2.lt
 have y8 : w.heap.size ≤ yu := by have := em.size; omega
 have y9 := ag.below cl
 refine ⟨fun _ => ⟨ly.reads, y9⟩, ?_⟩
 refine dP (i := 9) rfl rfl (zO (vs := [at_, v5]) Tryz.func60 nm60 rfl rfl rfl ?_)
 refine cC (qR ii.pins (cK ii.pins at_) lx.read kt (by omega) (fun i hi => by have := hoo.left (j := c) (by omega) hi; omega)) ?_
 rintro _ aq9 ⟨za, ara, rfl, cm, a6⟩
 refine rt9 ?_
 have arb := ii.tr a6
 have arc := lx.ext a6
 have ard := yw.ext a6
 have are := yx.ext a6
 have arf := yy.ext a6
 have zb := ly.ext a6
 have arg := yz.ext a6
 have arh := y0.ext a6
 have ari := yv.ext a6
 have arj := zT cm.lt lx.lt
 have ark := zT cm.lt yw.lt
 have arl := zT cm.lt yx.lt
 have arm := zT cm.lt yy.lt
 have arn := zV cm.lt ly.lt
 have aro := zV cm.lt yz.lt
 have arp := zV cm.lt y0.lt
 have arq := zV cm.lt yv.lt
 have arr := cm.weaken ii.size
 have zc := y9.below a6.below
 refine ⟨fun _ => ⟨zb.reads, zc⟩, ?_⟩
 obtain ⟨axw, fs, zd, ars, dy⟩ := arr.sealed arb
 have art := arc.moreO fs dy arj.symm
 have aru := ard.moreO fs dy ark.symm
 have arv := are.moreO fs dy arl.symm
 have arw := arf.moreO fs dy arm.symm
 have arx := zb.moreO dy arn.symm
 have ary := arg.moreO dy aro.symm
 have arz := arh.moreO dy arp.symm
 have ar0 := ari.moreO dy arq.symm
 refine dP (i := 10) rfl rfl (zO (vs := [za]) Tryz.func72 nm72 rfl rfl rfl ?_)
 refine cC (xV zd.pins ars (by first | omega | (rw [xC]; omega))) ?_
 rintro _ axx ⟨e7, axy, rfl, lz, a7⟩
 refine rt9 ?_
 have ij := zd.tr a7
 have l0 := art.ext a7
 have ze := aru.ext a7
 have zf := arv.ext a7
 have zg := arw.ext a7
 have l1 := arx.ext a7
 have zh := ary.ext a7
 have zi := arz.ext a7
 have zj := ar0.ext a7
 have zk := zc.below a7.below
 refine ⟨fun _ => ⟨l1.reads, zk⟩, ?_⟩
 refine dP (i := 20) rfl rfl (zO (vs := [at_, h3]) Tryz.func60 nm60 rfl rfl rfl ?_)
 refine cC (qR ij.pins (cK ij.pins at_) l0.read (gh.mono (cA (cA a6.le fs) a7.le)) (by omega) (fun i hi => by have := hoo.right (j := c) (by omega) hi; omega)) ?_
 rintro _ ar1 ⟨zl, ar2, rfl, cn, a8⟩
 refine rt9 ?_
 have ar3 := ij.tr a8
 have ar4 := l0.ext a8
 have ar5 := ze.ext a8
 have ar6 := zf.ext a8
 have ar7 := zg.ext a8
 have zm := l1.ext a8
 have ar8 := zh.ext a8
 have ar9 := zi.ext a8
 have asa := zj.ext a8
 have asb := zT cn.lt l0.lt
 have asc := zT cn.lt ze.lt
 have asd := zT cn.lt zf.lt
 have ase := zT cn.lt zg.lt
 have asf := zV cn.lt l1.lt
 have asg := zV cn.lt zh.lt
 have ash := zV cn.lt zi.lt
 have asi := zV cn.lt zj.lt
 have asj := cn.weaken ij.size
 have zn := zk.below a8.below
 refine ⟨fun _ => ⟨zm.reads, zn⟩, ?_⟩
 obtain ⟨axz, ft, zo, ask, dz⟩ := asj.sealed ar3
 have asl := ar4.moreO ft dz asb.symm
 have asm := ar5.moreO ft dz asc.symm
 have asn := ar6.moreO ft dz asd.symm
 have aso := ar7.moreO ft dz ase.symm
 have asp := zm.moreO dz asf.symm
 have asq := ar8.moreO dz asg.symm
 have asr := ar9.moreO dz ash.symm
 have ass := asa.moreO dz asi.symm
 refine dP (i := 21) rfl rfl (zO (vs := [zl]) Tryz.func72 nm72 rfl rfl rfl ?_)
 refine cC (xV zo.pins ask (by first | omega | (rw [xC]; omega))) ?_
 rintro _ ax0 ⟨e8, ax1, rfl, l2, a9⟩
 refine rt9 ?_
 have zp := zo.tr a9
 have ast := asl.ext a9
 have asu := asm.ext a9
 have asv := asn.ext a9
 have asw := aso.ext a9
 have l3 := asp.ext a9
 have asx := asq.ext a9
 have asy := asr.ext a9
 have asz := ass.ext a9
 have zq := zn.below a9.below
 refine ⟨fun _ => ⟨l3.reads, zq⟩, ?_⟩
 refine dT (i := 22) rfl rfl (by kernel_rfl) (fun _ _ => xQ [vN, vN] [e7, e8] [(0, e7, [e7]), (1, e8, [e8])] dF zr76 rfl pl76 rfl (cL.2 ⟨(xB lz.one), (cL.2 ⟨(xB l2.one), (fun _ h => by cases h)⟩)⟩) rfl) ⟨l3.reads, zq⟩ ?_
 refine dO (i := 24) (xJ (i := 24) rfl rfl rfl (yB rfl _) (o_stp (cs' := [e7, e8]) (us := [e7, e8]) (v := .agg #[e7, e8]) sz76 rfl rfl rfl (jZ lz.one l2.one) zp.pins asz (cD rfl) rfl (fun ax2 as0 as1 d0 ax3 => ?_)))
 have as2 := zp.write as1 d0 ((zW y8))
 have as3 := ast.keptA d0 y1.symm
 have as4 := asu.keptA d0 y2.symm
 have as5 := asv.keptA d0 y3.symm
 have as6 := asw.keptA d0 y4.symm
 have as7 := l3.keptA d0 y5.symm
 have as8 := asx.keptA d0 y6.symm
 have as9 := asy.keptA d0 y7.symm
 obtain ⟨ata, e9, atb, atc, fa⟩ := as0.shut as2 y8
 have atd := as3.moreA e9 fa y1.symm
 have ate := as4.moreA e9 fa y2.symm
 have atf := as5.moreA e9 fa y3.symm
 have atg := as6.moreA e9 fa y4.symm
 have ath := as7.moreA fa y5.symm
 have ati := as8.moreA fa y6.symm
 have atj := as9.moreA fa y7.symm
 refine ⟨fun h => absurd rfl h, ?_⟩
 exact zY (by kernel_rfl) (qL ⟨_, yu, e7, e8, ata, (pS 12 (pS 11 (pS 10 (pS 9 (pS 8 (pS 7 (pS 6 (pS 5 (pS 4 (pS 1 (pU 0))))))))))), atb, (cA (cA (cA (cA (cA (cA a6.le fs) a7.le) a8.le) ft) a9.le) e9), (lz.mono (cA (cA (cA a8.le ft) a9.le) e9)), (l2.mono e9), atd, ate, atf, atg, ath, ati, atj, (atc.mono (cI _))⟩)
 refine qW ?_
 refine qW ?_
 refine qW ?_
 refine qW ?_
 refine qW ?_
 refine qW ?_
 refine qW ?_
 refine qW ?_
 refine qW ?_
 refine qD rfl (yJ (v := .bool true) rfl rfl) (qe (zA ?_))
 refine xW rfl rfl (cO (zZ (yL (zA (zC ?_)))))
 refine qM (vJ (c : Int)) ?_
 refine qD rfl (yP rfl rfl (by omega)) (qM (vJ ((c : Int) + 1)) ?_)
 refine qe (yK (⟨_, ?_, _, rfl, _, c + 1, lv, ls, fv, fr, ah, (pS 11 (pS 10 (pS 9 (pS 8 (pS 7 (pS 6 (pS 5 (pS 4 (pS 1 (pU 0)))))))))), rfl, cx, f2, (by omega), (lv_skip hrl (fun g => by have := g.1; rw [i8] at this; cases this)), (by omega), hfb, gu, gv, d8, fi, f3, gw, gx, be, fj⟩))
 omega
 refine cO (zZ (yM (yL (w9a ?_))))
 refine qM (vJ 0) ?_
 refine qe (zA ?_)
 refine zX (yO (fun k en W => ∃ (ab : Nat → Value) (s : Nat) (an : Value) (fu : List Int) (ai : Value) (bb : List Nd) (aj : Pin), en = (upd (upd (upd (upd (upd (upd (upd (upd (upd (upd ab 0 (vP b)) 1 (vJ m)) 4 (vP b1)) 5 aw) 6 an) 7 (vP y)) 8 (vJ (q : Int))) 9 lv) 10 fv) 14 (vJ (s : Int))) ∧ k = ls.length - s ∧ Ext noS G w aj W ∧ Pin.le ah aj ∧ (s ≤ ls.length) ∧ (placeM ls fr ats outs = placeM (ls.drop s) (fr.drop s) fu bb) ∧ (fu.length = m.toNat + 1) ∧ (bb.length = outs.length + s) ∧ (Own eInt 3 aj W w.heap.size an (fu)) ∧ (Own eNode 76 aj W w.heap.size ai (bb)) ∧ (Own eNode 76 aj W 0 bu (ns)) ∧ (Own eInt 3 aj W 0 bv (bs)) ∧ (Bx aj W b [bu, bv]) ∧ (Bx aj W b1 [vN]) ∧ (Bx aj W y [ai]) ∧ (Apart an.ownBlock ai.ownBlock) ∧ (Apart an.ownBlock bu.ownBlock) ∧ (Apart an.ownBlock bv.ownBlock) ∧ (Apart an.ownBlock (some b)) ∧ (Apart an.ownBlock (some b1)) ∧ (Apart an.ownBlock (some y)) ∧ (Apart ai.ownBlock bu.ownBlock) ∧ (Apart ai.ownBlock bv.ownBlock) ∧ (Apart ai.ownBlock (some b)) ∧ (Apart ai.ownBlock (some b1)) ∧ (Apart ai.ownBlock (some y))) _ ⟨_, 0, at_, ats, ov, outs, ah, (pS 14 (pS 10 (pS 9 (pS 8 (pS 7 (pS 6 (pS 5 (pS 4 (pS 1 (pU 0)))))))))), rfl, cx, cI _, cH _, rfl, hatl, rfl, gu, gv, d8, fi, f3, gw, gx, abk, abl, abm, abn, abo, abp, abq, abr, abs, nc, abt⟩ ?_)
 rintro ax4 _ gk ⟨ab, s, an, fu, ai, bb, aj, rfl, ax5, gl, fw, hi4, hrp, zr, ax7, l4, l5, zs, zt, zu, zv, zw, ik, l6, l7, l8, l9, il, ma, mb, mc, md, me⟩
 refine w9b ?_
 refine qM (vJ (s : Int)) ?_
 refine qM lv ?_
 refine qD rfl (run_len dC (v := lv) rfl be) (qD rfl (yR rfl rfl) (qe (zA ?_)))
 refine yE (p := ((s : Int) : Int) < (ls.length : Int)) rfl rfl (fun atk => ?_) (fun atk => ?_)
 have hf4 := hfb s (by omega)
 refine cM (zA (zB ?_))
 refine zX (zB ?_)
 have atl := cK gl.pins ai
 have atm := cK gl.pins an
 have atn := l5.read
 have ato := l4.read
 refine yQ (S := fun wz => Pins aj wz ∧ BxR wz y [ai] ∧ Pins (Gadd aj gk ai) wz ∧ Pins (Gadd aj gk an) wz) (last := 9) (by kernel_rfl) rfl ?_
 have bc := bdr gk
 have atp := gl.pins.below bc
 have bd := gl.step atp bc
 have zx := l4.below bc
 have atq := l5.below bc
 have atr := zs.below bc
 have att := zt.below bc
 have atu := zu.below bc
 have atv := zv.below bc
 have bo := zw.below bc
 have co := atl.below bc
 have cp := atm.below bc
 refine dT (i := 0) rfl rfl (by kernel_rfl) (fun _ _ => zU (v := an) rfl) ⟨bd.pins, bo.reads, co, cp⟩ ?_
 refine dT (i := 1) rfl rfl (by kernel_rfl) (fun _ _ => zU (v := fv) rfl) ⟨bd.pins, bo.reads, co, cp⟩ ?_
 refine dT (i := 2) rfl rfl (by kernel_rfl) (fun _ _ => zU (v := vJ (s : Int)) rfl) ⟨bd.pins, bo.reads, co, cp⟩ ?_
 refine dT (i := 3) rfl rfl (by kernel_rfl) (fun _ _ => zI dB sz3 (v := fv) rfl rfl fj (by omega) (by omega)) ⟨bd.pins, bo.reads, co, cp⟩ ?_
 refine dT (i := 4) rfl rfl (by kernel_rfl) (fun _ hS => zN (r := fr.getD s 0) rfl ag3 (z := (s : Int)) rfl fj (cB hS.1 fw) (by omega) (by omega)) ⟨bd.pins, bo.reads, co, cp⟩ ?_
 refine dT (i := 5) rfl rfl (by kernel_rfl) (fun _ _ => zK (k := 0) rfl dE rfl nz24 rfl) ⟨bd.pins, bo.reads, co, cp⟩ ?_
 refine dT (i := 6) rfl rfl (by kernel_rfl) (fun _ hS => zM (u := ai) ag24 rfl (hS.2.1 0 _ rfl)) ⟨bd.pins, bo.reads, co, cp⟩ ?_
 refine dT (i := 7) rfl rfl (by kernel_rfl) (fun _ _ => run_len dC (v := ai) rfl atn) ⟨bd.pins, bo.reads, co, cp⟩ ?_
 refine dT (i := 8) rfl rfl (by kernel_rfl) (fun _ _ => zI dB sz3 (v := an) rfl rfl ato (by omega) (by omega)) ⟨bd.pins, bo.reads, co, cp⟩ ?_
 refine dO (i := 9) (xJ (i := 9) rfl rfl rfl (yB rfl _) (jL (E := eInt) (v := an) (u := vJ (bb.length : Int)) (z := fr.getD s 0) ((bb.length : Int)) sz3 rfl rfl rfl rfl bd.pins zx (by omega) (by omega) (fun mf atw atx fb ax9 => ?_)))
 have zy := bd.write atx fb ((yG zx))
 have aty := atq.keptA fb ik.symm
 have atz := atr.keptA fb l6.symm
 have at0 := att.keptA fb l7.symm
 have at1 := atu.keptA fb l8.symm
 have at3 := atv.keptA fb l9.symm
 have at4 := bo.keptA fb il.symm
 refine ⟨fun h => absurd rfl h, ?_⟩
 refine zY (by kernel_rfl) (zA (yQ (S := fun wz => BxR wz y [ai] ∧ Pins aj wz) (last := 9) (by kernel_rfl) rfl ?_))
 have cq := bdr mf
 have at5 := zy.pins.below cq
 have cr := zy.step at5 cq
 have at6 := atw.below cq
 have at7 := aty.below cq
 have at8 := atz.below cq
 have at9 := at0.below cq
 have aua := at1.below cq
 have aub := at3.below cq
 have fc := at4.below cq
 refine dT (i := 0) rfl rfl (by kernel_rfl) (fun _ _ => zK (k := 0) rfl dE rfl nz24 rfl) ⟨fc.reads, cr.pins⟩ ?_
 refine dT (i := 1) rfl rfl (by kernel_rfl) (fun _ hS => zM (u := ai) ag24 rfl (hS.1 0 _ rfl)) ⟨fc.reads, cr.pins⟩ ?_
 refine dT (i := 2) rfl rfl (by kernel_rfl) (fun _ _ => zU (v := lv) rfl) ⟨fc.reads, cr.pins⟩ ?_
 refine dT (i := 3) rfl rfl (by kernel_rfl) (fun _ _ => zU (v := vJ (s : Int)) rfl) ⟨fc.reads, cr.pins⟩ ?_
 refine dT (i := 4) rfl rfl (by kernel_rfl) (fun _ _ => zI dC sz76 (v := lv) rfl rfl be (by omega) (by omega)) ⟨fc.reads, cr.pins⟩ ?_
 obtain ⟨auc, aud, zz, z0, aue⟩ := vD (be.at (z := (s : Int)) (by omega) (by omega)) (j := s) rfl
 have aya := zz.max
 have ayb := z0.max
 refine dT (i := 5) rfl rfl (by kernel_rfl) (fun _ hS => aue ag76 sz76 rfl (cB hS.2 fw)) ⟨fc.reads, cr.pins⟩ ?_
 refine dP (i := 6) rfl rfl (xF (E := eNode) (e := 76) [auc, aud] (⟨(ls.getD s default).l, (ls.getD s default).r⟩ : Nd) dC sz76 zr76 ⟨_, _, rfl, (zz.mono fw), (z0.mono fw)⟩ rfl (by decide) cr.pins (fun z1 auf aug auh d1 ayc => ?_))
 have im := cr.step auh d1
 have z2 := at6.below d1
 have z3 := at7.below d1
 have z4 := at8.below d1
 have z5 := at9.below d1
 have z6 := aua.below d1
 have z7 := aub.below d1
 have mg := fc.below d1
 have aui := aug.weaken cr.size
 refine ⟨fun _ => ⟨mg.reads, im.pins⟩, ?_⟩
 refine dP (i := 7) rfl rfl (oA (E := eNode) (v := ai) (u := z1) 48 dC ap76 (by decide) rfl rfl im.pins z3 aui.src (im.size) (fun io ayd mh auj fd fx => ?_))
 have ip := im.write auj fd ((yG z3))
 have auk := z2.keptA fd ik
 have aul := z4.keptA fd ma.symm
 have aum := z5.keptA fd mb.symm
 have aun := z6.keptA fd mc.symm
 have auo := z7.keptA fd md.symm
 have mi := mg.keptA fd me.symm
 have aup := zJ ik fx z2.lt
 have auq := zJ ma.symm fx z4.lt
 have aur := zJ mb.symm fx z5.lt
 have aus := zP mc.symm fx z6.lt
 have aut := zP md.symm fx z7.lt
 have z8 := zP me.symm fx mg.lt
 have aye := la1 bb (⟨(ls.getD s default).l, (ls.getD s default).r⟩ : Nd)
 refine ⟨fun _ => ⟨mi.reads, ip.pins⟩, ?_⟩
 refine dT (i := 8) rfl rfl (by kernel_rfl) (fun _ _ => zK (k := 0) rfl dE rfl nz24 rfl) ⟨mi.reads, ip.pins⟩ ?_
 refine dO (i := 9) (xJ (i := 9) rfl rfl rfl (yB rfl _) (o_stp (cs' := [io]) (us := [io]) (v := io) sz24 rfl rfl (vK mh.one) (yF mh.one) ip.pins mi (cD rfl) rfl (fun ayf auu auw fe ayg => ?_)))
 have aux := ip.write auw fe ((zW m8))
 have auy := auk.keptA fe il
 have auz := aul.keptA fe m2.symm
 have au0 := aum.keptA fe m3.symm
 have au1 := mh.keptA fe z8.symm
 have au2 := aun.keptA fe m6.symm
 have au3 := auo.keptA fe m7.symm
 refine ⟨fun h => absurd rfl h, ?_⟩
 refine zY (by kernel_rfl) (w9c ?_)
 refine qM (vJ (s : Int)) ?_
 refine qD rfl (yP rfl rfl (by omega)) (qM (vJ ((s : Int) + 1)) ?_)
 refine qe (yK (⟨_, ?_, _, rfl, _, s + 1, an, (fu).set (fr.getD s 0).toNat (bb.length : Int), io, bb ++ ([(⟨(ls.getD s default).l, (ls.getD s default).r⟩ : Nd)]), aj, (pS 14 (pS 10 (pS 9 (pS 8 (pS 7 (pS 6 (pS 5 (pS 4 (pS 1 (pU 0)))))))))), rfl, aux, fw, (by omega), (hrp.trans (place_next (by omega) (by omega))), ((cR ..).trans zr), (by simp; omega), auy, au1, auz, au0, au2, au3, auu, aup, l6, l7, l8, l9, il, auq.symm, aur.symm, aus.symm, aut.symm, z8.symm⟩))
 omega
 refine cO (zZ (yM (yL (w9c ?_))))
 refine qM (vJ (q : Int)) ?_
 refine qD rfl (yP rfl rfl (by omega)) (qM (vJ ((q : Int) + 1)) ?_)
 refine qe (yK (⟨_, ?_, _, rfl, _, q + 1, an, fu, ai, bb, aj, (pS 8 (pS 7 (pS 6 (pS 5 (pS 4 (pS 1 (pU 0))))))), rfl, gl, (cA (cA (cA (cA m9 d5) d6) f2) fw), (by omega), (form_step hr (by rw [show m.toNat + 1 = c by omega]; exact hrl) (hrp.trans (place_end (by omega)))), zr, (by omega), l4, l5, zs, zt, zu, zv, zw, ik, l6, l7, l8, l9, il, ma, mb, mc, md, me⟩))
 omega
 refine cO (zZ (yM (yL (w9a ?_))))
 refine qD rfl (zR (cs := [ov]) ag26 sz26 rfl (fun j u hj => i3.cell (by simpa using hj))) (q0 rfl rfl rfl (o_stp (cs' := [ov]) (us := [ov]) (v := .agg #[ov]) sz26 rfl rfl rfl (yF gr.one) fh.pins i2 (cD rfl) rfl (fun ayh au4 au5 z9 ayi => ?_)))
 have au6 := fh.write au5 z9 ((zW aac))
 have aaa := gr.keptA z9 nc
 refine qe (zA ?_)
 refine cN (zQ (qH (cs := [ov]) rfl rfl rfl ag26 sz26 (fun j u hj => by rw [cQ]; exact au4.cell hj) ?_))
 obtain ⟨ayj, au7, au8, au9, ayk⟩ := aaa.sealed au6
 have hfd := form_done hr (by omega)
 exact ⟨_, _, rfl, (by rw [hfd]; exact au9), au8, (by rw [hfd]; exact ⟨aq, aaa, au7⟩)⟩
theorem form_spec {w : World} (hP : Pins G w) (hB : Bk 76 3 G w b bu bv ns bs) (hok : BookOk ns bs) (hm : 0 ≤ m ∧ m < ns.length) :
  Calls Tryz.prog 51 #[.pointer (some ⟨b, 0, none⟩), .int .i64 m] w fun e w' => ∃ (u : Value) (G' : Pin), e = .returned (.agg #[u]) ∧ RSl eNode G' u (formM ns bs m.toNat) ∧ Ext noS G w G' w' :=
 (form_own hP hB hok hm).mono fun _ _ ⟨u, G', h1, h2, h3, _⟩ => ⟨u, G', h1, h2, h3⟩
theorem kA {w : World} {v : Value} (hP : Pins G w) (hv : RSl eNode G v ns) :
  Calls Tryz.prog 21 [.agg #[v]].toArray w fun e w' => ∃ G', e = .returned (.bool (decP (GoodS ns))) ∧ Ext noS G w G' w' := by
 refine yA (n := 46) Tryz.func21 Tryz.ntmps21 rfl rfl ?_
 have ae := exr noS hP
 have hm := hv.max
 refine w9d ?_
 refine qI rfl (xH [v] (v := .agg #[v]) rfl rfl ae.pins (fun b1 w2 bq az a0 a1 => ?_))
 have a2 := ae.step a0 a1
 have a3 : w.heap.size ≤ b1 := by have := ae.size; omega
 obtain ⟨G9, f, af, o, bs⟩ := az.shut a2 a3
 refine qM (.bool false) ?_
 refine qe (zA (w9b ?_))
 refine qD rfl (zR (cs := [v]) ag26 sz26 rfl (fun j u hj => af.pins _ _ _ (o _ _ (by simpa using hj)))) (qI rfl (zO (vs := [.agg #[v]]) Tryz.func48 nm48 rfl rfl rfl ?_))
 refine cC (l3Fits_spec af.pins (hv.mono f)) ?_
 rintro _ bt ⟨ao, rfl, a⟩
 refine rt9 ?_
 have ap := af.tr a
 refine qD rfl (xM rfl) (qe (zA ?_))
 refine qQ rfl rfl (fun ab => ?_) (fun ab => ?_)
 refine cM (zA (w9b ?_))
 refine qM (vJ 0) ?_
 refine qe (zA ?_)
 refine zX ?_
 have hfit := decP_true.1 ab
 refine yO (fun k en W => ∃ (aq : Nat → Value) (j : Nat) (x : Pin), en = (upd (upd aq 1 (vP b1)) 3 (vJ (j : Int))) ∧ k = ns.length - j ∧ Ext noS G w x W ∧ Pin.le ao x ∧ (j ≤ ns.length) ∧ (∀ i, i < j → Rise (ns.getD i default).l 0 ((i : Int) - 1) ∧ Rise (ns.getD i default).r 0 ((i : Int) - 1))) _ ⟨_, 0, ao, (pS 3 (pU 1)), rfl, ap, cI _, cH _, (fun i hi => absurd hi (cJ i))⟩ ?_
 rintro bu _ bv ⟨aq, j, x, rfl, bw, c, b, hj, hp⟩
 refine w9b ?_
 refine qM (vJ (j : Int)) ?_
 refine qD rfl (zK (k := 0) rfl dE rfl nz24 rfl) (qD rfl (zM (u := v) ag24 rfl ((cB c.pins (cA a.le b)) _ _ _ (o 0 _ rfl))) (qD rfl (run_len dC (v := v) rfl hv) (qD rfl (yR rfl rfl) (qe (zA ?_)))))
 refine yE (p := ((j : Int) : Int) < (ns.length : Int)) rfl rfl (fun a4 => ?_) (fun a4 => ?_)
 refine cM (zA (zB ?_))
 refine zX (w9d ?_)
 refine qD rfl (zK (k := 0) rfl dE rfl nz24 rfl) (qD rfl (zM (u := v) ag24 rfl ((cB c.pins (cA a.le b)) _ _ _ (o 0 _ rfl))) (qM (vJ (j : Int)) ?_))
 refine qD rfl (zI dC sz76 (v := v) rfl rfl hv (by omega) (by omega)) (qD rfl (yI (off := 0) dF rfl rfl nz40 (z := (j : Int)) (k := 0) rfl hv (by omega) (by omega)) ?_)
 obtain ⟨a5, ar, a6⟩ := jC (hv.at (z := (j : Int)) (by omega) (by omega)) (j := j) rfl
 have bz := ar.max
 refine qD rfl (a6 ag40 rfl (cB c.pins (cA (cA f a.le) b))) (qM (vJ (j : Int)) ?_)
 refine qD rfl (xR rfl rfl (by omega)) (qI rfl (zO (vs := [a5, vJ 0, vJ ((j : Int) - 1)]) Tryz.func49 nm49 rfl rfl rfl ?_))
 refine cC (fU c.pins (ar.mono (cA (cA f a.le) b))) ?_
 rintro _ b0 ⟨rfl, au⟩
 refine rt9 ?_
 have y := c.step au.pins au.below
 refine qD rfl (xM rfl) (qM (.bool (!(decP (Rise ((ns.getD j default).l) 0 ((j : Int) - 1))))) ?_)
 refine qbn (t := 25) rfl (fun ac => ?_) (fun ac => ?_)
 refine qN (zK (k := 0) rfl dE rfl nz24 rfl) ?_
 refine qN (zM (u := v) ag24 rfl ((cB y.pins (cA a.le b)) _ _ _ (o 0 _ rfl))) ?_
 refine qN (zU (v := vJ (j : Int)) rfl) ?_
 refine qN (zI dC sz76 (v := v) rfl rfl hv (by omega) (by omega)) ?_
 refine qN (yI (off := 1) dF rfl rfl nz40 (z := (j : Int)) (k := 0) rfl hv (by omega) (by omega)) ?_
 obtain ⟨a7, av, a8⟩ := qV (hv.at (z := (j : Int)) (by omega) (by omega)) (j := j) rfl
 have b2 := av.max
 refine qN (a8 ag40 rfl (cB y.pins (cA (cA f a.le) b))) ?_
 refine qN (zU (v := vJ (j : Int)) rfl) ?_
 refine qN (xR rfl rfl (by omega)) ?_
 refine q1g rfl rfl rfl rfl rfl rfl (zO (vs := [a7, vJ 0, vJ ((j : Int) - 1)]) Tryz.func49 nm49 rfl rfl rfl ?_)
 refine cC (fU y.pins (av.mono (cA (cA f a.le) b))) ?_
 rintro _ b3 ⟨rfl, aw⟩
 refine rt9 ?_
 have ax := y.step aw.pins aw.below
 refine qN (xM rfl) ?_
 refine qD rfl (yH (v := .bool (!(decP (Rise ((ns.getD j default).r) 0 ((j : Int) - 1))))) rfl rfl) (qe (zA ?_))
 refine qQ rfl rfl (fun ad => ?_) (fun ad => ?_)
 refine cM (w9c ?_)
 refine qM (vJ (j : Int)) ?_
 refine qD rfl (yP rfl rfl (by omega)) (qM (vJ ((j : Int) + 1)) ?_)
 refine qe (yK (⟨_, ?_, _, rfl, _, j + 1, x, (pS 3 (pU 1)), rfl, ax, b, (by omega), (fun k hk => if h3 : k = j then h3 ▸ ⟨decP_true.1 ac, decP_true.1 ad⟩ else hp k (by omega))⟩))
 omega
 refine w9d ?_
 refine qM (.bool false) ?_
 refine qe (zA ?_)
 exact cN (zQ (zS (v := .bool false) rfl rfl rfl (⟨_, cgA eB (decP_false.2 (fun g => by rw [decP_true.2 (g.rise j (by omega)).2] at ad; cases ad)).symm, ax⟩)))
 refine qW ?_
 refine qW ?_
 refine qW ?_
 refine qW ?_
 refine qW ?_
 refine qW ?_
 refine qW ?_
 refine qW ?_
 refine qW ?_
 refine qW ?_
 refine qD rfl (yJ (v := .bool true) rfl rfl) (qe (zA ?_))
 refine xW rfl rfl (w9d ?_)
 refine qM (.bool false) ?_
 refine qe (zA ?_)
 exact cN (zQ (zS (v := .bool false) rfl rfl rfl (⟨_, cgA eB (decP_false.2 (fun g => by rw [decP_true.2 (g.rise j (by omega)).1] at ac; cases ac)).symm, y⟩)))
 refine cO (zZ (yM (yL (w9a ?_))))
 have hrise : ∀ i, i < ns.length → Rise (ns.getD i default).l 0 ((i : Int) - 1) ∧ Rise (ns.getD i default).r 0 ((i : Int) - 1) := fun i hi => hp i (by omega)
 have hfok := fP hfit hrise
 have hlim := hfit.lim
 have hao := jD qO hfok (by simp; omega)
 refine qD rfl (xQ [vN, vN] [vN, vN] [] dJ zr92 rfl pl92 rfl (fun _ h => by cases h) rfl) (qI rfl (xH [vN, vN] (v := .agg #[vN, vN]) rfl rfl c.pins (fun m ag b4 a9 ba bb => ?_)))
 have ay := c.step ba bb
 have bc : w.heap.size ≤ m := by have := c.size; omega
 refine qM (vP m) ?_
 refine qe (zA (zB ?_))
 refine yQ (S := fun wz => Pins x wz) (last := 8) (by kernel_rfl) rfl ?_
 have ah := bdr ag
 have bd := ay.pins.below ah
 have d := ay.step bd ah
 have be := a9.below ah
 refine dM 0 (vP m) d.pins ?_
 refine dM 1 (vP m) d.pins ?_
 refine dT (i := 2) rfl rfl (by kernel_rfl) (fun _ hS => zR (cs := [v]) ag26 sz26 rfl (fun j u hj => (cB hS (cA a.le b)) _ _ _ (o _ _ (by simpa using hj)))) d.pins ?_
 refine dT (i := 5) rfl rfl (by kernel_rfl) (fun _ hS => zR (cs := [v]) ag26 sz26 rfl (fun j u hj => (cB hS (cA a.le b)) _ _ _ (o _ _ (by simpa using hj)))) d.pins ?_
 refine dP (i := 3) rfl rfl (zO (vs := [vP m, .agg #[v]]) Tryz.func52 nm52 rfl rfl rfl ?_)
 refine cC (jI d.pins ⟨be, (Own.nil _ _ _ _ _), (Own.nil _ _ _ _ _), apart_none.symm, apart_none.symm, apart_none⟩ qO (hv.mono (cA (cA f a.le) b)) ⟨hfok, hlim.1⟩ (by first | omega | (simp; omega))) ?_
 rintro _ b5 ⟨b6, b7, b8, rfl, q, s, bf, bg⟩
 refine rt9 ?_
 have ai : ∀ i, inS m vN vN i → w.heap.size ≤ i ∨ noS i := kE (zW bc) (vZ _ _) (vZ _ _)
 have aj := d.trans s ai
 have bh := q.bx
 have bi := q.ou
 have bj := q.ov
 have bk := q.abu
 have bl := q.abv
 have bm := q.auv
 have b9 := xU bf ai d.size
 have ca := xU bg ai d.size
 refine ⟨fun _ => (cB aj.pins s.le), ?_⟩
 refine dP (i := 4) rfl rfl (zO (vs := [vP m, vJ (rootM ([]) ([]) ns)]) Tryz.func51 nm51 rfl rfl rfl ?_)
 refine cC (form_spec aj.pins ⟨bh, bi, bj, bk, bl, bm⟩ hao.book (gL hao hlim.1)) ?_
 rintro _ cb ⟨bn, cc, rfl, bo, aa⟩
 refine rt9 ?_
 have ak := aj.tr aa
 refine ⟨fun _ => (cB ak.pins (cA s.le aa.le)), ?_⟩
 refine dP (i := 6) rfl rfl (zO (vs := [.agg #[bn], .agg #[v]]) Tryz.func50 nm50 rfl rfl rfl ?_)
 refine cC (l3Same_spec ak.pins bo (hv.mono (cA (cA (cA (cA f a.le) b) s.le) aa.le))) ?_
 rintro _ cd ⟨ce, rfl, al⟩
 refine rt9 ?_
 have am := ak.tr al
 refine ⟨fun _ => (cB am.pins (cA (cA s.le aa.le) al.le)), ?_⟩
 refine dM 7 (.bool (decide ((formM ((addM ([]) ([]) ns).2.1) ((addM ([]) ([]) ns).2.2) (rootM ([]) ([]) ns).toNat) = ns))) (cB am.pins (cA (cA s.le aa.le) al.le)) ?_
 exact zY (by kernel_rfl) (zA (cN (zQ (zS (v := .bool (decide ((formM ((addM ([]) ([]) ns).2.1) ((addM ([]) ([]) ns).2.2) (rootM ([]) ([]) ns).toNat) = ns))) rfl rfl rfl (⟨_, cgA eB (decP_dec.symm.trans (decP_iff ⟨fun h => ⟨hfit, hrise, h⟩, fun h => h.same⟩)), am⟩)))))
 refine w9d ?_
 refine qM (.bool false) ?_
 refine qe (zA ?_)
 exact cN (zQ (zS (v := .bool false) rfl rfl rfl (⟨_, cgA eB (decP_false.2 (fun g => by rw [decP_true.2 g.fits] at ab; cases ab)).symm, ap⟩)))
end E1
namespace K1
variable {G : Pin} {v : Value} {xs : List UInt8} {i : Int}
theorem isPow_spec {w : World} (hP : Pins G w) :
  Calls Tryz.prog 113 #[.int .i64 36] w fun e w' => e = .returned (.bool false) ∧ w' = w := by
 refine yA (n := 8) Tryz.func113 Tryz.ntmps113 rfl rfl ?_
 have hX0 := exr noS hP
 refine w9d ?_
 refine qM (.bool false) ?_
 refine qe (w9a ?_)
 refine qM (.int .i64 36) ?_
 refine qM (.int .i64 36) ?_
 refine qD rfl (xR rfl rfl (by omega)) (qD rfl (r_and rfl rfl) (qD rfl (xY rfl rfl) (qM (.bool (decide ((andW .i64 36 (36 - 1) : Int) = 0))) ?_)))
 refine qe (zA ?_)
 exact cN (zQ (zS (v := .bool (decide ((andW .i64 36 (36 - 1) : Int) = 0))) rfl rfl rfl (⟨cgA eB not_pow36, rfl⟩)))
theorem rK {w : World} (hP : Pins G w) (hv : Own eByte 5 G w 0 v xs) (hxl : xs.length ≤ 1099511627776) (hi : 0 ≤ i ∧ i ≤ 9223372036854775807) :
  Calls Tryz.prog 105 #[v, .int .u64 i, vJ 36, .bool false, .bool true] w fun e w' => ∃ (u : Value) (G' : Pin), e = .returned (.tuple #[u, .string (⟨#[]⟩ : ByteArray)]) ∧ Own eByte 5 G' w' 0 u (xs ++ dig36 i.toNat) ∧ Lo w (inO v.ownBlock) u.ownBlock ∧ Ext (inO v.ownBlock) G w G' w' := by
 refine yA (n := 102) Tryz.func105 Tryz.ntmps105 rfl rfl ?_
 have c := exr (inO v.ownBlock) hP
 have hlov : Lo w (inO v.ownBlock) v.ownBlock := xA
 refine w9d ?_
 refine qM vN ?_
 refine qM (.string (⟨#[]⟩ : ByteArray)) ?_
 refine qe (zA (w9b ?_))
 refine qM (vJ 36) ?_
 refine qD rfl (yR rfl rfl) (qM (.bool false) ?_)
 refine qN (zU (v := vJ 36) rfl) ?_
 refine qN (xY rfl rfl) ?_
 refine qD rfl (yH (v := .bool false) rfl rfl) (qM (.bool false) ?_)
 refine qN (zU (v := vJ 36) rfl) ?_
 refine qN (jV rfl rfl) ?_
 refine qD rfl (yH (v := .bool false) rfl rfl) (qe (zA ?_))
 refine qY rfl rfl (cM (w9a ?_))
 refine qI rfl (yN (arrV (List.replicate 65 0)) zr148 rfl c.pins (fun d w2 x y aa l => ?_))
 have m := c.step aa l
 have ab := hv.below l
 have f := zL (cgA some x) hv.lt
 have g : w.heap.size ≤ d := by have := c.size; omega
 refine qe (w9a ?_)
 refine qM (vJ 65) ?_
 refine qe (zA (w9b ?_))
 refine qM (.bool false) ?_
 refine qe (zA ?_)
 refine qY rfl rfl (cM (zA (w9b ?_)))
 refine qM (vJ 36) ?_
 refine qI rfl (zO (vs := [vJ 36]) Tryz.func113 nm113 rfl rfl rfl ?_)
 refine cC (isPow_spec m.pins ) ?_
 rintro _ _ ⟨rfl, rfl⟩
 refine rt9 (qe (zA ?_))
 refine qY rfl rfl (w9d ?_)
 refine qM (vJ 36) ?_
 refine qD rfl (fY (j := 36) dW dX rfl (tY (by omega))) (qM (.int .u64 36) ?_)
 refine qe (zA (zB ?_))
 refine zX (yO (fun k en W => ∃ (o : Nat → Value) (uz : Int) (iz : Int) (L : List UInt8), en = (upd (upd (upd (upd (upd (upd (upd (upd (upd o 0 v) 1 (.int .u64 uz)) 3 (.bool false)) 4 (.bool true)) 10 vN) 11 (.string (⟨#[]⟩ : ByteArray))) 12 (vP d)) 13 (vJ iz)) 17 (.int .u64 36)) ∧ k = uz.toNat ∧ Ext (inO v.ownBlock) G w G W ∧ (L.length = 65) ∧ (0 ≤ uz ∧ uz ≤ 9223372036854775807) ∧ (iz ≤ 65) ∧ (dig36 i.toNat = dig36 uz.toNat ++ L.drop iz.toNat) ∧ (Own eByte 5 G W 0 v (xs)) ∧ (Bx G W d (arrV (L)))) _ ⟨_, i, 65, List.replicate 65 0, (pS 17 (pS 13 (pS 12 (pS 11 (pS 10 (pS 4 (pS 3 (pS 1 (pU 0))))))))), rfl, m, List.length_replicate, hi, (Int.le_refl _), (by simp), ab, y⟩ ?_)
 rintro a1 _ a2 ⟨o, uz, iz, L, rfl, a3, a, hL, hu, hiz, hd, q, r⟩
 have hpl := dig_place hd hL (by omega)
 refine w9b ?_
 refine qM (.int .u64 uz) ?_
 refine qM (.int .u64 36) ?_
 refine qD rfl (vU rfl rfl) (qe (zA ?_))
 refine yE (p := (36 : Int) ≤ uz) rfl rfl (fun ac => ?_) (fun ac => ?_)
 refine cM (zA (zX (w9d ?_)))
 refine qM (vJ iz) ?_
 refine qD rfl (xR rfl rfl (by omega)) (qM (vJ (iz - 1)) ?_)
 refine qe (w9a ?_)
 refine qM (.int .u64 uz) ?_
 refine qM (.int .u64 36) ?_
 refine qD rfl (r_quoX rfl rfl (by omega) (by omega) (by omega)) (qM (.int .u64 (uz / 36)) ?_)
 refine qe (w9a ?_)
 refine qM (vJ (iz - 1)) ?_
 refine qM (.int .u64 uz) ?_
 refine qM (.int .u64 (uz / 36)) ?_
 refine qM (.int .u64 36) ?_
 refine qD rfl (r_mulX rfl rfl (by omega)) (qD rfl (r_subX rfl rfl (by omega)) (qD rfl (r_digit dZ rfl rfl (by omega)) (qD rfl (r_idxb (k := (iz - 1).toNat) Tryz.underlying148 sz5 rfl rfl (by omega) (by omega) (by omega)) (q0 rfl rfl rfl (o_stpk (k := (iz - 1).toNat) (x0 := digC (uz - ((uz / 36) * 36)).toNat) sz5 rfl rfl (by first | omega | (simp only [cR]; omega)) a.pins r (fun a4 ad ae s a5 => ?_))))))
 have af := a.write ae s ((zW g))
 have ag := q.keptA s f.symm
 refine qe (zA (zC ?_))
 refine qM (.int .u64 (uz / 36)) ?_
 refine qM (.int .u64 (uz / 36)) ?_
 refine qe (yD (yK (⟨_, ?_, _, rfl, _, uz / 36, iz - 1, L.set (iz - 1).toNat (digC (uz - ((uz / 36) * 36)).toNat), (pS 17 (pS 13 (pS 12 (pS 11 (pS 10 (pS 4 (pS 3 (pS 1 (pU 0))))))))), rfl, af, (by rw [cR]; exact hL), (by omega), (by omega), (dig_step hd hL (by omega) (by omega)), ag, ad⟩)))
 omega
 refine cO (zZ (yM (yL (w9a ?_))))
 refine qM (vJ iz) ?_
 refine qD rfl (xR rfl rfl (by omega)) (qM (vJ (iz - 1)) ?_)
 refine qe (zA (zC ?_))
 refine qM (vJ (iz - 1)) ?_
 refine qM (.int .u64 uz) ?_
 refine qD rfl (r_digit dZ rfl rfl (by omega)) (qD rfl (r_idxb (k := (iz - 1).toNat) Tryz.underlying148 sz5 rfl rfl (by omega) (by omega) (by omega)) (q0 rfl rfl rfl (o_stpk (k := (iz - 1).toNat) (x0 := digC (uz).toNat) sz5 rfl rfl (by first | omega | (simp only [cR]; omega)) a.pins r (fun a6 ah ai t a7 => ?_))))
 have aj := a.write ai t ((zW g))
 have ak := q.keptA t f.symm
 refine qe (zA (w9b ?_))
 refine qM (.bool false) ?_
 refine qe (zA ?_)
 refine qY rfl rfl (cM (zA (w9b ?_)))
 refine qM (.bool true) ?_
 refine qe (zA ?_)
 refine xW rfl rfl (w9d ?_)
 refine qM v ?_
 refine qM (vJ (iz - 1)) ?_
 obtain ⟨a8, al, b, am, an⟩ := ah.shut aj g
 have ao := ak.moreA al an f.symm
 obtain ⟨ap, aq, ar⟩ := name_arr (z := iz - 1) (n := 65) am (by rw [cR]; exact hL) (by omega) (by decide)
 refine qD rfl (ar Tryz.underlying148 sz5 rfl rfl) (qI rfl (oA (E := eByte) (v := v) (u := ap) 1 dN ap5 (by decide) rfl rfl b.pins ao ((aq.mono (cI _)).src b.pins (by decide)) (cH _) (fun h a9 au av aw ax => ?_)))
 have ay := b.write av aw (hlov)
 have az : Lo w (inO v.ownBlock) h.ownBlock := tI hlov ax b.size
 have ba := la2 xs ((L.set (iz - 1).toNat (digC (uz).toNat)).drop (iz - 1).toNat)
 refine qM h ?_
 refine qe (zA ?_)
 refine cN (zQ (xT (v := h) (u := .string (⟨#[]⟩ : ByteArray)) rfl rfl rfl rfl rfl ?_))
 have hown := au
 rw [dig_last hd hL (by omega) (by omega)] at hown
 exact ⟨_, _, rfl, hown, az, ay⟩
theorem rL {w : World} (hP : Pins G w) (hv : Own eByte 5 G w 0 v xs) (hxl : xs.length ≤ 1099511627776) (hi : 0 ≤ i ∧ i ≤ 9223372036854775807) :
  Calls Tryz.prog 90 #[v, .int .u64 i, .int .i64 36] w fun e w' => ∃ (u : Value) (G' : Pin), e = .returned u ∧ Own eByte 5 G' w' 0 u (xs ++ dig36 i.toNat) ∧ Lo w (inO v.ownBlock) u.ownBlock ∧ Ext (inO v.ownBlock) G w G' w' := by
 refine yA (n := 36) Tryz.func90 Tryz.ntmps90 rfl rfl ?_
 have b := exr (inO v.ownBlock) hP
 have hlov : Lo w (inO v.ownBlock) v.ownBlock := xA
 refine w9d ?_
 refine qM (.slice none 0 0) ?_
 refine qe (zA (w9b ?_))
 refine qM (.int .i64 36) ?_
 refine qD rfl (xY rfl rfl) (qe (zA ?_))
 refine qY rfl rfl (cM (w9a ?_))
 refine qM v ?_
 refine qM (.int .u64 i) ?_
 refine qM (.int .i64 36) ?_
 refine qI rfl (zO (vs := [v, .int .u64 i, .int .i64 36, .bool false, .bool true]) Tryz.func105 nm105 rfl rfl rfl ?_)
 refine cC (rK (i := i) b.pins hv (by omega) (by omega)) ?_
 rintro _ j ⟨a, k, rfl, c, d, f⟩
 refine rt9 ?_
 have g := b.trans f (fun i hi => hlov i hi)
 have h := sD d hlov b.size
 have l := la2 xs (dig36 (i).toNat)
 refine qM (.tuple #[a, .string (⟨#[]⟩ : ByteArray)]) ?_
 refine qD rfl (yV (v := a) rfl rfl) (qD rfl (yV (v := .string (⟨#[]⟩ : ByteArray)) rfl rfl) (qM a ?_))
 refine qe (w9a ?_)
 refine qM a ?_
 refine qM a ?_
 refine qe (zA ?_)
 exact cN (zQ (zS (v := a) rfl rfl rfl (⟨_, _, rfl, c, h, g⟩)))
theorem rJ {w : World} (hP : Pins G w) (hv : Own eByte 5 G w 0 v xs) (hxl : xs.length ≤ 1099511627776) (hi : 0 ≤ i ∧ i ≤ 9223372036854775807) :
  Calls Tryz.prog 87 #[v, .int .i64 i, .int .i64 36] w fun e w' => ∃ (u : Value) (G' : Pin), e = .returned u ∧ Own eByte 5 G' w' 0 u (xs ++ dig36 i.toNat) ∧ Lo w (inO v.ownBlock) u.ownBlock ∧ Ext (inO v.ownBlock) G w G' w' := by
 refine yA (n := 21) Tryz.func87 Tryz.ntmps87 rfl rfl ?_
 have a := exr (inO v.ownBlock) hP
 have hlov : Lo w (inO v.ownBlock) v.ownBlock := xA
 refine w9d ?_
 refine qM (.slice none 0 0) ?_
 refine qe (w9a ?_)
 refine qM (.int .i64 i) ?_
 refine qD rfl (fY (j := i) Tryz.underlying2 dX rfl (tY (by omega))) (qM (.int .u64 i) ?_)
 refine qe (zA (w9b ?_))
 refine qM (.int .i64 i) ?_
 refine qD rfl (yR rfl rfl) (qe (zA ?_))
 refine yE (p := (i : Int) < 0) rfl rfl (fun c => ?_) (fun c => ?_)
 exfalso; omega
 refine cM (w9a ?_)
 refine qM v ?_
 refine qM (.int .u64 i) ?_
 refine qM (.int .i64 36) ?_
 refine qI rfl (zO (vs := [v, .int .u64 i, .int .i64 36]) Tryz.func90 nm90 rfl rfl rfl ?_)
 refine cC (rL (i := i) a.pins hv (by omega) (by omega)) ?_
 rintro _ l ⟨b, m, rfl, d, f, g⟩
 refine rt9 ?_
 have h := a.trans g (fun i hi => hlov i hi)
 have k := sD f hlov a.size
 have o := la2 xs (dig36 (i).toNat)
 refine qM b ?_
 refine qe (zA ?_)
 exact cN (zQ (zS (v := b) rfl rfl rfl (⟨_, _, rfl, d, k, h⟩)))
theorem fK {w : World} (hP : Pins G w) (hv : Own eByte 5 G w 0 v xs) (hxl : xs.length ≤ 1099511627776) (hi : 0 ≤ i ∧ i ≤ 9223372036854775807) :
  Calls Tryz.prog 82 #[v, .int .i64 i, .int .i64 36] w fun e w' => ∃ (u : Value) (G' : Pin), e = .returned u ∧ Own eByte 5 G' w' 0 u (xs ++ dig36 i.toNat) ∧ Lo w (inO v.ownBlock) u.ownBlock ∧ Ext (inO v.ownBlock) G w G' w' := by
 refine yA (n := 11) Tryz.func82 Tryz.ntmps82 rfl rfl ?_
 have a := exr (inO v.ownBlock) hP
 have hlov : Lo w (inO v.ownBlock) v.ownBlock := xA
 refine w9d ?_
 refine qM (.slice none 0 0) ?_
 refine qe (w9a ?_)
 refine qM v ?_
 refine qM (.int .i64 i) ?_
 refine qM (.int .i64 36) ?_
 refine qI rfl (zO (vs := [v, .int .i64 i, .int .i64 36]) Tryz.func87 nm87 rfl rfl rfl ?_)
 refine cC (rJ (i := i) a.pins hv (by omega) (by omega)) ?_
 rintro _ j ⟨b, k, rfl, c, d, f⟩
 refine rt9 ?_
 have g := a.trans f (fun i hi => hlov i hi)
 have h := sD d hlov a.size
 have l := la2 xs (dig36 (i).toNat)
 refine qM b ?_
 refine qe (zA ?_)
 exact cN (zQ (zS (v := b) rfl rfl rfl (⟨_, _, rfl, c, h, g⟩)))
end K1
end Go.Proofs.YtdleojbknkbpiaaGreatDoor
