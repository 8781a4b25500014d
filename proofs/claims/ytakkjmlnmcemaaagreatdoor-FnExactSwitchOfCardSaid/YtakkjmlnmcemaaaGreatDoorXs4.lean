/- Texts of this claim in one file: L1, Ret3, Shelf, Isc, Can6, Late, All, B1, C1, D1. -/
import Derived.Test.YtakkjmlnmcemaaaGreatDoorXs3
import Derived.Test.YtakkjmlnmcemaaaGreatDoorChecked
import Derived.Shelf.Sort.Plain
import Derived.Ground.Names2Prog
import Derived.Shelf.Slices.CompactI
import Derived.Shelf.Slices.In.SortNone
import Derived.Test.YtakkjmlnmcemaaaGreatDoorProg
set_option maxRecDepth 20000
set_option maxHeartbeats 2000000
namespace Go.Proofs.YtakkjmlnmcemaaaGreatDoor
namespace L1
open Go.RowKit Go.GL Go.Proofs
end L1
section
open Go.RowKit Go.GL Go.Proofs
theorem ag133 : (Tryz.prog.underlying 133).map aggD = some true := by kernel_rfl
theorem ag22 : (Tryz.prog.underlying 22).map aggD = some false := by kernel_rfl
theorem ag24 : (Tryz.prog.underlying 24).map aggD = some true := by kernel_rfl
theorem ag27 : (Tryz.prog.underlying 27).map aggD = some true := by kernel_rfl
theorem ag3 : (Tryz.prog.underlying 3).map aggD = some false := by kernel_rfl
theorem ag30 : (Tryz.prog.underlying 30).map aggD = some false := by kernel_rfl
theorem ag32 : (Tryz.prog.underlying 32).map aggD = some true := by kernel_rfl
theorem ag4 : (Tryz.prog.underlying 4).map aggD = some false := by kernel_rfl
theorem ag56 : (Tryz.prog.underlying 56).map aggD = some false := by kernel_rfl
theorem ag58 : (Tryz.prog.underlying 58).map aggD = some true := by kernel_rfl
theorem ag65 : (Tryz.prog.underlying 65).map aggD = some true := by kernel_rfl
theorem ag75 : (Tryz.prog.underlying 75).map aggD = some false := by kernel_rfl
theorem ag91 : (Tryz.prog.underlying 91).map aggD = some false := by kernel_rfl
theorem ag92 : (Tryz.prog.underlying 92).map aggD = some false := by kernel_rfl
theorem ag93 : (Tryz.prog.underlying 93).map aggD = some false := by kernel_rfl
theorem ag95 : (Tryz.prog.underlying 95).map aggD = some false := by kernel_rfl
theorem ap27 : (Tryz.prog.info? 27).map (fun i => (i.size, i.bytes, (i.zero.map (·.cells.size)))) = some (2, 16, some 2) := by kernel_rfl
theorem ap3 : (Tryz.prog.info? 3).map (fun i => (i.size, i.bytes, (i.zero.map (·.cells.size)))) = some (1, 8, some 1) := by kernel_rfl
theorem ap32 : (Tryz.prog.info? 32).map (fun i => (i.size, i.bytes, (i.zero.map (·.cells.size)))) = some (1, 24, some 1) := by kernel_rfl
theorem ap4 : (Tryz.prog.info? 4).map (fun i => (i.size, i.bytes, (i.zero.map (·.cells.size)))) = some (1, 1, some 1) := by kernel_rfl
theorem ap5 : (Tryz.prog.info? 5).map (fun i => (i.size, i.bytes, (i.zero.map (·.cells.size)))) = some (1, 1, some 1) := by kernel_rfl
theorem ap56 : (Tryz.prog.info? 56).map (fun i => (i.size, i.bytes, (i.zero.map (·.cells.size)))) = some (1, 24, some 1) := by kernel_rfl
theorem ap65 : (Tryz.prog.info? 65).map (fun i => (i.size, i.bytes, (i.zero.map (·.cells.size)))) = some (2, 48, some 2) := by kernel_rfl
theorem nm100 : (Tryz.f100.name == "runtime.NumGoroutine") = false := by kernel_rfl
theorem nm101 : (Tryz.f101.name == "runtime.NumGoroutine") = false := by kernel_rfl
theorem nm102 : (Tryz.f102.name == "runtime.NumGoroutine") = false := by kernel_rfl
theorem nm103 : (Tryz.f103.name == "runtime.NumGoroutine") = false := by kernel_rfl
theorem nm104 : (Tryz.f104.name == "runtime.NumGoroutine") = false := by kernel_rfl
theorem nm105 : (Tryz.f105.name == "runtime.NumGoroutine") = false := by kernel_rfl
theorem nm106 : (Tryz.f106.name == "runtime.NumGoroutine") = false := by kernel_rfl
theorem nm107 : (Tryz.f107.name == "runtime.NumGoroutine") = false := by kernel_rfl
theorem nm108 : (Tryz.f108.name == "runtime.NumGoroutine") = false := by kernel_rfl
theorem nm109 : (Tryz.f109.name == "runtime.NumGoroutine") = false := by kernel_rfl
theorem nm11 : (Tryz.f11.name == "runtime.NumGoroutine") = false := by kernel_rfl
theorem nm110 : (Tryz.f110.name == "runtime.NumGoroutine") = false := by kernel_rfl
theorem nm111 : (Tryz.f111.name == "runtime.NumGoroutine") = false := by kernel_rfl
theorem nm112 : (Tryz.f112.name == "runtime.NumGoroutine") = false := by kernel_rfl
theorem nm113 : (Tryz.f113.name == "runtime.NumGoroutine") = false := by kernel_rfl
theorem nm114 : (Tryz.f114.name == "runtime.NumGoroutine") = false := by kernel_rfl
theorem nm115 : (Tryz.f115.name == "runtime.NumGoroutine") = false := by kernel_rfl
theorem nm116 : (Tryz.f116.name == "runtime.NumGoroutine") = false := by kernel_rfl
theorem nm117 : (Tryz.f117.name == "runtime.NumGoroutine") = false := by kernel_rfl
theorem nm118 : (Tryz.f118.name == "runtime.NumGoroutine") = false := by kernel_rfl
theorem nm121 : (Tryz.f121.name == "runtime.NumGoroutine") = false := by kernel_rfl
theorem nm13 : (Tryz.f13.name == "runtime.NumGoroutine") = false := by kernel_rfl
theorem nm136 : (Tryz.f136.name == "runtime.NumGoroutine") = false := by kernel_rfl
theorem nm14 : (Tryz.f14.name == "runtime.NumGoroutine") = false := by kernel_rfl
theorem nm144 : (Tryz.f144.name == "runtime.NumGoroutine") = false := by kernel_rfl
theorem nm24 : (Tryz.f24.name == "runtime.NumGoroutine") = false := by kernel_rfl
theorem nm25 : (Tryz.f25.name == "runtime.NumGoroutine") = false := by kernel_rfl
theorem nm26 : (Tryz.f26.name == "runtime.NumGoroutine") = false := by kernel_rfl
theorem nm28 : (Tryz.f28.name == "runtime.NumGoroutine") = false := by kernel_rfl
theorem nm30 : (Tryz.f30.name == "runtime.NumGoroutine") = false := by kernel_rfl
theorem nm31 : (Tryz.f31.name == "runtime.NumGoroutine") = false := by kernel_rfl
theorem nm33 : (Tryz.f33.name == "runtime.NumGoroutine") = false := by kernel_rfl
theorem nm34 : (Tryz.f34.name == "runtime.NumGoroutine") = false := by kernel_rfl
theorem nm35 : (Tryz.f35.name == "runtime.NumGoroutine") = false := by kernel_rfl
theorem nm36 : (Tryz.f36.name == "runtime.NumGoroutine") = false := by kernel_rfl
theorem nm37 : (Tryz.f37.name == "runtime.NumGoroutine") = false := by kernel_rfl
theorem nm38 : (Tryz.f38.name == "runtime.NumGoroutine") = false := by kernel_rfl
theorem nm39 : (Tryz.f39.name == "runtime.NumGoroutine") = false := by kernel_rfl
theorem nm40 : (Tryz.f40.name == "runtime.NumGoroutine") = false := by kernel_rfl
theorem nm41 : (Tryz.f41.name == "runtime.NumGoroutine") = false := by kernel_rfl
theorem nm42 : (Tryz.f42.name == "runtime.NumGoroutine") = false := by kernel_rfl
theorem nm44 : (Tryz.f44.name == "runtime.NumGoroutine") = false := by kernel_rfl
theorem nm46 : (Tryz.f46.name == "runtime.NumGoroutine") = false := by kernel_rfl
theorem nm47 : (Tryz.f47.name == "runtime.NumGoroutine") = false := by kernel_rfl
theorem nm48 : (Tryz.f48.name == "runtime.NumGoroutine") = false := by kernel_rfl
theorem nm49 : (Tryz.f49.name == "runtime.NumGoroutine") = false := by kernel_rfl
theorem nm50 : (Tryz.f50.name == "runtime.NumGoroutine") = false := by kernel_rfl
theorem nm51 : (Tryz.f51.name == "runtime.NumGoroutine") = false := by kernel_rfl
theorem nm52 : (Tryz.f52.name == "runtime.NumGoroutine") = false := by kernel_rfl
theorem nm53 : (Tryz.f53.name == "runtime.NumGoroutine") = false := by kernel_rfl
theorem nm54 : (Tryz.f54.name == "runtime.NumGoroutine") = false := by kernel_rfl
theorem nm55 : (Tryz.f55.name == "runtime.NumGoroutine") = false := by kernel_rfl
theorem nm56 : (Tryz.f56.name == "runtime.NumGoroutine") = false := by kernel_rfl
theorem nm57 : (Tryz.f57.name == "runtime.NumGoroutine") = false := by kernel_rfl
theorem nm58 : (Tryz.f58.name == "runtime.NumGoroutine") = false := by kernel_rfl
theorem nm59 : (Tryz.f59.name == "runtime.NumGoroutine") = false := by kernel_rfl
theorem nm60 : (Tryz.f60.name == "runtime.NumGoroutine") = false := by kernel_rfl
theorem nm61 : (Tryz.f61.name == "runtime.NumGoroutine") = false := by kernel_rfl
theorem nm62 : (Tryz.f62.name == "runtime.NumGoroutine") = false := by kernel_rfl
theorem nm63 : (Tryz.f63.name == "runtime.NumGoroutine") = false := by kernel_rfl
theorem nm64 : (Tryz.f64.name == "runtime.NumGoroutine") = false := by kernel_rfl
theorem nm65 : (Tryz.f65.name == "runtime.NumGoroutine") = false := by kernel_rfl
theorem nm66 : (Tryz.f66.name == "runtime.NumGoroutine") = false := by kernel_rfl
theorem nm67 : (Tryz.f67.name == "runtime.NumGoroutine") = false := by kernel_rfl
theorem nm68 : (Tryz.f68.name == "runtime.NumGoroutine") = false := by kernel_rfl
theorem nm69 : (Tryz.f69.name == "runtime.NumGoroutine") = false := by kernel_rfl
theorem nm70 : (Tryz.f70.name == "runtime.NumGoroutine") = false := by kernel_rfl
theorem nm71 : (Tryz.f71.name == "runtime.NumGoroutine") = false := by kernel_rfl
theorem nm74 : (Tryz.f74.name == "runtime.NumGoroutine") = false := by kernel_rfl
theorem nm75 : (Tryz.f75.name == "runtime.NumGoroutine") = false := by kernel_rfl
theorem nm76 : (Tryz.f76.name == "runtime.NumGoroutine") = false := by kernel_rfl
theorem nm77 : (Tryz.f77.name == "runtime.NumGoroutine") = false := by kernel_rfl
theorem nm78 : (Tryz.f78.name == "runtime.NumGoroutine") = false := by kernel_rfl
theorem nm79 : (Tryz.f79.name == "runtime.NumGoroutine") = false := by kernel_rfl
theorem nm80 : (Tryz.f80.name == "runtime.NumGoroutine") = false := by kernel_rfl
theorem nm81 : (Tryz.f81.name == "runtime.NumGoroutine") = false := by kernel_rfl
theorem nm82 : (Tryz.f82.name == "runtime.NumGoroutine") = false := by kernel_rfl
theorem nm83 : (Tryz.f83.name == "runtime.NumGoroutine") = false := by kernel_rfl
theorem nm84 : (Tryz.f84.name == "runtime.NumGoroutine") = false := by kernel_rfl
theorem nm85 : (Tryz.f85.name == "runtime.NumGoroutine") = false := by kernel_rfl
theorem nm86 : (Tryz.f86.name == "runtime.NumGoroutine") = false := by kernel_rfl
theorem nm87 : (Tryz.f87.name == "runtime.NumGoroutine") = false := by kernel_rfl
theorem nm88 : (Tryz.f88.name == "runtime.NumGoroutine") = false := by kernel_rfl
theorem nm89 : (Tryz.f89.name == "runtime.NumGoroutine") = false := by kernel_rfl
theorem nm9 : (Tryz.f9.name == "runtime.NumGoroutine") = false := by kernel_rfl
theorem nm90 : (Tryz.f90.name == "runtime.NumGoroutine") = false := by kernel_rfl
theorem nm91 : (Tryz.f91.name == "runtime.NumGoroutine") = false := by kernel_rfl
theorem nm92 : (Tryz.f92.name == "runtime.NumGoroutine") = false := by kernel_rfl
theorem nm93 : (Tryz.f93.name == "runtime.NumGoroutine") = false := by kernel_rfl
theorem nm94 : (Tryz.f94.name == "runtime.NumGoroutine") = false := by kernel_rfl
theorem nm95 : (Tryz.f95.name == "runtime.NumGoroutine") = false := by kernel_rfl
theorem nm96 : (Tryz.f96.name == "runtime.NumGoroutine") = false := by kernel_rfl
theorem nm97 : (Tryz.f97.name == "runtime.NumGoroutine") = false := by kernel_rfl
theorem nm98 : (Tryz.f98.name == "runtime.NumGoroutine") = false := by kernel_rfl
theorem nm99 : (Tryz.f99.name == "runtime.NumGoroutine") = false := by kernel_rfl
theorem nz22 : (Tryz.prog.info? 22).map (·.size == 0) = some false := by kernel_rfl
theorem nz3 : (Tryz.prog.info? 3).map (·.size == 0) = some false := by kernel_rfl
theorem nz30 : (Tryz.prog.info? 30).map (·.size == 0) = some false := by kernel_rfl
theorem nz56 : (Tryz.prog.info? 56).map (·.size == 0) = some false := by kernel_rfl
theorem nz75 : (Tryz.prog.info? 75).map (·.size == 0) = some false := by kernel_rfl
theorem nz91 : (Tryz.prog.info? 91).map (·.size == 0) = some false := by kernel_rfl
theorem nz92 : (Tryz.prog.info? 92).map (·.size == 0) = some false := by kernel_rfl
theorem nz93 : (Tryz.prog.info? 93).map (·.size == 0) = some false := by kernel_rfl
theorem nz95 : (Tryz.prog.info? 95).map (·.size == 0) = some false := by kernel_rfl
theorem sz133 : (Tryz.prog.info? 133).map (·.size) = some 2 := by kernel_rfl
theorem sz24 : (Tryz.prog.info? 24).map (·.size) = some 1 := by kernel_rfl
theorem sz27 : (Tryz.prog.info? 27).map (·.size) = some 2 := by kernel_rfl
theorem sz3 : (Tryz.prog.info? 3).map (·.size) = some 1 := by kernel_rfl
theorem sz30 : (Tryz.prog.info? 30).map (·.size) = some 1 := by kernel_rfl
theorem sz32 : (Tryz.prog.info? 32).map (·.size) = some 1 := by kernel_rfl
theorem sz4 : (Tryz.prog.info? 4).map (·.size) = some 1 := by kernel_rfl
theorem sz5 : (Tryz.prog.info? 5).map (·.size) = some 1 := by kernel_rfl
theorem sz56 : (Tryz.prog.info? 56).map (·.size) = some 1 := by kernel_rfl
theorem sz58 : (Tryz.prog.info? 58).map (·.size) = some 2 := by kernel_rfl
theorem sz65 : (Tryz.prog.info? 65).map (·.size) = some 2 := by kernel_rfl
theorem sz95 : (Tryz.prog.info? 95).map (·.size) = some 1 := by kernel_rfl
theorem zr126 : (Tryz.prog.info? 126).bind (·.zero) = some (.agg #[(.pointer none), (.slice none 0 0)]) := by kernel_rfl
theorem zr133 : (Tryz.prog.info? 133).bind (·.zero) = some (.agg #[(.int .i64 0), (.int .i64 0)]) := by kernel_rfl
theorem zr162 : (Tryz.prog.info? 162).bind (·.zero) = some (.agg #[(.int .u8 0), (.int .u8 0), (.int .u8 0), (.int .u8 0), (.int .u8 0), (.int .u8 0), (.int .u8 0), (.int .u8 0), (.int .u8 0), (.int .u8 0), (.int .u8 0), (.int .u8 0), (.int .u8 0), (.int .u8 0), (.int .u8 0), (.int .u8 0), (.int .u8 0), (.int .u8 0), (.int .u8 0), (.int .u8 0), (.int .u8 0), (.int .u8 0), (.int .u8 0), (.int .u8 0), (.int .u8 0), (.int .u8 0), (.int .u8 0), (.int .u8 0), (.int .u8 0), (.int .u8 0), (.int .u8 0), (.int .u8 0), (.int .u8 0), (.int .u8 0), (.int .u8 0), (.int .u8 0), (.int .u8 0), (.int .u8 0), (.int .u8 0), (.int .u8 0), (.int .u8 0), (.int .u8 0), (.int .u8 0), (.int .u8 0), (.int .u8 0), (.int .u8 0), (.int .u8 0), (.int .u8 0), (.int .u8 0), (.int .u8 0), (.int .u8 0), (.int .u8 0), (.int .u8 0), (.int .u8 0), (.int .u8 0), (.int .u8 0), (.int .u8 0), (.int .u8 0), (.int .u8 0), (.int .u8 0), (.int .u8 0), (.int .u8 0), (.int .u8 0), (.int .u8 0), (.int .u8 0)]) := by kernel_rfl
theorem zr27 : (Tryz.prog.info? 27).bind (·.zero) = some (.agg #[(.int .i64 0), (.int .i64 0)]) := by kernel_rfl
theorem zr3 : (Tryz.prog.info? 3).bind (·.zero) = some (.int .i64 0) := by kernel_rfl
theorem zr32 : (Tryz.prog.info? 32).bind (·.zero) = some (.agg #[(.slice none 0 0)]) := by kernel_rfl
theorem zr4 : (Tryz.prog.info? 4).bind (·.zero) = some (.bool false) := by kernel_rfl
theorem zr5 : (Tryz.prog.info? 5).bind (·.zero) = some (.int .u8 0) := by kernel_rfl
theorem zr56 : (Tryz.prog.info? 56).bind (·.zero) = some (.slice none 0 0) := by kernel_rfl
theorem zr65 : (Tryz.prog.info? 65).bind (·.zero) = some (.agg #[(.slice none 0 0), (.slice none 0 0)]) := by kernel_rfl
theorem zr77 : (Tryz.prog.info? 77).bind (·.zero) = some (.agg #[(.slice none 0 0), (.slice none 0 0)]) := by kernel_rfl
theorem zr97 : (Tryz.prog.info? 97).bind (·.zero) = some (.agg #[(.slice none 0 0), (.slice none 0 0), (.slice none 0 0), (.map none), (.map none), (.map none), (.map none), (.map none)]) := by kernel_rfl
end
namespace L1
open Go.RowKit Go.GL Go.Proofs






theorem mk3 : (Tryz.prog.info? 3).map (fun i => (i.size, i.bytes, i.zero)) = some (1, 8, some (.int .i64 0)) := by kernel_rfl
theorem mk65 : (Tryz.prog.info? 65).map (fun i => (i.size, i.bytes, i.zero)) = some (2, 48, some (.agg #[(.slice none 0 0), (.slice none 0 0)])) := by kernel_rfl




















theorem szIntS_spec {w : World} {G : Pin} {v : Value} {xs : List Int} {left : Int} (hP : Pins G w) (hv : RSl eInt G v xs) (hl : 0 ≤ left ∧ left ≤ 1048576) :
  Calls Tryz.prog 70 [v, (.int .i64 left)].toArray w fun e w' => e = .returned (.int .i64 (szInts xs left)) ∧ w' = w := by
 refine zV (n := 12) Tryz.func70 Tryz.ntmps70 rfl rfl ?_
 have hX0 : Ext noS G w G w := Ext.refl hP
 have hm := hv.max
 refine zB (zC ?_)
 refine qM (.int .i64 0) ?_
 refine qe (zA (zB (zC ?_)))
 refine qM (.int .i64 left) ?_
 refine qM v ?_
 refine qD rfl (zM Tryz.underlying56 (v := v) rfl hv) (qD rfl (qE rfl rfl (by omega)) (qM (.int .i64 (left - (xs.length : Int))) ?_))
 refine qe (zA (zB (zB (zC ?_))))
 refine qM (.int .i64 (left - (xs.length : Int))) ?_
 refine qD rfl (yV rfl rfl) (qe (zA ?_))
 refine yA (p := (left - (xs.length : Int) : Int) < 0) rfl rfl (fun h1 => ?_) (fun h1 => ?_)
 refine zB (zC ?_)
 refine qM (.int .i64 (-1)) ?_
 refine qe (zA ?_)
 exact wp_ret (zO (zP (v := (.int .i64 (-1))) rfl rfl rfl (⟨congrArg (fun z => Ending.returned (Value.int .i64 z)) (by unfold szInts; split <;> omega), rfl⟩)))
 refine wp_skip (zA (zB (zC ?_)))
 refine qM (.int .i64 (left - (xs.length : Int))) ?_
 refine qM (.int .i64 (left - (xs.length : Int))) ?_
 refine qe (zA ?_)
 exact wp_ret (zO (zP (v := (.int .i64 (left - (xs.length : Int)))) rfl rfl rfl (⟨congrArg (fun z => Ending.returned (Value.int .i64 z)) (by unfold szInts; split <;> omega), rfl⟩)))

theorem szNode_spec {w : World} {G : Pin} {u v : Value} {n : Nd} {left : Int} (hP : Pins G w) (hu : RSl eInt G u n.l) (hv : RSl eInt G v n.r) (hl : 0 ≤ left ∧ left ≤ 1048576) :
  Calls Tryz.prog 42 [(.agg [u, v].toArray), (vJ left)].toArray w fun e w' => ∃ G', e = .returned (vJ (szNd n left)) ∧ Ext noS G w G' w' := by
 refine zV (n := 18) Tryz.func42 Tryz.ntmps42 rfl rfl ?_
 have c : Ext noS G w G w := Ext.refl hP
 refine zB (zC ?_)
 refine qI rfl (xG [u, v] (v := (.agg [u, v].toArray)) rfl rfl c.pins (fun h s t i j m => ?_))
 have o := c.step j m
 have q : w.heap.size ≤ h := by have := c.size; omega
 obtain ⟨x, f, a, g, y⟩ := i.shut o q
 refine qM (vJ 0) ?_
 refine qe (zA (zB (zC ?_)))
 refine qD rfl (zK (k := 0) rfl Tryz.underlying58 rfl nz56 rfl) (qD rfl (zL (u := u) ag56 rfl (a.pins _ _ _ (g 0 _ rfl))) (qM (vJ left) ?_))
 refine qI rfl (zH (vs := [u, (vJ left)]) Tryz.func70 nm70 rfl rfl rfl ?_)
 refine Calls.mono (szIntS_spec a.pins (hu.mono f) (by omega)) ?_
 rintro _ _ ⟨rfl, rfl⟩
 refine ⟨_, rfl, ?_⟩
 refine qM (vJ (szInts n.l left)) ?_
 refine qe (zA (zB (zB (zC ?_))))
 refine qM (vJ (szInts n.l left)) ?_
 refine qD rfl (yV rfl rfl) (qe (zA ?_))
 refine yA (p := (szInts n.l left : Int) < 0) rfl rfl (fun b => ?_) (fun b => ?_)
 refine zB (zC ?_)
 refine qM (vJ (-1)) ?_
 refine qe (zA ?_)
 exact wp_ret (zO (zP (v := (vJ (-1))) rfl rfl rfl (⟨_, congrArg (fun z => Ending.returned (Value.int .i64 z)) (by unfold szNd; rw [if_pos b]), a⟩)))
 refine wp_skip (zA (zB (zC ?_)))
 refine qD rfl (zK (k := 1) rfl Tryz.underlying58 rfl nz56 rfl) (qD rfl (zL (u := v) ag56 rfl (a.pins _ _ _ (g 1 _ rfl))) (qM (vJ (szInts n.l left)) ?_))
 have hq := szInts_ok b hl
 refine qI rfl (zH (vs := [v, (vJ (szInts n.l left))]) Tryz.func70 nm70 rfl rfl rfl ?_)
 refine Calls.mono (szIntS_spec a.pins (hv.mono f) (by omega)) ?_
 rintro _ _ ⟨rfl, rfl⟩
 refine ⟨_, rfl, ?_⟩
 refine qM (vJ (szInts n.r (szInts n.l left))) ?_
 refine qe (zA (zB (zB (zC ?_))))
 refine qM (vJ (szInts n.r (szInts n.l left))) ?_
 refine qD rfl (yV rfl rfl) (qe (zA ?_))
 refine yA (p := (szInts n.r (szInts n.l left) : Int) < 0) rfl rfl (fun d => ?_) (fun d => ?_)
 refine zB (zC ?_)
 refine qM (vJ (-1)) ?_
 refine qe (zA ?_)
 exact wp_ret (zO (zP (v := (vJ (-1))) rfl rfl rfl (⟨_, congrArg (fun z => Ending.returned (Value.int .i64 z)) (by unfold szNd; rw [if_neg b, if_pos d]), a⟩)))
 refine wp_skip (zA (zB (zC ?_)))
 refine qM (vJ (szInts n.r (szInts n.l left))) ?_
 refine qM (vJ (szInts n.r (szInts n.l left))) ?_
 refine qe (zA ?_)
 exact wp_ret (zO (zP (v := (vJ (szInts n.r (szInts n.l left)))) rfl rfl rfl (⟨_, congrArg (fun z => Ending.returned (Value.int .i64 z)) (by unfold szNd; rw [if_neg b, if_neg d]), a⟩)))

theorem szNodeS_spec {w : World} {G : Pin} {v : Value} {ns : List Nd} {left : Int} (hP : Pins G w) (hv : RSl eNode G v ns) (hl : 0 ≤ left ∧ left ≤ 1048576) :
  Calls Tryz.prog 26 [v, (vJ left)].toArray w fun e w' => ∃ G', e = .returned (vJ (szNds ns left)) ∧ Ext noS G w G' w' := by
 refine zV (n := 27) Tryz.func26 Tryz.ntmps26 rfl rfl ?_
 have g : Ext noS G w G w := Ext.refl hP
 have hm := hv.max
 refine zB (zC ?_)
 refine qM (vJ 0) ?_
 refine qe (zA (zB (zC ?_)))
 refine qM (vJ left) ?_
 refine qM v ?_
 refine qD rfl (zM Tryz.underlying22 (v := v) rfl hv) (qD rfl (qE rfl rfl (by omega)) (qM (vJ (left - (ns.length : Int))) ?_))
 refine qe (zA (zB (zB (zC ?_))))
 refine qM (vJ (left - (ns.length : Int))) ?_
 refine qD rfl (yV rfl rfl) (qe (zA ?_))
 refine yA (p := (left - (ns.length : Int) : Int) < 0) rfl rfl (fun a => ?_) (fun a => ?_)
 refine zB (zC ?_)
 refine qM (vJ (-1)) ?_
 refine qe (zA ?_)
 exact wp_ret (zO (zP (v := (vJ (-1))) rfl rfl rfl (⟨_, congrArg (fun z => Ending.returned (Value.int .i64 z)) (by unfold szNds; rw [if_pos a]), g⟩)))
 refine wp_skip (zA (zB (zB (zC ?_))))
 refine qM (vJ 0) ?_
 refine qe (zA ?_)
 refine zX (yT (fun (k : Nat) (en : Nat → Value) (W : World) => ∃ (h : Nat → Value) (j : Nat) (q : Int) (f : Pin), en = (upd (upd (upd h 0 v) 1 (vJ q)) 5 (vJ (j : Int))) ∧ k = ns.length - j ∧ Ext noS G w f W ∧ Pin.le G f ∧ (j ≤ ns.length) ∧ (0 ≤ q ∧ q ≤ 1048576) ∧ (szGo ns (left - ns.length) = szGo (ns.drop j) q)) _ ⟨_, 0, left - (ns.length : Int), G, (pS 5 (pS 1 (pU 0))), rfl, g, Pin.le_refl _, Nat.zero_le _, (by omega), rfl⟩ ?_)
 rintro k2 _ w3 ⟨h, j, q, f, rfl, ad, b, c, hj, hq, hr⟩
 refine zB (zB (zC ?_))
 refine qM (vJ (j : Int)) ?_
 refine qM v ?_
 refine qD rfl (zM Tryz.underlying22 (v := v) rfl hv) (qD rfl (yV rfl rfl) (qe (zA ?_)))
 refine yA (p := ((j : Int) : Int) < (ns.length : Int)) rfl rfl (fun t => ?_) (fun t => ?_)
 refine wp_skip (zA (zB ?_))
 refine zX (zB (zC ?_))
 refine qM v ?_
 refine qM (vJ (j : Int)) ?_
 refine qD rfl (zF Tryz.underlying22 sz58 (v := v) rfl rfl hv (by omega) (by omega)) ?_
 obtain ⟨u, x, i, m, y⟩ := jB (hv.at (z := (j : Int)) (by omega) (by omega)) (j := j) rfl
 have ae := i.max
 have af := m.max
 refine qD rfl (y ag58 sz58 rfl (Pins.of_le b.pins c)) (qM (vJ q) ?_)
 refine qI rfl (zH (vs := [(.agg [u, x].toArray), (vJ q)]) Tryz.func42 nm42 rfl rfl rfl ?_)
 refine Calls.mono (szNode_spec (n := ⟨(ns.getD j default).l, (ns.getD j default).r⟩) b.pins (i.mono c) (m.mono c) (by omega)) ?_
 rintro _ ag ⟨aa, rfl, o⟩
 refine ⟨_, rfl, ?_⟩
 have s := b.tr o
 refine qM (vJ (szNd ⟨(ns.getD j default).l, (ns.getD j default).r⟩ q)) ?_
 refine qe (zA (zB (zC ?_)))
 refine qM (vJ (szNd ⟨(ns.getD j default).l, (ns.getD j default).r⟩ q)) ?_
 refine qD rfl (yV rfl rfl) (qe (zA ?_))
 refine yA (p := (szNd ⟨(ns.getD j default).l, (ns.getD j default).r⟩ q : Int) < 0) rfl rfl (fun d => ?_) (fun d => ?_)
 refine zB (zC ?_)
 refine qM (vJ (-1)) ?_
 refine qe (zA ?_)
 exact wp_ret (zO (zP (v := (vJ (-1))) rfl rfl rfl (⟨_, congrArg (fun z => Ending.returned (Value.int .i64 z)) (by unfold szNds; rw [if_neg a]; exact (hr.trans (szGo_stop (by omega) d)).symm), s⟩)))
 refine wp_skip (yB (zA (zC ?_)))
 refine qM (vJ (j : Int)) ?_
 refine qD rfl (yJ rfl rfl (by omega)) (qM (vJ ((j : Int) + 1)) ?_)
 refine qe (zZ ?_)
 have hz := szNd_ok d
 refine ⟨_, ?_, _, rfl, _, j + 1, szNd ⟨(ns.getD j default).l, (ns.getD j default).r⟩ q, aa, (pS 5 (pS 1 (pU 0))), rfl, s, (Pin.le_trans c o.le), (by omega), (by have a := hz.1; have h2 := hz.2.1; exact ⟨a, by omega⟩), (hr.trans (szGo_next (by omega) d))⟩
 omega
 refine wp_exit (zW (yO (yI (zA (zB (zC ?_))))))
 refine qM (vJ q) ?_
 refine qM (vJ q) ?_
 refine qe (zA ?_)
 exact wp_ret (zO (zP (v := (vJ q)) rfl rfl rfl (⟨_, congrArg (fun z => Ending.returned (Value.int .i64 z)) (by unfold szNds; rw [if_neg a]; exact (hr.trans (szGo_end (by omega))).symm), b⟩)))

theorem szForm_spec {w : World} {G : Pin} {v : Value} {ns : List Nd} {left : Int} (hP : Pins G w) (hv : RSl eNode G v ns) (hl : 0 ≤ left ∧ left ≤ 1048576) :
  Calls Tryz.prog 9 [(.agg [v].toArray), (.int .i64 left)].toArray w fun e w' => ∃ z G', e = .returned (.int .i64 z) ∧ (z < 0 ∧ szNds ns left < 0 ∨ 0 ≤ z ∧ z ≤ left ∧ ¬ szNds ns left < 0) ∧ Ext noS G w G' w' := by
 refine zV (n := 12) Tryz.func9 Tryz.ntmps9 rfl rfl ?_
 have a : Ext noS G w G w := Ext.refl hP
 refine zB (zC ?_)
 refine qI rfl (xG [v] (v := (.agg [v].toArray)) rfl rfl a.pins (fun d r s f g h => ?_))
 have i := a.step g h
 have j : w.heap.size ≤ d := by have := a.size; omega
 obtain ⟨t, l, b, m, x⟩ := f.shut i j
 refine qM (.int .i64 0) ?_
 refine qe (zA (zB (zC ?_)))
 refine qD rfl (zK (k := 0) rfl Tryz.underlying24 rfl nz22 rfl) (qD rfl (zL (u := v) ag22 rfl (b.pins _ _ _ (m 0 _ rfl))) (qM (.int .i64 left) ?_))
 refine qI rfl (zH (vs := [v, (.int .i64 left)]) Tryz.func26 nm26 rfl rfl rfl ?_)
 refine Calls.mono (szNodeS_spec b.pins (hv.mono l) (by omega)) ?_
 rintro _ y ⟨aa, rfl, o⟩
 refine ⟨_, rfl, ?_⟩
 have c := b.tr o
 refine qM (.int .i64 (szNds ns left)) ?_
 refine qe (zA (zB (zB (zC ?_))))
 refine qM (.int .i64 (szNds ns left)) ?_
 refine qD rfl (yV rfl rfl) (qe (zA ?_))
 refine yA (p := (szNds ns left : Int) < 0) rfl rfl (fun q => ?_) (fun q => ?_)
 refine zB (zC ?_)
 refine qM (.int .i64 (-1)) ?_
 refine qe (zA ?_)
 refine wp_ret (zO (zP (v := (.int .i64 (-1))) rfl rfl rfl ?_))
 have hzl := @szNds_le ns left
 exact ⟨_, _, rfl, by omega, c⟩
 refine wp_skip (zA (zB (zC ?_)))
 refine qM (.int .i64 (szNds ns left)) ?_
 refine qM (.int .i64 (szNds ns left)) ?_
 refine qe (zA ?_)
 refine wp_ret (zO (zP (v := (.int .i64 (szNds ns left))) rfl rfl rfl ?_))
 have hzl := @szNds_le ns left
 exact ⟨_, _, rfl, by omega, c⟩

theorem toIntS_spec {w : World} {G : Pin} {v : Value} {xs : List Int} (hP : Pins G w) (hv : RSl eInt G v xs) (hs : xs.length ≤ 1048576) :
  Calls Tryz.prog 74 [v].toArray w fun e w' => ∃ (u : Value) (G' : Pin), e = .returned u ∧ Own eInt 3 G' w' w.heap.size u xs ∧ Ext noS G w G' w' := by
 refine zV (n := 22) Tryz.func74 Tryz.ntmps74 rfl rfl ?_
 have d : Ext noS G w G w := Ext.refl hP
 refine zB (zC ?_)
 refine qM (.slice none 0 0) ?_
 refine qe (zA (zB (zC ?_)))
 refine qM v ?_
 refine qD rfl (zM Tryz.underlying56 (v := v) rfl hv) (qI rfl (o_make (E := eInt) 0 8 (vJ 0) Tryz.underlying56 mk3 (fun _ => rfl) rfl rfl d.pins (by omega) (by omega) (by omega) (fun a g h i l aa => ?_)))
 have m := d.step i l
 have o : Own eInt 3 G g w.heap.size a (List.replicate xs.length 0) := h.weaken d.size
 have ab : (List.replicate xs.length 0).length = xs.length := List.length_replicate ..
 refine qM a ?_
 refine qe (zA (zB (zB (zC ?_))))
 refine qM (vJ 0) ?_
 refine qe (zA ?_)
 refine zX (yT (fun (k : Nat) (en : Nat → Value) (W : World) => ∃ (f : Nat → Value) (j : Nat) (os : List Int), en = (upd (upd (upd (upd f 0 v) 2 (.slice none 0 0)) 3 a) 4 (vJ (j : Int))) ∧ k = xs.length - j ∧ Ext noS G w G W ∧ (j ≤ xs.length) ∧ (os = cpy xs j 0) ∧ (os.length = xs.length) ∧ (Own eInt 3 G W w.heap.size a (os))) _ ⟨_, 0, List.replicate xs.length 0, (pS 4 (pS 3 (pS 2 (pU 0)))), rfl, m, Nat.zero_le _, cpy_start, (by simp), o⟩ ?_)
 rintro ac _ ad ⟨f, j, os, rfl, ae, b, hj, hr, hol, c⟩
 refine zB (zB (zC ?_))
 refine qM (vJ (j : Int)) ?_
 refine qM v ?_
 refine qD rfl (zM Tryz.underlying56 (v := v) rfl hv) (qD rfl (yV rfl rfl) (qe (zA ?_)))
 refine yA (p := ((j : Int) : Int) < (xs.length : Int)) rfl rfl (fun q => ?_) (fun q => ?_)
 refine wp_skip (zA (zB ?_))
 refine zX (zC (qM a ?_))
 refine qM (vJ (j : Int)) ?_
 refine qM v ?_
 refine qM (vJ (j : Int)) ?_
 refine qD rfl (zF Tryz.underlying56 sz3 (v := v) rfl rfl hv (by omega) (by omega)) (qD rfl (zE (r := xs.getD j 0) rfl ag3 (z := (j : Int)) rfl hv b.pins (by omega) (by omega)) (qD rfl (zF Tryz.underlying56 sz3 (v := a) rfl rfl c.read (by omega) (by omega)) (q0 rfl rfl rfl (o_set (E := eInt) (v := a) (u := (vJ (xs.getD j 0))) (z := (j : Int)) (xs.getD j 0) sz3 rfl rfl rfl rfl b.pins c (by omega) (by omega) (fun af s t x ag => ?_)))))
 have y := b.write t x ((yN c))
 refine qe (yB (zA (zC ?_)))
 refine qM (vJ (j : Int)) ?_
 refine qD rfl (yJ rfl rfl (by omega)) (qM (vJ ((j : Int) + 1)) ?_)
 refine qe (zZ (⟨_, ?_, _, rfl, _, j + 1, os.set j (xs.getD j 0), (pS 4 (pS 3 (pS 2 (pU 0)))), rfl, y, (by omega), (by rw [hr]; exact cpy_next 0 (by omega)), ((List.length_set ..).trans hol), s⟩))
 omega
 refine wp_exit (zW (yO (yI (zA (zB (zC ?_))))))
 refine qM a ?_
 refine qM a ?_
 refine qe (zA ?_)
 exact wp_ret (zO (zP (v := a) rfl rfl rfl (⟨_, _, rfl, (by rw [cpy_end (by omega)] at hr; rw [← hr]; exact c), b⟩)))

theorem toNode_spec {w : World} {G : Pin} {u v : Value} {n : Nd} (hP : Pins G w) (hu : RSl eInt G u n.l) (hv : RSl eInt G v n.r) (hs : n.l.length ≤ 1048576 ∧ n.r.length ≤ 1048576) :
  Calls Tryz.prog 44 [(.agg [u, v].toArray)].toArray w fun e w' => ∃ (u v : Value) (G' : Pin), e = .returned (.agg [u, v].toArray) ∧ RSl eInt G' u n.l ∧ RSl eInt G' v n.r ∧ Ext noS G w G' w' := by
 refine zV (n := 13) Tryz.func44 Tryz.ntmps44 rfl rfl ?_
 have m : Ext noS G w G w := Ext.refl hP
 refine zB (zC ?_)
 refine qI rfl (xG [u, v] (v := (.agg [u, v].toArray)) rfl rfl m.pins (fun b1 w2 b2 av aw ax => ?_))
 have ay := m.step aw ax
 have az : w.heap.size ≤ b1 := by have := m.size; omega
 obtain ⟨G9, z, o, aa, b4⟩ := av.shut ay az
 refine qI rfl (yM [(.slice none 0 0), (.slice none 0 0)] zr65 rfl o.pins (fun ab b5 b6 ac a0 a1 => ?_))
 have p := o.step a0 a1
 have a2 : w.heap.size ≤ ab := by have := o.size; omega
 refine qe (zA (zB (zC ?_)))
 refine qI rfl (yM [(.slice none 0 0), (.slice none 0 0)] zr65 rfl p.pins (fun ad b7 a3 ae a4 af => ?_))
 have d := p.step a4 af
 have ag := ac.below af
 have ah : Apart (some ad) (some ab) := zJ (congrArg some a3) ac.lt
 have ai : w.heap.size ≤ ad := by have := p.size; omega
 refine qe (zA (zB (zC ?_)))
 refine qD rfl (zK (k := 0) rfl Tryz.underlying58 rfl nz56 rfl) (qD rfl (zL (u := u) ag56 rfl (d.pins _ _ _ (aa 0 _ rfl))) (qI rfl (zH (vs := [u]) Tryz.func74 nm74 rfl rfl rfl ?_)))
 refine Calls.mono (toIntS_spec d.pins (hu.mono z) (by omega)) ?_
 rintro _ a5 ⟨a, a6, rfl, q, c⟩
 refine ⟨_, rfl, ?_⟩
 have aj := d.tr c
 have a7 := ag.ext c
 have a8 := ae.ext c
 have a9 := yL q.lt ag.lt
 have ak := yL q.lt ae.lt
 have s : Own eInt 3 a6 a5 w.heap.size a n.l := q.weaken d.size
 refine qD rfl (zK (k := 0) rfl Tryz.underlying65 rfl nz56 rfl) (q0 rfl rfl rfl (yF (cs' := [a, (.slice none 0 0)]) (us := [a]) (v := a) sz56 rfl rfl (cells1 s.one) (xN s.one) aj.pins a8 (Nat.le_of_ble_eq_true rfl) rfl (fun b8 al ba t b9 => ?_)))
 have f := aj.write ba t ((zS ai))
 have am := s.keptA t ak
 have an := a7.keptA t ah.symm
 refine qe (zA (zB (zC ?_)))
 refine qD rfl (zK (k := 1) rfl Tryz.underlying58 rfl nz56 rfl) (qD rfl (zL (u := v) ag56 rfl ((Pins.of_le f.pins c.le) _ _ _ (aa 1 _ rfl))) (qI rfl (zH (vs := [v]) Tryz.func74 nm74 rfl rfl rfl ?_)))
 refine Calls.mono (toIntS_spec f.pins (hv.mono (Pin.le_trans z c.le)) (by omega)) ?_
 rintro _ bb ⟨b, bc, rfl, g, h⟩
 refine ⟨_, rfl, ?_⟩
 have ao := f.tr h
 have bd := am.ext h
 have be := an.ext h
 have bf := al.ext h
 have bg := zT g.lt am.lt
 have bh := yL g.lt an.lt
 have bi := yL g.lt al.lt
 have x : Own eInt 3 bc bb w.heap.size b n.r := g.weaken f.size
 refine qD rfl (zK (k := 1) rfl Tryz.underlying65 rfl nz56 rfl) (q0 rfl rfl rfl (yF (cs' := [a, b]) (us := [b]) (v := b) sz56 rfl rfl (cells1 x.one) (xN x.one) ao.pins bf (Nat.le_of_ble_eq_true rfl) rfl (fun ca bj bk i cb => ?_)))
 have ap := ao.write bk i ((zS ai))
 have aq := bd.keptA i ak
 have ar := x.keptA i bi
 have bl := be.keptA i ah.symm
 refine qe (zA (zB (zC ?_)))
 refine qD rfl (yH (cs := [a, b]) ag65 sz65 rfl (fun j u hj => bj.cell (by simpa using hj))) (q0 rfl rfl rfl (yF (cs' := [a, b]) (us := [a, b]) (v := (.agg [a, b].toArray)) sz65 rfl rfl rfl (yK aq.one ar.one) ap.pins bl (Nat.le_of_ble_eq_true rfl) rfl (fun cc bm bn y cd => ?_)))
 have bo := ap.write bn y ((zS a2))
 have bp := aq.keptA y a9
 have bq := ar.keptA y bh
 refine qe (zA ?_)
 refine wp_ret (zO (c_retc (cs := [a, b]) rfl rfl rfl ag65 sz65 (fun j u hj => by rw [Nat.zero_add]; exact bm.cell hj) ?_))
 obtain ⟨ce, br, bs, bt, bu⟩ := bp.sealed bo
 have bv := bq.moreO br bu bg
 obtain ⟨cf, bw, bx, bz, cg⟩ := bv.sealed bs
 exact ⟨_, _, _, rfl, (bt.mono bw), bz, bx⟩

theorem toNodeS_spec {w : World} {G : Pin} {v : Value} {ns : List Nd} (hP : Pins G w) (hv : RSl eNode G v ns) (hsm : Small ns) :
  Calls Tryz.prog 28 [v].toArray w fun e w' => ∃ (u : Value) (G' : Pin), e = .returned u ∧ RSl eNode G' u ns ∧ Ext noS G w G' w' := by
 refine zV (n := 23) Tryz.func28 Tryz.ntmps28 rfl rfl ?_
 have f : Ext noS G w G w := Ext.refl hP
 have hln := hsm.len
 refine zB (zC ?_)
 refine qM (.slice none 0 0) ?_
 refine qe (zA (zB (zC ?_)))
 refine qM v ?_
 refine qD rfl (zM Tryz.underlying22 (v := v) rfl hv) (qI rfl (o_make (E := eNode) (⟨[], []⟩ : Nd) 48 (.agg #[(.slice none 0 0), (.slice none 0 0)]) Tryz.underlying30 mk65 zero_node rfl rfl f.pins (by omega) (by omega) (by omega) (fun a t x y aa au => ?_)))
 have ab := f.step y aa
 have ac : Own eNode 65 G t w.heap.size a (List.replicate ns.length (⟨[], []⟩ : Nd)) := x.weaken f.size
 have av : (List.replicate ns.length (⟨[], []⟩ : Nd)).length = ns.length := List.length_replicate ..
 refine qM a ?_
 refine qe (zA (zB (zB (zC ?_))))
 refine qM (vJ 0) ?_
 refine qe (zA ?_)
 refine zX (yT (fun (k : Nat) (en : Nat → Value) (W : World) => ∃ (i : Nat → Value) (j : Nat) (os : List Nd) (b : Pin), en = (upd (upd (upd (upd i 0 v) 2 (.slice none 0 0)) 3 a) 4 (vJ (j : Int))) ∧ k = ns.length - j ∧ Ext noS G w b W ∧ Pin.le G b ∧ (j ≤ ns.length) ∧ (os = cpy ns j ⟨[], []⟩) ∧ (os.length = ns.length) ∧ (Own eNode 65 b W w.heap.size a (os))) _ ⟨_, 0, List.replicate ns.length (⟨[], []⟩ : Nd), G, (pS 4 (pS 3 (pS 2 (pU 0)))), rfl, ab, Pin.le_refl _, Nat.zero_le _, cpy_start, (by simp), ac⟩ ?_)
 rintro aw _ ax ⟨i, j, os, b, rfl, ay, c, d, hj, hr, hol, m⟩
 refine zB (zB (zC ?_))
 refine qM (vJ (j : Int)) ?_
 refine qM v ?_
 refine qD rfl (zM Tryz.underlying22 (v := v) rfl hv) (qD rfl (yV rfl rfl) (qe (zA ?_)))
 refine yA (p := ((j : Int) : Int) < (ns.length : Int)) rfl rfl (fun ad => ?_) (fun ad => ?_)
 have hso := hsm.opts j (by omega)
 refine wp_skip (zA (zB ?_))
 refine zX (zC (qM a ?_))
 refine qM (vJ (j : Int)) ?_
 refine qM v ?_
 refine qM (vJ (j : Int)) ?_
 refine qD rfl (zF Tryz.underlying22 sz58 (v := v) rfl rfl hv (by omega) (by omega)) ?_
 obtain ⟨ae, af, o, q, ag⟩ := jB (hv.at (z := (j : Int)) (by omega) (by omega)) (j := j) rfl
 have az := o.max
 have a0 := q.max
 refine qD rfl (ag ag58 sz58 rfl (Pins.of_le c.pins d)) (qI rfl (zH (vs := [(.agg [ae, af].toArray)]) Tryz.func44 nm44 rfl rfl rfl ?_))
 refine Calls.mono (toNode_spec (n := ⟨(ns.getD j default).l, (ns.getD j default).r⟩) c.pins (o.mono d) (q.mono d) (by omega)) ?_
 rintro _ a1 ⟨ah, ai, aj, rfl, ak, al, g⟩
 refine ⟨_, rfl, ?_⟩
 have s := c.tr g
 have h := m.ext g
 refine qD rfl (zF Tryz.underlying30 sz65 (v := a) rfl rfl h.read (by omega) (by omega)) (q0 rfl rfl rfl (o_set (E := eNode) (v := a) (u := (.agg [ah, ai].toArray)) (z := (j : Int)) ((⟨(ns.getD j default).l, (ns.getD j default).r⟩ : Nd)) sz65 rfl rfl rfl ⟨_, _, rfl, ak, al⟩ s.pins h (by omega) (by omega) (fun a2 am an ao a3 => ?_)))
 have ap := s.write an ao ((yN h))
 refine qe (yB (zA (zC ?_)))
 refine qM (vJ (j : Int)) ?_
 refine qD rfl (yJ rfl rfl (by omega)) (qM (vJ ((j : Int) + 1)) ?_)
 refine qe (zZ (⟨_, ?_, _, rfl, _, j + 1, os.set j (ns.getD j default), aj, (pS 4 (pS 3 (pS 2 (pU 0)))), rfl, ap, (Pin.le_trans d g.le), (by omega), (by rw [hr]; exact cpy_next default (by omega)), ((List.length_set ..).trans hol), am⟩))
 omega
 refine wp_exit (zW (yO (yI (zA (zB (zC ?_))))))
 refine qM a ?_
 refine qM a ?_
 refine qe (zA ?_)
 refine wp_ret (zO (zP (v := a) rfl rfl rfl ?_))
 obtain ⟨a4, a5, aq, ar, a6⟩ := m.sealed c
 exact ⟨_, _, rfl, (by rw [cpy_end (by omega)] at hr; rw [← hr]; exact ar), aq⟩

theorem toForm_spec {w : World} {G : Pin} {v : Value} {ns : List Nd} (hP : Pins G w) (hv : RSl eNode G v ns) (hsm : Small ns) :
  Calls Tryz.prog 11 [(.agg [v].toArray)].toArray w fun e w' => ∃ (u : Value) (G' : Pin), e = .returned (.agg [u].toArray) ∧ RSl eNode G' u ns ∧ Ext noS G w G' w' := by
 refine zV (n := 9) Tryz.func11 Tryz.ntmps11 rfl rfl ?_
 have c : Ext noS G w G w := Ext.refl hP
 refine zB (zC ?_)
 refine qI rfl (xG [v] (v := (.agg [v].toArray)) rfl rfl c.pins (fun s w2 ay t x y => ?_))
 have z := c.step x y
 have aa : w.heap.size ≤ s := by have := c.size; omega
 obtain ⟨G9, ab, d, ac, a0⟩ := t.shut z aa
 refine qI rfl (yM [(.slice none 0 0)] zr32 rfl d.pins (fun i a1 a2 l ad ae => ?_))
 have f := d.step ad ae
 have af : w.heap.size ≤ i := by have := d.size; omega
 refine qe (zA (zB (zC ?_)))
 refine qI rfl (yM [(.slice none 0 0)] zr32 rfl f.pins (fun m a3 ag ah ai o => ?_))
 have g := f.step ai o
 have aj := l.below o
 have ak : Apart (some m) (some i) := zJ (congrArg some ag) l.lt
 have al : w.heap.size ≤ m := by have := f.size; omega
 refine qe (zA (zB (zC ?_)))
 refine qD rfl (zK (k := 0) rfl Tryz.underlying24 rfl nz22 rfl) (qD rfl (zL (u := v) ag22 rfl (g.pins _ _ _ (ac 0 _ rfl))) (qI rfl (zH (vs := [v]) Tryz.func28 nm28 rfl rfl rfl ?_)))
 refine Calls.mono (toNodeS_spec g.pins (hv.mono ab) hsm) ?_
 rintro _ a4 ⟨a, a5, rfl, b, h⟩
 refine ⟨_, rfl, ?_⟩
 have p := g.tr h
 have am := aj.ext h
 have an := ah.ext h
 refine qD rfl (zK (k := 0) rfl Tryz.underlying32 rfl nz30 rfl) (q0 rfl rfl rfl (yF (cs' := [a]) (us := [a]) (v := a) sz30 rfl rfl (cells1 b.one) (xN b.one) p.pins an (Nat.le_of_ble_eq_true rfl) rfl (fun a6 ao ap q a7 => ?_)))
 have r := p.write ap q ((zS al))
 have aq := am.keptA q ak.symm
 refine qe (zA (zB (zC ?_)))
 refine qD rfl (yH (cs := [a]) ag32 sz32 rfl (fun j u hj => ao.cell (by simpa using hj))) (q0 rfl rfl rfl (yF (cs' := [a]) (us := [a]) (v := (.agg [a].toArray)) sz32 rfl rfl rfl (xN b.one) r.pins aq (Nat.le_of_ble_eq_true rfl) rfl (fun a8 ar au av a9 => ?_)))
 have aw := r.write au av ((zS af))
 refine qe (zA ?_)
 exact wp_ret (zO (c_retc (cs := [a]) rfl rfl rfl ag32 sz32 (fun j u hj => by rw [Nat.zero_add]; exact ar.cell hj) (⟨_, _, rfl, b, aw⟩)))

theorem eqIntS_spec {w : World} {G : Pin} {u v : Value} {xs ys : List Int} (hP : Pins G w) (hu : RSl eInt G u xs) (hv : RSl eInt G v ys) :
  Calls Tryz.prog 77 [u, v].toArray w fun e w' => e = .returned (.bool (decide (xs = ys))) ∧ Ext noS G w G w' := by
 refine zV (n := 26) Tryz.func77 Tryz.ntmps77 rfl rfl ?_
 have f : Ext noS G w G w := Ext.refl hP
 have hm := hu.max
 refine zB (zC ?_)
 refine qM (.bool false) ?_
 refine qe (zA (zB (zB (zC ?_))))
 refine qM u ?_
 refine qD rfl (zM Tryz.underlying56 (v := u) rfl hu) (qM v ?_)
 refine qD rfl (zM Tryz.underlying56 (v := v) rfl hv) (qD rfl (jG rfl rfl) (qe (zA ?_)))
 refine yA (p := ((xs.length : Int) : Int) ≠ (ys.length : Int)) rfl rfl (fun g => ?_) (fun g => ?_)
 refine zB (zC ?_)
 refine qM (.bool false) ?_
 refine qe (zA ?_)
 exact wp_ret (zO (zP (v := (.bool false)) rfl rfl rfl (⟨congrArg (fun z => Ending.returned (Value.bool z)) ((decide_eq_false (fun e => g (by rw [e]))).symm), f⟩)))
 refine wp_skip (zA (zB (zB (zC ?_))))
 refine qM (vJ 0) ?_
 refine qe (zA ?_)
 refine zX (yT (fun (k : Nat) (en : Nat → Value) (W : World) => ∃ (h : Nat → Value) (j : Nat), en = (upd (upd (upd h 0 u) 1 v) 5 (vJ (j : Int))) ∧ k = xs.length - j ∧ Ext noS G w G W ∧ (j ≤ xs.length) ∧ (xs.length = ys.length) ∧ (∀ i, i < j → xs.getD i 0 = ys.getD i 0)) _ ⟨_, 0, (pS 5 (pS 1 (pU 0))), rfl, f, Nat.zero_le _, (by omega), (fun i hi => absurd hi (Nat.not_lt_zero i))⟩ ?_)
 rintro q _ b ⟨h, j, rfl, s, c, hj, heq, hp⟩
 refine zB (zB (zC ?_))
 refine qM (vJ (j : Int)) ?_
 refine qM u ?_
 refine qD rfl (zM Tryz.underlying56 (v := u) rfl hu) (qD rfl (yV rfl rfl) (qe (zA ?_)))
 refine yA (p := ((j : Int) : Int) < (xs.length : Int)) rfl rfl (fun m => ?_) (fun m => ?_)
 refine wp_skip (zA (zB ?_))
 refine zX (zB (yZ (S := fun wz => Pins G wz) (last := 9) (by kernel_rfl) rfl ?_))
 have l : Below b.heap.size b b.drew := (Below.refl _ _).drew
 have o := c.pins.below l
 have a := c.step o l
 refine dM 0 u a.pins ?_
 refine dM 1 (vJ (j : Int)) a.pins ?_
 refine dT (i := 2) rfl rfl (by kernel_rfl) (fun _ _ => zF Tryz.underlying56 sz3 (v := u) rfl rfl hu (by omega) (by omega)) a.pins ?_
 refine dT (i := 3) rfl rfl (by kernel_rfl) (fun _ hS => zE (r := xs.getD j 0) rfl ag3 (z := (j : Int)) rfl hu hS (by omega) (by omega)) a.pins ?_
 refine dM 4 v a.pins ?_
 refine dM 5 (vJ (j : Int)) a.pins ?_
 refine dT (i := 6) rfl rfl (by kernel_rfl) (fun _ _ => zF Tryz.underlying56 sz3 (v := v) rfl rfl hv (by omega) (by omega)) a.pins ?_
 refine dT (i := 7) rfl rfl (by kernel_rfl) (fun _ hS => zE (r := ys.getD j 0) rfl ag3 (z := (j : Int)) rfl hv hS (by omega) (by omega)) a.pins ?_
 refine dT (i := 8) rfl rfl (by kernel_rfl) (fun _ _ => jG rfl rfl) a.pins ?_
 refine yQ (by kernel_rfl) (zA (yA (p := (xs.getD j 0 : Int) ≠ (ys.getD j 0)) rfl rfl (fun d => ?_) (fun d => ?_)))
 refine zB (zC ?_)
 refine qM (.bool false) ?_
 refine qe (zA ?_)
 exact wp_ret (zO (zP (v := (.bool false)) rfl rfl rfl (⟨congrArg (fun z => Ending.returned (Value.bool z)) ((decide_eq_false (fun e => d (by rw [e]))).symm), a⟩)))
 refine wp_skip (yB (zA (zC ?_)))
 refine qM (vJ (j : Int)) ?_
 refine qD rfl (yJ rfl rfl (by omega)) (qM (vJ ((j : Int) + 1)) ?_)
 refine qe (zZ (⟨_, ?_, _, rfl, _, j + 1, (pS 5 (pS 1 (pU 0))), rfl, a, (by omega), heq, (eqstep hp d)⟩))
 omega
 refine wp_exit (zW (yO (yI (zA (zB (zC ?_))))))
 refine qM (.bool true) ?_
 refine qe (zA ?_)
 exact wp_ret (zO (zP (v := (.bool true)) rfl rfl rfl (⟨congrArg (fun z => Ending.returned (Value.bool z)) ((decide_eq_true (eqdone heq (by omega) hp)).symm), c⟩)))

theorem eqNode_spec {w : World} {G : Pin} {al ar bl br : Value} {a b : Nd} (hP : Pins G w) (hal : RSl eInt G al a.l) (har : RSl eInt G ar a.r) (hbl : RSl eInt G bl b.l) (hbr : RSl eInt G br b.r) :
  Calls Tryz.prog 46 [(.agg [al, ar].toArray), (.agg [bl, br].toArray)].toArray w fun e w' => ∃ G', e = .returned (.bool (decide (a = b))) ∧ Ext noS G w G' w' := by
 refine zV (n := 17) Tryz.func46 Tryz.ntmps46 rfl rfl ?_
 have j : Ext noS G w G w := Ext.refl hP
 refine zB (zC ?_)
 refine qI rfl (xG [al, ar] (v := (.agg [al, ar].toArray)) rfl rfl j.pins (fun x w2 am y aa ab => ?_))
 have ac := j.step aa ab
 have ad : w.heap.size ≤ x := by have := j.size; omega
 obtain ⟨G9, h, m, o, ao⟩ := y.shut ac ad
 refine qI rfl (xG [bl, br] (v := (.agg [bl, br].toArray)) rfl rfl m.pins (fun ae ap aq af ag ah => ?_))
 have ai := m.step ag ah
 have aj : w.heap.size ≤ ae := by have := m.size; omega
 obtain ⟨au, f, i, p, av⟩ := af.shut ai aj
 refine qM (.bool false) ?_
 refine qe (zA (zB (zB (zC ?_))))
 refine qD rfl (zK (k := 0) rfl Tryz.underlying65 rfl nz56 rfl) (qD rfl (zL (u := al) ag56 rfl ((Pins.of_le i.pins f) _ _ _ (o 0 _ rfl))) (qD rfl (zK (k := 0) rfl Tryz.underlying65 rfl nz56 rfl) (qD rfl (zL (u := bl) ag56 rfl (i.pins _ _ _ (p 0 _ rfl))) (qI rfl (zH (vs := [al, bl]) Tryz.func77 nm77 rfl rfl rfl ?_)))))
 refine Calls.mono (eqIntS_spec i.pins (hal.mono (Pin.le_trans h f)) (hbl.mono (Pin.le_trans h f))) ?_
 rintro _ aw ⟨rfl, q⟩
 refine ⟨_, rfl, ?_⟩
 have g := i.step q.pins q.below
 refine qD rfl (xE rfl) (qe (zA ?_))
 refine xX rfl rfl (fun c => ?_) (fun c => ?_)
 replace c := of_decide_eq_true c
 refine wp_skip (zA (zB (zB (zC ?_))))
 refine qD rfl (zK (k := 1) rfl Tryz.underlying65 rfl nz56 rfl) (qD rfl (zL (u := ar) ag56 rfl ((Pins.of_le g.pins f) _ _ _ (o 1 _ rfl))) (qD rfl (zK (k := 1) rfl Tryz.underlying65 rfl nz56 rfl) (qD rfl (zL (u := br) ag56 rfl (g.pins _ _ _ (p 1 _ rfl))) (qI rfl (zH (vs := [ar, br]) Tryz.func77 nm77 rfl rfl rfl ?_)))))
 refine Calls.mono (eqIntS_spec g.pins (har.mono (Pin.le_trans h f)) (hbr.mono (Pin.le_trans h f))) ?_
 rintro _ ax ⟨rfl, s⟩
 refine ⟨_, rfl, ?_⟩
 have t := g.step s.pins s.below
 refine qD rfl (xE rfl) (qe (zA ?_))
 refine xX rfl rfl (fun d => ?_) (fun d => ?_)
 replace d := of_decide_eq_true d
 refine wp_skip (zA (zB (zC ?_)))
 refine qM (.bool true) ?_
 refine qe (zA ?_)
 exact wp_ret (zO (zP (v := (.bool true)) rfl rfl rfl (⟨_, congrArg (fun z => Ending.returned (Value.bool z)) (decide_eq_true (nd_ext c d)).symm, t⟩)))
 replace d := of_decide_eq_false d
 refine zB (zC ?_)
 refine qM (.bool false) ?_
 refine qe (zA ?_)
 exact wp_ret (zO (zP (v := (.bool false)) rfl rfl rfl (⟨_, congrArg (fun z => Ending.returned (Value.bool z)) (decide_eq_false (fun e => d (by rw [e]))).symm, t⟩)))
 replace c := of_decide_eq_false c
 refine zB (zC ?_)
 refine qM (.bool false) ?_
 refine qe (zA ?_)
 exact wp_ret (zO (zP (v := (.bool false)) rfl rfl rfl (⟨_, congrArg (fun z => Ending.returned (Value.bool z)) (decide_eq_false (fun e => c (by rw [e]))).symm, g⟩)))

theorem eqNodeS_spec {w : World} {G : Pin} {u v : Value} {xs ys : List Nd} (hP : Pins G w) (hu : RSl eNode G u xs) (hv : RSl eNode G v ys) :
  Calls Tryz.prog 30 [u, v].toArray w fun e w' => ∃ G', e = .returned (.bool (decide (xs = ys))) ∧ Ext noS G w G' w' := by
 refine zV (n := 27) Tryz.func30 Tryz.ntmps30 rfl rfl ?_
 have s : Ext noS G w G w := Ext.refl hP
 have hm := hu.max
 refine zB (zC ?_)
 refine qM (.bool false) ?_
 refine qe (zA (zB (zB (zC ?_))))
 refine qM u ?_
 refine qD rfl (zM Tryz.underlying30 (v := u) rfl hu) (qM v ?_)
 refine qD rfl (zM Tryz.underlying30 (v := v) rfl hv) (qD rfl (jG rfl rfl) (qe (zA ?_)))
 refine yA (p := ((xs.length : Int) : Int) ≠ (ys.length : Int)) rfl rfl (fun t => ?_) (fun t => ?_)
 refine zB (zC ?_)
 refine qM (.bool false) ?_
 refine qe (zA ?_)
 exact wp_ret (zO (zP (v := (.bool false)) rfl rfl rfl (⟨_, congrArg (fun z => Ending.returned (Value.bool z)) (decide_eq_false (fun e => t (by rw [e]))).symm, s⟩)))
 refine wp_skip (zA (zB (zB (zC ?_))))
 refine qM (vJ 0) ?_
 refine qe (zA ?_)
 refine zX (yT (fun (k : Nat) (en : Nat → Value) (W : World) => ∃ (x : Nat → Value) (j : Nat) (g : Pin), en = (upd (upd (upd x 0 u) 1 v) 5 (vJ (j : Int))) ∧ k = xs.length - j ∧ Ext noS G w g W ∧ Pin.le G g ∧ (j ≤ xs.length) ∧ (xs.length = ys.length) ∧ (∀ i, i < j → xs.getD i default = ys.getD i default)) _ ⟨_, 0, G, (pS 5 (pS 1 (pU 0))), rfl, s, Pin.le_refl _, Nat.zero_le _, (by omega), (fun i hi => absurd hi (Nat.not_lt_zero i))⟩ ?_)
 rintro k2 _ o ⟨x, j, g, rfl, ao, q, f, hj, heq, hp⟩
 refine zB (zB (zC ?_))
 refine qM (vJ (j : Int)) ?_
 refine qM u ?_
 refine qD rfl (zM Tryz.underlying30 (v := u) rfl hu) (qD rfl (yV rfl rfl) (qe (zA ?_)))
 refine yA (p := ((j : Int) : Int) < (xs.length : Int)) rfl rfl (fun h6 => ?_) (fun h6 => ?_)
 refine wp_skip (zA (zB ?_))
 refine zX (zB (yZ (S := fun wz => Pins g wz) (last := 10) (by kernel_rfl) rfl ?_))
 have y : Below o.heap.size o o.drew := (Below.refl _ _).drew
 have af := q.pins.below y
 have c := q.step af y
 refine dM 0 u c.pins ?_
 refine dM 1 (vJ (j : Int)) c.pins ?_
 refine dT (i := 2) rfl rfl (by kernel_rfl) (fun _ _ => zF Tryz.underlying30 sz65 (v := u) rfl rfl hu (by omega) (by omega)) c.pins ?_
 obtain ⟨ag, ah, aa, ab, ai⟩ := jB (hu.at (z := (j : Int)) (by omega) (by omega)) (j := j) rfl
 have ap := aa.max
 have aq := ab.max
 refine dT (i := 3) rfl rfl (by kernel_rfl) (fun _ hS => ai ag65 sz65 rfl (Pins.of_le hS f)) c.pins ?_
 refine dM 4 v c.pins ?_
 refine dM 5 (vJ (j : Int)) c.pins ?_
 refine dT (i := 6) rfl rfl (by kernel_rfl) (fun _ _ => zF Tryz.underlying30 sz65 (v := v) rfl rfl hv (by omega) (by omega)) c.pins ?_
 obtain ⟨aj, ak, ac, ad, al⟩ := jB (hv.at (z := (j : Int)) (by omega) (by omega)) (j := j) rfl
 have ar := ac.max
 have au := ad.max
 refine dT (i := 7) rfl rfl (by kernel_rfl) (fun _ hS => al ag65 sz65 rfl (Pins.of_le hS f)) c.pins ?_
 refine dO (i := 8) (zU (i := 8) rfl rfl rfl (zD rfl _) (zH (vs := [(.agg [ag, ah].toArray), (.agg [aj, ak].toArray)]) Tryz.func46 nm46 rfl rfl rfl ?_))
 refine Calls.mono (eqNode_spec (a := ⟨(xs.getD j default).l, (xs.getD j default).r⟩) (b := ⟨(ys.getD j default).l, (ys.getD j default).r⟩) c.pins (aa.mono f) (ab.mono f) (ac.mono f) (ad.mono f)) ?_
 rintro _ av ⟨am, rfl, h⟩
 refine ⟨_, rfl, ?_⟩
 have m := c.tr h
 refine ⟨fun _ => (Pins.of_le m.pins h.le), ?_⟩
 refine dT (i := 9) rfl rfl (by kernel_rfl) (fun _ _ => xE rfl) (Pins.of_le m.pins h.le) ?_
 refine yQ (by kernel_rfl) (zA (xX rfl rfl (fun d => ?_) (fun d => ?_)))
 replace d := of_decide_eq_true d
 refine wp_skip (yB (zA (zC ?_)))
 refine qM (vJ (j : Int)) ?_
 refine qD rfl (yJ rfl rfl (by omega)) (qM (vJ ((j : Int) + 1)) ?_)
 refine qe (zZ (⟨_, ?_, _, rfl, _, j + 1, am, (pS 5 (pS 1 (pU 0))), rfl, m, (Pin.le_trans f h.le), (by omega), heq, (eqstepN hp (congrArg Nd.l d) (congrArg Nd.r d))⟩))
 omega
 replace d := of_decide_eq_false d
 refine zB (zC ?_)
 refine qM (.bool false) ?_
 refine qe (zA ?_)
 exact wp_ret (zO (zP (v := (.bool false)) rfl rfl rfl (⟨_, congrArg (fun z => Ending.returned (Value.bool z)) (decide_eq_false (fun e => d (by rw [e]))).symm, m⟩)))
 refine wp_exit (zW (yO (yI (zA (zB (zC ?_))))))
 refine qM (.bool true) ?_
 refine qe (zA ?_)
 exact wp_ret (zO (zP (v := (.bool true)) rfl rfl rfl (⟨_, congrArg (fun z => Ending.returned (Value.bool z)) (decide_eq_true (eqdoneN heq (by omega) hp)).symm, q⟩)))

theorem eqForm_spec {w : World} {G : Pin} {u v : Value} {xs ys : List Nd} (hP : Pins G w) (hu : RSl eNode G u xs) (hv : RSl eNode G v ys) :
  Calls Tryz.prog 14 [(.agg [u].toArray), (.agg [v].toArray)].toArray w fun e w' => ∃ G', e = .returned (.bool (decide (xs = ys))) ∧ Ext noS G w G' w' := by
 refine zV (n := 11) Tryz.func14 Tryz.ntmps14 rfl rfl ?_
 have c : Ext noS G w G w := Ext.refl hP
 refine zB (zC ?_)
 refine qI rfl (xG [u] (v := (.agg [u].toArray)) rfl rfl c.pins (fun i w2 ae j l m => ?_))
 have o := c.step l m
 have p : w.heap.size ≤ i := by have := c.size; omega
 obtain ⟨G9, g, d, q, ag⟩ := j.shut o p
 refine qI rfl (xG [v] (v := (.agg [v].toArray)) rfl rfl d.pins (fun r ah ai s t x => ?_))
 have y := d.step t x
 have aa : w.heap.size ≤ r := by have := d.size; omega
 obtain ⟨aj, f, b, ab, ak⟩ := s.shut y aa
 refine qM (.bool false) ?_
 refine qe (zA (zB (zB (zC ?_))))
 refine qD rfl (zK (k := 0) rfl Tryz.underlying32 rfl nz30 rfl) (qD rfl (zL (u := u) ag30 rfl ((Pins.of_le b.pins f) _ _ _ (q 0 _ rfl))) (qD rfl (zK (k := 0) rfl Tryz.underlying32 rfl nz30 rfl) (qD rfl (zL (u := v) ag30 rfl (b.pins _ _ _ (ab 0 _ rfl))) (qI rfl (zH (vs := [u, v]) Tryz.func30 nm30 rfl rfl rfl ?_)))))
 refine Calls.mono (eqNodeS_spec b.pins (hu.mono (Pin.le_trans g f)) (hv.mono (Pin.le_trans g f))) ?_
 rintro _ al ⟨am, rfl, ac⟩
 refine ⟨_, rfl, ?_⟩
 have h := b.tr ac
 refine qD rfl (xE rfl) (qe (zA ?_))
 refine xX rfl rfl (fun a => ?_) (fun a => ?_)
 replace a := of_decide_eq_true a
 refine wp_skip (zA (zB (zC ?_)))
 refine qM (.bool true) ?_
 refine qe (zA ?_)
 exact wp_ret (zO (zP (v := (.bool true)) rfl rfl rfl (⟨_, congrArg (fun z => Ending.returned (Value.bool z)) (decide_eq_true a).symm, h⟩)))
 replace a := of_decide_eq_false a
 refine zB (zC ?_)
 refine qM (.bool false) ?_
 refine qe (zA ?_)
 exact wp_ret (zO (zP (v := (.bool false)) rfl rfl rfl (⟨_, congrArg (fun z => Ending.returned (Value.bool z)) (decide_eq_false a).symm, h⟩)))

end L1
end Go.Proofs.YtakkjmlnmcemaaaGreatDoor

namespace Go.GL
open Go Go.RowKit Go.GL
theorem xS {P : Program} {n : Nat} {env : Nat → Value} {w : World} {fn : Func} {R : Ending → World → Prop} {s t b s2 b2 s3 : Nat} {cs ds : List Value} {v : Value} (hr : fn.results = #[.cell s t, .cell s2 t, .tmp s3]) (hs : Nat.blt s n = true) (hs2 : Nat.blt s2 n = true) (hs3 : Nat.blt s3 n = true) (hv : env s = .pointer (some ⟨b, 0, none⟩)) (hv2 : env s2 = .pointer (some ⟨b2, 0, none⟩)) (hv3 : env s3 = v) (ha : (P.underlying t).map aggD = some true) (hz : (P.info? t).map (·.size) = some cs.length) (hz2 : ds.length = cs.length)
  (hc : ∀ j u, cs[j]? = some u → w.cell? ⟨b, 0 + j, none⟩ = some u) (hd : ∀ j u, ds[j]? = some u → w.cell? ⟨b2, 0 + j, none⟩ = some u) (h : R (.returned (.tuple #[.agg cs.toArray, .agg ds.toArray, v])) w) : bodyPost P fn R .ret (F n env) w := by
 have h2 : s < n := by simpa [Nat.blt_eq] using hs
 have h3 : s2 < n := by simpa [Nat.blt_eq] using hs2
 have h4 : s3 < n := by simpa [Nat.blt_eq] using hs3
 have key : ∀ (b : Nat) (cs : List Value), (P.info? t).map (·.size) = some cs.length → (∀ j u, cs[j]? = some u → w.cell? ⟨b, 0 + j, none⟩ = some u) → (loadVar t ⟨b, 0, none⟩).run P w = .ok (.agg cs.toArray) w := fun b cs hz hc => by
  have hcell : ∀ j u, cs[j]? = some u → w.cell? ((⟨b, 0, none⟩ : Addr).add j) = some u := fun j u hj => by
   have := hc j u hj
   simp only [Addr.add]
   split
   ·simp_all
   ·exact this
  unfold loadVar
  simp only [Sem.run_bind, jE ha, Result.andThen_ok, if_true, qH hz, run_loadCells_list (P := P) w ⟨b, 0, none⟩ cs hcell, Sem.run_pure]
 have hl1 := key b cs hz hc
 have hl2 := key b2 ds (by rw [hz2]; exact hz) hd
 refine bodyPost_ret (v := .tuple #[.agg cs.toArray, .agg ds.toArray, v]) ?_ rfl h
 have he : (F n env).tmps[s]?.getD undef = .pointer (some ⟨b, 0, none⟩) := by simp [F, h2, hv]
 have he2 : (F n env).tmps[s2]?.getD undef = .pointer (some ⟨b2, 0, none⟩) := by simp [F, h3, hv2]
 have he3 : (F n env).tmps[s3]?.getD undef = v := by simp [F, h4, hv3]
 simp [results, hr, he, he2, he3, asAddr, hl1, hl2]
section
variable {n fuel : Nat} {env : Nat → Value} {listed : Array Bool} {w : World} {o : Oper}
end
end Go.GL

namespace Go.Proofs
open Go.Shelf
def Tryz.lays189_ren : Go.Shelf.Ren := ⟨fun | 189 => 116 | 125 => 120 | 257 => 119 | 128 => 131 | 129 => 132 | 294 => 122 | 295 => 123 | 296 => 124 | 297 => 125 | 298 => 126 | 299 => 127 | 216 => 128 | 300 => 129 | 301 => 130 | 328 => 137 | 329 => 138 | 330 => 139 | 331 => 140 | 332 => 141 | 215 => 89 | 343 => 146 | n => n, fun | 28 => 56 | 3 => 3 | 46 => 109 | 0 => 0 | 51 => 147 | 53 => 138 | 4 => 4 | 183 => 142 | 182 => 141 | 131 => 99 | 5 => 5 | 9 => 9 | 218 => 154 | 222 => 158 | 228 => 163 | 229 => 164 | n => n, fun | n => n⟩
theorem Tryz.lays189 : Go.Proofs.Lays.n189 Tryz.prog Tryz.lays189_ren := {
 mixed := by kernel_rfl
 f125 := Tryz.func120.trans (congrArg some (by kernel_rfl))
 f128 := Tryz.func131.trans (congrArg some (by kernel_rfl))
 f129 := Tryz.func132.trans (congrArg some (by kernel_rfl))
 f189 := Tryz.func116.trans (congrArg some (by kernel_rfl))
 f215 := Tryz.func89.trans (congrArg some (by kernel_rfl))
 f216 := Tryz.func128.trans (congrArg some (by kernel_rfl))
 f257 := Tryz.func119.trans (congrArg some (by kernel_rfl))
 f294 := Tryz.func122.trans (congrArg some (by kernel_rfl))
 f295 := Tryz.func123.trans (congrArg some (by kernel_rfl))
 f296 := Tryz.func124.trans (congrArg some (by kernel_rfl))
 f297 := Tryz.func125.trans (congrArg some (by kernel_rfl))
 f298 := Tryz.func126.trans (congrArg some (by kernel_rfl))
 f299 := Tryz.func127.trans (congrArg some (by kernel_rfl))
 f300 := Tryz.func129.trans (congrArg some (by kernel_rfl))
 f301 := Tryz.func130.trans (congrArg some (by kernel_rfl))
 f328 := Tryz.func137.trans (congrArg some (by kernel_rfl))
 f329 := Tryz.func138.trans (congrArg some (by kernel_rfl))
 f330 := Tryz.func139.trans (congrArg some (by kernel_rfl))
 f331 := Tryz.func140.trans (congrArg some (by kernel_rfl))
 f332 := Tryz.func141.trans (congrArg some (by kernel_rfl))
 f343 := Tryz.func146.trans (congrArg some (by kernel_rfl))
 t0 := Tryz.underlying0
 a0 := Tryz.isAgg0
 z0 := Tryz.sizeOf0
 v0 := Tryz.zeroValue0
 t3 := Tryz.underlying3
 a3 := Tryz.isAgg3
 z3 := Tryz.sizeOf3
 v3 := Tryz.zeroValue3
 t4 := Tryz.underlying4
 a4 := Tryz.isAgg4
 z4 := Tryz.sizeOf4
 v4 := Tryz.zeroValue4
 t5 := Tryz.underlying5
 a5 := Tryz.isAgg5
 z5 := Tryz.sizeOf5
 v5 := Tryz.zeroValue5
 t9 := Tryz.underlying9
 a9 := Tryz.isAgg9
 z9 := Tryz.sizeOf9
 v9 := Tryz.zeroValue9
 t28 := Tryz.underlying56
 a28 := Tryz.isAgg56
 z28 := Tryz.sizeOf56
 v28 := Tryz.zeroValue56
 t46 := Tryz.underlying109
 a46 := Tryz.isAgg109
 z46 := Tryz.sizeOf109
 v46 := Tryz.zeroValue109
 t51 := Tryz.underlying147
 a51 := Tryz.isAgg147
 z51 := Tryz.sizeOf147
 v51 := Tryz.zeroValue147
 t53 := Tryz.underlying138
 a53 := Tryz.isAgg138
 z53 := Tryz.sizeOf138
 v53 := Tryz.zeroValue138
 t131 := Tryz.underlying99
 a131 := Tryz.isAgg99
 z131 := Tryz.sizeOf99
 v131 := Tryz.zeroValue99
 t182 := Tryz.underlying141
 a182 := Tryz.isAgg141
 z182 := Tryz.sizeOf141
 v182 := Tryz.zeroValue141
 t183 := Tryz.underlying142
 a183 := Tryz.isAgg142
 z183 := Tryz.sizeOf142
 v183 := Tryz.zeroValue142
 t218 := Tryz.underlying154
 a218 := Tryz.isAgg154
 z218 := Tryz.sizeOf154
 v218 := Tryz.zeroValue154
 t222 := Tryz.underlying158
 a222 := Tryz.isAgg158
 z222 := Tryz.sizeOf158
 v222 := Tryz.zeroValue158
 t228 := Tryz.underlying163
 a228 := Tryz.isAgg163
 z228 := Tryz.sizeOf163
 v228 := Tryz.zeroValue163
 t229 := Tryz.underlying164
 a229 := Tryz.isAgg164
 z229 := Tryz.sizeOf164
 v229 := Tryz.zeroValue164 }
open Go.Sort Go.RowKit in
theorem Tryz.slices_Sort_int (blk off cap : Nat) (zs : List Int) (w : World) (hH : Holds (Value.int .i64) w blk off zs.toArray) (hblk : blk < w.heap.size) (hsz : zs.length < 4611686018427387904) :
  Calls Tryz.prog 116 #[.slice (some ⟨blk, off, none⟩) zs.length cap] w fun e w' =>
   e = .returned (.tuple #[]) ∧ ∃ n os, w' = grow (putRow (Value.int .i64) (Sort.ahead w n) blk off (zs.mergeSort fun x y => decide (x ≤ y)).toArray) os := Any.slices_Sort_int Tryz.lays189 blk off cap zs w hH hblk hsz
def Tryz.laysNm220_ren : Go.Shelf.Ren := ⟨fun | 20 => 117 | n => n, fun | 22 => 56 | 3 => 3 | 4 => 4 | 0 => 0 | n => n, fun | n => n⟩
theorem Tryz.laysNm220 : Go.Proofs.Lays2.n20 Tryz.prog Tryz.laysNm220_ren := {
 mixed := by kernel_rfl
 f20 := Tryz.func117.trans (congrArg some (by kernel_rfl))
 t0 := Tryz.underlying0
 a0 := Tryz.isAgg0
 z0 := Tryz.sizeOf0
 v0 := Tryz.zeroValue0
 t3 := Tryz.underlying3
 a3 := Tryz.isAgg3
 z3 := Tryz.sizeOf3
 v3 := Tryz.zeroValue3
 t4 := Tryz.underlying4
 a4 := Tryz.isAgg4
 z4 := Tryz.sizeOf4
 v4 := Tryz.zeroValue4
 t22 := Tryz.underlying56
 a22 := Tryz.isAgg56
 z22 := Tryz.sizeOf56
 v22 := Tryz.zeroValue56
 i3 := by kernel_rfl }
open Go.RowKit Go.Lib Go.Sort in
theorem Tryz.slices_Compact_int (blk off cap : Nat) (zs : List Int) (w : World) (hH : Holds (Value.int .i64) w blk off zs.toArray) (hsz : zs.length ≤ 9223372036854775807) (hcap : zs.length ≤ cap) :
  Calls Tryz.prog 117 #[.slice (some ⟨blk, off, none⟩) zs.length cap] w fun e w' => e = .returned (.slice (some ⟨blk, off, none⟩) (Lib.compact zs).length cap) ∧ ∃ q, w' = putRow (Value.int .i64) (Sort.ahead w q) blk off (Lib.compact zs ++ List.replicate (zs.length - (Lib.compact zs).length) 0).toArray := Any.slices_Compact_int Tryz.laysNm220 blk off cap zs w hH hsz hcap
open Go.RowKit Go.Lib Go.Sort in
theorem Tryz.slices_Compact_int_empty (a : Option Addr) (cap : Nat) (w : World) :
  Calls Tryz.prog 117 #[.slice a 0 cap] w fun e w' => e = .returned (.slice a 0 cap) ∧ w' = w := Any.slices_Compact_int_empty Tryz.laysNm220 a cap w
open Go.RowKit Go.Sort in
theorem Tryz.slices_Sort_int_none (p : Option Addr) (cap : Nat) (w : World) :
  Calls Tryz.prog 116 #[.slice p 0 cap] w fun e w' => e = .returned (.tuple #[]) ∧ w' = w := Any.slices_Sort_int_none Tryz.lays189 p cap w
end Go.Proofs

namespace Go.GL
open Go Go.RowKit
end Go.GL

namespace Go.GL
open Go Go.RowKit
theorem ge_mk {a b : Nat} (hr : ∀ r, roG a r → ∃ m, roG b m ∧ geG r m) (hl : ∀ l, loG b l → ∃ x, loG a x ∧ geG x l) : geG a b :=
 ge_iff.2 ⟨fun r h hg => by obtain ⟨m, hm, e⟩ := hr r h; exact not_ge_right hm (xO hg e), fun l h hg => by obtain ⟨x, hx, e⟩ := hl l h; exact not_ge_left hx (xO e hg)⟩
section
variable {q : PSt} {lf : Bool} {g : Nat} {W W' ss ss' kept kept' : List Int}
theorem RdW.set (h : RdW q lf g W ss kept) (hs : ∀ j, j ∈ ss' ↔ j ∈ ss) (hw : ∀ j, (j ∈ ss' ∨ j ∈ W') ↔ (j ∈ ss ∨ j ∈ W)) (nd : ss'.Nodup) (hk : ∀ j, j ∈ kept' ↔ j ∈ kept) (ndk : kept'.Nodup) : RdW q lf g W' ss' kept' := by
 refine ⟨fun i hi => h.all i (((hw i).1 hi.symm).symm), nd, ndk, fun i => by rw [hk, hs]; exact h.keep i, fun i hi hr => ?_, fun l hl => ?_⟩
 ·obtain ⟨r, h1, h2, h3⟩ := h.pass i ((hs i).1 hi) hr
  exact ⟨r, h1, h2, fun l hl => by obtain ⟨j, hj, e⟩ := h3 l hl; exact ⟨j, (hw j).2 hj, e⟩⟩
 ·obtain ⟨i, hi, e⟩ := h.opts l hl
  exact ⟨i, (hw i).2 hi, e⟩
end
structure LnOk (q : PSt) (lf : Bool) (g : Nat) (ln : List Int) (i : Nat) (out : List Int) : Prop where
 rd : RdW q lf g (ln.drop i) (ln.take i) out
 nd : ln.Nodup
 srt : out.Pairwise (· < ·)
section
variable {q : PSt} {lf : Bool} {g : Nat} {ln ln' out : List Int} {i : Nat}
theorem pw_nodup {l : List Int} (h : l.Pairwise (· < ·)) : l.Nodup := h.imp fun {a b} hab e => by omega
theorem LnOk.start (hok : PoolOk q) {f : Int} (hf : PlaceOk q f) (hc : ∀ l, opD lf (pd q f) l → CanonG l) : LnOk q lf (pd q f) (ol q lf f) 0 [] := by
 have om := ol_mem hok (lf := lf) hf
 refine ⟨?_, ?_, List.Pairwise.nil⟩
 ·rw [List.drop_zero, List.take_zero]
  refine ⟨fun j hj => ?_, List.nodup_nil, List.nodup_nil, fun j => by simp, (fun j hj => (List.not_mem_nil hj).elim), fun l hl => ?_⟩
  ·have hj := om.1 j (hj.resolve_right (by simp))
   exact ⟨hj.1, hc _ hj.2, opD_not hj.2⟩
  ·obtain ⟨z, hz, e⟩ := om.2 l hl
   exact ⟨z, Or.inr hz, e ▸ eqG.refl _⟩
 ·have hr := hok.ar.rise f.toNat (by have := hf.1; have := hf.2; omega)
  unfold ol
  split
  ·exact pw_nodup hr.1
  ·exact pw_nodup hr.2
theorem mem_cut (hi : i < ln.length) (j : Int) : j ∈ ln.drop i ↔ j ∈ ln.drop (i + 1) ++ [ln.getD i 0] := by
 rw [xB ln 0 hi, List.mem_append, List.mem_cons, List.mem_singleton]
 exact or_comm
theorem mem_tk (hi : i < ln.length) : ln.take (i + 1) = ln.take i ++ [ln.getD i 0] := qY ln 0 hi
theorem LnOk.rd2 (h : LnOk q lf g ln i out) (hi : i < ln.length) : RdW q lf g (ln.drop (i + 1) ++ [ln.getD i 0]) (ln.take i) out :=
 h.rd.set (fun _ => Iff.rfl) (fun j => or_congr Iff.rfl (mem_cut hi j).symm) h.rd.nd (fun _ => Iff.rfl) h.rd.ndk
theorem LnOk.new (h : LnOk q lf g ln i out) (hi : i < ln.length) : ln.getD i 0 ∉ ln.take i := by
 have hn := h.nd
 rw [← List.take_append_drop i ln, xB ln 0 hi, List.nodup_append] at hn
 exact fun hm => hn.2.2 _ hm _ List.mem_cons_self rfl
theorem LnOk.at_ (h : LnOk q lf g ln i out) (hi : i < ln.length) : PlaceOk q (ln.getD i 0) := (h.rd2 hi).all _ (Or.inl (List.mem_append_right _ (List.mem_singleton_self _))) |>.1
theorem LnOk.len (h : LnOk q lf g ln i out) : ln.length ≤ q.ns.length := nodup_len _ _ h.nd fun x hx => by
 rw [← List.take_append_drop i ln] at hx
 have := (h.rd.all x ((List.mem_append.1 hx).symm)).1
 exact ⟨this.1, this.2⟩
theorem LnOk.keep (h : LnOk q lf g ln i out) (hi : i < ln.length) (hr : ¬ revP lf g (pd q (ln.getD i 0))) : LnOk q lf g ln (i + 1) (putL out (ln.getD i 0)) := by
 have k := (h.rd2 hi).kept (h.new hi) hr
 refine ⟨k.set (fun j => by rw [mem_tk hi]) (fun j => by rw [mem_tk hi]) (by rw [mem_tk hi]; exact k.nd) (fun j => ?_) (pw_nodup (putL_rise h.srt)), h.nd, putL_rise h.srt⟩
 rw [mem_putL, List.mem_append, List.mem_singleton]; exact or_comm
theorem LnOk.pass (hok : PoolOk q) (h : LnOk q lf g ln i out) (hi : i < ln.length) {t : Int} (ht : PlaceOk q t) (ho : opD (!lf) (pd q (ln.getD i 0)) (pd q t)) (hg : geD lf g (pd q t))
  {ex : List Int} (he : ln' = ln ++ ex) (hn : ln'.Nodup) (h1 : ∀ z ∈ ol q lf t, z ∈ ln') (h2 : ∀ z ∈ ex, z ∈ ol q lf t) : LnOk q lf g ln' (i + 1) out := by
 have k := (h.rd2 hi).pass_on hok (h.new hi) ht ho hg
 have et : ln'.take (i + 1) = ln.take i ++ [ln.getD i 0] := by rw [he, List.take_append_of_le_length (by omega), mem_tk hi]
 have ed : ln'.drop (i + 1) = ln.drop (i + 1) ++ ex := by rw [he, List.drop_append_of_le_length (by omega)]
 have hl : ∀ j, j ∈ ln' ↔ (j ∈ ln.take i ++ [ln.getD i 0]) ∨ j ∈ ln.drop (i + 1) ++ ex := fun j => by
  rw [← et, ← ed, ← List.mem_append, List.take_append_drop]
 refine ⟨k.set (fun j => by rw [et]) (fun j => ?_) (by rw [et]; exact k.nd) (fun _ => Iff.rfl) k.ndk, hn, h.srt⟩
 rw [et, ed]
 constructor
 ·rintro (a | a)
  ·exact Or.inl a
  ·rcases List.mem_append.1 a with a | a
   ·exact Or.inr (List.mem_append_left _ a)
   ·exact Or.inr (List.mem_append_right _ (h2 j a))
 ·rintro (a | a)
  ·exact Or.inl a
  ·rcases List.mem_append.1 a with a | a
   ·exact Or.inr (List.mem_append_left _ a)
   ·exact (hl j).1 (h1 j a)
theorem LnOk.done (h : LnOk q lf g ln i out) (hi : ln.length ≤ i) : RdW q lf g [] ln out := by
 have k := h.rd
 rwa [List.drop_eq_nil_of_le hi, List.take_of_length_le hi] at k
end
structure ExOk (ln ln' more : List Int) (k : Nat) : Prop where
 ex : ∃ ex, ln' = ln ++ ex ∧ ∀ z ∈ ex, z ∈ more
 nd : ln'.Nodup
 all : ∀ z ∈ more.take k, z ∈ ln'
section
variable {ln ln' more : List Int} {k : Nat}
theorem ExOk.start (h : ln.Nodup) : ExOk ln ln more 0 := ⟨⟨[], by simp, fun z hz => by cases hz⟩, h, fun z hz => by simp at hz⟩
theorem ExOk.skip (h : ExOk ln ln' more k) (hk : k < more.length) (hm : more.getD k 0 ∈ ln') : ExOk ln ln' more (k + 1) := ⟨h.ex, h.nd, fun z hz => by
 rw [qY more 0 hk] at hz
 rcases List.mem_append.1 hz with a | a
 ·exact h.all z a
 ·rw [List.mem_singleton.1 a]; exact hm⟩
theorem ExOk.add (h : ExOk ln ln' more k) (hk : k < more.length) (hm : more.getD k 0 ∉ ln') : ExOk ln (ln' ++ [more.getD k 0]) more (k + 1) := by
 obtain ⟨ex, he, h2⟩ := h.ex
 refine ⟨⟨ex ++ [more.getD k 0], by rw [he, List.append_assoc], fun z hz => ?_⟩, List.nodup_append.2 ⟨h.nd, by simp, fun a ha b hb => by rw [List.mem_singleton.1 hb]; exact fun e => hm (e ▸ ha)⟩, fun z hz => ?_⟩
 ·rcases List.mem_append.1 hz with a | a
  ·exact h2 z a
  ·rw [List.mem_singleton.1 a]; exact yC hk
 ·rw [qY more 0 hk] at hz
  rcases List.mem_append.1 hz with a | a
  ·exact List.mem_append_left _ (h.all z a)
  ·exact List.mem_append_right _ a
end
theorem ExOk.pass {q : PSt} {lf : Bool} {g : Nat} {ln ln' more out : List Int} {i k : Nat} (e : ExOk ln ln' more k) (hk : more.length ≤ k) {t : Int} (hm : more = ol q lf t) (hok : PoolOk q) (h : LnOk q lf g ln i out) (hi : i < ln.length) (ht : PlaceOk q t) (ho : opD (!lf) (pd q (ln.getD i 0)) (pd q t)) (hg : geD lf g (pd q t)) : LnOk q lf g ln' (i + 1) out := by
 obtain ⟨ex, he, h2⟩ := e.ex
 have ha := e.all
 rw [List.take_of_length_le hk] at ha
 subst hm
 exact h.pass hok hi ht ho hg he e.nd ha h2
theorem ol_yes {q : PSt} {lf : Bool} {t : Int} (h : lf = true) : (q.ns.getD t.toNat default).l = ol q lf t := by unfold ol; rw [if_pos h]
theorem ol_no {q : PSt} {lf : Bool} {t : Int} (h : lf = false) : (q.ns.getD t.toNat default).r = ol q lf t := by unfold ol; rw [h]; rfl
theorem has_yes {xs : List Int} {j : Nat} {n : Int} (hj : j < xs.length) (h : xs.getD j 0 = n) : decide (n ∈ xs) = true := decide_eq_true (h ▸ yC hj)
theorem has_no {xs : List Int} {n : Int} (h : ∀ i, i < xs.length → xs.getD i 0 ≠ n) : decide (n ∈ xs) = false := decide_eq_false fun hm => by
 obtain ⟨i, hi, e⟩ := List.getElem_of_mem hm
 exact h i hi (by simp [List.getD, hi, e])
theorem can_node {q1 q2 : PSt} (hok2 : PoolOk q2) {g c : Nat} {r2 : Int} {sL oL sR oR : List Int} (h1 : RdW q1 true g [] sL oL) (h2 : RdW q1 false g [] sR oR)
  (hr : PlaceOk q2 r2) (hg : pd q2 r2 = mkG (oL.map (pd q1)) (oR.map (pd q1)))
  (hc : c = mkG ((woL (ol q2 true r2) (domL (gX q2 (ol q2 true r2)) true (ol q2 true r2).length (ol q2 true r2).length) (ol q2 true r2).length).map (pd q2)) ((woL (ol q2 false r2) (domL (gX q2 (ol q2 false r2)) false (ol q2 false r2).length (ol q2 false r2).length) (ol q2 false r2).length).map (pd q2))) : CanonG c ∧ eqG c g := by
 have hx : ∀ (lf : Bool) (s o : List Int), RdW q1 lf g [] s o → (∀ i, opD lf (pd q2 r2) i ↔ i ∈ o.map (pd q1)) → RedOk lf g (s.map (pd q1)) ((ol q2 lf r2).map (pd q2)) ∧
   MaxOf lf ((ol q2 lf r2).map (pd q2)) ((woL (ol q2 lf r2) (domL (gX q2 (ol q2 lf r2)) lf (ol q2 lf r2).length (ol q2 lf r2).length) (ol q2 lf r2).length).map (pd q2)) := by
  intro lf s o h ho
  have om := ol_mem hok2 (lf := lf) hr
  have hd := h.done
  have hm : ∀ i, i ∈ (ol q2 lf r2).map (pd q2) ↔ i ∈ o.map (pd q1) := fun i => by
   rw [← ho i, List.mem_map]
   exact ⟨fun ⟨z, hz, e⟩ => e ▸ (om.1 z hz).2, fun hi => by obtain ⟨z, hz, e⟩ := om.2 i hi; exact ⟨z, hz, e⟩⟩
  refine ⟨⟨hd.canon, hd.low, fun i => (hm i).trans (hd.keep i), hd.pass, hd.opts⟩, max_wo hok2 ?_ fun z hz => ⟨(om.1 z hz).1, ?_⟩⟩
  ·have hrs := hok2.ar.rise r2.toNat (by have := hr.1; have := hr.2; omega)
   unfold ol
   split
   ·exact pw_nodup hrs.1
   ·exact pw_nodup hrs.2
  ·have := (hm (pd q2 z)).1 (List.mem_map.2 ⟨z, hz, rfl⟩)
   exact hd.canon _ ((hd.keep _).1 this).1
 obtain ⟨a1, a2⟩ := hx true sL oL h1 fun i => by rw [opD_t, hg, lo_mk]
 obtain ⟨b1, b2⟩ := hx false sR oR h2 fun i => by rw [opD_f, hg, ro_mk]
 subst hc
 exact canon_of a1 b1 a2 b2 (fun i => lo_mk) fun i => ro_mk
theorem RdW.kpl {q : PSt} {lf : Bool} {g : Nat} {ln out : List Int} (h : RdW q lf g [] ln out) : ∀ z ∈ out, PlaceOk q z := fun z hz => (h.all z (Or.inr ((h.keep z).1 hz).1)).1
theorem wo_pl {q : PSt} {lf : Bool} {t : Int} (hok : PoolOk q) (ht : PlaceOk q t) {D : List Int} : ∀ z ∈ woL (ol q lf t) D (ol q lf t).length, PlaceOk q z := fun z hz => by
 obtain ⟨i, hi, _, rfl⟩ := (wo_mem _).1 hz
 exact ((ol_mem hok ht).1 _ (yC hi)).1
theorem can_opts {q q1 : PSt} {r : Int} {xs ys : List Int} (h1 : ∀ z ∈ xs, PlaceOk q z ∧ CanonG (pd q z)) (h2 : ∀ z ∈ ys, PlaceOk q z ∧ CanonG (pd q z)) (hg : pd q1 r = mkG (xs.map (pd q)) (ys.map (pd q))) (lf : Bool) : ∀ l, opD lf (pd q1 r) l → CanonG l := fun l hl => by
 rw [hg] at hl
 cases lf
 ·obtain ⟨z, hz, rfl⟩ := List.mem_map.1 (ro_mk.1 (opD_f.1 hl))
  exact (h2 z hz).2
 ·obtain ⟨z, hz, rfl⟩ := List.mem_map.1 (lo_mk.1 (opD_t.1 hl))
  exact (h1 z hz).2
structure StepOk (ns : List Nd) (bs : List Int) (n1 : List Nd) (b1 : List Int) (z : Int) (m : Nat) : Prop where
 ok : PoolOk (bkq n1 b1)
 px : PX (bkq ns bs) (bkq n1 b1)
 pl : PlaceOk (bkq n1 b1) z
 len : n1.length ≤ ns.length + m
structure CnOk (q : PSt) (ats : List Int) (k : Nat) (fs : List Nd) : Prop where
 len : ats.length = k
 at_ : ∀ i, i < k → PlaceOk q (ats.getD i 0) ∧ CanonG (pd q (ats.getD i 0)) ∧ eqG (pd q (ats.getD i 0)) (den fs i)
section
variable {q q' : PSt} {ats : List Int} {k : Nat} {fs : List Nd}
theorem CnOk.start : CnOk q [] 0 fs := ⟨rfl, fun i hi => absurd hi (Nat.not_lt_zero i)⟩
theorem CnOk.step (h : CnOk q ats k fs) (hx : PX q q') (hok : PoolOk q) (hok' : PoolOk q') {z : Int} (hz : PlaceOk q' z) (hc : CanonG (pd q' z)) (he : eqG (pd q' z) (den fs k)) : CnOk q' (ats ++ [z]) (k + 1) fs := by
 refine ⟨by rw [List.length_append, h.len]; rfl, fun i hi => ?_⟩
 by_cases e : i < k
 ·rw [yX (by rw [h.len]; exact e)]
  obtain ⟨h1, h2, h3⟩ := h.at_ i e
  rw [hx.pd hok hok' h1]
  exact ⟨hx.place h1, h2, h3⟩
 ·have e2 : i = k := by omega
  subst e2
  rw [xH h.len.symm]
  exact ⟨hz, hc, he⟩
theorem CnOk.pl (h : CnOk q ats k fs) {l : List Int} (hl : ∀ z ∈ l, 0 ≤ z ∧ z < (k : Int)) : ∀ z ∈ atL ats l, PlaceOk q z ∧ CanonG (pd q z) := fun z hz => by
 obtain ⟨o, ho, rfl⟩ := mem_atL.1 hz
 have := h.at_ o.toNat (by have := hl o ho; omega)
 exact ⟨this.1, this.2.1⟩
theorem CnOk.node (h : CnOk q ats k fs) (ho : OptsOk fs) (hk : k < fs.length) : eqG (mkG ((atL ats (fs.getD k default).l).map (pd q)) ((atL ats (fs.getD k default).r).map (pd q))) (den fs k) := by
 have oo := xC ho hk
 have key : ∀ (l : List Int), (∀ z ∈ l, 0 ≤ z ∧ z < (k : Int)) → (∀ x ∈ (atL ats l).map (pd q), ∃ z ∈ l, eqG x (den fs z.toNat)) ∧ ∀ z ∈ l, ∃ x ∈ (atL ats l).map (pd q), eqG x (den fs z.toNat) := fun l hl => by
  refine ⟨fun x hx => ?_, fun z hz => ?_⟩
  ·obtain ⟨y, hy, rfl⟩ := List.mem_map.1 hx
   obtain ⟨o, ho2, rfl⟩ := mem_atL.1 hy
   exact ⟨o, ho2, (h.at_ o.toNat (by have := hl o ho2; omega)).2.2⟩
  ·exact ⟨_, List.mem_map.2 ⟨_, mem_atL.2 ⟨z, hz, rfl⟩, rfl⟩, (h.at_ z.toNat (by have := hl z hz; omega)).2.2⟩
 have kl := key _ oo.1
 have kr := key _ oo.2
 constructor
 ·refine ge_mk (fun r hr => ?_) fun l hl => ?_
  ·obtain ⟨z, hz, e⟩ := kr.1 r (ro_mk.1 hr)
   exact ⟨_, (qJ ho hk).2 ⟨z, hz, rfl⟩, e.1⟩
  ·obtain ⟨z, hz, rfl⟩ := (qK ho hk).1 hl
   obtain ⟨x, hx, e⟩ := kl.2 z hz
   exact ⟨x, lo_mk.2 hx, e.1⟩
 ·refine ge_mk (fun r hr => ?_) fun l hl => ?_
  ·obtain ⟨z, hz, rfl⟩ := (qJ ho hk).1 hr
   obtain ⟨x, hx, e⟩ := kr.2 z hz
   exact ⟨x, ro_mk.2 hx, e.2⟩
  ·obtain ⟨z, hz, e⟩ := kl.1 l (lo_mk.1 hl)
   exact ⟨_, (qK ho hk).2 ⟨z, hz, rfl⟩, e.2⟩
end
end Go.GL

namespace Go.GL
open Go Go.RowKit
section
variable {P : Program} {ops : Array Oper} {Q : Exit → Act → World → Prop} {md : Region.Mode} {S : World → Prop} {lt : List Nat}
def drL (P : Program) (md : Region.Mode) (ops : Array Oper) (Q : Exit → Act → World → Prop) (S : World → Prop) (lt : List Nat) : Nat → Array Bool → Act → World → Prop
 | 0, listed, a, w => Region.ready md ops listed = [] ∧ Q .normal a w
 | fuel + 1, listed, a, w =>
  (Region.ready md ops listed = [] → Q .normal a w) ∧
  ∀ i ∈ Region.ready md ops listed, wpOp P ops Q i (fun a' w' => (i ∉ lt → S w') ∧ drL P md ops Q S lt fuel (listed.setIfInBounds i true) a' w') a w
theorem wpAny_of_drL : ∀ (fuel : Nat) (listed : Array Bool) (a : Act) (w : World), drL P md ops Q S lt fuel listed a w → wpAny P md ops Q fuel listed a w
 | 0, _, _, _, h => h
 | fuel + 1, _, _, _, h => ⟨h.1, fun i hi => wpOp_mono (fun a' w' h' => wpAny_of_drL fuel _ a' w' h'.2) (h.2 i hi)⟩
theorem drL_first {i : Nat} {oi : Oper} {v : Value} (hi : ops[i]? = some oi) (hsel : ∀ (j : Nat) (o : Oper) cs b, ops[j]? = some o → o.op ≠ .select cs b)
  (hQ : ∀ c a w, Q (.panic c) (a.put oi.dst v) w → Q (.panic c) a w) {bl : List Nat} (hsub : ∀ j ∈ lt, j ∈ bl) (hlate : ∀ j oj, ops[j]? = some oj → j ∈ bl → ∃ e ∈ oj.after, Region.binds md e = true ∧ (e.on = i ∨ e.on ∈ bl)) :
  ∀ (fuel : Nat) (listed : Array Bool) (a : Act) (w : World),
   (∀ j oj, ops[j]? = some oj → j ≠ i → listed.getD j true = false → (∀ e ∈ oj.after, Region.binds md e = true → e.on ≠ i) → oi.apart ops oj = true) →
   (∀ j ∈ bl, listed.getD j true = false) →
   i ∈ Region.ready md ops listed → YieldsIf P ops S oi v a → S w →
   drL P md ops Q S lt fuel (listed.setIfInBounds i true) (a.put oi.dst v) w → drL P md ops Q S lt (fuel + 1) listed a w := by
 intro fuel
 induction fuel with
 | zero =>
  intro listed a w _ _ hr hy hS H
  refine ⟨fun h => (by rw [h] at hr; cases hr), fun j hj => ?_⟩
  by_cases hji : j = i
  ·subst hji; exact hy.wpOp hi hS ⟨fun _ => hS, H⟩
  ·have := ready_mono hj hji
   rw [H.1] at this
   cases this
 | succ fuel ih =>
  intro listed a w hfree hun2 hr hy hS H
  refine ⟨fun h => (by rw [h] at hr; cases hr), fun j hj => ?_⟩
  by_cases hji : j = i
  ·subst hji; exact hy.wpOp hi hS ⟨fun _ => hS, H⟩
  ·have h1 := H.2 j (ready_mono hj hji)
   obtain ⟨hjun, oj, hoj, hall⟩ := mem_ready.1 hj
   have hlst : ∀ x, listed.getD x true = false → listed.getD x false = true → False := fun x h0 h1 => by
    rcases Nat.lt_or_ge x listed.size with h' | h'
    ·simp [h'] at h0 h1; rw [h0] at h1; cases h1
    ·simp [Array.getElem?_eq_none h'] at h1
   have hnot : ∀ e ∈ oj.after, Region.binds md e = true → e.on ≠ i := fun e he hb heq => by
    have h1 := hall e he hb
    have h0 := (mem_ready.1 hr).1
    rw [heq] at h1
    exact hlst i h0 h1
   have h2 := wpOp_putIf hoj (hfree j oj hoj hji hjun hnot) (fun cs b => hsel i oi cs b hi) (fun cs b => hsel j oj cs b hoj) hQ hy h1
   have hfree' : ∀ k ok, ops[k]? = some ok → k ≠ i → (listed.setIfInBounds j true).getD k true = false →
     (∀ e ∈ ok.after, Region.binds md e = true → e.on ≠ i) → oi.apart ops ok = true := fun k ok hk hki hun hno => by
    refine hfree k ok hk hki ?_ hno
    by_cases hjk : j = k
    ·subst hjk; exact hjun
    ·rw [getD_set_ne true hjk] at hun; exact hun
   have hjb : j ∉ bl := fun hl => by
    obtain ⟨e, he, hb, heq⟩ := hlate j oj hoj hl
    rcases heq with heq | heq
    ·exact hnot e he hb heq
    ·exact hlst e.on (hun2 e.on heq) (hall e he hb)
   have hjl : j ∉ lt := fun h => hjb (hsub j h)
   refine wpOp_mono (fun a' w' h3 => ⟨fun _ => h3.2.1 hjl, ih (listed.setIfInBounds j true) a' w' hfree' (fun k hk => ?_) (ready_mono hr (Ne.symm hji)) h3.1 (h3.2.1 hjl) ?_⟩) h2
   ·have hjk : j ≠ k := fun e => hjb (e ▸ hk)
    rw [getD_set_ne true hjk]; exact hun2 k hk
   ·rw [Array.setIfInBounds_comm _ _ hji]
    exact h3.2.2
def waitsL (ops : Array Oper) (lt bl : List Nat) (listed : Array Bool) (i : Nat) : Bool :=
 lt.all (fun j => bl.contains j) && bl.all fun j => !(listed.getD j true) && match ops[j]? with
  | none => false
  | some oj => oj.after.any fun e => Region.binds .any e && (Nat.beq e.on i || bl.contains e.on)
structure DRL (P : Program) (ops : Array Oper) (Q : Exit → Act → World → Prop) (S : World → Prop) (lt : List Nat) (fuel : Nat) (listed : Array Bool) (a : Act) (w : World) : Prop where
 out : drL P .any ops (NoPanic Q) S lt fuel listed a w
variable {n fuel : Nat} {env : Nat → Value} {listed : Array Bool} {w : World} {o : Oper}
theorem xP (bl : List Nat) {i d : Nat} {v : Value} (hi : ops[i]? = some o) (hd : o.dst = some d) (hok : okO n o = true) (hw : Region.wanted o (yielded ops (F n env).tmps) = true)
  (hf : (Region.noSelect ops && Region.free .any ops listed i && (Region.ready .any ops listed).contains i && waitsL ops lt bl listed i) = true)
  (hy : ∀ w, S w → (execOp (ev env) o).run P w = .ok (.value v) w) (hS : S w)
  (h : DRL P ops Q S lt fuel (listed.setIfInBounds i true) (F n (upd env d v)) w) : DRL P ops Q S lt (fuel + 1) listed (F n env) w := by
 simp only [Bool.and_eq_true] at hf
 obtain ⟨⟨⟨f, g⟩, k⟩, h4'⟩ := hf
 unfold waitsL at h4'
 obtain ⟨l, m⟩ := (Bool.and_eq_true _ _).mp h4'
 have hsub : ∀ j ∈ lt, j ∈ bl := fun j hj => by simpa using List.all_eq_true.1 l j hj
 have b : ∀ j ∈ bl, listed.getD j true = false ∧ ∀ oj, ops[j]? = some oj → ∃ e ∈ oj.after, Region.binds .any e = true ∧ (e.on = i ∨ e.on ∈ bl) := fun j hj => by
  have a := List.all_eq_true.1 m j hj
  simp only [Bool.and_eq_true, Bool.not_eq_true'] at a
  refine ⟨a.1, fun oj hoj => ?_⟩
  have c := a.2
  rw [hoj] at c
  obtain ⟨e, he, hb⟩ := Array.any_eq_true'.1 c
  simp only [Bool.and_eq_true, Bool.or_eq_true, List.contains_iff_mem] at hb
  exact ⟨e, he, hb.1, hb.2.imp Nat.eq_of_beq_eq_true id⟩
 constructor
 exact drL_first hi (Region.noSelect_spec f) (fun _ _ _ h => h) hsub (fun j oj hoj hj => (b j hj).2 oj hoj) fuel listed _ w (Region.free_spec hi g) (fun j hj => (b j hj).1) (by simpa using k) (Or.inl ⟨hw, fun w hs => by rw [exec_F hok]; exact hy w hs⟩) hS (by rw [hd, put_F]; exact h.out)
structure drOpL (P : Program) (ops : Array Oper) (Q : Exit → Act → World → Prop) (S : World → Prop) (lt : List Nat) (n fuel : Nat) (listed : Array Bool) (env : Nat → Value) (w : World) (i : Nat) : Prop where
 out : wpOp P ops (NoPanic Q) i (fun a' w' => (i ∉ lt → S w') ∧ drL P .any ops (NoPanic Q) S lt fuel (listed.setIfInBounds i true) a' w') (F n env) w
theorem dr_oneL {i : Nat} (hr : Region.ready .any ops listed = [i]) (h : drOpL P ops Q S lt n fuel listed env w i) : DRL P ops Q S lt (fuel + 1) listed (F n env) w :=
 ⟨⟨fun h0 => (by rw [hr] at h0; cases h0), fun j hj => by rw [hr] at hj; simp at hj; subst hj; exact h.out⟩⟩
theorem drOp1L {i d : Nat} (hi : ops[i]? = some o) (hd : o.dst = some d) (hok : okO n o = true) (hw : Region.wanted o (yielded ops (F n env).tmps) = true)
  (h : EO P (ev env) o w fun v w' => (i ∉ lt → S w') ∧ DRL P ops Q S lt fuel (listed.setIfInBounds i true) (F n (upd env d v)) w') : drOpL P ops Q S lt n fuel listed env w i := by
 constructor
 unfold wpOp
 simp only [hi, hw, if_true]
 left
 unfold Oper.wp
 rw [exec_F hok]
 exact h _ _ _ fun v w' hk => by rw [hd, put_F]; exact ⟨hk.1, hk.2.out⟩
theorem dr_endL (hr : Region.ready .any ops listed = []) (h : Q .normal (F n env) w) : DRL P ops Q S lt fuel listed (F n env) w := by
 cases fuel with
 | zero => exact ⟨⟨hr, NoPanic.normal h⟩⟩
 | succ k => exact ⟨⟨fun _ => NoPanic.normal h, by rw [hr]; simp⟩⟩
theorem c_drawL {id : Nat} {l : List Oper} {m : Nat} (hm : P.follows .mixedOrders = true) (hl : l.toArray.size = m)
  (h : DRL P l.toArray Q S lt m (Array.replicate m false) (F n env) w.drew) : (Code.region id l.toArray true).wp P Q (F n env) w := by
 refine wp_region_noPanic (wp_region_any hm (wpAny_of_drL (S := S) (lt := lt) _ _ _ _ ?_))
 rw [hl]
 exact h.out
end
end Go.GL

namespace Go.GL
open Go Go.RowKit
end Go.GL

set_option maxRecDepth 20000
set_option maxHeartbeats 2000000
namespace Go.Proofs.YtakkjmlnmcemaaaGreatDoor
namespace B1
open Go.RowKit Go.GL Go.Proofs





theorem mk3 : (Tryz.prog.info? 3).map (fun i => (i.size, i.bytes, i.zero)) = some (1, 8, some (.int .i64 0)) := by kernel_rfl
theorem mk4 : (Tryz.prog.info? 4).map (fun i => (i.size, i.bytes, i.zero)) = some (1, 1, some (.bool false)) := by kernel_rfl
















theorem goodOptions_spec {w : World} {G : Pin} {v : Value} {xs : List Int} {b : Int} (hP : Pins G w) (hv : RSl eInt G v xs) :
  Calls Tryz.prog 59 [v, (vJ b)].toArray w fun e w' => e = .returned (.bool (goodOpts xs b)) ∧ w' = w := by
 refine zV (n := 27) Tryz.func59 Tryz.ntmps59 rfl rfl ?_
 have h : Ext noS G w G w := Ext.refl hP
 have hm := hv.max
 refine zB (zC ?_)
 refine qM (.bool false) ?_
 refine qe (zA (zB (zB (zC ?_))))
 refine qM v ?_
 refine qD rfl (zM Tryz.underlying56 (v := v) rfl hv) (qD rfl (r_gtr rfl rfl) (qe (zA ?_)))
 refine yA (p := (24 : Int) < (xs.length : Int)) rfl rfl (fun a => ?_) (fun a => ?_)
 refine zB (zC ?_)
 refine qM (.bool false) ?_
 refine qe (zA ?_)
 exact wp_ret (zO (zP (v := (.bool false)) rfl rfl rfl (⟨congrArg (fun z => Ending.returned (Value.bool z)) (by unfold goodOpts; rw [if_pos a]), rfl⟩)))
 refine wp_skip (zA (zB (zC ?_)))
 refine qM (vJ (-1)) ?_
 refine qe (zA (zB (zB (zC ?_))))
 refine qM v ?_
 refine qD rfl (zM Tryz.underlying56 (v := v) rfl hv) (qM (vJ 0) ?_)
 refine qe (zA ?_)
 refine zX (yT (fun (k : Nat) (en : Nat → Value) (W : World) => ∃ (f : Nat → Value) (j : Nat) (last : Int), en = (upd (upd (upd (upd (upd f 1 (vJ b)) 5 (vJ last)) 11 v) 12 (vJ (xs.length : Int))) 13 (vJ (j : Int))) ∧ k = xs.length - j ∧ Ext noS G w G W ∧ (j ≤ xs.length) ∧ (W = w) ∧ (goodOpts xs b = goodFrom last b (xs.drop j))) _ ⟨_, 0, (-1), (pS 13 (pS 12 (pS 11 (pS 5 (pU 1))))), rfl, h, Nat.zero_le _, rfl, (by unfold goodOpts; rw [if_neg a]; rfl)⟩ ?_)
 rintro l _ m ⟨f, j, last, rfl, o, g, hj, hw, hr⟩
 subst hw
 refine zB (zC ?_)
 refine qD rfl (yV rfl rfl) (qe (zA (zB ?_)))
 refine yA (p := ((j : Int) : Int) < (xs.length : Int)) rfl rfl (fun i => ?_) (fun i => ?_)
 refine wp_skip (zA (zB ?_))
 refine zX (zB (zC ?_))
 refine qD rfl (zF Tryz.underlying56 sz3 (v := v) rfl rfl hv (by omega) (by omega)) (qD rfl (zE (r := xs.getD j 0) rfl ag3 (z := (j : Int)) rfl hv g.pins (by omega) (by omega)) (qM (vJ (xs.getD j 0)) ?_))
 refine qe (zA (zB (zB (zC ?_))))
 refine qM (vJ (xs.getD j 0)) ?_
 refine qM (vJ last) ?_
 refine qD rfl (r_leq rfl rfl) (qM (.bool (decide ((xs.getD j 0 : Int) ≤ last))) ?_)
 refine qbd (p := (xs.getD j 0 : Int) ≤ last) (t := 20) rfl (fun c => ?_) (fun c => ?_)
 refine qW ?_
 refine qW ?_
 refine qW ?_
 refine qD rfl (yD (v := (.bool true)) rfl rfl) (qe (zA ?_))
 refine xY rfl rfl (zB (zC ?_))
 refine qM (.bool false) ?_
 refine qe (zA ?_)
 exact wp_ret (zO (zP (v := (.bool false)) rfl rfl rfl (⟨congrArg (fun z => Ending.returned (Value.bool z)) ((hr.trans (goodFrom_bad (by omega) (Or.inl c))).symm), rfl⟩)))
 refine qN (zQ (v := (vJ (xs.getD j 0))) rfl) ?_
 refine qN (zQ (v := (vJ b)) rfl) ?_
 refine qN (r_geq rfl rfl) ?_
 refine qD rfl (zY (v := (.bool (decide ((b : Int) ≤ (xs.getD j 0))))) rfl rfl) (qe (zA ?_))
 refine yA (p := (b : Int) ≤ (xs.getD j 0)) rfl rfl (fun d => ?_) (fun d => ?_)
 refine zB (zC ?_)
 refine qM (.bool false) ?_
 refine qe (zA ?_)
 exact wp_ret (zO (zP (v := (.bool false)) rfl rfl rfl (⟨congrArg (fun z => Ending.returned (Value.bool z)) ((hr.trans (goodFrom_bad (by omega) (Or.inr d))).symm), rfl⟩)))
 refine wp_skip (zA (zC ?_))
 refine qM (vJ (xs.getD j 0)) ?_
 refine qM (vJ (xs.getD j 0)) ?_
 refine qe (yB (zA (zC ?_)))
 refine qD rfl (yJ rfl rfl (by omega)) (qM (vJ ((j : Int) + 1)) ?_)
 refine qe (zZ (⟨_, ?_, _, rfl, _, j + 1, xs.getD j 0, (pS 13 (pS 12 (pS 11 (pS 5 (pU 1))))), rfl, g, (by omega), rfl, (hr.trans (goodFrom_next (by omega) c d))⟩))
 omega
 refine wp_exit (zW (yO (yI (zA (zB (zC ?_))))))
 refine qM (.bool true) ?_
 refine qe (zA ?_)
 exact wp_ret (zO (zP (v := (.bool true)) rfl rfl rfl (⟨congrArg (fun z => Ending.returned (Value.bool z)) ((hr.trans (goodFrom_end (by omega))).symm), rfl⟩)))

theorem isNaN_spec {w : World} {G : Pin} {x : Int} (hP : Pins G w) :
  Calls Tryz.prog 89 [(.int .i64 x)].toArray w fun e w' => e = .returned (.bool false) ∧ w' = w := by
 refine zV (n := 6) Tryz.func89 Tryz.ntmps89 rfl rfl ?_
 have hX0 : Ext noS G w G w := Ext.refl hP
 refine zB (zC ?_)
 refine qM (.bool false) ?_
 refine qe (zA (zB (zC ?_)))
 refine qM (.int .i64 x) ?_
 refine qM (.int .i64 x) ?_
 refine qD rfl (jG rfl rfl) (qM (.bool (decide ((x : Int) ≠ x))) ?_)
 refine qe (zA ?_)
 exact wp_ret (zO (zP (v := (.bool (decide ((x : Int) ≠ x)))) rfl rfl rfl (⟨congrArg (fun z => Ending.returned (Value.bool z)) (decide_eq_false (fun h => h rfl)), rfl⟩)))

theorem cmpCompare_spec {w : World} {G : Pin} {x y : Int} (hP : Pins G w) :
  Calls Tryz.prog 62 [(.int .i64 x), (.int .i64 y)].toArray w fun e w' => e = .returned (.int .i64 (cmpI x y)) ∧ w' = w := by
 refine zV (n := 20) Tryz.func62 Tryz.ntmps62 rfl rfl ?_
 have hX0 : Ext noS G w G w := Ext.refl hP
 refine zB (zC ?_)
 refine qM (.int .i64 0) ?_
 refine qe (zA (zB (zC ?_)))
 refine qM (.int .i64 x) ?_
 refine qI rfl (zH (vs := [(.int .i64 x)]) Tryz.func89 nm89 rfl rfl rfl ?_)
 refine Calls.mono (isNaN_spec hX0.pins) ?_
 rintro _ _ ⟨rfl, rfl⟩
 refine ⟨_, rfl, ?_⟩
 refine qM (.bool false) ?_
 refine qe (zA (zB (zC ?_)))
 refine qM (.int .i64 y) ?_
 refine qI rfl (zH (vs := [(.int .i64 y)]) Tryz.func89 nm89 rfl rfl rfl ?_)
 refine Calls.mono (isNaN_spec hX0.pins) ?_
 rintro _ _ ⟨rfl, rfl⟩
 refine ⟨_, rfl, ?_⟩
 refine qM (.bool false) ?_
 refine qe (zA (zB (zB (zC ?_))))
 refine qM (.bool false) ?_
 refine qe (zA ?_)
 refine qA rfl rfl (wp_skip (zA (zB (zB (zC ?_)))))
 refine qM (.bool false) ?_
 refine qe (zA ?_)
 refine qA rfl rfl (wp_skip (zA (zB (zB (zC ?_)))))
 refine qM (.int .i64 x) ?_
 refine qM (.int .i64 y) ?_
 refine qD rfl (yV rfl rfl) (qe (zA ?_))
 refine yA (p := (x : Int) < y) rfl rfl (fun h1 => ?_) (fun h1 => ?_)
 refine zB (zC ?_)
 refine qM (.int .i64 (-1)) ?_
 refine qe (zA ?_)
 exact wp_ret (zO (zP (v := (.int .i64 (-1))) rfl rfl rfl (⟨congrArg (fun z => Ending.returned (Value.int .i64 z)) (by unfold cmpI; (first | rw [if_pos (by omega)] | (rw [if_neg (by omega)]; first | rw [if_pos (by omega)] | rw [if_neg (by omega)]))), rfl⟩)))
 refine wp_skip (zA (zB (zB (zC ?_))))
 refine qM (.int .i64 x) ?_
 refine qM (.int .i64 y) ?_
 refine qD rfl (r_gtr rfl rfl) (qe (zA ?_))
 refine yA (p := (y : Int) < x) rfl rfl (fun h2 => ?_) (fun h2 => ?_)
 refine zB (zC ?_)
 refine qM (.int .i64 1) ?_
 refine qe (zA ?_)
 exact wp_ret (zO (zP (v := (.int .i64 1)) rfl rfl rfl (⟨congrArg (fun z => Ending.returned (Value.int .i64 z)) (by unfold cmpI; (first | rw [if_pos (by omega)] | (rw [if_neg (by omega)]; first | rw [if_pos (by omega)] | rw [if_neg (by omega)]))), rfl⟩)))
 refine wp_skip (zA (zB (zC ?_)))
 refine qM (.int .i64 0) ?_
 refine qe (zA ?_)
 exact wp_ret (zO (zP (v := (.int .i64 0)) rfl rfl rfl (⟨congrArg (fun z => Ending.returned (Value.int .i64 z)) (by unfold cmpI; (first | rw [if_pos (by omega)] | (rw [if_neg (by omega)]; first | rw [if_pos (by omega)] | rw [if_neg (by omega)]))), rfl⟩)))

theorem cmpOr_spec {w : World} {G : Pin} {v : Value} {xs : List Int} (hP : Pins G w) (hv : RSl eInt G v xs) :
  Calls Tryz.prog 61 [v].toArray w fun e w' => e = .returned (.int .i64 (orL xs)) ∧ w' = w := by
 refine zV (n := 18) Tryz.func61 Tryz.ntmps61 rfl rfl ?_
 have d : Ext noS G w G w := Ext.refl hP
 have hm := hv.max
 refine zB (zC ?_)
 refine qM (.int .i64 0) ?_
 refine qe (zA (zB (zC ?_)))
 refine qM (.int .i64 0) ?_
 refine qe (zA (zB (zB (zC ?_))))
 refine qM v ?_
 refine qD rfl (zM Tryz.underlying56 (v := v) rfl hv) (qM (.int .i64 0) ?_)
 refine qe (zA ?_)
 refine zX (yT (fun (k : Nat) (en : Nat → Value) (W : World) => ∃ (b : Nat → Value) (j : Nat), en = (upd (upd (upd (upd b 3 (.int .i64 0)) 6 v) 7 (.int .i64 (xs.length : Int))) 8 (.int .i64 (j : Int))) ∧ k = xs.length - j ∧ Ext noS G w G W ∧ (j ≤ xs.length) ∧ (W = w) ∧ (orL xs = orL (xs.drop j))) _ ⟨_, 0, (pS 8 (pS 7 (pS 6 (pU 3)))), rfl, d, Nat.zero_le _, rfl, rfl⟩ ?_)
 rintro g _ h ⟨b, j, rfl, i, c, hj, hw, hr⟩
 subst hw
 refine zB (zC ?_)
 refine qD rfl (yV rfl rfl) (qe (zA (zB ?_)))
 refine yA (p := ((j : Int) : Int) < (xs.length : Int)) rfl rfl (fun f => ?_) (fun f => ?_)
 refine wp_skip (zA (zB ?_))
 refine zX (zB (zC ?_))
 refine qD rfl (zF Tryz.underlying56 sz3 (v := v) rfl rfl hv (by omega) (by omega)) (qD rfl (zE (r := xs.getD j 0) rfl ag3 (z := (j : Int)) rfl hv c.pins (by omega) (by omega)) (qM (.int .i64 (xs.getD j 0)) ?_))
 refine qe (zA (zB (zC ?_)))
 refine qM (.int .i64 (xs.getD j 0)) ?_
 refine qM (.int .i64 0) ?_
 refine qD rfl (jG rfl rfl) (qe (zA ?_))
 refine yA (p := (xs.getD j 0 : Int) ≠ 0) rfl rfl (fun a => ?_) (fun a => ?_)
 refine zB (zC ?_)
 refine qM (.int .i64 (xs.getD j 0)) ?_
 refine qM (.int .i64 (xs.getD j 0)) ?_
 refine qe (zA ?_)
 exact wp_ret (zO (zP (v := (.int .i64 (xs.getD j 0))) rfl rfl rfl (⟨congrArg (fun z => Ending.returned (Value.int .i64 z)) ((hr.trans (orL_hit (by omega) a)).symm), rfl⟩)))
 refine wp_skip (yB (zA (zC ?_)))
 refine qD rfl (yJ rfl rfl (by omega)) (qM (.int .i64 ((j : Int) + 1)) ?_)
 refine qe (zZ (⟨_, ?_, _, rfl, _, j + 1, (pS 8 (pS 7 (pS 6 (pU 3)))), rfl, c, (by omega), rfl, (hr.trans (orL_next (by omega) a))⟩))
 omega
 refine wp_exit (zW (yO (yI (zA (zB (zC ?_))))))
 refine qM (.int .i64 0) ?_
 refine qM (.int .i64 0) ?_
 refine qe (zA ?_)
 exact wp_ret (zO (zP (v := (.int .i64 0)) rfl rfl rfl (⟨congrArg (fun z => Ending.returned (Value.int .i64 z)) ((hr.trans (orL_end (by omega))).symm), rfl⟩)))

theorem slCompare_spec {w : World} {G : Pin} {u v : Value} {xs ys : List Int} (hP : Pins G w) (hu : RSl eInt G u xs) (hv : RSl eInt G v ys) :
  Calls Tryz.prog 63 [u, v].toArray w fun e w' => e = .returned (vJ (cmpL xs ys)) ∧ w' = w := by
 refine zV (n := 36) Tryz.func63 Tryz.ntmps63 rfl rfl ?_
 have d : Ext noS G w G w := Ext.refl hP
 have hm := hu.max
 refine zB (zC ?_)
 refine qM (vJ 0) ?_
 refine qe (zA (zB (zB (zC ?_))))
 refine qM u ?_
 refine qD rfl (zM Tryz.underlying56 (v := u) rfl hu) (qM (vJ 0) ?_)
 refine qe (zA ?_)
 refine zX (yT (fun (k : Nat) (en : Nat → Value) (W : World) => ∃ (c : Nat → Value) (j : Nat), en = (upd (upd (upd (upd (upd c 0 u) 1 v) 9 u) 10 (vJ (xs.length : Int))) 11 (vJ (j : Int))) ∧ k = xs.length - j ∧ Ext noS G w G W ∧ (j ≤ xs.length ∧ j ≤ ys.length) ∧ (W = w) ∧ (cmpL xs ys = cmpL (xs.drop j) (ys.drop j))) _ ⟨_, 0, (pS 11 (pS 10 (pS 9 (pS 1 (pU 0))))), rfl, d, ⟨Nat.zero_le _, Nat.zero_le _⟩, rfl, rfl⟩ ?_)
 rintro i _ l ⟨c, j, rfl, m, a, hj, hw, hr⟩
 subst hw
 refine zB (zC ?_)
 refine qD rfl (yV rfl rfl) (qe (zA (zB ?_)))
 refine yA (p := ((j : Int) : Int) < (xs.length : Int)) rfl rfl (fun f => ?_) (fun f => ?_)
 refine wp_skip (zA (zB ?_))
 refine zX (zB (zC ?_))
 refine qM (vJ (j : Int)) ?_
 refine qD rfl (zF Tryz.underlying56 sz3 (v := u) rfl rfl hu (by omega) (by omega)) (qD rfl (zE (r := xs.getD j 0) rfl ag3 (z := (j : Int)) rfl hu a.pins (by omega) (by omega)) (qM (vJ (j : Int)) ?_))
 refine qM (vJ (xs.getD j 0)) ?_
 refine qe (zA (zB (zB (zC ?_))))
 refine qM (vJ (j : Int)) ?_
 refine qM v ?_
 refine qD rfl (zM Tryz.underlying56 (v := v) rfl hv) (qD rfl (r_geq rfl rfl) (qe (zA ?_)))
 refine yA (p := ((ys.length : Int) : Int) ≤ (j : Int)) rfl rfl (fun g => ?_) (fun g => ?_)
 refine zB (zC ?_)
 refine qM (vJ 1) ?_
 refine qe (zA ?_)
 exact wp_ret (zO (zP (v := (vJ 1)) rfl rfl rfl (⟨congrArg (fun z => Ending.returned (Value.int .i64 z)) ((hr.trans (cmpL_more (by omega) (by omega))).symm), rfl⟩)))
 refine wp_skip (zA (zB (zC ?_)))
 refine qM v ?_
 refine qM (vJ (j : Int)) ?_
 refine qD rfl (zF Tryz.underlying56 sz3 (v := v) rfl rfl hv (by omega) (by omega)) (qD rfl (zE (r := ys.getD j 0) rfl ag3 (z := (j : Int)) rfl hv a.pins (by omega) (by omega)) (qM (vJ (ys.getD j 0)) ?_))
 refine qe (zA (zB (zC ?_)))
 refine qM (vJ (xs.getD j 0)) ?_
 refine qM (vJ (ys.getD j 0)) ?_
 refine qI rfl (zH (vs := [(vJ (xs.getD j 0)), (vJ (ys.getD j 0))]) Tryz.func62 nm62 rfl rfl rfl ?_)
 refine Calls.mono (cmpCompare_spec a.pins) ?_
 rintro _ _ ⟨rfl, rfl⟩
 refine ⟨_, rfl, ?_⟩
 refine qM (vJ (cmpI (xs.getD j 0) (ys.getD j 0))) ?_
 refine qe (zA (zB (zC ?_)))
 refine qM (vJ (cmpI (xs.getD j 0) (ys.getD j 0))) ?_
 refine qD rfl (jG rfl rfl) (qe (zA ?_))
 refine yA (p := (cmpI (xs.getD j 0) (ys.getD j 0) : Int) ≠ 0) rfl rfl (fun b => ?_) (fun b => ?_)
 refine zB (zC ?_)
 refine qM (vJ (cmpI (xs.getD j 0) (ys.getD j 0))) ?_
 refine qM (vJ (cmpI (xs.getD j 0) (ys.getD j 0))) ?_
 refine qe (zA ?_)
 exact wp_ret (zO (zP (v := (vJ (cmpI (xs.getD j 0) (ys.getD j 0)))) rfl rfl rfl (⟨congrArg (fun z => Ending.returned (Value.int .i64 z)) ((hr.trans (cmpL_ne (by omega) (by omega) b)).symm), rfl⟩)))
 refine wp_skip (yB (zA (zC ?_)))
 refine qD rfl (yJ rfl rfl (by omega)) (qM (vJ ((j : Int) + 1)) ?_)
 refine qe (zZ (⟨_, ?_, _, rfl, _, j + 1, (pS 11 (pS 10 (pS 9 (pS 1 (pU 0))))), rfl, a, (by omega), rfl, (hr.trans (cmpL_eq (by omega) (by omega) b))⟩))
 omega
 refine wp_exit (zW (yO (yI (zA (zB (zB (zC ?_)))))))
 refine qM u ?_
 refine qD rfl (zM Tryz.underlying56 (v := u) rfl hu) (qM v ?_)
 refine qD rfl (zM Tryz.underlying56 (v := v) rfl hv) (qD rfl (yV rfl rfl) (qe (zA ?_)))
 refine yA (p := ((xs.length : Int) : Int) < (ys.length : Int)) rfl rfl (fun h => ?_) (fun h => ?_)
 refine zB (zC ?_)
 refine qM (vJ (-1)) ?_
 refine qe (zA ?_)
 exact wp_ret (zO (zP (v := (vJ (-1))) rfl rfl rfl (⟨congrArg (fun z => Ending.returned (Value.int .i64 z)) ((hr.trans (cmpL_less (by omega) (by omega))).symm), rfl⟩)))
 refine wp_skip (zA (zB (zC ?_)))
 refine qM (vJ 0) ?_
 refine qe (zA ?_)
 exact wp_ret (zO (zP (v := (vJ 0)) rfl rfl rfl (⟨congrArg (fun z => Ending.returned (Value.int .i64 z)) ((hr.trans (cmpL_same (by omega) (by omega))).symm), rfl⟩)))

theorem slIndexB_spec {w : World} {G : Pin} {v : Value} {xs : List Bool} {p : Bool} (hP : Pins G w) (hv : RSl eBool G v xs) :
  Calls Tryz.prog 90 [v, (.bool p)].toArray w fun e w' => e = .returned (.int .i64 (idxB xs p)) ∧ w' = w := by
 refine zV (n := 19) Tryz.func90 Tryz.ntmps90 rfl rfl ?_
 have d : Ext noS G w G w := Ext.refl hP
 have hm := hv.max
 refine zB (zC ?_)
 refine qM (.int .i64 0) ?_
 refine qe (zA (zB (zB (zC ?_))))
 refine qM v ?_
 refine qD rfl (zM Tryz.underlying60 (v := v) rfl hv) (qM (.int .i64 0) ?_)
 refine qe (zA ?_)
 refine zX (yT (fun (k : Nat) (en : Nat → Value) (W : World) => ∃ (b : Nat → Value) (j : Nat), en = (upd (upd (upd (upd b 0 v) 1 (.bool p)) 7 (.int .i64 (xs.length : Int))) 8 (.int .i64 (j : Int))) ∧ k = xs.length - j ∧ Ext noS G w G W ∧ (j ≤ xs.length) ∧ (W = w) ∧ (idxB xs p = idxFrom p j (xs.drop j))) _ ⟨_, 0, (pS 8 (pS 7 (pS 1 (pU 0)))), rfl, d, Nat.zero_le _, rfl, rfl⟩ ?_)
 rintro g _ h ⟨b, j, rfl, i, c, hj, hw, hr⟩
 subst hw
 refine zB (zC ?_)
 refine qD rfl (yV rfl rfl) (qe (zA (zB ?_)))
 refine yA (p := ((j : Int) : Int) < (xs.length : Int)) rfl rfl (fun f => ?_) (fun f => ?_)
 refine wp_skip (zA (zB ?_))
 refine zX (zB (zC ?_))
 refine qM (.int .i64 (j : Int)) ?_
 refine qM (.int .i64 (j : Int)) ?_
 refine qe (zA (zB (zC ?_)))
 refine qM (.bool p) ?_
 refine qM v ?_
 refine qM (.int .i64 (j : Int)) ?_
 refine qD rfl (zF Tryz.underlying60 sz4 (v := v) rfl rfl hv (by omega) (by omega)) (qD rfl (qC (r := xs.getD j false) rfl ag4 (z := (j : Int)) rfl hv c.pins (by omega) (by omega)) (qD rfl (r_eqlB Tryz.underlying4 rfl rfl) (qe (zA ?_))))
 refine c_if rfl rfl (fun a => ?_) (fun a => ?_)
 refine zB (zC ?_)
 refine qM (.int .i64 (j : Int)) ?_
 refine qM (.int .i64 (j : Int)) ?_
 refine qe (zA ?_)
 exact wp_ret (zO (zP (v := (.int .i64 (j : Int))) rfl rfl rfl (⟨congrArg (fun z => Ending.returned (Value.int .i64 z)) ((hr.trans (idx_hit (by omega) a)).symm), rfl⟩)))
 refine wp_skip (yB (zA (zC ?_)))
 refine qD rfl (yJ rfl rfl (by omega)) (qM (.int .i64 ((j : Int) + 1)) ?_)
 refine qe (zZ (⟨_, ?_, _, rfl, _, j + 1, (pS 8 (pS 7 (pS 1 (pU 0)))), rfl, c, (by omega), rfl, (hr.trans (idx_next (by omega) a))⟩))
 omega
 refine wp_exit (zW (yO (yI (zA (zB (zC ?_))))))
 refine qM (.int .i64 (-1)) ?_
 refine qe (zA ?_)
 exact wp_ret (zO (zP (v := (.int .i64 (-1))) rfl rfl rfl (⟨congrArg (fun z => Ending.returned (Value.int .i64 z)) ((hr.trans (idx_end (by omega))).symm), rfl⟩)))

theorem slContains_spec {w : World} {G : Pin} {v : Value} {xs : List Bool} {p : Bool} (hP : Pins G w) (hv : RSl eBool G v xs) :
  Calls Tryz.prog 64 [v, (.bool p)].toArray w fun e w' => e = .returned (.bool (decide ((0 : Int) ≤ idxB xs p))) ∧ w' = w := by
 refine zV (n := 9) Tryz.func64 Tryz.ntmps64 rfl rfl ?_
 have hX0 : Ext noS G w G w := Ext.refl hP
 refine zB (zC ?_)
 refine qM (.bool false) ?_
 refine qe (zA (zB (zC ?_)))
 refine qM v ?_
 refine qM (.bool p) ?_
 refine qI rfl (zH (vs := [v, (.bool p)]) Tryz.func90 nm90 rfl rfl rfl ?_)
 refine Calls.mono (slIndexB_spec hX0.pins hv) ?_
 rintro _ _ ⟨rfl, rfl⟩
 refine ⟨_, rfl, ?_⟩
 refine qD rfl (r_geq rfl rfl) (qM (.bool (decide ((0 : Int) ≤ (idxB xs p)))) ?_)
 refine qe (zA ?_)
 exact wp_ret (zO (zP (v := (.bool (decide ((0 : Int) ≤ (idxB xs p))))) rfl rfl rfl (⟨rfl, rfl⟩)))

theorem births_spec {w : World} {G : Pin} {v : Value} {ns : List Nd} (hP : Pins G w) (hv : RSl eNode G v ns) (ho : OptsOk ns) (hs : ns.length ≤ 1048576) :
  Calls Tryz.prog 60 [v].toArray w fun e w' => ∃ (u : Value) (G' : Pin), e = .returned u ∧ Own eInt 3 G' w' w.heap.size u (births ns) ∧ Ext noS G w G' w' := by
 refine zV (n := 64) Tryz.func60 Tryz.ntmps60 rfl rfl ?_
 have ao : Ext noS G w G w := Ext.refl hP
 refine zB (zC ?_)
 refine qM (.slice none 0 0) ?_
 refine qe (zA (zB (zC ?_)))
 refine qM v ?_
 refine qD rfl (zM Tryz.underlying30 (v := v) rfl hv) (qI rfl (o_make (E := eInt) 0 8 (vJ 0) Tryz.underlying56 mk3 (fun _ => rfl) rfl rfl ao.pins (by omega) (by omega) (by omega) (fun a w2 bb bc bd b9 => ?_)))
 have be := ao.step bc bd
 have bf : Own eInt 3 G w2 w.heap.size a (List.replicate ns.length 0) := bb.weaken ao.size
 have ca : (List.replicate ns.length 0).length = ns.length := List.length_replicate ..
 refine qM a ?_
 refine qe (zA (zB (zB (zC ?_))))
 refine qM v ?_
 refine qD rfl (zM Tryz.underlying30 (v := v) rfl hv) (qM (vJ 0) ?_)
 refine qe (zA ?_)
 refine zX (yT (fun (k : Nat) (en : Nat → Value) (W : World) => ∃ (o : Nat → Value) (j : Nat) (b : List Int) (af : Pin), en = (upd (upd (upd (upd (upd o 2 (.slice none 0 0)) 3 a) 13 v) 14 (vJ (ns.length : Int))) 15 (vJ (j : Int))) ∧ k = ns.length - j ∧ Ext noS G w af W ∧ Pin.le G af ∧ (j ≤ ns.length) ∧ (b.length = ns.length) ∧ (BOk b) ∧ (births ns = bgo j (ns.drop j) b) ∧ (Own eInt 3 af W w.heap.size a (b))) _ ⟨_, 0, List.replicate ns.length 0, G, (pS 15 (pS 14 (pS 13 (pS 3 (pU 2))))), rfl, be, Pin.le_refl _, Nat.zero_le _, (by simp), (BOk.replicate _), rfl, bf⟩ ?_)
 rintro cb _ cc ⟨o, j, b, af, rfl, cd, y, ag, hj, hnb, hkb, hr, ap⟩
 refine zB (zC ?_)
 refine qD rfl (yV rfl rfl) (qe (zA (zB ?_)))
 refine yA (p := ((j : Int) : Int) < (ns.length : Int)) rfl rfl (fun bg => ?_) (fun bg => ?_)
 refine wp_skip (zA (zB ?_))
 refine zX (zB (zC ?_))
 refine qM (vJ (j : Int)) ?_
 refine qD rfl (zF Tryz.underlying30 sz65 (v := v) rfl rfl hv (by omega) (by omega)) ?_
 obtain ⟨q, s, aa, ab, bh⟩ := jB (hv.at (z := (j : Int)) (by omega) (by omega)) (j := j) rfl
 have ce := aa.max
 have cf := ab.max
 refine qD rfl (bh ag65 sz65 rfl (Pins.of_le y.pins ag)) (qI rfl (yM [(.slice none 0 0), (.slice none 0 0)] zr65 rfl y.pins (fun aq cg bi bj bk av => ?_)))
 have aw := y.step bk av
 have bl := ap.below av
 have ax : Apart (some aq) a.ownBlock := zI (congrArg some bi) ap.lt
 have ay : w.heap.size ≤ aq := by have := y.size; omega
 refine qM (vJ (j : Int)) ?_
 refine q0 rfl rfl rfl (yF (cs' := [q, s]) (us := [q, s]) (v := (.agg [q, s].toArray)) sz65 rfl rfl rfl (yK aa.one ab.one) aw.pins bj (Nat.le_of_ble_eq_true rfl) rfl (fun ch bm bn az ci => ?_))
 have bo := aw.write bn az ((zS ay))
 have bp := bl.keptA az ax.symm
 obtain ⟨t, ah, a0, a1, bq⟩ := bm.shut bo ay
 have br := bp.moreA ah bq ax.symm
 refine qe (zA (zB (zB (zC ?_))))
 refine qD rfl (zK (k := 0) rfl Tryz.underlying65 rfl nz56 rfl) (qD rfl (zL (u := q) ag56 rfl (a0.pins _ _ _ (a1 0 _ rfl))) (qD rfl (zM Tryz.underlying56 (v := q) rfl aa) (qM (vJ 0) ?_)))
 refine qe (zA ?_)
 refine zX (yT (fun (k : Nat) (en : Nat → Value) (W : World) => ∃ (o : Nat → Value) (i : Nat) (d : List Int), en = (upd (upd (upd (upd (upd (upd (upd (upd (upd (upd o 2 (.slice none 0 0)) 3 a) 4 (vJ (j : Int))) 5 (.pointer (some ⟨aq, 0, none⟩))) 13 v) 14 (vJ (ns.length : Int))) 15 (vJ (j : Int))) 21 q) 22 (vJ (((ns.getD j default).l).length : Int))) 23 (vJ (i : Int))) ∧ k = (ns.getD j default).l.length - i ∧ Ext noS G w t W ∧ (i ≤ (ns.getD j default).l.length) ∧ (d.length = ns.length) ∧ (BOk d) ∧ (brow j b (ns.getD j default).l = brow j d ((ns.getD j default).l.drop i)) ∧ (Own eInt 3 t W w.heap.size a (d))) _ ⟨_, 0, b, (pS 23 (pS 22 (pS 21 (pS 15 (pS 14 (pS 13 (pS 5 (pS 4 (pS 3 (pU 2)))))))))), rfl, a0, Nat.zero_le _, hnb, hkb, rfl, br⟩ ?_)
 rintro cj _ ai ⟨o, i, d, rfl, ck, x, hii, a2, aj, a3, ar⟩
 refine zB (zC ?_)
 refine qD rfl (yV rfl rfl) (qe (zA (zB ?_)))
 refine yA (p := ((i : Int) : Int) < (((ns.getD j default).l).length : Int)) rfl rfl (fun bs => ?_) (fun bs => ?_)
 have hk := ho.left (j := j) (i := i) (by omega) (by omega)
 have hbj := aj j
 have hbk := aj ((ns.getD j default).l.getD i 0).toNat
 refine wp_skip (zA (zB ?_))
 refine zX (zB (zC ?_))
 refine qD rfl (zF Tryz.underlying56 sz3 (v := q) rfl rfl aa (by omega) (by omega)) (qD rfl (zE (r := ((ns.getD j default).l).getD i 0) rfl ag3 (z := (i : Int)) rfl aa (Pins.of_le x.pins (Pin.le_trans ag ah)) (by omega) (by omega)) (qM (vJ (((ns.getD j default).l).getD i 0)) ?_))
 refine qe (zA ?_)
 have bt := Gadd.pins x.pins a
 have ac := ar.read
 refine yZ (S := fun wz => Pins (Gadd t ai a) wz) (last := 13) (by kernel_rfl) rfl ?_
 have ak : Below ai.heap.size ai ai.drew := (Below.refl _ _).drew
 have bu := x.pins.below ak
 have a4 := x.step bu ak
 have a5 := ar.below ak
 have f := bt.below ak
 refine dM 0 a f ?_
 refine dM 1 (vJ (j : Int)) f ?_
 refine dM 2 a f ?_
 refine dM 3 (vJ (j : Int)) f ?_
 refine dT (i := 4) rfl rfl (by kernel_rfl) (fun _ _ => zF Tryz.underlying56 sz3 (v := a) rfl rfl ac (by omega) (by omega)) f ?_
 refine dT (i := 5) rfl rfl (by kernel_rfl) (fun _ hS => zE (r := d.getD j 0) rfl ag3 (z := (j : Int)) rfl ac hS (by omega) (by omega)) f ?_
 refine dM 6 a f ?_
 refine dM 7 (vJ (((ns.getD j default).l).getD i 0)) f ?_
 refine dT (i := 8) rfl rfl (by kernel_rfl) (fun _ _ => zF Tryz.underlying56 sz3 (v := a) rfl rfl ac (by omega) (by omega)) f ?_
 refine dT (i := 9) rfl rfl (by kernel_rfl) (fun _ hS => zE (r := d.getD (((ns.getD j default).l).getD i 0).toNat 0) rfl ag3 (z := (((ns.getD j default).l).getD i 0)) rfl ac hS (by omega) (by omega)) f ?_
 refine dT (i := 10) rfl rfl (by kernel_rfl) (fun _ _ => yJ rfl rfl (by omega)) f ?_
 refine dT (i := 11) rfl rfl (by kernel_rfl) (fun _ _ => r_max rfl rfl) f ?_
 refine dT (i := 12) rfl rfl (by kernel_rfl) (fun _ _ => zF Tryz.underlying56 sz3 (v := a) rfl rfl ac (by omega) (by omega)) f ?_
 refine dO (i := 13) (qB (i := 13) rfl rfl rfl (zD rfl _) (o_set (E := eInt) (v := a) (u := (vJ (max (d.getD j 0) ((d.getD (((ns.getD j default).l).getD i 0).toNat 0) + 1)))) (z := (j : Int)) (max (d.getD j 0) ((d.getD (((ns.getD j default).l).getD i 0).toNat 0) + 1)) sz3 rfl rfl rfl rfl a4.pins a5 (by omega) (by omega) (fun cl bv bw bx cm => ?_)))
 have bz := a4.write bw bx ((yN a5))
 refine ⟨fun h => absurd rfl h, ?_⟩
 refine yQ (by kernel_rfl) (yB (zA (zC ?_)))
 refine qD rfl (yJ rfl rfl (by omega)) (qM (vJ ((i : Int) + 1)) ?_)
 refine qe (zZ (⟨_, ?_, _, rfl, _, i + 1, bmax j d ((ns.getD j default).l.getD i 0), (pS 23 (pS 22 (pS 21 (pS 15 (pS 14 (pS 13 (pS 5 (pS 4 (pS 3 (pU 2)))))))))), rfl, bz, (by omega), ((bmax_length _ _ _).trans a2), (aj.max hk.1 hk.2), (a3.trans (brow_next (by omega))), bv⟩))
 omega
 refine wp_exit (zW (yO (yI (zA (zB (zC ?_))))))
 refine qD rfl (zK (k := 1) rfl Tryz.underlying65 rfl nz56 rfl) (qD rfl (zL (u := s) ag56 rfl (x.pins _ _ _ (a1 1 _ rfl))) (qD rfl (zM Tryz.underlying56 (v := s) rfl ab) (qM (vJ 0) ?_)))
 refine qe (zA ?_)
 refine zX (yT (fun (k : Nat) (en : Nat → Value) (W : World) => ∃ (o : Nat → Value) (c : Nat) (g : List Int), en = (upd (upd (upd (upd (upd (upd (upd (upd (upd o 2 (.slice none 0 0)) 3 a) 4 (vJ (j : Int))) 13 v) 14 (vJ (ns.length : Int))) 15 (vJ (j : Int))) 42 s) 43 (vJ (((ns.getD j default).r).length : Int))) 44 (vJ (c : Int))) ∧ k = (ns.getD j default).r.length - c ∧ Ext noS G w t W ∧ (c ≤ (ns.getD j default).r.length) ∧ (g.length = ns.length) ∧ (BOk g) ∧ (brow j d (ns.getD j default).r = brow j g ((ns.getD j default).r.drop c)) ∧ (Own eInt 3 t W w.heap.size a (g))) _ ⟨_, 0, d, (pS 44 (pS 43 (pS 42 (pS 15 (pS 14 (pS 13 (pS 4 (pS 3 (pU 2))))))))), rfl, x, Nat.zero_le _, a2, aj, rfl, ar⟩ ?_)
 rintro cn _ al ⟨o, c, g, rfl, co, ad, cp, a6, am, a7, au⟩
 refine zB (zC ?_)
 refine qD rfl (yV rfl rfl) (qe (zA (zB ?_)))
 refine yA (p := ((c : Int) : Int) < (((ns.getD j default).r).length : Int)) rfl rfl (fun b0 => ?_) (fun b0 => ?_)
 have hk := ho.right (j := j) (i := c) (by omega) (by omega)
 have hbj := am j
 have hbk := am ((ns.getD j default).r.getD c 0).toNat
 refine wp_skip (zA (zB ?_))
 refine zX (zB (zC ?_))
 refine qD rfl (zF Tryz.underlying56 sz3 (v := s) rfl rfl ab (by omega) (by omega)) (qD rfl (zE (r := ((ns.getD j default).r).getD c 0) rfl ag3 (z := (c : Int)) rfl ab (Pins.of_le ad.pins (Pin.le_trans ag ah)) (by omega) (by omega)) (qM (vJ (((ns.getD j default).r).getD c 0)) ?_))
 refine qe (zA ?_)
 have b1 := Gadd.pins ad.pins a
 have ae := au.read
 refine yZ (S := fun wz => Pins (Gadd t al a) wz) (last := 13) (by kernel_rfl) rfl ?_
 have an : Below al.heap.size al al.drew := (Below.refl _ _).drew
 have b4 := ad.pins.below an
 have a8 := ad.step b4 an
 have a9 := au.below an
 have m := b1.below an
 refine dM 0 a m ?_
 refine dM 1 (vJ (j : Int)) m ?_
 refine dM 2 a m ?_
 refine dM 3 (vJ (j : Int)) m ?_
 refine dT (i := 4) rfl rfl (by kernel_rfl) (fun _ _ => zF Tryz.underlying56 sz3 (v := a) rfl rfl ae (by omega) (by omega)) m ?_
 refine dT (i := 5) rfl rfl (by kernel_rfl) (fun _ hS => zE (r := g.getD j 0) rfl ag3 (z := (j : Int)) rfl ae hS (by omega) (by omega)) m ?_
 refine dM 6 a m ?_
 refine dM 7 (vJ (((ns.getD j default).r).getD c 0)) m ?_
 refine dT (i := 8) rfl rfl (by kernel_rfl) (fun _ _ => zF Tryz.underlying56 sz3 (v := a) rfl rfl ae (by omega) (by omega)) m ?_
 refine dT (i := 9) rfl rfl (by kernel_rfl) (fun _ hS => zE (r := g.getD (((ns.getD j default).r).getD c 0).toNat 0) rfl ag3 (z := (((ns.getD j default).r).getD c 0)) rfl ae hS (by omega) (by omega)) m ?_
 refine dT (i := 10) rfl rfl (by kernel_rfl) (fun _ _ => yJ rfl rfl (by omega)) m ?_
 refine dT (i := 11) rfl rfl (by kernel_rfl) (fun _ _ => r_max rfl rfl) m ?_
 refine dT (i := 12) rfl rfl (by kernel_rfl) (fun _ _ => zF Tryz.underlying56 sz3 (v := a) rfl rfl ae (by omega) (by omega)) m ?_
 refine dO (i := 13) (qB (i := 13) rfl rfl rfl (zD rfl _) (o_set (E := eInt) (v := a) (u := (vJ (max (g.getD j 0) ((g.getD (((ns.getD j default).r).getD c 0).toNat 0) + 1)))) (z := (j : Int)) (max (g.getD j 0) ((g.getD (((ns.getD j default).r).getD c 0).toNat 0) + 1)) sz3 rfl rfl rfl rfl a8.pins a9 (by omega) (by omega) (fun cq b5 b6 b7 cr => ?_)))
 have b8 := a8.write b6 b7 ((yN a9))
 refine ⟨fun h => absurd rfl h, ?_⟩
 refine yQ (by kernel_rfl) (yB (zA (zC ?_)))
 refine qD rfl (yJ rfl rfl (by omega)) (qM (vJ ((c : Int) + 1)) ?_)
 refine qe (zZ (⟨_, ?_, _, rfl, _, c + 1, bmax j g ((ns.getD j default).r.getD c 0), (pS 44 (pS 43 (pS 42 (pS 15 (pS 14 (pS 13 (pS 4 (pS 3 (pU 2))))))))), rfl, b8, (by omega), ((bmax_length _ _ _).trans a6), (am.max hk.1 hk.2), (a7.trans (brow_next (by omega))), b5⟩))
 omega
 refine wp_exit (zW (yO (yI (yB (zA (zC ?_))))))
 refine qD rfl (yJ rfl rfl (by omega)) (qM (vJ ((j : Int) + 1)) ?_)
 refine qe (zZ (⟨_, ?_, _, rfl, _, j + 1, g, t, (pS 15 (pS 14 (pS 13 (pS 3 (pU 2))))), rfl, ad, (Pin.le_trans ag ah), (by omega), a6, am, (hr.trans ((bgo_next (by omega)).trans (by rw [a3, brow_end (by omega), a7, brow_end (by omega)]))), au⟩))
 omega
 refine wp_exit (zW (yO (yI (zA (zB (zC ?_))))))
 refine qM a ?_
 refine qM a ?_
 refine qe (zA ?_)
 exact wp_ret (zO (zP (v := a) rfl rfl rfl (⟨_, _, rfl, (by rw [hr, bgo_end (by omega)]; exact ap), y⟩)))

theorem used_spec {w : World} {G : Pin} {v : Value} {ns : List Nd} {m : Int} (hP : Pins G w) (hv : RSl eNode G v ns) (ho : OptsOk ns) (hs : (0 ≤ m ∧ m < ns.length) ∧ ns.length ≤ 1048576) :
  Calls Tryz.prog 65 [v, (vJ m)].toArray w fun e w' => ∃ (u : Value) (G' : Pin), e = .returned u ∧ Own eBool 4 G' w' w.heap.size u (usedM ns m.toNat) ∧ Ext noS G w G' w' := by
 refine zV (n := 56) Tryz.func65 Tryz.ntmps65 rfl rfl ?_
 have ab : Ext noS G w G w := Ext.refl hP
 refine zB (zC ?_)
 refine qM (.slice none 0 0) ?_
 refine qe (zA (zB (zC ?_)))
 refine qM v ?_
 refine qD rfl (zM Tryz.underlying30 (v := v) rfl hv) (qI rfl (o_make (E := eBool) false 1 (.bool false) Tryz.underlying60 mk4 (fun _ => rfl) rfl rfl ab.pins (by omega) (by omega) (by omega) (fun a w2 am an ao a8 => ?_)))
 have ag := ab.step an ao
 have ac : Own eBool 4 G w2 w.heap.size a (List.replicate ns.length false) := am.weaken ab.size
 have a9 : (List.replicate ns.length false).length = ns.length := List.length_replicate ..
 refine qM a ?_
 refine qe (zA (zB (zC ?_)))
 refine qM a ?_
 refine qM (vJ m) ?_
 refine qD rfl (zF Tryz.underlying60 sz4 (v := a) rfl rfl ac.read (by omega) (by omega)) (q0 rfl rfl rfl (o_set (E := eBool) (v := a) (u := (.bool true)) (z := m) (true) sz4 rfl rfl rfl rfl ag.pins ac (by omega) (by omega) (fun ba ap aq ar bb => ?_)))
 have au := ag.write aq ar ((yN ac))
 refine qe (zA (zB (zB (zC ?_))))
 refine qM (vJ m) ?_
 refine qM (vJ m) ?_
 refine qe (zA ?_)
 refine zX (yT (fun (k : Nat) (en : Nat → Value) (W : World) => ∃ (d : Nat → Value) (z : Int) (b : List Bool), en = (upd (upd (upd (upd d 0 v) 4 (.slice none 0 0)) 5 a) 6 (vJ z)) ∧ k = (z + 1).toNat ∧ Ext noS G w G W ∧ (-1 ≤ z ∧ z ≤ m) ∧ (b.length = ns.length) ∧ (usedM ns m.toNat = ugo ns (z + 1).toNat b) ∧ (Own eBool 4 G W w.heap.size a (b))) _ ⟨_, m, (List.replicate ns.length false).set m.toNat true, (pS 6 (pS 5 (pS 4 (pU 0)))), rfl, au, (by omega), (by simp), (by rw [show (m + 1).toNat = m.toNat + 1 by omega]; rfl), ap⟩ ?_)
 rintro bc _ bd ⟨d, z, b, rfl, be, h, hz, hnb, hr, o⟩
 refine zB (zB (zC ?_))
 refine qM (vJ z) ?_
 refine qD rfl (r_geq rfl rfl) (qe (zA ?_))
 refine yA (p := (0 : Int) ≤ z) rfl rfl (fun av => ?_) (fun av => ?_)
 refine wp_skip (zA (zB ?_))
 refine zX (zB (zB (zC ?_)))
 refine qM a ?_
 refine qM (vJ z) ?_
 refine qD rfl (zF Tryz.underlying60 sz4 (v := a) rfl rfl o.read (by omega) (by omega)) (qD rfl (qC (r := b.getD (z).toNat false) rfl ag4 (z := z) rfl o.read (Gadd.pins h.pins a) (by omega) (by omega)) (qD rfl (xE rfl) (qe (zA ?_))))
 refine xX rfl rfl (fun ad => ?_) (fun ad => ?_)
 refine wp_skip (zA (zB (zB (zC ?_))))
 refine qM v ?_
 refine qM (vJ z) ?_
 refine qD rfl (zF Tryz.underlying30 sz65 (v := v) rfl rfl hv (by omega) (by omega)) (qD rfl (xI (off := 0) Tryz.underlying65 rfl rfl nz56 (z := z) (k := 0) rfl hv (by omega) (by omega)) ?_)
 obtain ⟨ae, s, aw⟩ := nm_nl (hv.at (z := z) (by omega) (by omega)) (j := (z).toNat) rfl
 have bf := s.max
 refine qD rfl (aw ag56 rfl h.pins) (qD rfl (zM Tryz.underlying56 (v := ae) rfl s) (qM (vJ 0) ?_))
 refine qe (zA ?_)
 refine zX (yT (fun (k : Nat) (en : Nat → Value) (W : World) => ∃ (d : Nat → Value) (i : Nat) (f : List Bool), en = (upd (upd (upd (upd (upd (upd (upd d 0 v) 4 (.slice none 0 0)) 5 a) 6 (vJ z)) 31 ae) 32 (vJ (((ns.getD (z).toNat default).l).length : Int))) 33 (vJ (i : Int))) ∧ k = (ns.getD (z).toNat default).l.length - i ∧ Ext noS G w G W ∧ (i ≤ (ns.getD (z).toNat default).l.length) ∧ (f.length = ns.length) ∧ (setAll b (ns.getD (z).toNat default).l = setAll f ((ns.getD (z).toNat default).l.drop i)) ∧ (Own eBool 4 G W w.heap.size a (f))) _ ⟨_, 0, b, (pS 33 (pS 32 (pS 31 (pS 6 (pS 5 (pS 4 (pU 0))))))), rfl, h, Nat.zero_le _, hnb, rfl, o⟩ ?_)
 rintro bg _ bh ⟨d, i, f, rfl, bi, q, hii, ah, ai, t⟩
 refine zB (zC ?_)
 refine qD rfl (yV rfl rfl) (qe (zA (zB ?_)))
 refine yA (p := ((i : Int) : Int) < (((ns.getD (z).toNat default).l).length : Int)) rfl rfl (fun ax => ?_) (fun ax => ?_)
 have hk := ho.left (j := (z).toNat) (i := i) (by omega) (by omega)
 refine wp_skip (zA (zB ?_))
 refine zX (zB (zC ?_))
 refine qD rfl (zF Tryz.underlying56 sz3 (v := ae) rfl rfl s (by omega) (by omega)) (qD rfl (zE (r := ((ns.getD (z).toNat default).l).getD i 0) rfl ag3 (z := (i : Int)) rfl s q.pins (by omega) (by omega)) (qM (vJ (((ns.getD (z).toNat default).l).getD i 0)) ?_))
 refine qe (zA (zC ?_))
 refine qM a ?_
 refine qM (vJ (((ns.getD (z).toNat default).l).getD i 0)) ?_
 refine qD rfl (zF Tryz.underlying60 sz4 (v := a) rfl rfl t.read (by omega) (by omega)) (q0 rfl rfl rfl (o_set (E := eBool) (v := a) (u := (.bool true)) (z := (((ns.getD (z).toNat default).l).getD i 0)) (true) sz4 rfl rfl rfl rfl q.pins t (by omega) (by omega) (fun bj ay az a0 bk => ?_)))
 have a1 := q.write az a0 ((yN t))
 refine qe (yB (zA (zC ?_)))
 refine qD rfl (yJ rfl rfl (by omega)) (qM (vJ ((i : Int) + 1)) ?_)
 refine qe (zZ (⟨_, ?_, _, rfl, _, i + 1, f.set ((ns.getD (z).toNat default).l.getD i 0).toNat true, (pS 33 (pS 32 (pS 31 (pS 6 (pS 5 (pS 4 (pU 0))))))), rfl, a1, (by omega), ((List.length_set ..).trans ah), (ai.trans (setAll_next (by omega))), ay⟩))
 omega
 refine wp_exit (zW (yO (yI (zA (zB (zC ?_))))))
 refine qM v ?_
 refine qM (vJ z) ?_
 refine qD rfl (zF Tryz.underlying30 sz65 (v := v) rfl rfl hv (by omega) (by omega)) (qD rfl (xI (off := 1) Tryz.underlying65 rfl rfl nz56 (z := z) (k := 0) rfl hv (by omega) (by omega)) ?_)
 obtain ⟨af, x, a2⟩ := nm_nr (hv.at (z := z) (by omega) (by omega)) (j := (z).toNat) rfl
 have bl := x.max
 refine qD rfl (a2 ag56 rfl q.pins) (qD rfl (zM Tryz.underlying56 (v := af) rfl x) (qM (vJ 0) ?_))
 refine qe (zA ?_)
 refine zX (yT (fun (k : Nat) (en : Nat → Value) (W : World) => ∃ (d : Nat → Value) (c : Nat) (g : List Bool), en = (upd (upd (upd (upd (upd (upd (upd d 0 v) 4 (.slice none 0 0)) 5 a) 6 (vJ z)) 45 af) 46 (vJ (((ns.getD (z).toNat default).r).length : Int))) 47 (vJ (c : Int))) ∧ k = (ns.getD (z).toNat default).r.length - c ∧ Ext noS G w G W ∧ (c ≤ (ns.getD (z).toNat default).r.length) ∧ (g.length = ns.length) ∧ (setAll f (ns.getD (z).toNat default).r = setAll g ((ns.getD (z).toNat default).r.drop c)) ∧ (Own eBool 4 G W w.heap.size a (g))) _ ⟨_, 0, f, (pS 47 (pS 46 (pS 45 (pS 6 (pS 5 (pS 4 (pU 0))))))), rfl, q, Nat.zero_le _, ah, rfl, t⟩ ?_)
 rintro bm _ bn ⟨d, c, g, rfl, bo, y, bp, aj, ak, aa⟩
 refine zB (zC ?_)
 refine qD rfl (yV rfl rfl) (qe (zA (zB ?_)))
 refine yA (p := ((c : Int) : Int) < (((ns.getD (z).toNat default).r).length : Int)) rfl rfl (fun a3 => ?_) (fun a3 => ?_)
 have hk := ho.right (j := (z).toNat) (i := c) (by omega) (by omega)
 refine wp_skip (zA (zB ?_))
 refine zX (zB (zC ?_))
 refine qD rfl (zF Tryz.underlying56 sz3 (v := af) rfl rfl x (by omega) (by omega)) (qD rfl (zE (r := ((ns.getD (z).toNat default).r).getD c 0) rfl ag3 (z := (c : Int)) rfl x y.pins (by omega) (by omega)) (qM (vJ (((ns.getD (z).toNat default).r).getD c 0)) ?_))
 refine qe (zA (zC ?_))
 refine qM a ?_
 refine qM (vJ (((ns.getD (z).toNat default).r).getD c 0)) ?_
 refine qD rfl (zF Tryz.underlying60 sz4 (v := a) rfl rfl aa.read (by omega) (by omega)) (q0 rfl rfl rfl (o_set (E := eBool) (v := a) (u := (.bool true)) (z := (((ns.getD (z).toNat default).r).getD c 0)) (true) sz4 rfl rfl rfl rfl y.pins aa (by omega) (by omega) (fun bq a4 a5 a6 br => ?_)))
 have a7 := y.write a5 a6 ((yN aa))
 refine qe (yB (zA (zC ?_)))
 refine qD rfl (yJ rfl rfl (by omega)) (qM (vJ ((c : Int) + 1)) ?_)
 refine qe (zZ (⟨_, ?_, _, rfl, _, c + 1, g.set ((ns.getD (z).toNat default).r.getD c 0).toNat true, (pS 47 (pS 46 (pS 45 (pS 6 (pS 5 (pS 4 (pU 0))))))), rfl, a7, (by omega), ((List.length_set ..).trans aj), (ak.trans (setAll_next (by omega))), a4⟩))
 omega
 refine wp_exit (zW (yO (yI (yB (zA (zC ?_))))))
 refine qM (vJ z) ?_
 refine qD rfl (qE rfl rfl (by omega)) (qM (vJ (z - 1)) ?_)
 refine qe (zZ (⟨_, ?_, _, rfl, _, z - 1, g, (pS 6 (pS 5 (pS 4 (pU 0)))), rfl, y, (by omega), aj, (hr.trans ((ugo_step (by omega)).trans (by rw [ustep_yes ad, ai, setAll_end (by omega), ak, setAll_end (by omega)]))), aa⟩))
 omega
 refine wp_exit (zW (yI (zA (zC ?_))))
 refine qM (vJ z) ?_
 refine qD rfl (qE rfl rfl (by omega)) (qM (vJ (z - 1)) ?_)
 refine qe (zZ (⟨_, ?_, _, rfl, _, z - 1, b, (pS 6 (pS 5 (pS 4 (pU 0)))), rfl, h, (by omega), hnb, (hr.trans ((ugo_step (by omega)).trans (by rw [ustep_no ad]))), o⟩))
 omega
 refine wp_exit (zW (yO (yI (zA (zB (zC ?_))))))
 refine qM a ?_
 refine qM a ?_
 refine qe (zA ?_)
 exact wp_ret (zO (zP (v := a) rfl rfl rfl (⟨_, _, rfl, (by rw [hr, ugo_end (by omega)]; exact o), h⟩)))

theorem goodForm_spec {w : World} {G : Pin} {v : Value} {ns : List Nd} (hP : Pins G w) (hv : RSl eNode G v ns) :
  Calls Tryz.prog 38 [(.agg [v].toArray)].toArray w fun e w' => ∃ G', e = .returned (.bool (goodB ns)) ∧ Ext noS G w G' w' := by
 refine zV (n := 93) Tryz.func38 Tryz.ntmps38 rfl rfl ?_
 have a6 : Ext noS G w G w := Ext.refl hP
 have hm := hv.max
 refine zB (zC ?_)
 refine qI rfl (xG [v] (v := (.agg [v].toArray)) rfl rfl a6.pins (fun b1 w2 e4 ck cl cm => ?_))
 have cn := a6.step cl cm
 have co : w.heap.size ≤ b1 := by have := a6.size; omega
 obtain ⟨G9, s, aj, y, e5⟩ := ck.shut cn co
 refine qM (.bool false) ?_
 refine qe (zA (zB (zB (zC ?_))))
 refine qD rfl (zK (k := 0) rfl Tryz.underlying32 rfl nz30 rfl) (qD rfl (zL (u := v) ag30 rfl (aj.pins _ _ _ (y 0 _ rfl))) (qD rfl (zM Tryz.underlying30 (v := v) rfl hv) (qD rfl (yV rfl rfl) (qM (.bool (decide (((ns.length : Int) : Int) < 1))) ?_))))
 refine qbd (p := ((ns.length : Int) : Int) < 1) (t := 13) rfl (fun cp => ?_) (fun cp => ?_)
 refine qW ?_
 refine qW ?_
 refine qW ?_
 refine qW ?_
 refine qD rfl (yD (v := (.bool true)) rfl rfl) (qe (zA ?_))
 refine xY rfl rfl (zB (zC ?_))
 refine qM (.bool false) ?_
 refine qe (zA ?_)
 exact wp_ret (zO (zP (v := (.bool false)) rfl rfl rfl (⟨_, congrArg (fun z => Ending.returned (Value.bool z)) (goodB_false.2 (fun g => by have := g.lo; omega)).symm, aj⟩)))
 refine qN (zK (k := 0) rfl Tryz.underlying32 rfl nz30 rfl) ?_
 refine qN (zL (u := v) ag30 rfl (aj.pins _ _ _ (y 0 _ rfl))) ?_
 refine qN (zM Tryz.underlying30 (v := v) rfl hv) ?_
 refine qN (r_gtr rfl rfl) ?_
 refine qD rfl (zY (v := (.bool (decide ((120 : Int) < (ns.length : Int))))) rfl rfl) (qe (zA ?_))
 refine yA (p := (120 : Int) < (ns.length : Int)) rfl rfl (fun cq => ?_) (fun cq => ?_)
 refine zB (zC ?_)
 refine qM (.bool false) ?_
 refine qe (zA ?_)
 exact wp_ret (zO (zP (v := (.bool false)) rfl rfl rfl (⟨_, congrArg (fun z => Ending.returned (Value.bool z)) (goodB_false.2 (fun g => by have := g.hi; omega)).symm, aj⟩)))
 refine wp_skip (zA (zB (zB (zC ?_))))
 refine qD rfl (zK (k := 0) rfl Tryz.underlying32 rfl nz30 rfl) (qD rfl (zL (u := v) ag30 rfl (aj.pins _ _ _ (y 0 _ rfl))) (qD rfl (zM Tryz.underlying30 (v := v) rfl hv) (qM (vJ 0) ?_)))
 refine qe (zA ?_)
 refine zX (yT (fun (k : Nat) (en : Nat → Value) (W : World) => ∃ (aa : Nat → Value) (j : Nat) (a7 : Pin), en = (upd (upd (upd (upd aa 1 (.pointer (some ⟨b1, 0, none⟩))) 20 v) 21 (vJ (ns.length : Int))) 22 (vJ (j : Int))) ∧ k = ns.length - j ∧ Ext noS G w a7 W ∧ Pin.le G9 a7 ∧ (j ≤ ns.length) ∧ (∀ i, i < j → goodOpts (ns.getD i default).l i = true ∧ goodOpts (ns.getD i default).r i = true)) _ ⟨_, 0, G9, (pS 22 (pS 21 (pS 20 (pU 1)))), rfl, aj, Pin.le_refl _, Nat.zero_le _, (fun i hi => absurd hi (Nat.not_lt_zero i))⟩ ?_)
 rintro e6 _ e7 ⟨aa, j, a7, rfl, e8, ab, d, hj, hg⟩
 refine zB (zC ?_)
 refine qD rfl (yV rfl rfl) (qe (zA (zB ?_)))
 refine yA (p := ((j : Int) : Int) < (ns.length : Int)) rfl rfl (fun cr => ?_) (fun cr => ?_)
 refine wp_skip (zA (zB ?_))
 refine zX (zB (zC ?_))
 refine qM (vJ (j : Int)) ?_
 refine qD rfl (zF Tryz.underlying30 sz65 (v := v) rfl rfl hv (by omega) (by omega)) ?_
 obtain ⟨ao, ap, a8, a9, cs⟩ := jB (hv.at (z := (j : Int)) (by omega) (by omega)) (j := j) rfl
 have e9 := a8.max
 have fa := a9.max
 refine qD rfl (cs ag65 sz65 rfl (Pins.of_le ab.pins (Pin.le_trans s d))) (qI rfl (yM [(.slice none 0 0), (.slice none 0 0)] zr65 rfl ab.pins (fun ct fb fc cu cv cw => ?_)))
 have bt := ab.step cv cw
 have bu : w.heap.size ≤ ct := by have := ab.size; omega
 refine qM (vJ (j : Int)) ?_
 refine q0 rfl rfl rfl (yF (cs' := [ao, ap]) (us := [ao, ap]) (v := (.agg [ao, ap].toArray)) sz65 rfl rfl rfl (yK a8.one a9.one) bt.pins cu (Nat.le_of_ble_eq_true rfl) rfl (fun fd cx cy cz fe => ?_))
 have c0 := bt.write cy cz ((zS bu))
 obtain ⟨c1, ba, ai, bv, ff⟩ := cx.shut c0 bu
 refine qe (zA (zB (zC ?_)))
 refine qD rfl (zK (k := 0) rfl Tryz.underlying65 rfl nz56 rfl) (qD rfl (zL (u := ao) ag56 rfl (ai.pins _ _ _ (bv 0 _ rfl))) (qM (vJ (j : Int)) ?_))
 refine qI rfl (zH (vs := [ao, (vJ (j : Int))]) Tryz.func59 nm59 rfl rfl rfl ?_)
 refine Calls.mono (goodOptions_spec ai.pins (a8.mono (Pin.le_trans (Pin.le_trans s d) ba))) ?_
 rintro _ _ ⟨rfl, rfl⟩
 refine ⟨_, rfl, ?_⟩
 refine qD rfl (xE rfl) (qM (.bool (!(goodOpts ((ns.getD j default).l) (j : Int)))) ?_)
 refine qbn (t := 32) rfl (fun bb => ?_) (fun bb => ?_)
 refine qN (zK (k := 1) rfl Tryz.underlying65 rfl nz56 rfl) ?_
 refine qN (zL (u := ap) ag56 rfl (ai.pins _ _ _ (bv 1 _ rfl))) ?_
 refine qN (zQ (v := (vJ (j : Int))) rfl) ?_
 refine q1g rfl rfl rfl rfl rfl rfl (zH (vs := [ap, (vJ (j : Int))]) Tryz.func59 nm59 rfl rfl rfl ?_)
 refine Calls.mono (goodOptions_spec ai.pins (a9.mono (Pin.le_trans (Pin.le_trans s d) ba))) ?_
 rintro _ _ ⟨rfl, rfl⟩
 refine ⟨_, rfl, ?_⟩
 refine qN (xE rfl) ?_
 refine qD rfl (zY (v := (.bool (!(goodOpts ((ns.getD j default).r) (j : Int))))) rfl rfl) (qe (zA ?_))
 refine xX rfl rfl (fun bc => ?_) (fun bc => ?_)
 refine wp_skip (yB (zA (zC ?_)))
 refine qD rfl (yJ rfl rfl (by omega)) (qM (vJ ((j : Int) + 1)) ?_)
 refine qe (zZ (⟨_, ?_, _, rfl, _, j + 1, c1, (pS 22 (pS 21 (pS 20 (pU 1)))), rfl, ai, (Pin.le_trans d ba), (by omega), (fun k hk => if h3 : k = j then h3 ▸ ⟨bb, bc⟩ else hg k (by omega))⟩))
 omega
 refine zB (zC ?_)
 refine qM (.bool false) ?_
 refine qe (zA ?_)
 exact wp_ret (zO (zP (v := (.bool false)) rfl rfl rfl (⟨_, congrArg (fun z => Ending.returned (Value.bool z)) (goodB_false.2 (fun g => by have := (g.opts j (by omega)).2; rw [bc] at this; cases this)).symm, ai⟩)))
 refine qW ?_
 refine qW ?_
 refine qW ?_
 refine qW ?_
 refine qW ?_
 refine qD rfl (yD (v := (.bool true)) rfl rfl) (qe (zA ?_))
 refine xY rfl rfl (zB (zC ?_))
 refine qM (.bool false) ?_
 refine qe (zA ?_)
 exact wp_ret (zO (zP (v := (.bool false)) rfl rfl rfl (⟨_, congrArg (fun z => Ending.returned (Value.bool z)) (goodB_false.2 (fun g => by have := (g.opts j (by omega)).1; rw [bb] at this; cases this)).symm, ai⟩)))
 refine wp_exit (zW (yO (yI (zA (zB (zC ?_))))))
 refine qD rfl (zK (k := 0) rfl Tryz.underlying32 rfl nz30 rfl) (qD rfl (zL (u := v) ag30 rfl ((Pins.of_le ab.pins d) _ _ _ (y 0 _ rfl))) ?_)
 have hopts : ∀ i, i < ns.length → goodOpts (ns.getD i default).l i = true ∧ goodOpts (ns.getD i default).r i = true := fun i hi => hg i (by omega)
 refine qI rfl (zH (vs := [v]) Tryz.func60 nm60 rfl rfl rfl ?_)
 refine Calls.mono (births_spec ab.pins (hv.mono (Pin.le_trans s d)) (opts_ok hopts) (by omega)) ?_
 rintro _ c2 ⟨ac, c3, rfl, c4, m⟩
 refine ⟨_, rfl, ?_⟩
 have c5 := ab.tr m
 have c6 : Own eInt 3 c3 c2 w.heap.size ac (births ns) := c4.weaken ab.size
 refine qM ac ?_
 refine qe (zA (zB (zB (zC ?_))))
 have hnb := births_length ns
 obtain ⟨bw, q, c7, a3, fg⟩ := c6.sealed c5
 refine qM (vJ 1) ?_
 refine qe (zA ?_)
 refine zX (yT (fun (k : Nat) (en : Nat → Value) (W : World) => ∃ (aa : Nat → Value) (i : Nat) (aq : Pin), en = (upd (upd (upd aa 1 (.pointer (some ⟨b1, 0, none⟩))) 5 ac) 6 (vJ (i : Int))) ∧ k = ns.length - i ∧ Ext noS G w aq W ∧ Pin.le bw aq ∧ (1 ≤ i ∧ i ≤ ns.length) ∧ (∀ k, 1 ≤ k → k < i → pairC ns (births ns) k < 0)) _ ⟨_, 1, bw, (pS 6 (pS 5 (pU 1))), rfl, c7, Pin.le_refl _, (by omega), (fun k a b => absurd a (by omega))⟩ ?_)
 rintro fh _ bd ⟨aa, i, aq, rfl, fi, ad, f, hi, hsr⟩
 refine zB (zB (zC ?_))
 refine qM (vJ (i : Int)) ?_
 refine qD rfl (zK (k := 0) rfl Tryz.underlying32 rfl nz30 rfl) (qD rfl (zL (u := v) ag30 rfl ((Pins.of_le ad.pins (Pin.le_trans (Pin.le_trans (Pin.le_trans d m.le) q) f)) _ _ _ (y 0 _ rfl))) (qD rfl (zM Tryz.underlying30 (v := v) rfl hv) (qD rfl (yV rfl rfl) (qe (zA ?_)))))
 refine yA (p := ((i : Int) : Int) < (ns.length : Int)) rfl rfl (fun c8 => ?_) (fun c8 => ?_)
 refine wp_skip (zA (zB ?_))
 refine zX (zB (c_cut (fun (en : Nat → Value) (W : World) => ∃ (aa : Nat → Value) (be : Nat) (ar : Value) (au : Value) (bf : Nat) (av : Value) (aw : Value) (x : Pin), en = (upd (upd (upd (upd (upd aa 1 (.pointer (some ⟨b1, 0, none⟩))) 5 ac) 6 (vJ (i : Int))) 7 (.pointer (some ⟨be, 0, none⟩))) 8 (.pointer (some ⟨bf, 0, none⟩))) ∧ Ext noS G w x W ∧ Pin.le aq x ∧ (RSl eInt x ar ((ns.getD ((i : Int) - 1).toNat default).l)) ∧ (RSl eInt x au ((ns.getD ((i : Int) - 1).toNat default).r)) ∧ (RSl eInt x av ((ns.getD i default).l)) ∧ (RSl eInt x aw ((ns.getD i default).r)) ∧ (BxP x be [ar, au]) ∧ (BxP x bf [av, aw])) ?_ ?_))
 ·rintro _ bg ⟨aa, be, ar, au, bf, av, aw, x, rfl, bx, bh, c9, da, db, dc, bz, b0⟩
  refine zA (zB ?_)
  refine yZ (S := fun wz => Pins x wz) (last := 23) (by kernel_rfl) rfl ?_
  have b2 : Below bg.heap.size bg bg.drew := (Below.refl _ _).drew
  have dd := bx.pins.below b2
  have c := bx.step dd b2
  refine dM 0 ac c.pins ?_
  refine dM 1 (vJ (i : Int)) c.pins ?_
  refine dT (i := 2) rfl rfl (by kernel_rfl) (fun _ _ => qE rfl rfl (by omega)) c.pins ?_
  refine dT (i := 3) rfl rfl (by kernel_rfl) (fun _ _ => zF Tryz.underlying56 sz3 (v := ac) rfl rfl a3 (by omega) (by omega)) c.pins ?_
  refine dT (i := 4) rfl rfl (by kernel_rfl) (fun _ hS => zE (r := (births ns).getD ((i : Int) - 1).toNat 0) rfl ag3 (z := ((i : Int) - 1)) rfl a3 (Pins.of_le hS (Pin.le_trans f bh)) (by omega) (by omega)) c.pins ?_
  refine dM 5 ac c.pins ?_
  refine dM 6 (vJ (i : Int)) c.pins ?_
  refine dT (i := 7) rfl rfl (by kernel_rfl) (fun _ _ => zF Tryz.underlying56 sz3 (v := ac) rfl rfl a3 (by omega) (by omega)) c.pins ?_
  refine dT (i := 8) rfl rfl (by kernel_rfl) (fun _ hS => zE (r := (births ns).getD i 0) rfl ag3 (z := (i : Int)) rfl a3 (Pins.of_le hS (Pin.le_trans f bh)) (by omega) (by omega)) c.pins ?_
  refine dT (i := 10) rfl rfl (by kernel_rfl) (fun _ _ => zK (k := 0) rfl Tryz.underlying65 rfl nz56 rfl) c.pins ?_
  refine dT (i := 11) rfl rfl (by kernel_rfl) (fun _ hS => zL (u := ar) ag56 rfl (hS _ _ _ (bz 0 _ rfl))) c.pins ?_
  refine dT (i := 12) rfl rfl (by kernel_rfl) (fun _ _ => zK (k := 0) rfl Tryz.underlying65 rfl nz56 rfl) c.pins ?_
  refine dT (i := 13) rfl rfl (by kernel_rfl) (fun _ hS => zL (u := av) ag56 rfl (hS _ _ _ (b0 0 _ rfl))) c.pins ?_
  refine dT (i := 15) rfl rfl (by kernel_rfl) (fun _ _ => zK (k := 1) rfl Tryz.underlying65 rfl nz56 rfl) c.pins ?_
  refine dT (i := 16) rfl rfl (by kernel_rfl) (fun _ hS => zL (u := au) ag56 rfl (hS _ _ _ (bz 1 _ rfl))) c.pins ?_
  refine dT (i := 17) rfl rfl (by kernel_rfl) (fun _ _ => zK (k := 1) rfl Tryz.underlying65 rfl nz56 rfl) c.pins ?_
  refine dT (i := 18) rfl rfl (by kernel_rfl) (fun _ hS => zL (u := aw) ag56 rfl (hS _ _ _ (b0 1 _ rfl))) c.pins ?_
  refine dO (i := 9) (zU (i := 9) rfl rfl rfl (zD rfl _) (zH (vs := [(vJ ((births ns).getD ((i : Int) - 1).toNat 0)), (vJ ((births ns).getD i 0))]) Tryz.func62 nm62 rfl rfl rfl ?_))
  refine Calls.mono (cmpCompare_spec c.pins) ?_
  rintro _ _ ⟨rfl, rfl⟩
  refine ⟨_, rfl, ?_⟩
  refine ⟨fun _ => c.pins, ?_⟩
  refine dO (i := 14) (zU (i := 14) rfl rfl rfl (zD rfl _) (zH (vs := [ar, av]) Tryz.func63 nm63 rfl rfl rfl ?_))
  refine Calls.mono (slCompare_spec c.pins c9 db) ?_
  rintro _ _ ⟨rfl, rfl⟩
  refine ⟨_, rfl, ?_⟩
  refine ⟨fun _ => c.pins, ?_⟩
  refine dO (i := 19) (zU (i := 19) rfl rfl rfl (zD rfl _) (zH (vs := [au, aw]) Tryz.func63 nm63 rfl rfl rfl ?_))
  refine Calls.mono (slCompare_spec c.pins da dc) ?_
  rintro _ _ ⟨rfl, rfl⟩
  refine ⟨_, rfl, ?_⟩
  refine ⟨fun _ => c.pins, ?_⟩
  refine dO (i := 20) (zU (i := 20) rfl rfl rfl (zD rfl _) (xA (E := eInt) (e := 3) [(vJ (cmpI ((births ns).getD ((i : Int) - 1).toNat 0) ((births ns).getD i 0))), (vJ (cmpL ((ns.getD ((i : Int) - 1).toNat default).l) ((ns.getD i default).l))), (vJ (cmpL ((ns.getD ((i : Int) - 1).toNat default).r) ((ns.getD i default).r)))] [cmpI ((births ns).getD ((i : Int) - 1).toNat 0) ((births ns).getD i 0), cmpL ((ns.getD ((i : Int) - 1).toNat default).l) ((ns.getD i default).l), cmpL ((ns.getD ((i : Int) - 1).toNat default).r) ((ns.getD i default).r)] Tryz.underlying56 sz3 zr3 (by exact reps3 (by rfl) (by rfl) (by rfl)) (ones3 (by rfl) (by rfl) (by rfl)) rfl rfl rfl rfl (by decide) c.pins (fun b3 de df dg dh fj => ?_)))
  have b4 := c.step dg dh
  have di : Own eInt 3 x de w.heap.size b3 ([cmpI ((births ns).getD ((i : Int) - 1).toNat 0) ((births ns).getD i 0), cmpL ((ns.getD ((i : Int) - 1).toNat default).l) ((ns.getD i default).l), cmpL ((ns.getD ((i : Int) - 1).toNat default).r) ((ns.getD i default).r)]) := df.weaken c.size
  refine ⟨fun _ => b4.pins, ?_⟩
  obtain ⟨dj, bi, ax, dk, fk⟩ := di.sealed b4
  refine dO (i := 21) (zU (i := 21) rfl rfl rfl (zD rfl _) (zH (vs := [b3]) Tryz.func61 nm61 rfl rfl rfl ?_))
  refine Calls.mono (cmpOr_spec ax.pins dk) ?_
  rintro _ _ ⟨rfl, rfl⟩
  refine ⟨_, rfl, ?_⟩
  refine ⟨fun _ => (Pins.of_le ax.pins bi), ?_⟩
  refine dT (i := 22) rfl rfl (by kernel_rfl) (fun _ _ => r_geq rfl rfl) (Pins.of_le ax.pins bi) ?_
  refine yQ (by kernel_rfl) (zA (yA (p := (0 : Int) ≤ (orL ([cmpI ((births ns).getD ((i : Int) - 1).toNat 0) ((births ns).getD i 0), cmpL ((ns.getD ((i : Int) - 1).toNat default).l) ((ns.getD i default).l), cmpL ((ns.getD ((i : Int) - 1).toNat default).r) ((ns.getD i default).r)]))) rfl rfl (fun dl => ?_) (fun dl => ?_)))
  refine zB (zC ?_)
  refine qM (.bool false) ?_
  refine qe (zA ?_)
  exact wp_ret (zO (zP (v := (.bool false)) rfl rfl rfl (⟨_, congrArg (fun z => Ending.returned (Value.bool z)) (goodB_false.2 (fun g => by have := g.sorted i (by omega) (by omega); unfold pairC at this; rw [show i - 1 = ((i : Int) - 1).toNat by omega] at this; omega)).symm, ax⟩)))
  refine wp_skip (yB (zA (zC ?_)))
  refine qM (vJ (i : Int)) ?_
  refine qD rfl (yJ rfl rfl (by omega)) (qM (vJ ((i : Int) + 1)) ?_)
  refine qe (zZ ?_)
  have hstep : pairC ns (births ns) i < 0 := by
   unfold pairC; rw [show i - 1 = ((i : Int) - 1).toNat by omega]; omega
  refine ⟨_, ?_, _, rfl, _, i + 1, dj, (pS 6 (pS 5 (pU 1))), rfl, ax, (Pin.le_trans (Pin.le_trans f bh) bi), (by omega), (fun k h1 h2 => if h3 : k = i then h3 ▸ hstep else hsr k h1 (by omega))⟩
  omega
 refine yZ (S := fun wz => Pins aq wz) (last := 14) (by kernel_rfl) rfl ?_
 have b5 : Below bd.heap.size bd bd.drew := (Below.refl _ _).drew
 have dn := ad.pins.below b5
 have o := ad.step dn b5
 refine dT (i := 0) rfl rfl (by kernel_rfl) (fun _ _ => zK (k := 0) rfl Tryz.underlying32 rfl nz30 rfl) o.pins ?_
 refine dT (i := 1) rfl rfl (by kernel_rfl) (fun _ hS => zL (u := v) ag30 rfl ((Pins.of_le hS (Pin.le_trans (Pin.le_trans (Pin.le_trans d m.le) q) f)) _ _ _ (y 0 _ rfl))) o.pins ?_
 refine dM 2 (vJ (i : Int)) o.pins ?_
 refine dT (i := 3) rfl rfl (by kernel_rfl) (fun _ _ => qE rfl rfl (by omega)) o.pins ?_
 refine dT (i := 4) rfl rfl (by kernel_rfl) (fun _ _ => zF Tryz.underlying30 sz65 (v := v) rfl rfl hv (by omega) (by omega)) o.pins ?_
 obtain ⟨ae, af, ay, az, dp⟩ := jB (hv.at (z := ((i : Int) - 1)) (by omega) (by omega)) (j := ((i : Int) - 1).toNat) rfl
 have fl := ay.max
 have fm := az.max
 refine dT (i := 5) rfl rfl (by kernel_rfl) (fun _ hS => dp ag65 sz65 rfl (Pins.of_le hS (Pin.le_trans (Pin.le_trans (Pin.le_trans (Pin.le_trans s d) m.le) q) f))) o.pins ?_
 refine dT (i := 6) rfl rfl (by kernel_rfl) (fun _ _ => zK (k := 0) rfl Tryz.underlying32 rfl nz30 rfl) o.pins ?_
 refine dT (i := 7) rfl rfl (by kernel_rfl) (fun _ hS => zL (u := v) ag30 rfl ((Pins.of_le hS (Pin.le_trans (Pin.le_trans (Pin.le_trans d m.le) q) f)) _ _ _ (y 0 _ rfl))) o.pins ?_
 refine dM 8 (vJ (i : Int)) o.pins ?_
 refine dT (i := 9) rfl rfl (by kernel_rfl) (fun _ _ => zF Tryz.underlying30 sz65 (v := v) rfl rfl hv (by omega) (by omega)) o.pins ?_
 obtain ⟨ag, ah, a0, a1, dq⟩ := jB (hv.at (z := (i : Int)) (by omega) (by omega)) (j := i) rfl
 have fn := a0.max
 have fo := a1.max
 refine dT (i := 10) rfl rfl (by kernel_rfl) (fun _ hS => dq ag65 sz65 rfl (Pins.of_le hS (Pin.le_trans (Pin.le_trans (Pin.le_trans (Pin.le_trans s d) m.le) q) f))) o.pins ?_
 refine dr_two (i := 11) (j := 12) (by kernel_rfl) ?_ ?_
 refine (zU (i := 11) rfl rfl rfl (zD rfl _) (yM [(.slice none 0 0), (.slice none 0 0)] zr65 rfl o.pins (fun bk fp fq b6 dr ds => ?_)))
 have a4 := o.step dr ds
 have b7 : w.heap.size ≤ bk := by have := o.size; omega
 refine ⟨fun _ => a4.pins, ?_⟩
 refine dO (i := 12) (zU (i := 12) rfl rfl rfl (zD rfl _) (yM [(.slice none 0 0), (.slice none 0 0)] zr65 rfl a4.pins (fun bl fr dt du dv b8 => ?_)))
 have bm := a4.step dv b8
 have dw := b6.below b8
 have b9 : Apart (some bl) (some bk) := zJ (congrArg some dt) b6.lt
 have ca : w.heap.size ≤ bl := by have := a4.size; omega
 refine ⟨fun _ => bm.pins, ?_⟩
 refine dO (i := 13) (qB (i := 13) rfl rfl rfl (zD rfl _) (yF (cs' := [ae, af]) (us := [ae, af]) (v := (.agg [ae, af].toArray)) sz65 rfl rfl rfl (yK ay.one az.one) bm.pins dw (Nat.le_of_ble_eq_true rfl) rfl (fun fs dx dy cb ft => ?_)))
 have dz := bm.write dy cb ((zS b7))
 have d0 := du.keptA cb b9
 obtain ⟨fu, ak, bn, d1, d2⟩ := dx.shut dz b7
 have d3 := d0.moreA d2 b9
 refine ⟨fun _ => (Pins.of_le bn.pins ak), ?_⟩
 refine dO (i := 14) (qB (i := 14) rfl rfl rfl (zD rfl _) (yF (cs' := [ag, ah]) (us := [ag, ah]) (v := (.agg [ag, ah].toArray)) sz65 rfl rfl rfl (yK a0.one a1.one) bn.pins d3 (Nat.le_of_ble_eq_true rfl) rfl (fun fv d4 d5 d6 fw => ?_)))
 have d7 := bn.write d5 d6 ((zS ca))
 obtain ⟨d8, al, d9, ea, fx⟩ := d4.shut d7 ca
 refine ⟨fun h => absurd rfl h, ?_⟩
 exact yQ (by kernel_rfl) (qV ⟨_, bk, ae, af, bl, ag, ah, d8, (pS 8 (pS 7 (pS 6 (pS 5 (pU 1))))), d9, (Pin.le_trans ak al), (ay.mono (Pin.le_trans (Pin.le_trans (Pin.le_trans (Pin.le_trans (Pin.le_trans (Pin.le_trans s d) m.le) q) f) ak) al)), (az.mono (Pin.le_trans (Pin.le_trans (Pin.le_trans (Pin.le_trans (Pin.le_trans (Pin.le_trans s d) m.le) q) f) ak) al)), (a0.mono (Pin.le_trans (Pin.le_trans (Pin.le_trans (Pin.le_trans (Pin.le_trans (Pin.le_trans s d) m.le) q) f) ak) al)), (a1.mono (Pin.le_trans (Pin.le_trans (Pin.le_trans (Pin.le_trans (Pin.le_trans (Pin.le_trans s d) m.le) q) f) ak) al)), (d1.mono al), (ea.mono (Pin.le_refl _))⟩)
 refine (zU (i := 12) rfl rfl rfl (zD rfl _) (yM [(.slice none 0 0), (.slice none 0 0)] zr65 rfl o.pins (fun bo fy fz cc eb ec => ?_)))
 have a5 := o.step eb ec
 have cd : w.heap.size ≤ bo := by have := o.size; omega
 refine ⟨fun _ => a5.pins, ?_⟩
 refine dO (i := 11) (zU (i := 11) rfl rfl rfl (zD rfl _) (yM [(.slice none 0 0), (.slice none 0 0)] zr65 rfl a5.pins (fun bp f0 ed ee ef ce => ?_)))
 have bq := a5.step ef ce
 have eg := cc.below ce
 have cf : Apart (some bp) (some bo) := zJ (congrArg some ed) cc.lt
 have cg : w.heap.size ≤ bp := by have := a5.size; omega
 refine ⟨fun _ => bq.pins, ?_⟩
 refine dO (i := 13) (qB (i := 13) rfl rfl rfl (zD rfl _) (yF (cs' := [ae, af]) (us := [ae, af]) (v := (.agg [ae, af].toArray)) sz65 rfl rfl rfl (yK ay.one az.one) bq.pins ee (Nat.le_of_ble_eq_true rfl) rfl (fun f1 eh ei ch f2 => ?_)))
 have ej := bq.write ei ch ((zS cg))
 have ek := eg.keptA ch cf.symm
 obtain ⟨f3, am, br, el, em⟩ := eh.shut ej cg
 have eo := ek.moreA em cf.symm
 refine ⟨fun _ => (Pins.of_le br.pins am), ?_⟩
 refine dO (i := 14) (qB (i := 14) rfl rfl rfl (zD rfl _) (yF (cs' := [ag, ah]) (us := [ag, ah]) (v := (.agg [ag, ah].toArray)) sz65 rfl rfl rfl (yK a0.one a1.one) br.pins eo (Nat.le_of_ble_eq_true rfl) rfl (fun f4 ep eq er f5 => ?_)))
 have es := br.write eq er ((zS cd))
 obtain ⟨et, an, eu, ev, f6⟩ := ep.shut es cd
 refine ⟨fun h => absurd rfl h, ?_⟩
 exact yQ (by kernel_rfl) (qV ⟨_, bp, ae, af, bo, ag, ah, et, (pS 8 (pS 7 (pS 6 (pS 5 (pU 1))))), eu, (Pin.le_trans am an), (ay.mono (Pin.le_trans (Pin.le_trans (Pin.le_trans (Pin.le_trans (Pin.le_trans (Pin.le_trans s d) m.le) q) f) am) an)), (az.mono (Pin.le_trans (Pin.le_trans (Pin.le_trans (Pin.le_trans (Pin.le_trans (Pin.le_trans s d) m.le) q) f) am) an)), (a0.mono (Pin.le_trans (Pin.le_trans (Pin.le_trans (Pin.le_trans (Pin.le_trans (Pin.le_trans s d) m.le) q) f) am) an)), (a1.mono (Pin.le_trans (Pin.le_trans (Pin.le_trans (Pin.le_trans (Pin.le_trans (Pin.le_trans s d) m.le) q) f) am) an)), (el.mono an), (ev.mono (Pin.le_refl _))⟩)
 refine wp_exit (zW (yO (yI (zA (zB (zC ?_))))))
 refine qD rfl (zK (k := 0) rfl Tryz.underlying32 rfl nz30 rfl) (qD rfl (zL (u := v) ag30 rfl ((Pins.of_le ad.pins (Pin.le_trans (Pin.le_trans (Pin.le_trans d m.le) q) f)) _ _ _ (y 0 _ rfl))) (qD rfl (zK (k := 0) rfl Tryz.underlying32 rfl nz30 rfl) (qD rfl (zL (u := v) ag30 rfl ((Pins.of_le ad.pins (Pin.le_trans (Pin.le_trans (Pin.le_trans d m.le) q) f)) _ _ _ (y 0 _ rfl))) (qD rfl (zM Tryz.underlying30 (v := v) rfl hv) (qD rfl (qE rfl rfl (by omega)) (qI rfl (zH (vs := [v, (vJ ((ns.length : Int) - 1))]) Tryz.func65 nm65 rfl rfl rfl ?_)))))))
 refine Calls.mono (used_spec ad.pins (hv.mono (Pin.le_trans (Pin.le_trans (Pin.le_trans (Pin.le_trans s d) m.le) q) f)) (opts_ok hopts) (by omega)) ?_
 rintro _ ew ⟨ci, ex, rfl, ey, ez⟩
 refine ⟨_, rfl, ?_⟩
 have e0 := ad.tr ez
 have e1 : Own eBool 4 ex ew w.heap.size ci (usedM ns ((ns.length : Int) - 1).toNat) := ey.weaken ad.size
 obtain ⟨f7, f8, cj, e2, f9⟩ := e1.sealed e0
 refine qI rfl (zH (vs := [ci, (.bool false)]) Tryz.func64 nm64 rfl rfl rfl ?_)
 refine Calls.mono (slContains_spec cj.pins e2) ?_
 rintro _ _ ⟨rfl, rfl⟩
 refine ⟨_, rfl, ?_⟩
 refine qD rfl (xE rfl) (qM (.bool (!(decide ((0 : Int) ≤ idxB (usedM ns ((ns.length : Int) - 1).toNat) false)))) ?_)
 refine qe (zA ?_)
 exact wp_ret (zO (zP (v := (.bool (!(decide ((0 : Int) ≤ idxB (usedM ns ((ns.length : Int) - 1).toNat) false))))) rfl rfl rfl (⟨_, congrArg (fun z => Ending.returned (Value.bool z)) (goodB_used (by omega) (by omega) (by omega) hopts (fun k h1 h2 => hsr k h1 (by omega))).symm, cj⟩)))

end B1
end Go.Proofs.YtakkjmlnmcemaaaGreatDoor

set_option maxRecDepth 20000
set_option maxHeartbeats 2000000
namespace Go.Proofs.YtakkjmlnmcemaaaGreatDoor
namespace C1
open Go.RowKit Go.GL Go.Proofs
open B1











theorem l1In_spec {w : World} {G : Pin} {x a b : Int} (hP : Pins G w) :
  Calls Tryz.prog 49 [(.int .i64 x), (.int .i64 a), (.int .i64 b)].toArray w fun e w' => e = .returned (.bool (decide (a ≤ x ∧ x ≤ b))) ∧ w' = w := by
 refine zV (n := 15) Tryz.func49 Tryz.ntmps49 rfl rfl ?_
 have hX0 : Ext noS G w G w := Ext.refl hP
 refine zB (zC ?_)
 refine qM (.bool false) ?_
 refine qe (zA (zB (zC ?_)))
 refine qM (.int .i64 x) ?_
 refine qM (.int .i64 a) ?_
 refine qD rfl (r_geq rfl rfl) (qM (.bool (decide ((a : Int) ≤ x))) ?_)
 refine qbd (p := (a : Int) ≤ x) (t := 10) rfl (fun h1 => ?_) (fun h1 => ?_)
 refine qN (zQ (v := (.int .i64 x)) rfl) ?_
 refine qN (zQ (v := (.int .i64 b)) rfl) ?_
 refine qN (r_leq rfl rfl) ?_
 refine qD rfl (yD (v := (.bool (decide ((x : Int) ≤ b)))) rfl rfl) (qM (.bool (decide ((x : Int) ≤ b))) ?_)
 refine qe (zA ?_)
 exact wp_ret (zO (zP (v := (.bool (decide ((x : Int) ≤ b)))) rfl rfl rfl (⟨congrArg (fun z => Ending.returned (Value.bool z)) (decide_eq_decide.2 (by omega)), rfl⟩)))
 refine qW ?_
 refine qW ?_
 refine qW ?_
 refine qD rfl (zY (v := (.bool false)) rfl rfl) (qM (.bool false) ?_)
 refine qe (zA ?_)
 exact wp_ret (zO (zP (v := (.bool false)) rfl rfl rfl (⟨congrArg (fun z => Ending.returned (Value.bool z)) ((decide_eq_false (by omega)).symm), rfl⟩)))

theorem l1Most_spec {w : World} {G : Pin} {x y : Int} (hP : Pins G w) :
  Calls Tryz.prog 104 [(.int .i64 x), (.int .i64 y)].toArray w fun e w' => e = .returned (.int .i64 (max x y)) ∧ w' = w := by
 refine zV (n := 10) Tryz.func104 Tryz.ntmps104 rfl rfl ?_
 have hX0 : Ext noS G w G w := Ext.refl hP
 refine zB (zC ?_)
 refine qM (.int .i64 0) ?_
 refine qe (zA (zB (zB (zC ?_))))
 refine qM (.int .i64 x) ?_
 refine qM (.int .i64 y) ?_
 refine qD rfl (r_gtr rfl rfl) (qe (zA ?_))
 refine yA (p := (y : Int) < x) rfl rfl (fun h1 => ?_) (fun h1 => ?_)
 refine zB (zC ?_)
 refine qM (.int .i64 x) ?_
 refine qM (.int .i64 x) ?_
 refine qe (zA ?_)
 exact wp_ret (zO (zP (v := (.int .i64 x)) rfl rfl rfl (⟨congrArg (fun z => Ending.returned (Value.int .i64 z)) (by omega), rfl⟩)))
 refine wp_skip (zA (zB (zC ?_)))
 refine qM (.int .i64 y) ?_
 refine qM (.int .i64 y) ?_
 refine qe (zA ?_)
 exact wp_ret (zO (zP (v := (.int .i64 y)) rfl rfl rfl (⟨congrArg (fun z => Ending.returned (Value.int .i64 z)) (by omega), rfl⟩)))

theorem l1Rising_spec {w : World} {G : Pin} {v : Value} {xs : List Int} {lo hi : Int} (hP : Pins G w) (hv : RSl eInt G v xs) :
  Calls Tryz.prog 51 [v, (vJ lo), (vJ hi)].toArray w fun e w' => e = .returned (.bool (decP (Rise xs lo hi))) ∧ Ext noS G w G w' := by
 refine zV (n := 38) Tryz.func51 Tryz.ntmps51 rfl rfl ?_
 have h : Ext noS G w G w := Ext.refl hP
 have hm := hv.max
 refine zB (zC ?_)
 refine qM (.bool false) ?_
 refine qe (zA (zB (zB (zC ?_))))
 refine qM (vJ 0) ?_
 refine qe (zA ?_)
 refine zX (yT (fun (k : Nat) (en : Nat → Value) (W : World) => ∃ (f : Nat → Value) (j : Nat), en = (upd (upd (upd (upd f 0 v) 1 (vJ lo)) 2 (vJ hi)) 7 (vJ (j : Int))) ∧ k = xs.length - j ∧ Ext noS G w G W ∧ (j ≤ xs.length) ∧ (∀ i, i < j → (lo ≤ xs.getD i 0 ∧ xs.getD i 0 ≤ hi) ∧ (0 < i → xs.getD (i - 1) 0 < xs.getD i 0))) _ ⟨_, 0, (pS 7 (pS 2 (pS 1 (pU 0)))), rfl, h, Nat.zero_le _, (fun i hi => absurd hi (Nat.not_lt_zero i))⟩ ?_)
 rintro u _ c ⟨f, j, rfl, x, d, hj, hp⟩
 refine zB (zB (zC ?_))
 refine qM (vJ (j : Int)) ?_
 refine qM v ?_
 refine qD rfl (zM Tryz.underlying56 (v := v) rfl hv) (qD rfl (yV rfl rfl) (qe (zA ?_)))
 refine yA (p := ((j : Int) : Int) < (xs.length : Int)) rfl rfl (fun l => ?_) (fun l => ?_)
 refine wp_skip (zA (zB ?_))
 refine zX (zB (yZ (S := fun wz => Pins G wz) (last := 24) (by kernel_rfl) rfl ?_))
 have g : Below c.heap.size c c.drew := (Below.refl _ _).drew
 have m := d.pins.below g
 have a := d.step m g
 refine dM 0 v a.pins ?_
 refine dM 1 (vJ (j : Int)) a.pins ?_
 refine dT (i := 2) rfl rfl (by kernel_rfl) (fun _ _ => zF Tryz.underlying56 sz3 (v := v) rfl rfl hv (by omega) (by omega)) a.pins ?_
 refine dT (i := 3) rfl rfl (by kernel_rfl) (fun _ hS => zE (r := xs.getD j 0) rfl ag3 (z := (j : Int)) rfl hv hS (by omega) (by omega)) a.pins ?_
 refine dM 4 (vJ lo) a.pins ?_
 refine dM 5 (vJ hi) a.pins ?_
 refine dO (i := 6) (zU (i := 6) rfl rfl rfl (zD rfl _) (zH (vs := [(vJ (xs.getD j 0)), (vJ lo), (vJ hi)]) Tryz.func49 nm49 rfl rfl rfl ?_))
 refine Calls.mono (l1In_spec a.pins) ?_
 rintro _ _ ⟨rfl, rfl⟩
 refine ⟨_, rfl, ?_⟩
 refine ⟨fun _ => a.pins, ?_⟩
 refine dT (i := 7) rfl rfl (by kernel_rfl) (fun _ _ => xE rfl) a.pins ?_
 refine dM 8 (.bool (!(decide ((lo : Int) ≤ (xs.getD j 0) ∧ (xs.getD j 0 : Int) ≤ hi)))) a.pins ?_
 refine drbn (t := 22) rfl (fun b => ?_) (fun b => ?_)
 replace b := of_decide_eq_true b
 refine yY (i := 9) rfl rfl rfl (yS rfl rfl rfl rfl) (by kernel_rfl) (fun _ _ => zQ (v := (vJ (j : Int))) rfl) a.pins (yY (i := 10) rfl rfl rfl (yS rfl rfl rfl rfl) (by kernel_rfl) (fun _ _ => r_gtr rfl rfl) a.pins (yY (i := 11) rfl rfl rfl (yS rfl rfl rfl rfl) (by kernel_rfl) (fun _ _ => zQ (v := (.bool (decide ((0 : Int) < (j : Int))))) rfl) a.pins (drbd (p := (0 : Int) < (j : Int)) (t := 25) rfl (fun o => ?_) (fun o => ?_))))
 refine yY (i := 12) rfl rfl rfl (yS rfl rfl rfl rfl) (by kernel_rfl) (fun _ _ => zQ (v := v) rfl) a.pins (yY (i := 13) rfl rfl rfl (yS rfl rfl rfl rfl) (by kernel_rfl) (fun _ _ => zQ (v := (vJ (j : Int))) rfl) a.pins (yY (i := 14) rfl rfl rfl (yS rfl rfl rfl rfl) (by kernel_rfl) (fun _ _ => qE rfl rfl (by omega)) a.pins (yY (i := 15) rfl rfl rfl (yS rfl rfl rfl rfl) (by kernel_rfl) (fun _ _ => zF Tryz.underlying56 sz3 (v := v) rfl rfl hv (by omega) (by omega)) a.pins (yY (i := 16) rfl rfl rfl (yS rfl rfl rfl rfl) (by kernel_rfl) (fun _ hS => zE (r := xs.getD ((j : Int) - 1).toNat 0) rfl ag3 (z := ((j : Int) - 1)) rfl hv hS (by omega) (by omega)) a.pins (yY (i := 17) rfl rfl rfl (yS rfl rfl rfl rfl) (by kernel_rfl) (fun _ _ => zQ (v := v) rfl) a.pins (yY (i := 18) rfl rfl rfl (yS rfl rfl rfl rfl) (by kernel_rfl) (fun _ _ => zQ (v := (vJ (j : Int))) rfl) a.pins (yY (i := 19) rfl rfl rfl (yS rfl rfl rfl rfl) (by kernel_rfl) (fun _ _ => zF Tryz.underlying56 sz3 (v := v) rfl rfl hv (by omega) (by omega)) a.pins (yY (i := 20) rfl rfl rfl (yS rfl rfl rfl rfl) (by kernel_rfl) (fun _ hS => zE (r := xs.getD j 0) rfl ag3 (z := (j : Int)) rfl hv hS (by omega) (by omega)) a.pins (yY (i := 21) rfl rfl rfl (yS rfl rfl rfl rfl) (by kernel_rfl) (fun _ _ => r_geq rfl rfl) a.pins (yY (i := 22) rfl rfl rfl (yS rfl rfl rfl rfl) (by kernel_rfl) (fun _ _ => yD (v := (.bool (decide ((xs.getD j 0 : Int) ≤ (xs.getD ((j : Int) - 1).toNat 0))))) rfl rfl) a.pins (dT (i := 23) rfl rfl (by kernel_rfl) (fun _ _ => zY (v := (.bool (decide ((xs.getD j 0 : Int) ≤ (xs.getD ((j : Int) - 1).toNat 0))))) rfl rfl) a.pins ?_)))))))))))
 refine yQ (by kernel_rfl) (zA (yA (p := (xs.getD j 0 : Int) ≤ (xs.getD ((j : Int) - 1).toNat 0)) rfl rfl (fun q => ?_) (fun q => ?_)))
 refine zB (zC ?_)
 refine qM (.bool false) ?_
 refine qe (zA ?_)
 exact wp_ret (zO (zP (v := (.bool false)) rfl rfl rfl (⟨congrArg (fun z => Ending.returned (Value.bool z)) (decP_false.2 (fun hR => by have := hR j (by omega); rw [show j - 1 = ((j : Int) - 1).toNat by omega] at this; omega)).symm, a⟩)))
 refine wp_skip (yB (zA (zC ?_)))
 refine qM (vJ (j : Int)) ?_
 refine qD rfl (yJ rfl rfl (by omega)) (qM (vJ ((j : Int) + 1)) ?_)
 refine qe (zZ (⟨_, ?_, _, rfl, _, j + 1, (pS 7 (pS 2 (pS 1 (pU 0)))), rfl, a, (by omega), (rise_step hp (by omega) (fun s => by rw [show j - 1 = ((j : Int) - 1).toNat by omega]; omega))⟩))
 omega
 refine yP (i := 12) rfl rfl (yU rfl rfl rfl rfl rfl) (by kernel_rfl) a.pins (yP (i := 13) rfl rfl (yU rfl rfl rfl rfl rfl) (by kernel_rfl) a.pins (yP (i := 14) rfl rfl (yU rfl rfl rfl rfl rfl) (by kernel_rfl) a.pins (yP (i := 15) rfl rfl (yU rfl rfl rfl rfl rfl) (by kernel_rfl) a.pins (yP (i := 16) rfl rfl (yU rfl rfl rfl rfl rfl) (by kernel_rfl) a.pins (yP (i := 17) rfl rfl (yU rfl rfl rfl rfl rfl) (by kernel_rfl) a.pins (yP (i := 18) rfl rfl (yU rfl rfl rfl rfl rfl) (by kernel_rfl) a.pins (yP (i := 19) rfl rfl (yU rfl rfl rfl rfl rfl) (by kernel_rfl) a.pins (yP (i := 20) rfl rfl (yU rfl rfl rfl rfl rfl) (by kernel_rfl) a.pins (yP (i := 21) rfl rfl (yU rfl rfl rfl rfl rfl) (by kernel_rfl) a.pins (yY (i := 22) rfl rfl rfl (yS rfl rfl rfl rfl) (by kernel_rfl) (fun _ _ => zY (v := (.bool false)) rfl rfl) a.pins (dT (i := 23) rfl rfl (by kernel_rfl) (fun _ _ => zY (v := (.bool false)) rfl rfl) a.pins ?_)))))))))))
 refine yQ (by kernel_rfl) (zA (qA rfl rfl (wp_skip (yB (zA (zC ?_))))))
 refine qM (vJ (j : Int)) ?_
 refine qD rfl (yJ rfl rfl (by omega)) (qM (vJ ((j : Int) + 1)) ?_)
 refine qe (zZ (⟨_, ?_, _, rfl, _, j + 1, (pS 7 (pS 2 (pS 1 (pU 0)))), rfl, a, (by omega), (rise_step hp (by omega) (fun s => by rw [show j - 1 = ((j : Int) - 1).toNat by omega]; omega))⟩))
 omega
 replace b := of_decide_eq_false b
 refine yP (i := 9) rfl rfl (yU rfl rfl rfl rfl rfl) (by kernel_rfl) a.pins (yP (i := 10) rfl rfl (yU rfl rfl rfl rfl rfl) (by kernel_rfl) a.pins (yP (i := 11) rfl rfl (yU rfl rfl rfl rfl rfl) (by kernel_rfl) a.pins (yP (i := 12) rfl rfl (qG rfl rfl rfl rfl) (by kernel_rfl) a.pins (yP (i := 13) rfl rfl (qG rfl rfl rfl rfl) (by kernel_rfl) a.pins (yP (i := 14) rfl rfl (qG rfl rfl rfl rfl) (by kernel_rfl) a.pins (yP (i := 15) rfl rfl (qG rfl rfl rfl rfl) (by kernel_rfl) a.pins (yP (i := 16) rfl rfl (qG rfl rfl rfl rfl) (by kernel_rfl) a.pins (yP (i := 17) rfl rfl (qG rfl rfl rfl rfl) (by kernel_rfl) a.pins (yP (i := 18) rfl rfl (qG rfl rfl rfl rfl) (by kernel_rfl) a.pins (yP (i := 19) rfl rfl (qG rfl rfl rfl rfl) (by kernel_rfl) a.pins (yP (i := 20) rfl rfl (qG rfl rfl rfl rfl) (by kernel_rfl) a.pins (yP (i := 21) rfl rfl (qG rfl rfl rfl rfl) (by kernel_rfl) a.pins (yP (i := 22) rfl rfl (yU rfl rfl rfl rfl rfl) (by kernel_rfl) a.pins (dT (i := 23) rfl rfl (by kernel_rfl) (fun _ _ => yD (v := (.bool true)) rfl rfl) a.pins ?_))))))))))))))
 refine yQ (by kernel_rfl) (zA (xY rfl rfl (zB (zC ?_))))
 refine qM (.bool false) ?_
 refine qe (zA ?_)
 exact wp_ret (zO (zP (v := (.bool false)) rfl rfl rfl (⟨congrArg (fun z => Ending.returned (Value.bool z)) (decP_false.2 (fun hR => by have := hR j (by omega); rw [show j - 1 = ((j : Int) - 1).toNat by omega] at this; omega)).symm, a⟩)))
 refine wp_exit (zW (yO (yI (zA (zB (zC ?_))))))
 refine qM (.bool true) ?_
 refine qe (zA ?_)
 exact wp_ret (zO (zP (v := (.bool true)) rfl rfl rfl (⟨congrArg (fun z => Ending.returned (Value.bool z)) (decP_true.2 (Rise.done (by omega) hp)).symm, d⟩)))

theorem l3Fits_spec {w : World} {G : Pin} {v : Value} {ns : List Nd} (hP : Pins G w) (hv : RSl eNode G v ns) :
  Calls Tryz.prog 50 [(.agg [v].toArray)].toArray w fun e w' => ∃ G', e = .returned (.bool (decP (FitsP ns))) ∧ Ext noS G w G' w' := by
 refine zV (n := 37) Tryz.func50 Tryz.ntmps50 rfl rfl ?_
 have c : Ext noS G w G w := Ext.refl hP
 have hm := hv.max
 refine zB (zC ?_)
 refine qI rfl (xG [v] (v := (.agg [v].toArray)) rfl rfl c.pins (fun d w2 am q s x => ?_))
 have y := c.step s x
 have aa : w.heap.size ≤ d := by have := c.size; omega
 obtain ⟨G9, f, ac, b, an⟩ := q.shut y aa
 refine qM (.bool false) ?_
 refine qe (zA (zB (zB (zC ?_))))
 refine qM (vJ 0) ?_
 refine qe (zA ?_)
 refine zX (yT (fun (k : Nat) (en : Nat → Value) (W : World) => ∃ (h : Nat → Value) (j : Nat), en = (upd (upd h 1 (.pointer (some ⟨d, 0, none⟩))) 3 (vJ (j : Int))) ∧ k = 121 - j ∧ Ext noS G w G9 W ∧ (j ≤ ns.length ∧ j ≤ 121) ∧ (∀ k, k < j → (ns.getD k default).l.length ≤ 24 ∧ (ns.getD k default).r.length ≤ 24)) _ ⟨_, 0, (pS 3 (pU 1)), rfl, ac, (by omega), (fun i hi => absurd hi (Nat.not_lt_zero i))⟩ ?_)
 rintro ao _ ap ⟨h, j, rfl, aq, a, hj, hp⟩
 refine zB (zB (zC ?_))
 refine qM (vJ (j : Int)) ?_
 refine qD rfl (zK (k := 0) rfl Tryz.underlying32 rfl nz30 rfl) (qD rfl (zL (u := v) ag30 rfl (a.pins _ _ _ (b 0 _ rfl))) (qD rfl (zM Tryz.underlying30 (v := v) rfl hv) (qD rfl (yV rfl rfl) (qM (.bool (decide (((j : Int) : Int) < (ns.length : Int)))) ?_))))
 refine qbd (p := ((j : Int) : Int) < (ns.length : Int)) (t := 9) rfl (fun ad => ?_) (fun ad => ?_)
 refine qN (zQ (v := (vJ (j : Int))) rfl) ?_
 refine qN (r_leq rfl rfl) ?_
 refine qD rfl (yD (v := (.bool (decide (((j : Int) : Int) ≤ 120)))) rfl rfl) (qe (zA ?_))
 refine yA (p := ((j : Int) : Int) ≤ 120) rfl rfl (fun ae => ?_) (fun ae => ?_)
 refine wp_skip (zA (zB ?_))
 refine zX (zB (zC ?_))
 refine qD rfl (zK (k := 0) rfl Tryz.underlying32 rfl nz30 rfl) (qD rfl (zL (u := v) ag30 rfl (a.pins _ _ _ (b 0 _ rfl))) (qM (vJ (j : Int)) ?_))
 refine qD rfl (zF Tryz.underlying30 sz65 (v := v) rfl rfl hv (by omega) (by omega)) (qD rfl (xI (off := 0) Tryz.underlying65 rfl rfl nz56 (z := (j : Int)) (k := 0) rfl hv (by omega) (by omega)) ?_)
 obtain ⟨af, m, ag⟩ := nm_nl (hv.at (z := (j : Int)) (by omega) (by omega)) (j := j) rfl
 have ar := m.max
 refine qD rfl (ag ag56 rfl (Pins.of_le a.pins f)) (qD rfl (zM Tryz.underlying56 (v := af) rfl m) (qD rfl (r_gtr rfl rfl) (qM (.bool (decide ((24 : Int) < (((ns.getD j default).l).length : Int)))) ?_)))
 refine qbd (p := (24 : Int) < (((ns.getD j default).l).length : Int)) (t := 23) rfl (fun ah => ?_) (fun ah => ?_)
 refine qW ?_
 refine qW ?_
 refine qW ?_
 refine qW ?_
 refine qW ?_
 refine qW ?_
 refine qW ?_
 refine qW ?_
 refine qD rfl (yD (v := (.bool true)) rfl rfl) (qe (zA ?_))
 refine xY rfl rfl (zB (zC ?_))
 refine qM (.bool false) ?_
 refine qe (zA ?_)
 exact wp_ret (zO (zP (v := (.bool false)) rfl rfl rfl (⟨_, congrArg (fun z => Ending.returned (Value.bool z)) (decP_false.2 (fun g => by have := g.opts j (by omega); omega)).symm, a⟩)))
 refine qN (zK (k := 0) rfl Tryz.underlying32 rfl nz30 rfl) ?_
 refine qN (zL (u := v) ag30 rfl (a.pins _ _ _ (b 0 _ rfl))) ?_
 refine qN (zQ (v := (vJ (j : Int))) rfl) ?_
 refine qN (zF Tryz.underlying30 sz65 (v := v) rfl rfl hv (by omega) (by omega)) ?_
 refine qN (xI (off := 1) Tryz.underlying65 rfl rfl nz56 (z := (j : Int)) (k := 0) rfl hv (by omega) (by omega)) ?_
 obtain ⟨ai, o, aj⟩ := nm_nr (hv.at (z := (j : Int)) (by omega) (by omega)) (j := j) rfl
 have au := o.max
 refine qN (aj ag56 rfl (Pins.of_le a.pins f)) ?_
 refine qN (zM Tryz.underlying56 (v := ai) rfl o) ?_
 refine qN (r_gtr rfl rfl) ?_
 refine qD rfl (zY (v := (.bool (decide ((24 : Int) < (((ns.getD j default).r).length : Int))))) rfl rfl) (qe (zA ?_))
 refine yA (p := (24 : Int) < (((ns.getD j default).r).length : Int)) rfl rfl (fun ak => ?_) (fun ak => ?_)
 refine zB (zC ?_)
 refine qM (.bool false) ?_
 refine qe (zA ?_)
 exact wp_ret (zO (zP (v := (.bool false)) rfl rfl rfl (⟨_, congrArg (fun z => Ending.returned (Value.bool z)) (decP_false.2 (fun g => by have := g.opts j (by omega); omega)).symm, a⟩)))
 refine wp_skip (yB (zA (zC ?_)))
 refine qM (vJ (j : Int)) ?_
 refine qD rfl (yJ rfl rfl (by omega)) (qM (vJ ((j : Int) + 1)) ?_)
 refine qe (zZ (⟨_, ?_, _, rfl, _, j + 1, (pS 3 (pU 1)), rfl, a, (by omega), (fun k hk => if h3 : k = j then h3 ▸ ⟨by omega, by omega⟩ else hp k (by omega))⟩))
 omega
 refine wp_exit (zW (yO (yI (zA (zB (zC ?_))))))
 refine qD rfl (zK (k := 0) rfl Tryz.underlying32 rfl nz30 rfl) (qD rfl (zL (u := v) ag30 rfl (a.pins _ _ _ (b 0 _ rfl))) (qD rfl (zM Tryz.underlying30 (v := v) rfl hv) (qI rfl (zH (vs := [(vJ (ns.length : Int)), (vJ 1), (vJ 120)]) Tryz.func49 nm49 rfl rfl rfl ?_))))
 refine Calls.mono (l1In_spec a.pins) ?_
 rintro _ _ ⟨rfl, rfl⟩
 refine ⟨_, rfl, ?_⟩
 refine qM (.bool (decide ((1 : Int) ≤ (ns.length : Int) ∧ ((ns.length : Int) : Int) ≤ 120))) ?_
 refine qe (zA ?_)
 exact wp_ret (zO (zP (v := (.bool (decide ((1 : Int) ≤ (ns.length : Int) ∧ ((ns.length : Int) : Int) ≤ 120)))) rfl rfl rfl (⟨_, congrArg (fun z => Ending.returned (Value.bool z)) (fits_end hp (by omega) (by omega)), a⟩)))
 refine qW ?_
 refine qW ?_
 refine qD rfl (zY (v := (.bool false)) rfl rfl) (qe (zA ?_))
 refine qA rfl rfl (wp_exit (zW (yO (yI (zA (zB (zC ?_)))))))
 refine qD rfl (zK (k := 0) rfl Tryz.underlying32 rfl nz30 rfl) (qD rfl (zL (u := v) ag30 rfl (a.pins _ _ _ (b 0 _ rfl))) (qD rfl (zM Tryz.underlying30 (v := v) rfl hv) (qI rfl (zH (vs := [(vJ (ns.length : Int)), (vJ 1), (vJ 120)]) Tryz.func49 nm49 rfl rfl rfl ?_))))
 refine Calls.mono (l1In_spec a.pins) ?_
 rintro _ _ ⟨rfl, rfl⟩
 refine ⟨_, rfl, ?_⟩
 refine qM (.bool (decide ((1 : Int) ≤ (ns.length : Int) ∧ ((ns.length : Int) : Int) ≤ 120))) ?_
 refine qe (zA ?_)
 exact wp_ret (zO (zP (v := (.bool (decide ((1 : Int) ≤ (ns.length : Int) ∧ ((ns.length : Int) : Int) ≤ 120)))) rfl rfl rfl (⟨_, congrArg (fun z => Ending.returned (Value.bool z)) (fits_end hp (by omega) (by omega)), a⟩)))

theorem jD {w : World} {G : Pin} {v : Value} {xs : List Int} {n : Int} (hP : Pins G w) (hv : RSl eInt G v xs) (hs : xs.length ≤ 2097152) :
  Calls Tryz.prog 98 [v, (vJ n)].toArray w fun e w' => ∃ (u : Value) (G' : Pin), e = .returned u ∧ RSl eInt G' u (putL xs n) ∧ Ext noS G w G' w' := by
 refine zV (n := 45) Tryz.func98 Tryz.ntmps98 rfl rfl ?_
 have cm : Ext noS G w G w := Ext.refl hP
 refine zB (zC ?_)
 refine qM (.slice none 0 0) ?_
 refine qe (zA (zB (zC ?_)))
 refine qM (vJ 0) ?_
 refine qe (zA (zB ?_))
 refine zX (yT (fun (k : Nat) (en : Nat → Value) (W : World) => ∃ (c : Nat → Value) (j : Nat), en = (upd (upd (upd (upd c 0 v) 1 (vJ n)) 4 (.slice none 0 0)) 5 (vJ (j : Int))) ∧ k = xs.length - j ∧ Ext noS G w G W ∧ (j ≤ xs.length) ∧ (putL xs n = xs.take j ++ putL (xs.drop j) n)) _ ⟨_, 0, (pS 5 (pS 4 (pS 1 (pU 0)))), rfl, cm, Nat.zero_le _, rfl⟩ ?_)
 rintro k1 _ l ⟨c, j, rfl, f3, d, hj, hr⟩
 refine zB (zB (zC ?_))
 refine qM (vJ (j : Int)) ?_
 refine qM v ?_
 refine qD rfl (zM Tryz.underlying56 (v := v) rfl hv) (qD rfl (yV rfl rfl) (qM (.bool (decide (((j : Int) : Int) < (xs.length : Int)))) ?_))
 refine qbd (p := ((j : Int) : Int) < (xs.length : Int)) (t := 10) rfl (fun h5 => ?_) (fun h5 => ?_)
 refine qN (zQ (v := v) rfl) ?_
 refine qN (zQ (v := (vJ (j : Int))) rfl) ?_
 refine qN (zF Tryz.underlying56 sz3 (v := v) rfl rfl hv (by omega) (by omega)) ?_
 refine qN (zE (r := xs.getD j 0) rfl ag3 (z := (j : Int)) rfl hv d.pins (by omega) (by omega)) ?_
 refine qN (zQ (v := (vJ n)) rfl) ?_
 refine qN (yV rfl rfl) ?_
 refine qD rfl (yD (v := (.bool (decide ((xs.getD j 0 : Int) < n)))) rfl rfl) (qe (zA ?_))
 refine yA (p := (xs.getD j 0 : Int) < n) rfl rfl (fun h6 => ?_) (fun h6 => ?_)
 refine wp_skip (zA (zX (zC (qM (vJ (j : Int)) ?_))))
 refine qD rfl (yJ rfl rfl (by omega)) (qM (vJ ((j : Int) + 1)) ?_)
 refine qe (yB (zZ (⟨_, ?_, _, rfl, _, j + 1, (pS 5 (pS 4 (pS 1 (pU 0)))), rfl, d, (by omega), (put_next (by omega) (by omega) hr)⟩)))
 omega
 refine wp_exit (zW (yO (yI (zA (zB (zB (zC ?_)))))))
 refine qM (vJ (j : Int)) ?_
 refine qM v ?_
 refine qD rfl (zM Tryz.underlying56 (v := v) rfl hv) (qD rfl (yV rfl rfl) (qM (.bool (decide (((j : Int) : Int) < (xs.length : Int)))) ?_))
 refine qbd (p := ((j : Int) : Int) < (xs.length : Int)) (t := 24) rfl (fun _ => ?_) (fun h => absurd h5 h)
 refine qN (zQ (v := v) rfl) ?_
 refine qN (zQ (v := (vJ (j : Int))) rfl) ?_
 refine qN (zF Tryz.underlying56 sz3 (v := v) rfl rfl hv (by omega) (by omega)) ?_
 refine qN (zE (r := xs.getD j 0) rfl ag3 (z := (j : Int)) rfl hv d.pins (by omega) (by omega)) ?_
 refine qN (zQ (v := (vJ n)) rfl) ?_
 refine qN (xV rfl rfl) ?_
 refine qD rfl (yD (v := (.bool (decide ((xs.getD j 0 : Int) = n)))) rfl rfl) (qe (zA ?_))
 refine yA (p := (xs.getD j 0 : Int) = n) rfl rfl (fun h8 => ?_) (fun h8 => ?_)
 refine zB (zC ?_)
 refine qM v ?_
 refine qM v ?_
 refine qe (zA ?_)
 exact wp_ret (zO (zP (v := v) rfl rfl rfl (⟨_, _, rfl, (by rw [put_hit (by omega) (by omega) hr]; exact hv), d⟩)))
 refine wp_skip (zA (zB ?_))
 refine c_cut (fun (en : Nat → Value) (W : World) => ∃ (c : Nat → Value) (c9 : Value) (af : Pin), en = (upd c 4 c9) ∧ Ext noS G w af W ∧ Pin.le G af ∧ (Own eInt 3 af W w.heap.size c9 (((([]) ++ ((xs.take j).drop 0)) ++ ([n])) ++ ((xs.take xs.length).drop j)))) ?_ ?_
 ·rintro _ f4 ⟨c, c9, af, rfl, cp, f5, cq⟩
  refine zA (wp_ret (zO (zP (v := c9) rfl rfl rfl ?_)))
  obtain ⟨f6, f7, cr, cs, f8⟩ := cq.sealed cp
  exact ⟨_, _, rfl, (by rw [← put_new (fun h => ⟨by omega, by omega⟩) hr]; exact cs), cr⟩
 refine yZ (S := fun wz => Pins G wz) (last := 13) (by kernel_rfl) rfl ?_
 have bj : Below l.heap.size l l.drew := (Below.refl _ _).drew
 have ct := d.pins.below bj
 have a := d.step ct bj
 refine dM 1 v a.pins ?_
 refine dM 2 (vJ (j : Int)) a.pins ?_
 obtain ⟨az, a0, cu⟩ := qU hv (lo := none) (hi := (some ((j : Int)))) (0) (j) (Or.inl ⟨rfl, rfl⟩) (Or.inr ⟨_, rfl, (by omega), rfl⟩) (by omega) (by omega)
 refine dT (i := 3) rfl rfl (by kernel_rfl) (fun _ _ => cu Tryz.underlying56 sz3 rfl rfl rfl) a.pins ?_
 refine dM 5 (vJ n) a.pins ?_
 refine dM 8 v a.pins ?_
 refine dM 9 (vJ (j : Int)) a.pins ?_
 obtain ⟨a1, a2, cv⟩ := qU hv (lo := (some ((j : Int)))) (hi := none) (j) (xs.length) (Or.inr ⟨_, rfl, (by omega), rfl⟩) (Or.inl ⟨rfl, rfl⟩) (by omega) (by omega)
 refine dT (i := 10) rfl rfl (by kernel_rfl) (fun _ _ => cv Tryz.underlying56 sz3 rfl rfl rfl) a.pins ?_
 refine dr_two (i := 0) (j := 6) (by kernel_rfl) ?_ ?_
 refine (zU (i := 0) rfl rfl rfl (zD rfl _) (xD (E := eInt) (e := 3) Tryz.underlying56 sz3 a.pins (fun ag cw cx cy cz f9 => ?_)))
 have f := a.step cy cz
 have ah : Own eInt 3 G cw w.heap.size ag ([]) := cx.weaken a.size
 refine ⟨fun _ => f.pins, ?_⟩
 refine dr_two (i := 4) (j := 6) (by kernel_rfl) ?_ ?_
 refine (zU (i := 4) rfl rfl rfl (zD rfl _) (oA (E := eInt) (v := ag) (u := az) 8 Tryz.underlying56 ap3 (by decide) rfl rfl f.pins ah ((a0.mono (Pin.le_refl _)).src f.pins (by decide)) (f.size) (fun c0 ga c1 c2 c3 gb => ?_)))
 have ai := f.write c2 c3 ((yN ah))
 have gc : (([]) ++ ((xs.take j).drop 0)).length = ([]).length + ((xs.take j).drop 0).length := List.length_append
 refine ⟨fun _ => ai.pins, ?_⟩
 refine dO (i := 6) (zU (i := 6) rfl rfl rfl (zD rfl _) (xA (E := eInt) (e := 3) [(vJ n)] [n] Tryz.underlying56 sz3 zr3 (by exact xZ (by rfl)) (xN (by rfl)) rfl rfl rfl rfl (by decide) ai.pins (fun bk c4 c5 c6 bl gd => ?_)))
 have aj := ai.step c6 bl
 have bm := c1.below bl
 have c7 : Own eInt 3 G c4 w.heap.size bk ([n]) := c5.weaken ai.size
 refine ⟨fun _ => aj.pins, ?_⟩
 refine dO (i := 7) (zU (i := 7) rfl rfl rfl (zD rfl _) (oA (E := eInt) (v := c0) (u := bk) 8 Tryz.underlying56 ap3 (by decide) rfl rfl aj.pins bm c7.src (aj.size) (fun c8 ge bn da db gf => ?_)))
 have m := aj.write da db ((yN bm))
 have gg : ((([]) ++ ((xs.take j).drop 0)) ++ ([n])).length = (([]) ++ ((xs.take j).drop 0)).length + 1 := List.length_append
 refine ⟨fun _ => m.pins, ?_⟩
 refine dO (i := 11) (zU (i := 11) rfl rfl rfl (zD rfl _) (oA (E := eInt) (v := c8) (u := a1) 8 Tryz.underlying56 ap3 (by decide) rfl rfl m.pins bn ((a2.mono (Pin.le_refl _)).src m.pins (by decide)) (m.size) (fun bo gh dc dd de gi => ?_)))
 have a3 := m.write dd de ((yN bn))
 have gj : (((([]) ++ ((xs.take j).drop 0)) ++ ([n])) ++ ((xs.take xs.length).drop j)).length = ((([]) ++ ((xs.take j).drop 0)) ++ ([n])).length + ((xs.take xs.length).drop j).length := List.length_append
 refine ⟨fun _ => a3.pins, ?_⟩
 refine dM 12 bo a3.pins ?_
 exact yQ (by kernel_rfl) (qV ⟨_, bo, G, (pU 4), a3, (Pin.le_refl _), dc⟩)
 refine (zU (i := 6) rfl rfl rfl (zD rfl _) (xA (E := eInt) (e := 3) [(vJ n)] [n] Tryz.underlying56 sz3 zr3 (by exact xZ (by rfl)) (xN (by rfl)) rfl rfl rfl rfl (by decide) f.pins (fun a4 df dg dh bp di => ?_)))
 have o := f.step dh bp
 have bq := ah.below bp
 have dj : Apart a4.ownBlock ag.ownBlock := zI di ah.lt
 have dk : Own eInt 3 G df w.heap.size a4 ([n]) := dg.weaken f.size
 refine ⟨fun _ => o.pins, ?_⟩
 refine dO (i := 4) (zU (i := 4) rfl rfl rfl (zD rfl _) (oA (E := eInt) (v := ag) (u := az) 8 Tryz.underlying56 ap3 (by decide) rfl rfl o.pins bq ((a0.mono (Pin.le_refl _)).src o.pins (by decide)) (o.size) (fun dl gk br dm bs gl => ?_)))
 have ak := o.write dm bs ((yN bq))
 have dn := dk.keptA bs dj
 have gm : (([]) ++ ((xs.take j).drop 0)).length = ([]).length + ((xs.take j).drop 0).length := List.length_append
 refine ⟨fun _ => ak.pins, ?_⟩
 refine dO (i := 7) (zU (i := 7) rfl rfl rfl (zD rfl _) (oA (E := eInt) (v := dl) (u := a4) 8 Tryz.underlying56 ap3 (by decide) rfl rfl ak.pins br dn.src (ak.size) (fun dp gn bt dq dr gp => ?_)))
 have q := ak.write dq dr ((yN br))
 have gq : ((([]) ++ ((xs.take j).drop 0)) ++ ([n])).length = (([]) ++ ((xs.take j).drop 0)).length + 1 := List.length_append
 refine ⟨fun _ => q.pins, ?_⟩
 refine dO (i := 11) (zU (i := 11) rfl rfl rfl (zD rfl _) (oA (E := eInt) (v := dp) (u := a1) 8 Tryz.underlying56 ap3 (by decide) rfl rfl q.pins bt ((a2.mono (Pin.le_refl _)).src q.pins (by decide)) (q.size) (fun bu gr ds dt du gs => ?_)))
 have a5 := q.write dt du ((yN bt))
 have gt : (((([]) ++ ((xs.take j).drop 0)) ++ ([n])) ++ ((xs.take xs.length).drop j)).length = ((([]) ++ ((xs.take j).drop 0)) ++ ([n])).length + ((xs.take xs.length).drop j).length := List.length_append
 refine ⟨fun _ => a5.pins, ?_⟩
 refine dM 12 bu a5.pins ?_
 exact yQ (by kernel_rfl) (qV ⟨_, bu, G, (pU 4), a5, (Pin.le_refl _), ds⟩)
 refine (zU (i := 6) rfl rfl rfl (zD rfl _) (xA (E := eInt) (e := 3) [(vJ n)] [n] Tryz.underlying56 sz3 zr3 (by exact xZ (by rfl)) (xN (by rfl)) rfl rfl rfl rfl (by decide) a.pins (fun a6 dv dw dx dy gu => ?_)))
 have al := a.step dx dy
 have bv : Own eInt 3 G dv w.heap.size a6 ([n]) := dw.weaken a.size
 refine ⟨fun _ => al.pins, ?_⟩
 refine dO (i := 0) (zU (i := 0) rfl rfl rfl (zD rfl _) (xD (E := eInt) (e := 3) Tryz.underlying56 sz3 al.pins (fun a7 dz d0 d1 bw d2 => ?_)))
 have s := al.step d1 bw
 have d3 := bv.below bw
 have d4 : Apart a7.ownBlock a6.ownBlock := zI d2 bv.lt
 have bx : Own eInt 3 G dz w.heap.size a7 ([]) := d0.weaken al.size
 refine ⟨fun _ => s.pins, ?_⟩
 refine dO (i := 4) (zU (i := 4) rfl rfl rfl (zD rfl _) (oA (E := eInt) (v := a7) (u := az) 8 Tryz.underlying56 ap3 (by decide) rfl rfl s.pins bx ((a0.mono (Pin.le_refl _)).src s.pins (by decide)) (s.size) (fun d5 gv bz d6 b0 gw => ?_)))
 have am := s.write d6 b0 ((yN bx))
 have d7 := d3.keptA b0 d4.symm
 have gx : (([]) ++ ((xs.take j).drop 0)).length = ([]).length + ((xs.take j).drop 0).length := List.length_append
 refine ⟨fun _ => am.pins, ?_⟩
 refine dO (i := 7) (zU (i := 7) rfl rfl rfl (zD rfl _) (oA (E := eInt) (v := d5) (u := a6) 8 Tryz.underlying56 ap3 (by decide) rfl rfl am.pins bz d7.src (am.size) (fun d8 gy b1 d9 ea gz => ?_)))
 have x := am.write d9 ea ((yN bz))
 have g0 : ((([]) ++ ((xs.take j).drop 0)) ++ ([n])).length = (([]) ++ ((xs.take j).drop 0)).length + 1 := List.length_append
 refine ⟨fun _ => x.pins, ?_⟩
 refine dO (i := 11) (zU (i := 11) rfl rfl rfl (zD rfl _) (oA (E := eInt) (v := d8) (u := a1) 8 Tryz.underlying56 ap3 (by decide) rfl rfl x.pins b1 ((a2.mono (Pin.le_refl _)).src x.pins (by decide)) (x.size) (fun b2 g1 eb ec ed g2 => ?_)))
 have a8 := x.write ec ed ((yN b1))
 have g3 : (((([]) ++ ((xs.take j).drop 0)) ++ ([n])) ++ ((xs.take xs.length).drop j)).length = ((([]) ++ ((xs.take j).drop 0)) ++ ([n])).length + ((xs.take xs.length).drop j).length := List.length_append
 refine ⟨fun _ => a8.pins, ?_⟩
 refine dM 12 b2 a8.pins ?_
 exact yQ (by kernel_rfl) (qV ⟨_, b2, G, (pU 4), a8, (Pin.le_refl _), eb⟩)
 refine qW ?_
 refine qW ?_
 refine qW ?_
 refine qW ?_
 refine qW ?_
 refine qW ?_
 refine qD rfl (zY (v := (.bool false)) rfl rfl) (qe (zA ?_))
 refine qA rfl rfl (wp_exit (zW (yO (yI (zA (zB (zB (zC ?_))))))))
 refine qM (vJ (j : Int)) ?_
 refine qM v ?_
 refine qD rfl (zM Tryz.underlying56 (v := v) rfl hv) (qD rfl (yV rfl rfl) (qM (.bool (decide (((j : Int) : Int) < (xs.length : Int)))) ?_))
 refine qbd (p := ((j : Int) : Int) < (xs.length : Int)) (t := 24) rfl (fun h => absurd h h5) (fun _ => ?_)
 refine qW ?_
 refine qW ?_
 refine qW ?_
 refine qW ?_
 refine qW ?_
 refine qW ?_
 refine qD rfl (zY (v := (.bool false)) rfl rfl) (qe (zA ?_))
 refine qA rfl rfl (wp_skip (zA (zB ?_)))
 refine c_cut (fun (en : Nat → Value) (W : World) => ∃ (c : Nat → Value) (an : Value) (ao : Pin), en = (upd c 4 an) ∧ Ext noS G w ao W ∧ Pin.le G ao ∧ (Own eInt 3 ao W w.heap.size an (((([]) ++ ((xs.take j).drop 0)) ++ ([n])) ++ ((xs.take xs.length).drop j)))) ?_ ?_
 ·rintro _ g4 ⟨c, an, ao, rfl, ee, g5, ef⟩
  refine zA (wp_ret (zO (zP (v := an) rfl rfl rfl ?_)))
  obtain ⟨g6, g7, eg, eh, g8⟩ := ef.sealed ee
  exact ⟨_, _, rfl, (by rw [← put_new (fun h => ⟨by omega, by omega⟩) hr]; exact eh), eg⟩
 refine yZ (S := fun wz => Pins G wz) (last := 13) (by kernel_rfl) rfl ?_
 have b3 : Below l.heap.size l l.drew := (Below.refl _ _).drew
 have ei := d.pins.below b3
 have b := d.step ei b3
 refine dM 1 v b.pins ?_
 refine dM 2 (vJ (j : Int)) b.pins ?_
 obtain ⟨a9, ba, ej⟩ := qU hv (lo := none) (hi := (some ((j : Int)))) (0) (j) (Or.inl ⟨rfl, rfl⟩) (Or.inr ⟨_, rfl, (by omega), rfl⟩) (by omega) (by omega)
 refine dT (i := 3) rfl rfl (by kernel_rfl) (fun _ _ => ej Tryz.underlying56 sz3 rfl rfl rfl) b.pins ?_
 refine dM 5 (vJ n) b.pins ?_
 refine dM 8 v b.pins ?_
 refine dM 9 (vJ (j : Int)) b.pins ?_
 obtain ⟨bb, bc, ek⟩ := qU hv (lo := (some ((j : Int)))) (hi := none) (j) (xs.length) (Or.inr ⟨_, rfl, (by omega), rfl⟩) (Or.inl ⟨rfl, rfl⟩) (by omega) (by omega)
 refine dT (i := 10) rfl rfl (by kernel_rfl) (fun _ _ => ek Tryz.underlying56 sz3 rfl rfl rfl) b.pins ?_
 refine dr_two (i := 0) (j := 6) (by kernel_rfl) ?_ ?_
 refine (zU (i := 0) rfl rfl rfl (zD rfl _) (xD (E := eInt) (e := 3) Tryz.underlying56 sz3 b.pins (fun ap el em eo ep g9 => ?_)))
 have g := b.step eo ep
 have aq : Own eInt 3 G el w.heap.size ap ([]) := em.weaken b.size
 refine ⟨fun _ => g.pins, ?_⟩
 refine dr_two (i := 4) (j := 6) (by kernel_rfl) ?_ ?_
 refine (zU (i := 4) rfl rfl rfl (zD rfl _) (oA (E := eInt) (v := ap) (u := a9) 8 Tryz.underlying56 ap3 (by decide) rfl rfl g.pins aq ((ba.mono (Pin.le_refl _)).src g.pins (by decide)) (g.size) (fun eq ha er es et hb => ?_)))
 have ar := g.write es et ((yN aq))
 have hc : (([]) ++ ((xs.take j).drop 0)).length = ([]).length + ((xs.take j).drop 0).length := List.length_append
 refine ⟨fun _ => ar.pins, ?_⟩
 refine dO (i := 6) (zU (i := 6) rfl rfl rfl (zD rfl _) (xA (E := eInt) (e := 3) [(vJ n)] [n] Tryz.underlying56 sz3 zr3 (by exact xZ (by rfl)) (xN (by rfl)) rfl rfl rfl rfl (by decide) ar.pins (fun b4 eu ev ew b5 hd => ?_)))
 have au := ar.step ew b5
 have b6 := er.below b5
 have ex : Own eInt 3 G eu w.heap.size b4 ([n]) := ev.weaken ar.size
 refine ⟨fun _ => au.pins, ?_⟩
 refine dO (i := 7) (zU (i := 7) rfl rfl rfl (zD rfl _) (oA (E := eInt) (v := eq) (u := b4) 8 Tryz.underlying56 ap3 (by decide) rfl rfl au.pins b6 ex.src (au.size) (fun ey he b7 ez e0 hf => ?_)))
 have y := au.write ez e0 ((yN b6))
 have hg : ((([]) ++ ((xs.take j).drop 0)) ++ ([n])).length = (([]) ++ ((xs.take j).drop 0)).length + 1 := List.length_append
 refine ⟨fun _ => y.pins, ?_⟩
 refine dO (i := 11) (zU (i := 11) rfl rfl rfl (zD rfl _) (oA (E := eInt) (v := ey) (u := bb) 8 Tryz.underlying56 ap3 (by decide) rfl rfl y.pins b7 ((bc.mono (Pin.le_refl _)).src y.pins (by decide)) (y.size) (fun b8 hh e1 e2 e3 hk => ?_)))
 have bd := y.write e2 e3 ((yN b7))
 have hl : (((([]) ++ ((xs.take j).drop 0)) ++ ([n])) ++ ((xs.take xs.length).drop j)).length = ((([]) ++ ((xs.take j).drop 0)) ++ ([n])).length + ((xs.take xs.length).drop j).length := List.length_append
 refine ⟨fun _ => bd.pins, ?_⟩
 refine dM 12 b8 bd.pins ?_
 exact yQ (by kernel_rfl) (qV ⟨_, b8, G, (pU 4), bd, (Pin.le_refl _), e1⟩)
 refine (zU (i := 6) rfl rfl rfl (zD rfl _) (xA (E := eInt) (e := 3) [(vJ n)] [n] Tryz.underlying56 sz3 zr3 (by exact xZ (by rfl)) (xN (by rfl)) rfl rfl rfl rfl (by decide) g.pins (fun be e4 e5 e6 b9 e7 => ?_)))
 have aa := g.step e6 b9
 have ca := aq.below b9
 have e8 : Apart be.ownBlock ap.ownBlock := zI e7 aq.lt
 have e9 : Own eInt 3 G e4 w.heap.size be ([n]) := e5.weaken g.size
 refine ⟨fun _ => aa.pins, ?_⟩
 refine dO (i := 4) (zU (i := 4) rfl rfl rfl (zD rfl _) (oA (E := eInt) (v := ap) (u := a9) 8 Tryz.underlying56 ap3 (by decide) rfl rfl aa.pins ca ((ba.mono (Pin.le_refl _)).src aa.pins (by decide)) (aa.size) (fun fa hm cb fb cc hn => ?_)))
 have av := aa.write fb cc ((yN ca))
 have fc := e9.keptA cc e8
 have ho : (([]) ++ ((xs.take j).drop 0)).length = ([]).length + ((xs.take j).drop 0).length := List.length_append
 refine ⟨fun _ => av.pins, ?_⟩
 refine dO (i := 7) (zU (i := 7) rfl rfl rfl (zD rfl _) (oA (E := eInt) (v := fa) (u := be) 8 Tryz.underlying56 ap3 (by decide) rfl rfl av.pins cb fc.src (av.size) (fun fd hp cd fe ff hq => ?_)))
 have ab := av.write fe ff ((yN cb))
 have ht : ((([]) ++ ((xs.take j).drop 0)) ++ ([n])).length = (([]) ++ ((xs.take j).drop 0)).length + 1 := List.length_append
 refine ⟨fun _ => ab.pins, ?_⟩
 refine dO (i := 11) (zU (i := 11) rfl rfl rfl (zD rfl _) (oA (E := eInt) (v := fd) (u := bb) 8 Tryz.underlying56 ap3 (by decide) rfl rfl ab.pins cd ((bc.mono (Pin.le_refl _)).src ab.pins (by decide)) (ab.size) (fun ce hu fg fh fi hw => ?_)))
 have bf := ab.write fh fi ((yN cd))
 have hx : (((([]) ++ ((xs.take j).drop 0)) ++ ([n])) ++ ((xs.take xs.length).drop j)).length = ((([]) ++ ((xs.take j).drop 0)) ++ ([n])).length + ((xs.take xs.length).drop j).length := List.length_append
 refine ⟨fun _ => bf.pins, ?_⟩
 refine dM 12 ce bf.pins ?_
 exact yQ (by kernel_rfl) (qV ⟨_, ce, G, (pU 4), bf, (Pin.le_refl _), fg⟩)
 refine (zU (i := 6) rfl rfl rfl (zD rfl _) (xA (E := eInt) (e := 3) [(vJ n)] [n] Tryz.underlying56 sz3 zr3 (by exact xZ (by rfl)) (xN (by rfl)) rfl rfl rfl rfl (by decide) b.pins (fun bg fj fk fl fm hy => ?_)))
 have aw := b.step fl fm
 have cf : Own eInt 3 G fj w.heap.size bg ([n]) := fk.weaken b.size
 refine ⟨fun _ => aw.pins, ?_⟩
 refine dO (i := 0) (zU (i := 0) rfl rfl rfl (zD rfl _) (xD (E := eInt) (e := 3) Tryz.underlying56 sz3 aw.pins (fun bh fn fo fp cg fq => ?_)))
 have ac := aw.step fp cg
 have fr := cf.below cg
 have fs : Apart bh.ownBlock bg.ownBlock := zI fq cf.lt
 have ch : Own eInt 3 G fn w.heap.size bh ([]) := fo.weaken aw.size
 refine ⟨fun _ => ac.pins, ?_⟩
 refine dO (i := 4) (zU (i := 4) rfl rfl rfl (zD rfl _) (oA (E := eInt) (v := bh) (u := a9) 8 Tryz.underlying56 ap3 (by decide) rfl rfl ac.pins ch ((ba.mono (Pin.le_refl _)).src ac.pins (by decide)) (ac.size) (fun ft hz ci fu cj h0 => ?_)))
 have ax := ac.write fu cj ((yN ch))
 have fv := fr.keptA cj fs.symm
 have h1 : (([]) ++ ((xs.take j).drop 0)).length = ([]).length + ((xs.take j).drop 0).length := List.length_append
 refine ⟨fun _ => ax.pins, ?_⟩
 refine dO (i := 7) (zU (i := 7) rfl rfl rfl (zD rfl _) (oA (E := eInt) (v := ft) (u := bg) 8 Tryz.underlying56 ap3 (by decide) rfl rfl ax.pins ci fv.src (ax.size) (fun fw h2 ck fx fy h3 => ?_)))
 have ad := ax.write fx fy ((yN ci))
 have h4 : ((([]) ++ ((xs.take j).drop 0)) ++ ([n])).length = (([]) ++ ((xs.take j).drop 0)).length + 1 := List.length_append
 refine ⟨fun _ => ad.pins, ?_⟩
 refine dO (i := 11) (zU (i := 11) rfl rfl rfl (zD rfl _) (oA (E := eInt) (v := fw) (u := bb) 8 Tryz.underlying56 ap3 (by decide) rfl rfl ad.pins ck ((bc.mono (Pin.le_refl _)).src ad.pins (by decide)) (ad.size) (fun cl h7 fz f0 f1 h9 => ?_)))
 have bi := ad.write f0 f1 ((yN ck))
 have ia : (((([]) ++ ((xs.take j).drop 0)) ++ ([n])) ++ ((xs.take xs.length).drop j)).length = ((([]) ++ ((xs.take j).drop 0)) ++ ([n])).length + ((xs.take xs.length).drop j).length := List.length_append
 refine ⟨fun _ => bi.pins, ?_⟩
 refine dM 12 cl bi.pins ?_
 exact yQ (by kernel_rfl) (qV ⟨_, cl, G, (pU 4), bi, (Pin.le_refl _), fz⟩)

theorem l1Same_spec {w : World} {G : Pin} {u v : Value} {xs ys : List Int} (hP : Pins G w) (hu : RSl eInt G u xs) (hv : RSl eInt G v ys) :
  Calls Tryz.prog 78 [u, v].toArray w fun e w' => e = .returned (.bool (decide (xs = ys))) ∧ Ext noS G w G w' := by
 refine zV (n := 26) Tryz.func78 Tryz.ntmps78 rfl rfl ?_
 have f : Ext noS G w G w := Ext.refl hP
 have hm := hu.max
 refine zB (zC ?_)
 refine qM (.bool false) ?_
 refine qe (zA (zB (zB (zC ?_))))
 refine qM u ?_
 refine qD rfl (zM Tryz.underlying56 (v := u) rfl hu) (qM v ?_)
 refine qD rfl (zM Tryz.underlying56 (v := v) rfl hv) (qD rfl (jG rfl rfl) (qe (zA ?_)))
 refine yA (p := ((xs.length : Int) : Int) ≠ (ys.length : Int)) rfl rfl (fun g => ?_) (fun g => ?_)
 refine zB (zC ?_)
 refine qM (.bool false) ?_
 refine qe (zA ?_)
 exact wp_ret (zO (zP (v := (.bool false)) rfl rfl rfl (⟨congrArg (fun z => Ending.returned (Value.bool z)) (decide_eq_false (fun e => g (by rw [e]))).symm, f⟩)))
 refine wp_skip (zA (zB (zB (zC ?_))))
 refine qM (vJ 0) ?_
 refine qe (zA ?_)
 refine zX (yT (fun (k : Nat) (en : Nat → Value) (W : World) => ∃ (h : Nat → Value) (j : Nat), en = (upd (upd (upd h 0 u) 1 v) 5 (vJ (j : Int))) ∧ k = xs.length - j ∧ Ext noS G w G W ∧ (j ≤ xs.length) ∧ (xs.length = ys.length) ∧ (∀ i, i < j → xs.getD i 0 = ys.getD i 0)) _ ⟨_, 0, (pS 5 (pS 1 (pU 0))), rfl, f, Nat.zero_le _, (by omega), (fun i hi => absurd hi (Nat.not_lt_zero i))⟩ ?_)
 rintro q _ b ⟨h, j, rfl, s, c, hj, heq, hp⟩
 refine zB (zB (zC ?_))
 refine qM (vJ (j : Int)) ?_
 refine qM u ?_
 refine qD rfl (zM Tryz.underlying56 (v := u) rfl hu) (qD rfl (yV rfl rfl) (qe (zA ?_)))
 refine yA (p := ((j : Int) : Int) < (xs.length : Int)) rfl rfl (fun m => ?_) (fun m => ?_)
 refine wp_skip (zA (zB ?_))
 refine zX (zB (yZ (S := fun wz => Pins G wz) (last := 9) (by kernel_rfl) rfl ?_))
 have l : Below b.heap.size b b.drew := (Below.refl _ _).drew
 have o := c.pins.below l
 have a := c.step o l
 refine dM 0 u a.pins ?_
 refine dM 1 (vJ (j : Int)) a.pins ?_
 refine dT (i := 2) rfl rfl (by kernel_rfl) (fun _ _ => zF Tryz.underlying56 sz3 (v := u) rfl rfl hu (by omega) (by omega)) a.pins ?_
 refine dT (i := 3) rfl rfl (by kernel_rfl) (fun _ hS => zE (r := xs.getD j 0) rfl ag3 (z := (j : Int)) rfl hu hS (by omega) (by omega)) a.pins ?_
 refine dM 4 v a.pins ?_
 refine dM 5 (vJ (j : Int)) a.pins ?_
 refine dT (i := 6) rfl rfl (by kernel_rfl) (fun _ _ => zF Tryz.underlying56 sz3 (v := v) rfl rfl hv (by omega) (by omega)) a.pins ?_
 refine dT (i := 7) rfl rfl (by kernel_rfl) (fun _ hS => zE (r := ys.getD j 0) rfl ag3 (z := (j : Int)) rfl hv hS (by omega) (by omega)) a.pins ?_
 refine dT (i := 8) rfl rfl (by kernel_rfl) (fun _ _ => jG rfl rfl) a.pins ?_
 refine yQ (by kernel_rfl) (zA (yA (p := (xs.getD j 0 : Int) ≠ (ys.getD j 0)) rfl rfl (fun d => ?_) (fun d => ?_)))
 refine zB (zC ?_)
 refine qM (.bool false) ?_
 refine qe (zA ?_)
 exact wp_ret (zO (zP (v := (.bool false)) rfl rfl rfl (⟨congrArg (fun z => Ending.returned (Value.bool z)) (decide_eq_false (fun e => d (by rw [e]))).symm, a⟩)))
 refine wp_skip (yB (zA (zC ?_)))
 refine qM (vJ (j : Int)) ?_
 refine qD rfl (yJ rfl rfl (by omega)) (qM (vJ ((j : Int) + 1)) ?_)
 refine qe (zZ (⟨_, ?_, _, rfl, _, j + 1, (pS 5 (pS 1 (pU 0))), rfl, a, (by omega), heq, (eqstep hp d)⟩))
 omega
 refine wp_exit (zW (yO (yI (zA (zB (zC ?_))))))
 refine qM (.bool true) ?_
 refine qe (zA ?_)
 exact wp_ret (zO (zP (v := (.bool true)) rfl rfl rfl (⟨congrArg (fun z => Ending.returned (Value.bool z)) (decide_eq_true (eqdone heq (by omega) hp)).symm, c⟩)))

theorem qZ {w : World} {G Gr : Pin} {u v : Value} {a xs : List Int} (hP : Pins G w) (hPr : Pins Gr w) (hu : RSl eInt Gr u a) (hv : RSl eInt G v xs) (hs : xs.length ≤ 1048576) (hk : ∀ i, i < xs.length → 0 ≤ xs.getD i 0 ∧ xs.getD i 0 < a.length) :
  Calls Tryz.prog 58 [u, v].toArray w fun e w' => ∃ (u : Value) (G' : Pin), e = .returned u ∧ Own eInt 3 G' w' w.heap.size u (atL a xs) ∧ Ext noS G w G' w' := by
 refine zV (n := 25) Tryz.func58 Tryz.ntmps58 rfl rfl ?_
 have c : Ext noS G w G w := Ext.refl hP
 refine zB (zC ?_)
 refine qM (.slice none 0 0) ?_
 refine qe (zA (zB (zC ?_)))
 refine qI rfl (xD (E := eInt) (e := 3) Tryz.underlying56 sz3 c.pins (fun d t x y aa am => ?_))
 have ab := c.step y aa
 have ac : Own eInt 3 G t w.heap.size d ([]) := x.weaken c.size
 refine qM d ?_
 refine qe (zA (zB (zB (zC ?_))))
 refine qM (vJ 0) ?_
 refine qe (zA ?_)
 refine zX (yT (fun (k : Nat) (en : Nat → Value) (W : World) => ∃ (g : Nat → Value) (j : Nat) (o : Value) (os : List Int), en = (upd (upd (upd (upd (upd g 0 u) 1 v) 4 (.slice none 0 0)) 5 o) 6 (vJ (j : Int))) ∧ k = xs.length - j ∧ Ext noS G w G W ∧ (j ≤ xs.length) ∧ (os = atL a (xs.take j)) ∧ (os.length = j) ∧ (Own eInt 3 G W w.heap.size o (os))) _ ⟨_, 0, d, [], (pS 6 (pS 5 (pS 4 (pS 1 (pU 0))))), rfl, ab, Nat.zero_le _, rfl, rfl, ac⟩ ?_)
 rintro k9 _ ao ⟨g, j, o, os, rfl, ap, b, hj, hr, hol, h⟩
 refine zB (zB (zC ?_))
 refine qM (vJ (j : Int)) ?_
 refine qM v ?_
 refine qD rfl (zM Tryz.underlying56 (v := v) rfl hv) (qD rfl (yV rfl rfl) (qe (zA ?_)))
 refine yA (p := ((j : Int) : Int) < (xs.length : Int)) rfl rfl (fun ad => ?_) (fun ad => ?_)
 have hkj := hk j (by omega)
 refine wp_skip (zA (zB ?_))
 refine zX (zC (qM o ?_))
 refine qM u ?_
 refine qM v ?_
 refine qM (vJ (j : Int)) ?_
 refine qD rfl (zF Tryz.underlying56 sz3 (v := v) rfl rfl hv (by omega) (by omega)) (qD rfl (zE (r := xs.getD j 0) rfl ag3 (z := (j : Int)) rfl hv b.pins (by omega) (by omega)) (qD rfl (zF Tryz.underlying56 sz3 (v := u) rfl rfl hu (by omega) (by omega)) (qD rfl (zE (r := a.getD (xs.getD j 0).toNat 0) rfl ag3 (z := (xs.getD j 0)) rfl hu (hPr.ext0 b) (by omega) (by omega)) (qI rfl (xA (E := eInt) (e := 3) [(vJ (a.getD (xs.getD j 0).toNat 0))] [a.getD (xs.getD j 0).toNat 0] Tryz.underlying56 sz3 zr3 (by exact xZ (by rfl)) (xN (by rfl)) rfl rfl rfl rfl (by decide) b.pins (fun l ae af ag m aq => ?_))))))
 have f := b.step ag m
 have q := h.below m
 have ah : Own eInt 3 G ae w.heap.size l ([a.getD (xs.getD j 0).toNat 0]) := af.weaken b.size
 refine qI rfl (oA (E := eInt) (v := o) (u := l) 8 Tryz.underlying56 ap3 (by decide) rfl rfl f.pins q ah.src (f.size) (fun s ar ai aj ak au => ?_))
 have al := f.write aj ak ((yN q))
 have av : (os ++ ([a.getD (xs.getD j 0).toNat 0])).length = os.length + 1 := List.length_append
 refine qM s ?_
 refine qe (yB (zA (zC ?_)))
 refine qM (vJ (j : Int)) ?_
 refine qD rfl (yJ rfl rfl (by omega)) (qM (vJ ((j : Int) + 1)) ?_)
 refine qe (zZ (⟨_, ?_, _, rfl, _, j + 1, s, os ++ [a.getD (xs.getD j 0).toNat 0], (pS 6 (pS 5 (pS 4 (pS 1 (pU 0))))), rfl, al, (by omega), (by rw [hr, at_next (by omega)]), (by rw [List.length_append, hol]; rfl), ai⟩))
 omega
 refine wp_exit (zW (yO (yI (zA (zB (zC ?_))))))
 refine qM o ?_
 refine qM o ?_
 refine qe (zA ?_)
 exact wp_ret (zO (zP (v := o) rfl rfl rfl (⟨_, _, rfl, (by rw [take_all (by omega)] at hr; rw [← hr]; exact h), b⟩)))

theorem qF {w : World} {G : Pin} {v : Value} {xs : List Int} (hP : Pins G w) (hv : RSl eInt G v xs) (hs : xs.length ≤ 1048576) :
  Calls Tryz.prog 80 [v].toArray w fun e w' => ∃ (u : Value) (G' : Pin), e = .returned u ∧ RSl eInt G' u (sortL xs) ∧ Ext noS G w G' w' := by
 refine zV (n := 19) Tryz.func80 Tryz.ntmps80 rfl rfl ?_
 have c : Ext noS G w G w := Ext.refl hP
 refine zB (zC ?_)
 refine qM (.slice none 0 0) ?_
 refine qe (zA (zB (zC ?_)))
 refine qI rfl (xD (E := eInt) (e := 3) Tryz.underlying56 sz3 c.pins (fun d q s t x ai => ?_))
 have y := c.step t x
 have aa : Own eInt 3 G q w.heap.size d ([]) := s.weaken c.size
 refine qM d ?_
 refine qe (zA (zB (zB (zC ?_))))
 refine qM (vJ 0) ?_
 refine qe (zA ?_)
 refine zX ?_
 obtain ⟨f, ab, ac, ad, aj⟩ := aa.sealed y
 refine yT (fun (k : Nat) (en : Nat → Value) (W : World) => ∃ (g : Nat → Value) (j : Nat) (o : Value) (os : List Int) (a : Pin), en = (upd (upd (upd (upd g 0 v) 2 (.slice none 0 0)) 3 o) 4 (vJ (j : Int))) ∧ k = xs.length - j ∧ Ext noS G w a W ∧ Pin.le f a ∧ (j ≤ xs.length) ∧ (os = sortL (xs.take j)) ∧ (os.length ≤ j) ∧ (RSl eInt a o (os))) _ ⟨_, 0, d, [], f, (pS 4 (pS 3 (pS 2 (pU 0)))), rfl, ac, Pin.le_refl _, Nat.zero_le _, rfl, Nat.le_refl 0, ad⟩ ?_
 rintro k9 _ al ⟨g, j, o, os, a, rfl, am, b, h, hj, hr, hol, i⟩
 refine zB (zB (zC ?_))
 refine qM (vJ (j : Int)) ?_
 refine qM v ?_
 refine qD rfl (zM Tryz.underlying56 (v := v) rfl hv) (qD rfl (yV rfl rfl) (qe (zA ?_)))
 refine yA (p := ((j : Int) : Int) < (xs.length : Int)) rfl rfl (fun ae => ?_) (fun ae => ?_)
 refine wp_skip (zA (zB ?_))
 refine zX (zC (qM o ?_))
 refine qM v ?_
 refine qM (vJ (j : Int)) ?_
 refine qD rfl (zF Tryz.underlying56 sz3 (v := v) rfl rfl hv (by omega) (by omega)) (qD rfl (zE (r := xs.getD j 0) rfl ag3 (z := (j : Int)) rfl hv (Pins.of_le b.pins (Pin.le_trans ab h)) (by omega) (by omega)) (qI rfl (zH (vs := [o, (vJ (xs.getD j 0))]) Tryz.func98 nm98 rfl rfl rfl ?_)))
 refine Calls.mono (jD b.pins i (by omega)) ?_
 rintro _ an ⟨l, af, rfl, ag, m⟩
 refine ⟨_, rfl, ?_⟩
 have ah := b.tr m
 refine qM l ?_
 refine qe (yB (zA (zC ?_)))
 refine qM (vJ (j : Int)) ?_
 refine qD rfl (yJ rfl rfl (by omega)) (qM (vJ ((j : Int) + 1)) ?_)
 refine qe (zZ (⟨_, ?_, _, rfl, _, j + 1, l, putL os (xs.getD j 0), af, (pS 4 (pS 3 (pS 2 (pU 0)))), rfl, ah, (Pin.le_trans h m.le), (by omega), (by rw [hr, sort_next (by omega)]), (Nat.le_trans putL_length (by omega)), ag⟩))
 omega
 refine wp_exit (zW (yO (yI (zA (zB (zC ?_))))))
 refine qM o ?_
 refine qM o ?_
 refine qe (zA ?_)
 exact wp_ret (zO (zP (v := o) rfl rfl rfl (⟨_, _, rfl, (by rw [take_all (by omega)] at hr; rw [← hr]; exact i), b⟩)))

end C1
end Go.Proofs.YtakkjmlnmcemaaaGreatDoor

set_option maxRecDepth 20000
set_option maxHeartbeats 2000000
namespace Go.Proofs.YtakkjmlnmcemaaaGreatDoor
namespace D1
open Go.RowKit Go.GL Go.Proofs
open C1











theorem pl65 : (Tryz.prog.underlying 65).bind (placesD Tryz.prog) = some [(0, 1), (1, 1)] := by kernel_rfl






theorem l3List_spec {w : World} {G : Pin} {u v : Value} {xs ys : List Int} (hP : Pins G w) (hu : RSl eInt G u xs) (hv : RSl eInt G v ys) :
  Calls Tryz.prog 99 [u, v].toArray w fun e w' => e = .returned (vJ (cmpL xs ys)) ∧ Ext noS G w G w' := by
 refine zV (n := 48) Tryz.func99 Tryz.ntmps99 rfl rfl ?_
 have m : Ext noS G w G w := Ext.refl hP
 have hm := hu.max
 refine zB (zC ?_)
 refine qM (vJ 0) ?_
 refine qe (zA (zB (zB (zC ?_))))
 refine qM (vJ 0) ?_
 refine qe (zA ?_)
 refine zX (yT (fun (k : Nat) (en : Nat → Value) (W : World) => ∃ (g : Nat → Value) (j : Nat), en = (upd (upd (upd g 0 u) 1 v) 5 (vJ (j : Int))) ∧ k = xs.length - j ∧ Ext noS G w G W ∧ (j ≤ xs.length ∧ j ≤ ys.length) ∧ (cmpL xs ys = cmpL (xs.drop j) (ys.drop j))) _ ⟨_, 0, (pS 5 (pS 1 (pU 0))), rfl, m, ⟨Nat.zero_le _, Nat.zero_le _⟩, rfl⟩ ?_)
 rintro k1 _ d ⟨g, j, rfl, af, c, hj, hr⟩
 refine zB (zB (zC ?_))
 refine qM (vJ (j : Int)) ?_
 refine qM u ?_
 refine qD rfl (zM Tryz.underlying56 (v := u) rfl hu) (qD rfl (yV rfl rfl) (qM (.bool (decide (((j : Int) : Int) < (xs.length : Int)))) ?_))
 refine qbd (p := ((j : Int) : Int) < (xs.length : Int)) (t := 10) rfl (fun o => ?_) (fun o => ?_)
 refine qN (zQ (v := (vJ (j : Int))) rfl) ?_
 refine qN (zQ (v := v) rfl) ?_
 refine qN (zM Tryz.underlying56 (v := v) rfl hv) ?_
 refine qN (yV rfl rfl) ?_
 refine qD rfl (yD (v := (.bool (decide (((j : Int) : Int) < (ys.length : Int))))) rfl rfl) (qe (zA ?_))
 refine yA (p := ((j : Int) : Int) < (ys.length : Int)) rfl rfl (fun q => ?_) (fun q => ?_)
 refine wp_skip (zA (zB ?_))
 refine zX (zB (yZ (S := fun wz => Pins G wz) (last := 9) (by kernel_rfl) rfl ?_))
 have h : Below d.heap.size d d.drew := (Below.refl _ _).drew
 have s := c.pins.below h
 have a := c.step s h
 refine dM 0 u a.pins ?_
 refine dM 1 (vJ (j : Int)) a.pins ?_
 refine dT (i := 2) rfl rfl (by kernel_rfl) (fun _ _ => zF Tryz.underlying56 sz3 (v := u) rfl rfl hu (by omega) (by omega)) a.pins ?_
 refine dT (i := 3) rfl rfl (by kernel_rfl) (fun _ hS => zE (r := xs.getD j 0) rfl ag3 (z := (j : Int)) rfl hu hS (by omega) (by omega)) a.pins ?_
 refine dM 4 v a.pins ?_
 refine dM 5 (vJ (j : Int)) a.pins ?_
 refine dT (i := 6) rfl rfl (by kernel_rfl) (fun _ _ => zF Tryz.underlying56 sz3 (v := v) rfl rfl hv (by omega) (by omega)) a.pins ?_
 refine dT (i := 7) rfl rfl (by kernel_rfl) (fun _ hS => zE (r := ys.getD j 0) rfl ag3 (z := (j : Int)) rfl hv hS (by omega) (by omega)) a.pins ?_
 refine dT (i := 8) rfl rfl (by kernel_rfl) (fun _ _ => jG rfl rfl) a.pins ?_
 refine yQ (by kernel_rfl) (zA (yA (p := (xs.getD j 0 : Int) ≠ (ys.getD j 0)) rfl rfl (fun x => ?_) (fun x => ?_)))
 refine zB (zB ?_)
 refine yZ (S := fun wz => Pins G wz) (last := 9) (by kernel_rfl) rfl ?_
 have l : Below d.drew.heap.size d.drew d.drew.drew := (Below.refl _ _).drew
 have y := a.pins.below l
 have b := a.step y l
 refine dM 0 u b.pins ?_
 refine dM 1 (vJ (j : Int)) b.pins ?_
 refine dT (i := 2) rfl rfl (by kernel_rfl) (fun _ _ => zF Tryz.underlying56 sz3 (v := u) rfl rfl hu (by omega) (by omega)) b.pins ?_
 refine dT (i := 3) rfl rfl (by kernel_rfl) (fun _ hS => zE (r := xs.getD j 0) rfl ag3 (z := (j : Int)) rfl hu hS (by omega) (by omega)) b.pins ?_
 refine dM 4 v b.pins ?_
 refine dM 5 (vJ (j : Int)) b.pins ?_
 refine dT (i := 6) rfl rfl (by kernel_rfl) (fun _ _ => zF Tryz.underlying56 sz3 (v := v) rfl rfl hv (by omega) (by omega)) b.pins ?_
 refine dT (i := 7) rfl rfl (by kernel_rfl) (fun _ hS => zE (r := ys.getD j 0) rfl ag3 (z := (j : Int)) rfl hv hS (by omega) (by omega)) b.pins ?_
 refine dT (i := 8) rfl rfl (by kernel_rfl) (fun _ _ => yV rfl rfl) b.pins ?_
 refine yQ (by kernel_rfl) (zA (yA (p := (xs.getD j 0 : Int) < (ys.getD j 0)) rfl rfl (fun f => ?_) (fun f => ?_)))
 refine zB (zC ?_)
 refine qM (vJ (-1)) ?_
 refine qe (zA ?_)
 exact wp_ret (zO (zP (v := (vJ (-1))) rfl rfl rfl (⟨congrArg (fun z => Ending.returned (Value.int .i64 z)) ((hr.trans ((cmpL_ne (by omega) (by omega) (by unfold cmpI; split <;> omega)).trans (by unfold cmpI; rw [if_pos f]))).symm), b⟩)))
 refine wp_skip (zA (zB (zC ?_)))
 refine qM (vJ 1) ?_
 refine qe (zA ?_)
 exact wp_ret (zO (zP (v := (vJ 1)) rfl rfl rfl (⟨congrArg (fun z => Ending.returned (Value.int .i64 z)) ((hr.trans ((cmpL_ne (by omega) (by omega) (by unfold cmpI; split <;> omega)).trans (by unfold cmpI; rw [if_neg f, if_pos (by omega)]))).symm), b⟩)))
 refine wp_skip (yB (zA (zC ?_)))
 refine qM (vJ (j : Int)) ?_
 refine qD rfl (yJ rfl rfl (by omega)) (qM (vJ ((j : Int) + 1)) ?_)
 refine qe (zZ (⟨_, ?_, _, rfl, _, j + 1, (pS 5 (pS 1 (pU 0))), rfl, a, (by omega), (hr.trans (cmpL_eq (by omega) (by omega) (by unfold cmpI; rw [if_neg (by omega), if_neg (by omega)]; omega)))⟩))
 omega
 refine wp_exit (zW (yO (yI (zA (zB ?_)))))
 refine zX (zB (zC ?_))
 refine qM u ?_
 refine qD rfl (zM Tryz.underlying56 (v := u) rfl hu) (qM v ?_)
 refine qD rfl (zM Tryz.underlying56 (v := v) rfl hv) (qD rfl (yV rfl rfl) (qM (.bool (decide (((xs.length : Int) : Int) < (ys.length : Int)))) ?_))
 refine qe (zA ?_)
 refine yA (p := ((xs.length : Int) : Int) < (ys.length : Int)) rfl rfl (fun aa => ?_) (fun aa => ?_)
 refine zB (zC ?_)
 refine qM (vJ (-1)) ?_
 refine qe (zA ?_)
 exact wp_ret (zO (zP (v := (vJ (-1))) rfl rfl rfl (⟨congrArg (fun z => Ending.returned (Value.int .i64 z)) ((hr.trans (cmpL_less (by omega) (by omega))).symm), c⟩)))
 refine zB (zC ?_)
 refine qM u ?_
 refine qD rfl (zM Tryz.underlying56 (v := u) rfl hu) (qM v ?_)
 refine qD rfl (zM Tryz.underlying56 (v := v) rfl hv) (qD rfl (r_gtr rfl rfl) (qM (.bool (decide (((ys.length : Int) : Int) < (xs.length : Int)))) ?_))
 refine qe (zA ?_)
 refine yA (p := ((ys.length : Int) : Int) < (xs.length : Int)) rfl rfl (fun ab => ?_) (fun ab => ?_)
 refine zB (zC ?_)
 refine qM (vJ 1) ?_
 refine qe (zA ?_)
 exact wp_ret (zO (zP (v := (vJ 1)) rfl rfl rfl (⟨congrArg (fun z => Ending.returned (Value.int .i64 z)) ((hr.trans (cmpL_more (by omega) (by omega))).symm), c⟩)))
 refine wp_skip (yB (zA (zB (zC ?_))))
 refine qM (vJ 0) ?_
 refine qe (zA ?_)
 exact wp_ret (zO (zP (v := (vJ 0)) rfl rfl rfl (⟨congrArg (fun z => Ending.returned (Value.int .i64 z)) ((hr.trans (cmpL_same (by omega) (by omega))).symm), c⟩)))
 refine qW ?_
 refine qW ?_
 refine qW ?_
 refine qW ?_
 refine qD rfl (zY (v := (.bool false)) rfl rfl) (qe (zA ?_))
 refine qA rfl rfl (wp_exit (zW (yO (yI (zA (zB ?_))))))
 refine zX (zB (zC ?_))
 refine qM u ?_
 refine qD rfl (zM Tryz.underlying56 (v := u) rfl hu) (qM v ?_)
 refine qD rfl (zM Tryz.underlying56 (v := v) rfl hv) (qD rfl (yV rfl rfl) (qM (.bool (decide (((xs.length : Int) : Int) < (ys.length : Int)))) ?_))
 refine qe (zA ?_)
 refine yA (p := ((xs.length : Int) : Int) < (ys.length : Int)) rfl rfl (fun ac => ?_) (fun ac => ?_)
 refine zB (zC ?_)
 refine qM (vJ (-1)) ?_
 refine qe (zA ?_)
 exact wp_ret (zO (zP (v := (vJ (-1))) rfl rfl rfl (⟨congrArg (fun z => Ending.returned (Value.int .i64 z)) ((hr.trans (cmpL_less (by omega) (by omega))).symm), c⟩)))
 refine zB (zC ?_)
 refine qM u ?_
 refine qD rfl (zM Tryz.underlying56 (v := u) rfl hu) (qM v ?_)
 refine qD rfl (zM Tryz.underlying56 (v := v) rfl hv) (qD rfl (r_gtr rfl rfl) (qM (.bool (decide (((ys.length : Int) : Int) < (xs.length : Int)))) ?_))
 refine qe (zA ?_)
 refine yA (p := ((ys.length : Int) : Int) < (xs.length : Int)) rfl rfl (fun ad => ?_) (fun ad => ?_)
 refine zB (zC ?_)
 refine qM (vJ 1) ?_
 refine qe (zA ?_)
 exact wp_ret (zO (zP (v := (vJ 1)) rfl rfl rfl (⟨congrArg (fun z => Ending.returned (Value.int .i64 z)) ((hr.trans (cmpL_more (by omega) (by omega))).symm), c⟩)))
 refine wp_skip (yB (zA (zB (zC ?_))))
 refine qM (vJ 0) ?_
 refine qe (zA ?_)
 exact wp_ret (zO (zP (v := (vJ 0)) rfl rfl rfl (⟨congrArg (fun z => Ending.returned (Value.int .i64 z)) ((hr.trans (cmpL_same (by omega) (by omega))).symm), c⟩)))

theorem l3NodeAhead_spec {w : World} {G : Pin} {al ar bl br : Value} {a b : Nd} (hP : Pins G w) (hal : RSl eInt G al a.l) (har : RSl eInt G ar a.r) (hbl : RSl eInt G bl b.l) (hbr : RSl eInt G br b.r) :
  Calls Tryz.prog 81 [(.agg [al, ar].toArray), (.agg [bl, br].toArray)].toArray w fun e w' => ∃ G', e = .returned (.bool (decide (aheadI a b < 0))) ∧ Ext noS G w G' w' := by
 refine zV (n := 21) Tryz.func81 Tryz.ntmps81 rfl rfl ?_
 have h : Ext noS G w G w := Ext.refl hP
 refine zB (zC ?_)
 refine qI rfl (xG [al, ar] (v := (.agg [al, ar].toArray)) rfl rfl h.pins (fun t w2 am x y aa => ?_))
 have ab := h.step y aa
 have ac : w.heap.size ≤ t := by have := h.size; omega
 obtain ⟨G9, f, i, j, ao⟩ := x.shut ab ac
 refine qI rfl (xG [bl, br] (v := (.agg [bl, br].toArray)) rfl rfl i.pins (fun ad ap aq ae af ag => ?_))
 have ah := i.step af ag
 have ai : w.heap.size ≤ ad := by have := i.size; omega
 obtain ⟨au, c, g, m, av⟩ := ae.shut ah ai
 refine qM (.bool false) ?_
 refine qe (zA (zB (zB (zC ?_))))
 refine qD rfl (zK (k := 0) rfl Tryz.underlying65 rfl nz56 rfl) (qD rfl (zL (u := al) ag56 rfl ((Pins.of_le g.pins c) _ _ _ (j 0 _ rfl))) (qD rfl (zK (k := 0) rfl Tryz.underlying65 rfl nz56 rfl) (qD rfl (zL (u := bl) ag56 rfl (g.pins _ _ _ (m 0 _ rfl))) (qI rfl (zH (vs := [al, bl]) Tryz.func99 nm99 rfl rfl rfl ?_)))))
 refine Calls.mono (l3List_spec g.pins (hal.mono (Pin.le_trans f c)) (hbl.mono (Pin.le_trans f c))) ?_
 rintro _ aw ⟨rfl, o⟩
 refine ⟨_, rfl, ?_⟩
 have d := g.step o.pins o.below
 refine qM (vJ (cmpL a.l b.l)) ?_
 refine qe (zA (zB (zC ?_)))
 refine qM (vJ (cmpL a.l b.l)) ?_
 refine qD rfl (jG rfl rfl) (qe (zA ?_))
 refine yA (p := (cmpL a.l b.l : Int) ≠ 0) rfl rfl (fun q => ?_) (fun q => ?_)
 refine zB (zC ?_)
 refine qM (vJ (cmpL a.l b.l)) ?_
 refine qD rfl (yV rfl rfl) (qM (.bool (decide ((cmpL a.l b.l : Int) < 0))) ?_)
 refine qe (zA ?_)
 exact wp_ret (zO (zP (v := (.bool (decide ((cmpL a.l b.l : Int) < 0)))) rfl rfl rfl (⟨_, congrArg (fun z => Ending.returned (Value.bool z)) (by rw [ahead_left q]), d⟩)))
 refine wp_skip (zA (zB (zC ?_)))
 refine qD rfl (zK (k := 1) rfl Tryz.underlying65 rfl nz56 rfl) (qD rfl (zL (u := ar) ag56 rfl ((Pins.of_le d.pins c) _ _ _ (j 1 _ rfl))) (qD rfl (zK (k := 1) rfl Tryz.underlying65 rfl nz56 rfl) (qD rfl (zL (u := br) ag56 rfl (d.pins _ _ _ (m 1 _ rfl))) (qI rfl (zH (vs := [ar, br]) Tryz.func99 nm99 rfl rfl rfl ?_)))))
 refine Calls.mono (l3List_spec d.pins (har.mono (Pin.le_trans f c)) (hbr.mono (Pin.le_trans f c))) ?_
 rintro _ ax ⟨rfl, s⟩
 refine ⟨_, rfl, ?_⟩
 have aj := d.step s.pins s.below
 refine qD rfl (yV rfl rfl) (qM (.bool (decide ((cmpL a.r b.r : Int) < 0))) ?_)
 refine qe (zA ?_)
 exact wp_ret (zO (zP (v := (.bool (decide ((cmpL a.r b.r : Int) < 0)))) rfl rfl rfl (⟨_, congrArg (fun z => Ending.returned (Value.bool z)) (by rw [ahead_right (by omega)]), aj⟩)))

theorem l3Same_spec {w : World} {G : Pin} {u v : Value} {xs ys : List Nd} (hP : Pins G w) (hu : RSl eNode G u xs) (hv : RSl eNode G v ys) :
  Calls Tryz.prog 52 [(.agg [u].toArray), (.agg [v].toArray)].toArray w fun e w' => ∃ G', e = .returned (.bool (decide (xs = ys))) ∧ Ext noS G w G' w' := by
 refine zV (n := 50) Tryz.func52 Tryz.ntmps52 rfl rfl ?_
 have s : Ext noS G w G w := Ext.refl hP
 have hm := hu.max
 refine zB (zC ?_)
 refine qI rfl (xG [u] (v := (.agg [u].toArray)) rfl rfl s.pins (fun b1 w2 ba an ao ap => ?_))
 have aq := s.step ao ap
 have ar : w.heap.size ≤ b1 := by have := s.size; omega
 obtain ⟨G9, d, x, m, bc⟩ := an.shut aq ar
 refine qI rfl (xG [v] (v := (.agg [v].toArray)) rfl rfl x.pins (fun ac bd be au av aw => ?_))
 have ax := x.step av aw
 have ay : w.heap.size ≤ ac := by have := x.size; omega
 obtain ⟨ad, c, o, y, bf⟩ := au.shut ax ay
 refine qM (.bool false) ?_
 refine qe (zA (zB (zB (zC ?_))))
 refine qD rfl (zK (k := 0) rfl Tryz.underlying32 rfl nz30 rfl) (qD rfl (zL (u := u) ag30 rfl ((Pins.of_le o.pins c) _ _ _ (m 0 _ rfl))) (qD rfl (zM Tryz.underlying30 (v := u) rfl hu) (qD rfl (zK (k := 0) rfl Tryz.underlying32 rfl nz30 rfl) (qD rfl (zL (u := v) ag30 rfl (o.pins _ _ _ (y 0 _ rfl))) (qD rfl (zM Tryz.underlying30 (v := v) rfl hv) (qD rfl (jG rfl rfl) (qe (zA ?_))))))))
 refine yA (p := ((xs.length : Int) : Int) ≠ (ys.length : Int)) rfl rfl (fun ae => ?_) (fun ae => ?_)
 refine zB (zC ?_)
 refine qM (.bool false) ?_
 refine qe (zA ?_)
 exact wp_ret (zO (zP (v := (.bool false)) rfl rfl rfl (⟨_, congrArg (fun z => Ending.returned (Value.bool z)) (decide_eq_false (fun e => ae (by rw [e]))).symm, o⟩)))
 refine wp_skip (zA (zB (zB (zC ?_))))
 refine qM (vJ 0) ?_
 refine qe (zA ?_)
 refine zX (yT (fun (k : Nat) (en : Nat → Value) (W : World) => ∃ (af : Nat → Value) (j : Nat), en = (upd (upd (upd af 2 (.pointer (some ⟨b1, 0, none⟩))) 3 (.pointer (some ⟨ac, 0, none⟩))) 5 (vJ (j : Int))) ∧ k = xs.length - j ∧ Ext noS G w ad W ∧ (j ≤ xs.length) ∧ (xs.length = ys.length) ∧ (∀ i, i < j → xs.getD i default = ys.getD i default)) _ ⟨_, 0, (pS 5 (pS 3 (pU 2))), rfl, o, Nat.zero_le _, (by omega), (fun i hi => absurd hi (Nat.not_lt_zero i))⟩ ?_)
 rintro bg _ aa ⟨af, j, rfl, bh, q, hj, heq, hp⟩
 refine zB (zB (zC ?_))
 refine qM (vJ (j : Int)) ?_
 refine qD rfl (zK (k := 0) rfl Tryz.underlying32 rfl nz30 rfl) (qD rfl (zL (u := u) ag30 rfl ((Pins.of_le q.pins c) _ _ _ (m 0 _ rfl))) (qD rfl (zM Tryz.underlying30 (v := u) rfl hu) (qD rfl (yV rfl rfl) (qe (zA ?_)))))
 refine yA (p := ((j : Int) : Int) < (xs.length : Int)) rfl rfl (fun az => ?_) (fun az => ?_)
 refine wp_skip (zA (zB ?_))
 refine zX (zB (yZ (S := fun wz => Pins ad wz) (last := 30) (by kernel_rfl) rfl ?_))
 have ag : Below aa.heap.size aa aa.drew := (Below.refl _ _).drew
 have a0 := q.pins.below ag
 have b := q.step a0 ag
 refine dT (i := 0) rfl rfl (by kernel_rfl) (fun _ _ => zK (k := 0) rfl Tryz.underlying32 rfl nz30 rfl) b.pins ?_
 refine dT (i := 1) rfl rfl (by kernel_rfl) (fun _ hS => zL (u := u) ag30 rfl ((Pins.of_le hS c) _ _ _ (m 0 _ rfl))) b.pins ?_
 refine dM 2 (vJ (j : Int)) b.pins ?_
 refine dT (i := 3) rfl rfl (by kernel_rfl) (fun _ _ => zF Tryz.underlying30 sz65 (v := u) rfl rfl hu (by omega) (by omega)) b.pins ?_
 refine dT (i := 4) rfl rfl (by kernel_rfl) (fun _ _ => xI (off := 0) Tryz.underlying65 rfl rfl nz56 (z := (j : Int)) (k := 0) rfl hu (by omega) (by omega)) b.pins ?_
 obtain ⟨a1, ah, a2⟩ := nm_nl (hu.at (z := (j : Int)) (by omega) (by omega)) (j := j) rfl
 have bi := ah.max
 refine dT (i := 5) rfl rfl (by kernel_rfl) (fun _ hS => a2 ag56 rfl (Pins.of_le hS (Pin.le_trans d c))) b.pins ?_
 refine dT (i := 6) rfl rfl (by kernel_rfl) (fun _ _ => zK (k := 0) rfl Tryz.underlying32 rfl nz30 rfl) b.pins ?_
 refine dT (i := 7) rfl rfl (by kernel_rfl) (fun _ hS => zL (u := v) ag30 rfl (hS _ _ _ (y 0 _ rfl))) b.pins ?_
 refine dM 8 (vJ (j : Int)) b.pins ?_
 refine dT (i := 9) rfl rfl (by kernel_rfl) (fun _ _ => zF Tryz.underlying30 sz65 (v := v) rfl rfl hv (by omega) (by omega)) b.pins ?_
 refine dT (i := 10) rfl rfl (by kernel_rfl) (fun _ _ => xI (off := 0) Tryz.underlying65 rfl rfl nz56 (z := (j : Int)) (k := 0) rfl hv (by omega) (by omega)) b.pins ?_
 obtain ⟨a3, ai, a4⟩ := nm_nl (hv.at (z := (j : Int)) (by omega) (by omega)) (j := j) rfl
 have bj := ai.max
 refine dT (i := 11) rfl rfl (by kernel_rfl) (fun _ hS => a4 ag56 rfl (Pins.of_le hS (Pin.le_trans d c))) b.pins ?_
 refine dO (i := 12) (zU (i := 12) rfl rfl rfl (zD rfl _) (zH (vs := [a1, a3]) Tryz.func78 nm78 rfl rfl rfl ?_))
 refine Calls.mono (l1Same_spec b.pins (ah.mono (Pin.le_trans d c)) (ai.mono (Pin.le_trans d c))) ?_
 rintro _ bk ⟨rfl, aj⟩
 refine ⟨_, rfl, ?_⟩
 have a := b.step aj.pins aj.below
 refine ⟨fun _ => a.pins, ?_⟩
 refine dT (i := 13) rfl rfl (by kernel_rfl) (fun _ _ => xE rfl) a.pins ?_
 refine dM 14 (.bool (!(decide (((xs.getD j default).l) = ((ys.getD j default).l))))) a.pins ?_
 refine drbn (t := 34) rfl (fun f => ?_) (fun f => ?_)
 replace f := of_decide_eq_true f
 refine yY (i := 15) rfl rfl rfl (yS rfl rfl rfl rfl) (by kernel_rfl) (fun _ _ => zK (k := 0) rfl Tryz.underlying32 rfl nz30 rfl) a.pins (yY (i := 16) rfl rfl rfl (yS rfl rfl rfl rfl) (by kernel_rfl) (fun _ hS => zL (u := u) ag30 rfl ((Pins.of_le hS c) _ _ _ (m 0 _ rfl))) a.pins (yY (i := 17) rfl rfl rfl (yS rfl rfl rfl rfl) (by kernel_rfl) (fun _ _ => zQ (v := (vJ (j : Int))) rfl) a.pins (yY (i := 18) rfl rfl rfl (yS rfl rfl rfl rfl) (by kernel_rfl) (fun _ _ => zF Tryz.underlying30 sz65 (v := u) rfl rfl hu (by omega) (by omega)) a.pins (yY (i := 19) rfl rfl rfl (yS rfl rfl rfl rfl) (by kernel_rfl) (fun _ _ => xI (off := 1) Tryz.underlying65 rfl rfl nz56 (z := (j : Int)) (k := 0) rfl hu (by omega) (by omega)) a.pins ?_))))
 obtain ⟨a5, ak, a6⟩ := nm_nr (hu.at (z := (j : Int)) (by omega) (by omega)) (j := j) rfl
 have bl := ak.max
 refine yY (i := 20) rfl rfl rfl (yS rfl rfl rfl rfl) (by kernel_rfl) (fun _ hS => a6 ag56 rfl (Pins.of_le hS (Pin.le_trans d c))) a.pins (yY (i := 21) rfl rfl rfl (yS rfl rfl rfl rfl) (by kernel_rfl) (fun _ _ => zK (k := 0) rfl Tryz.underlying32 rfl nz30 rfl) a.pins (yY (i := 22) rfl rfl rfl (yS rfl rfl rfl rfl) (by kernel_rfl) (fun _ hS => zL (u := v) ag30 rfl (hS _ _ _ (y 0 _ rfl))) a.pins (yY (i := 23) rfl rfl rfl (yS rfl rfl rfl rfl) (by kernel_rfl) (fun _ _ => zQ (v := (vJ (j : Int))) rfl) a.pins (yY (i := 24) rfl rfl rfl (yS rfl rfl rfl rfl) (by kernel_rfl) (fun _ _ => zF Tryz.underlying30 sz65 (v := v) rfl rfl hv (by omega) (by omega)) a.pins (yY (i := 25) rfl rfl rfl (yS rfl rfl rfl rfl) (by kernel_rfl) (fun _ _ => xI (off := 1) Tryz.underlying65 rfl rfl nz56 (z := (j : Int)) (k := 0) rfl hv (by omega) (by omega)) a.pins ?_)))))
 obtain ⟨a7, al, a8⟩ := nm_nr (hv.at (z := (j : Int)) (by omega) (by omega)) (j := j) rfl
 have bm := al.max
 refine yY (i := 26) rfl rfl rfl (yS rfl rfl rfl rfl) (by kernel_rfl) (fun _ hS => a8 ag56 rfl (Pins.of_le hS (Pin.le_trans d c))) a.pins ?_
 refine dO (i := 27) (zU (i := 27) rfl rfl rfl (yS rfl rfl rfl rfl) (zH (vs := [a5, a7]) Tryz.func78 nm78 rfl rfl rfl ?_))
 refine Calls.mono (l1Same_spec a.pins (ak.mono (Pin.le_trans d c)) (al.mono (Pin.le_trans d c))) ?_
 rintro _ bn ⟨rfl, am⟩
 refine ⟨_, rfl, ?_⟩
 have h := a.step am.pins am.below
 refine ⟨fun _ => h.pins, ?_⟩
 refine yY (i := 28) rfl rfl rfl (yS rfl rfl rfl rfl) (by kernel_rfl) (fun _ _ => xE rfl) h.pins (dT (i := 29) rfl rfl (by kernel_rfl) (fun _ _ => zY (v := (.bool (!(decide (((xs.getD j default).r) = ((ys.getD j default).r)))))) rfl rfl) h.pins ?_)
 refine yQ (by kernel_rfl) (zA (xX rfl rfl (fun g => ?_) (fun g => ?_)))
 replace g := of_decide_eq_true g
 refine wp_skip (yB (zA (zC ?_)))
 refine qM (vJ (j : Int)) ?_
 refine qD rfl (yJ rfl rfl (by omega)) (qM (vJ ((j : Int) + 1)) ?_)
 refine qe (zZ (⟨_, ?_, _, rfl, _, j + 1, (pS 5 (pS 3 (pU 2))), rfl, h, (by omega), heq, (eqstepN hp f g)⟩))
 omega
 replace g := of_decide_eq_false g
 refine zB (zC ?_)
 refine qM (.bool false) ?_
 refine qe (zA ?_)
 exact wp_ret (zO (zP (v := (.bool false)) rfl rfl rfl (⟨_, congrArg (fun z => Ending.returned (Value.bool z)) (decide_eq_false (fun e => g (by rw [e]))).symm, h⟩)))
 replace f := of_decide_eq_false f
 refine yP (i := 15) rfl rfl (yU rfl rfl rfl rfl rfl) (by kernel_rfl) a.pins (yP (i := 16) rfl rfl (yU rfl rfl rfl rfl rfl) (by kernel_rfl) a.pins (yP (i := 17) rfl rfl (yU rfl rfl rfl rfl rfl) (by kernel_rfl) a.pins (yP (i := 18) rfl rfl (yU rfl rfl rfl rfl rfl) (by kernel_rfl) a.pins (yP (i := 19) rfl rfl (yU rfl rfl rfl rfl rfl) (by kernel_rfl) a.pins (yP (i := 20) rfl rfl (yU rfl rfl rfl rfl rfl) (by kernel_rfl) a.pins (yP (i := 21) rfl rfl (yU rfl rfl rfl rfl rfl) (by kernel_rfl) a.pins (yP (i := 22) rfl rfl (yU rfl rfl rfl rfl rfl) (by kernel_rfl) a.pins (yP (i := 23) rfl rfl (yU rfl rfl rfl rfl rfl) (by kernel_rfl) a.pins (yP (i := 24) rfl rfl (yU rfl rfl rfl rfl rfl) (by kernel_rfl) a.pins (yP (i := 25) rfl rfl (yU rfl rfl rfl rfl rfl) (by kernel_rfl) a.pins (yP (i := 26) rfl rfl (yU rfl rfl rfl rfl rfl) (by kernel_rfl) a.pins (yP (i := 27) rfl rfl (yU rfl rfl rfl rfl rfl) (by kernel_rfl) a.pins (yP (i := 28) rfl rfl (yU rfl rfl rfl rfl rfl) (by kernel_rfl) a.pins (dT (i := 29) rfl rfl (by kernel_rfl) (fun _ _ => yD (v := (.bool true)) rfl rfl) a.pins ?_))))))))))))))
 refine yQ (by kernel_rfl) (zA (xY rfl rfl (zB (zC ?_))))
 refine qM (.bool false) ?_
 refine qe (zA ?_)
 exact wp_ret (zO (zP (v := (.bool false)) rfl rfl rfl (⟨_, congrArg (fun z => Ending.returned (Value.bool z)) (decide_eq_false (fun e => f (by rw [e]))).symm, a⟩)))
 refine wp_exit (zW (yO (yI (zA (zB (zC ?_))))))
 refine qM (.bool true) ?_
 refine qe (zA ?_)
 exact wp_ret (zO (zP (v := (.bool true)) rfl rfl rfl (⟨_, congrArg (fun z => Ending.returned (Value.bool z)) (decide_eq_true (eqdoneN heq (by omega) hp)).symm, q⟩)))

theorem put_spec {w : World} {G : Pin} {b : Nat} {bu bv : Value} {ns : List Nd} {bs : List Int} (hP : Pins G w) (hB : Bk 65 3 G w b bu bv ns bs) (hok : BookOk ns bs) {x y : Value} {xs ys : List Int} (hx : RSl eInt G x xs) (hy : RSl eInt G y ys) (hls : xs.length ≤ 1048576 ∧ ys.length ≤ 1048576) (hk1 : ∀ i, i < xs.length → 0 ≤ xs.getD i 0 ∧ xs.getD i 0 < ns.length) (hk2 : ∀ i, i < ys.length → 0 ≤ ys.getD i 0 ∧ ys.getD i 0 < ns.length) :
  Calls Tryz.prog 84 [(.pointer (some ⟨b, 0, none⟩)), x, y].toArray w fun e w' => ∃ (u' v' : Value) (G' : Pin), e = .returned (vJ (putK ns bs xs ys)) ∧ Bk 65 3 G' w' b u' v' (putN ns bs xs ys) (putB ns bs xs ys) ∧ Ext (inS b bu bv) G w G' w' ∧ Lo w (inS b bu bv) u'.ownBlock ∧ Lo w (inS b bu bv) v'.ownBlock := by
 refine zV (n := 136) Tryz.func84 Tryz.ntmps84 rfl rfl ?_
 have bb : Ext (inS b bu bv) G w G w := Ext.refl hP
 have hbx := hB.bx
 have hou := hB.ou
 have hov := hB.ov
 have habu := hB.abu
 have habv := hB.abv
 have hauv := hB.auv
 have hlob : Lo w (inS b bu bv) (some b) := lo_b
 have hlou : Lo w (inS b bu bv) bu.ownBlock := lo_u
 have hlov : Lo w (inS b bu bv) bv.ownBlock := lo_v
 have hlen := hok.len
 have hlim := hok.lim
 refine zB (zC ?_)
 refine qM (vJ 0) ?_
 refine qe (zA (zB (zC ?_)))
 refine qI rfl (xD (E := eInt) (e := 3) Tryz.underlying56 sz3 bb.pins (fun u1 w2 dc dd az bc => ?_))
 have bd := bb.step dd az
 have b8 := hou.below az
 have b9 := hov.below az
 have ca := hbx.below az
 have de : Apart u1.ownBlock bu.ownBlock := zI bc hou.lt
 have df : Apart u1.ownBlock bv.ownBlock := zI bc hov.lt
 have dg : Apart u1.ownBlock (some b) := zJ bc hbx.lt
 have cb : Own eInt 3 G w2 w.heap.size u1 ([]) := dc.weaken bb.size
 refine qI rfl (xD (E := eInt) (e := 3) Tryz.underlying56 sz3 bd.pins (fun ad dh di dj aq a0 => ?_))
 have dk := bd.step dj aq
 have dl := b8.below aq
 have dm := b9.below aq
 have dn := cb.below aq
 have dp := ca.below aq
 have dq : Apart ad.ownBlock bu.ownBlock := zI a0 b8.lt
 have dr : Apart ad.ownBlock bv.ownBlock := zI a0 b9.lt
 have ds : Apart ad.ownBlock u1.ownBlock := zI a0 cb.lt
 have dt : Apart ad.ownBlock (some b) := zJ a0 ca.lt
 have du : Own eInt 3 G dh w.heap.size ad ([]) := di.weaken bd.size
 refine qM u1 ?_
 refine qM ad ?_
 refine qe (zA (zB (zC ?_)))
 refine qM (vJ 0) ?_
 refine qe (zA (zB (zB (zC ?_))))
 refine qM (vJ 0) ?_
 refine qe (zA ?_)
 refine zX ?_
 obtain ⟨cc, ah, dv, dw, a1⟩ := dn.sealed dk
 have dx := dl.moreO ah a1 de.symm
 have dy := dm.moreO ah a1 df.symm
 have dz := du.moreO ah a1 ds
 have d0 := dp.moreO a1 dg.symm
 refine yT (fun (k : Nat) (en : Nat → Value) (W : World) => ∃ (ae : Nat → Value) (i : Nat) (lo : Value) (ls : List Int) (bn : Int) (GLi : Pin), en = (upd (upd (upd (upd (upd (upd (upd (upd ae 0 (.pointer (some ⟨b, 0, none⟩))) 1 x) 2 y) 6 (vJ 0)) 7 lo) 8 ad) 9 (vJ bn)) 10 (vJ (i : Int))) ∧ k = xs.length - i ∧ Ext (inS b bu bv) G w GLi W ∧ Pin.le cc GLi ∧ (i ≤ xs.length) ∧ (ls = sortL (xs.take i)) ∧ (ls.length ≤ i) ∧ (bn = bornOf bs (xs.take i) 0) ∧ (0 ≤ bn ∧ bn ≤ ns.length) ∧ (Own eNode 65 GLi W 0 bu (ns)) ∧ (Own eInt 3 GLi W 0 bv (bs)) ∧ (Own eInt 3 GLi W w.heap.size ad ([])) ∧ (Bx GLi W b [bu, bv]) ∧ (RSl eInt GLi lo (ls))) _ ⟨_, 0, u1, [], 0, cc, (pS 10 (pS 9 (pS 8 (pS 7 (pS 6 (pS 2 (pS 1 (pU 0)))))))), rfl, dv, Pin.le_refl _, Nat.zero_le _, rfl, Nat.le_refl 0, rfl, (by omega), dx, dy, dz, d0, dw⟩ ?_
 rintro fm _ fn ⟨ae, i, lo, ls, bn, GLi, rfl, fo, a2, ar, hji, hrls, holls, hbbn, hlbn, cd, ce, cf, cg, a3⟩
 refine zB (zB (zC ?_))
 refine qM (vJ (i : Int)) ?_
 refine qM x ?_
 refine qD rfl (zM Tryz.underlying56 (v := x) rfl hx) (qD rfl (yV rfl rfl) (qe (zA ?_)))
 refine yA (p := ((i : Int) : Int) < (xs.length : Int)) rfl rfl (fun d1 => ?_) (fun d1 => ?_)
 have hki := hk1 i (by omega)
 have hbk := hok.born (xs.getD i 0).toNat (by omega)
 refine wp_skip (zA (zB ?_))
 refine zX (zB (zC ?_))
 refine qM lo ?_
 refine qM x ?_
 refine qM (vJ (i : Int)) ?_
 refine qD rfl (zF Tryz.underlying56 sz3 (v := x) rfl rfl hx (by omega) (by omega)) (qD rfl (zE (r := xs.getD i 0) rfl ag3 (z := (i : Int)) rfl hx (Pins.of_le a2.pins (Pin.le_trans ah ar)) (by omega) (by omega)) (qI rfl (zH (vs := [lo, (vJ (xs.getD i 0))]) Tryz.func98 nm98 rfl rfl rfl ?_)))
 refine Calls.mono (jD a2.pins a3 (by omega)) ?_
 rintro _ a4 ⟨ch, be, rfl, d2, ai⟩
 refine ⟨_, rfl, ?_⟩
 have bf := a2.tr ai
 have d3 := cd.ext ai
 have ci := ce.ext ai
 have d4 := cf.ext ai
 have d5 := cg.ext ai
 refine qM ch ?_
 refine qe (zA ?_)
 have d6 := Gadd.pins bf.pins bv
 have cj := ci.read
 refine yZ (S := fun wz => BxR wz b [bu, bv] ∧ Pins be wz ∧ Pins (Gadd be a4 bv) wz) (last := 14) (by kernel_rfl) rfl ?_
 have aj : Below a4.heap.size a4 a4.drew := (Below.refl _ _).drew
 have d7 := bf.pins.below aj
 have c := bf.step d7 aj
 have d8 := d3.below aj
 have d9 := ci.below aj
 have ea := d4.below aj
 have f := d5.below aj
 have s := d6.below aj
 refine dT (i := 0) rfl rfl (by kernel_rfl) (fun _ _ => zQ (v := (vJ bn)) rfl) ⟨f.reads, c.pins, s⟩ ?_
 refine dT (i := 1) rfl rfl (by kernel_rfl) (fun _ _ => zQ (v := (.pointer (some ⟨b, 0, none⟩))) rfl) ⟨f.reads, c.pins, s⟩ ?_
 refine dT (i := 2) rfl rfl (by kernel_rfl) (fun _ _ => yW rfl) ⟨f.reads, c.pins, s⟩ ?_
 refine dT (i := 3) rfl rfl (by kernel_rfl) (fun _ _ => zK (k := 1) rfl Tryz.underlying77 rfl nz56 rfl) ⟨f.reads, c.pins, s⟩ ?_
 refine dT (i := 4) rfl rfl (by kernel_rfl) (fun _ hS => zL (u := bv) ag56 rfl (hS.1 1 _ rfl)) ⟨f.reads, c.pins, s⟩ ?_
 refine dT (i := 5) rfl rfl (by kernel_rfl) (fun _ _ => zQ (v := x) rfl) ⟨f.reads, c.pins, s⟩ ?_
 refine dT (i := 6) rfl rfl (by kernel_rfl) (fun _ _ => zQ (v := (vJ (i : Int))) rfl) ⟨f.reads, c.pins, s⟩ ?_
 refine dT (i := 7) rfl rfl (by kernel_rfl) (fun _ _ => zF Tryz.underlying56 sz3 (v := x) rfl rfl hx (by omega) (by omega)) ⟨f.reads, c.pins, s⟩ ?_
 refine dT (i := 8) rfl rfl (by kernel_rfl) (fun _ hS => zE (r := xs.getD i 0) rfl ag3 (z := (i : Int)) rfl hx (Pins.of_le hS.2.1 (Pin.le_trans (Pin.le_trans ah ar) ai.le)) (by omega) (by omega)) ⟨f.reads, c.pins, s⟩ ?_
 refine dT (i := 9) rfl rfl (by kernel_rfl) (fun _ _ => zF Tryz.underlying56 sz3 (v := bv) rfl rfl cj (by omega) (by omega)) ⟨f.reads, c.pins, s⟩ ?_
 refine dT (i := 10) rfl rfl (by kernel_rfl) (fun _ hS => zE (r := bs.getD (xs.getD i 0).toNat 0) rfl ag3 (z := (xs.getD i 0)) rfl cj hS.2.2 (by omega) (by omega)) ⟨f.reads, c.pins, s⟩ ?_
 refine dT (i := 11) rfl rfl (by kernel_rfl) (fun _ _ => yJ rfl rfl (by omega)) ⟨f.reads, c.pins, s⟩ ?_
 refine dO (i := 12) (zU (i := 12) rfl rfl rfl (zD rfl _) (zH (vs := [(vJ bn), (vJ ((bs.getD (xs.getD i 0).toNat 0) + 1))]) Tryz.func104 nm104 rfl rfl rfl ?_))
 refine Calls.mono (l1Most_spec c.pins) ?_
 rintro _ _ ⟨rfl, rfl⟩
 refine ⟨_, rfl, ?_⟩
 refine ⟨fun _ => ⟨f.reads, c.pins, s⟩, ?_⟩
 refine dT (i := 13) rfl rfl (by kernel_rfl) (fun _ _ => xW (v := (vJ (max bn ((bs.getD (xs.getD i 0).toNat 0) + 1)))) rfl) ⟨f.reads, c.pins, s⟩ ?_
 refine yQ (by kernel_rfl) (yB (zA (zC ?_)))
 refine qM (vJ (i : Int)) ?_
 refine qD rfl (yJ rfl rfl (by omega)) (qM (vJ ((i : Int) + 1)) ?_)
 refine qe (zZ (⟨_, ?_, _, rfl, _, i + 1, ch, putL ls (xs.getD i 0), max bn ((bs.getD (xs.getD i 0).toNat 0) + 1), be, (pS 10 (pS 9 (pS 8 (pS 7 (pS 6 (pS 2 (pS 1 (pU 0)))))))), rfl, c, (Pin.le_trans ar ai.le), (by omega), (by rw [hrls, sort_next (by omega)]), (Nat.le_trans putL_length (by omega)), (by rw [hbbn, born_next (by omega)]), (by omega), d8, d9, ea, f, d2⟩))
 omega
 refine wp_exit (zW (yO (yI (zA (zB (zB (zC ?_)))))))
 refine qM (vJ 0) ?_
 refine qe (zA ?_)
 refine zX ?_
 obtain ⟨ck, an, eb, ec, bg⟩ := cf.sealed a2
 have ed := cd.moreO an bg dq.symm
 have ee := ce.moreO an bg dr.symm
 have ef := cg.moreO bg dt.symm
 refine yT (fun (k : Nat) (en : Nat → Value) (W : World) => ∃ (ae : Nat → Value) (a : Nat) (ro : Value) (rs : List Int) (bm : Int) (ab : Pin), en = (upd (upd (upd (upd (upd (upd (upd ae 0 (.pointer (some ⟨b, 0, none⟩))) 2 y) 6 (vJ 0)) 7 lo) 8 ro) 9 (vJ bm)) 11 (vJ (a : Int))) ∧ k = ys.length - a ∧ Ext (inS b bu bv) G w ab W ∧ Pin.le ck ab ∧ (a ≤ ys.length) ∧ (rs = sortL (ys.take a)) ∧ (rs.length ≤ a) ∧ (bm = bornOf bs (ys.take a) bn) ∧ (0 ≤ bm ∧ bm ≤ ns.length) ∧ (Own eNode 65 ab W 0 bu (ns)) ∧ (Own eInt 3 ab W 0 bv (bs)) ∧ (Bx ab W b [bu, bv]) ∧ (RSl eInt ab ro (rs))) _ ⟨_, 0, ad, [], bn, ck, (pS 11 (pS 9 (pS 8 (pS 7 (pS 6 (pS 2 (pU 0))))))), rfl, eb, Pin.le_refl _, Nat.zero_le _, rfl, Nat.le_refl 0, rfl, (by omega), ed, ee, ef, ec⟩ ?_
 rintro fp _ fq ⟨ae, a, ro, rs, bm, ab, rfl, fr, a5, au, fs, hrrs, holrs, hbbm, hlbm, cl, cm, cn, a6⟩
 refine zB (zB (zC ?_))
 refine qM (vJ (a : Int)) ?_
 refine qM y ?_
 refine qD rfl (zM Tryz.underlying56 (v := y) rfl hy) (qD rfl (yV rfl rfl) (qe (zA ?_)))
 refine yA (p := ((a : Int) : Int) < (ys.length : Int)) rfl rfl (fun eg => ?_) (fun eg => ?_)
 have hki := hk2 a (by omega)
 have hbk := hok.born (ys.getD a 0).toNat (by omega)
 refine wp_skip (zA (zB ?_))
 refine zX (zB (zC ?_))
 refine qM ro ?_
 refine qM y ?_
 refine qM (vJ (a : Int)) ?_
 refine qD rfl (zF Tryz.underlying56 sz3 (v := y) rfl rfl hy (by omega) (by omega)) (qD rfl (zE (r := ys.getD a 0) rfl ag3 (z := (a : Int)) rfl hy (Pins.of_le a5.pins (Pin.le_trans (Pin.le_trans (Pin.le_trans ah ar) an) au)) (by omega) (by omega)) (qI rfl (zH (vs := [ro, (vJ (ys.getD a 0))]) Tryz.func98 nm98 rfl rfl rfl ?_)))
 refine Calls.mono (jD a5.pins a6 (by omega)) ?_
 rintro _ a7 ⟨co, bh, rfl, eh, ao⟩
 refine ⟨_, rfl, ?_⟩
 have bi := a5.tr ao
 have ei := cl.ext ao
 have cp := cm.ext ao
 have ej := cn.ext ao
 refine qM co ?_
 refine qe (zA ?_)
 have ek := Gadd.pins bi.pins bv
 have cq := cp.read
 refine yZ (S := fun wz => BxR wz b [bu, bv] ∧ Pins bh wz ∧ Pins (Gadd bh a7 bv) wz) (last := 14) (by kernel_rfl) rfl ?_
 have ap : Below a7.heap.size a7 a7.drew := (Below.refl _ _).drew
 have el := bi.pins.below ap
 have d := bi.step el ap
 have em := ei.below ap
 have eo := cp.below ap
 have m := ej.below ap
 have aa := ek.below ap
 refine dT (i := 0) rfl rfl (by kernel_rfl) (fun _ _ => zQ (v := (vJ bm)) rfl) ⟨m.reads, d.pins, aa⟩ ?_
 refine dT (i := 1) rfl rfl (by kernel_rfl) (fun _ _ => zQ (v := (.pointer (some ⟨b, 0, none⟩))) rfl) ⟨m.reads, d.pins, aa⟩ ?_
 refine dT (i := 2) rfl rfl (by kernel_rfl) (fun _ _ => yW rfl) ⟨m.reads, d.pins, aa⟩ ?_
 refine dT (i := 3) rfl rfl (by kernel_rfl) (fun _ _ => zK (k := 1) rfl Tryz.underlying77 rfl nz56 rfl) ⟨m.reads, d.pins, aa⟩ ?_
 refine dT (i := 4) rfl rfl (by kernel_rfl) (fun _ hS => zL (u := bv) ag56 rfl (hS.1 1 _ rfl)) ⟨m.reads, d.pins, aa⟩ ?_
 refine dT (i := 5) rfl rfl (by kernel_rfl) (fun _ _ => zQ (v := y) rfl) ⟨m.reads, d.pins, aa⟩ ?_
 refine dT (i := 6) rfl rfl (by kernel_rfl) (fun _ _ => zQ (v := (vJ (a : Int))) rfl) ⟨m.reads, d.pins, aa⟩ ?_
 refine dT (i := 7) rfl rfl (by kernel_rfl) (fun _ _ => zF Tryz.underlying56 sz3 (v := y) rfl rfl hy (by omega) (by omega)) ⟨m.reads, d.pins, aa⟩ ?_
 refine dT (i := 8) rfl rfl (by kernel_rfl) (fun _ hS => zE (r := ys.getD a 0) rfl ag3 (z := (a : Int)) rfl hy (Pins.of_le hS.2.1 (Pin.le_trans (Pin.le_trans (Pin.le_trans (Pin.le_trans ah ar) an) au) ao.le)) (by omega) (by omega)) ⟨m.reads, d.pins, aa⟩ ?_
 refine dT (i := 9) rfl rfl (by kernel_rfl) (fun _ _ => zF Tryz.underlying56 sz3 (v := bv) rfl rfl cq (by omega) (by omega)) ⟨m.reads, d.pins, aa⟩ ?_
 refine dT (i := 10) rfl rfl (by kernel_rfl) (fun _ hS => zE (r := bs.getD (ys.getD a 0).toNat 0) rfl ag3 (z := (ys.getD a 0)) rfl cq hS.2.2 (by omega) (by omega)) ⟨m.reads, d.pins, aa⟩ ?_
 refine dT (i := 11) rfl rfl (by kernel_rfl) (fun _ _ => yJ rfl rfl (by omega)) ⟨m.reads, d.pins, aa⟩ ?_
 refine dO (i := 12) (zU (i := 12) rfl rfl rfl (zD rfl _) (zH (vs := [(vJ bm), (vJ ((bs.getD (ys.getD a 0).toNat 0) + 1))]) Tryz.func104 nm104 rfl rfl rfl ?_))
 refine Calls.mono (l1Most_spec d.pins) ?_
 rintro _ _ ⟨rfl, rfl⟩
 refine ⟨_, rfl, ?_⟩
 refine ⟨fun _ => ⟨m.reads, d.pins, aa⟩, ?_⟩
 refine dT (i := 13) rfl rfl (by kernel_rfl) (fun _ _ => xW (v := (vJ (max bm ((bs.getD (ys.getD a 0).toNat 0) + 1)))) rfl) ⟨m.reads, d.pins, aa⟩ ?_
 refine yQ (by kernel_rfl) (yB (zA (zC ?_)))
 refine qM (vJ (a : Int)) ?_
 refine qD rfl (yJ rfl rfl (by omega)) (qM (vJ ((a : Int) + 1)) ?_)
 refine qe (zZ (⟨_, ?_, _, rfl, _, a + 1, co, putL rs (ys.getD a 0), max bm ((bs.getD (ys.getD a 0).toNat 0) + 1), bh, (pS 11 (pS 9 (pS 8 (pS 7 (pS 6 (pS 2 (pU 0))))))), rfl, d, (Pin.le_trans au ao.le), (by omega), (by rw [hrrs, sort_next (by omega)]), (Nat.le_trans putL_length (by omega)), (by rw [hbbm, born_next (by omega)]), (by omega), em, eo, m, eh⟩))
 omega
 refine wp_exit (zW (yO (yI (zA (zB (zB (zC ?_)))))))
 rw [take_all (by omega)] at hrls hrrs hbbn hbbm
 have e1 : putNd xs ys = ⟨ls, rs⟩ := by unfold putNd; rw [hrls, hrrs]
 have e2 : putBorn bs xs ys = bm := by unfold putBorn; rw [← hbbn, ← hbbm]
 refine qM (vJ 0) ?_
 refine qe (zA ?_)
 refine zX ?_
 have e0 : True := trivial
 refine yT (fun (k : Nat) (en : Nat → Value) (W : World) => ∃ (ae : Nat → Value) (q : Nat), en = (upd (upd (upd (upd (upd ae 0 (.pointer (some ⟨b, 0, none⟩))) 7 lo) 8 ro) 9 (vJ bm)) 12 (vJ (q : Int))) ∧ k = ns.length - q ∧ Ext (inS b bu bv) G w ab W ∧ (q ≤ ns.length) ∧ (∀ i, i < q → NotAt ns bs ⟨ls, rs⟩ bm i) ∧ (Own eNode 65 ab W 0 bu (ns)) ∧ (Own eInt 3 ab W 0 bv (bs)) ∧ (Bx ab W b [bu, bv])) _ ⟨_, 0, (pS 12 (pS 9 (pS 8 (pS 7 (pU 0))))), rfl, a5, Nat.zero_le _, (fun i hi => absurd hi (Nat.not_lt_zero i)), cl, cm, cn⟩ ?_
 rintro fu _ fv ⟨ae, q, rfl, fw, af, fx, hp, ak, av, al⟩
 refine zB (zB (zC ?_))
 refine qM (vJ (q : Int)) ?_
 refine qM (.pointer (some ⟨b, 0, none⟩)) ?_
 refine qD rfl (yW rfl) (qD rfl (zK (k := 0) rfl Tryz.underlying77 rfl nz30 rfl) (qD rfl (zL (u := bu) ag30 rfl (al.cell (o := 0) rfl)) (qD rfl (zM Tryz.underlying30 (v := bu) rfl ak.read) (qD rfl (yV rfl rfl) (qe (zA ?_))))))
 refine yA (p := ((q : Int) : Int) < (ns.length : Int)) rfl rfl (fun ep => ?_) (fun ep => ?_)
 refine wp_skip (zA (zB ?_))
 refine zX (zB (zC ?_))
 refine qM (.pointer (some ⟨b, 0, none⟩)) ?_
 refine qD rfl (yW rfl) (qD rfl (zK (k := 1) rfl Tryz.underlying77 rfl nz56 rfl) (qD rfl (zL (u := bv) ag56 rfl (al.cell (o := 1) rfl)) (qM (vJ (q : Int)) ?_)))
 refine qD rfl (zF Tryz.underlying56 sz3 (v := bv) rfl rfl av.read (by omega) (by omega)) (qD rfl (zE (r := bs.getD q 0) rfl ag3 (z := (q : Int)) rfl av.read (Gadd.pins af.pins bv) (by omega) (by omega)) (qM (vJ bm) ?_))
 refine qD rfl (xV rfl rfl) (qM (.bool (decide ((bs.getD q 0 : Int) = bm))) ?_)
 refine qbd (p := (bs.getD q 0 : Int) = bm) (t := 83) rfl (fun bl => ?_) (fun bl => ?_)
 refine qN (zQ (v := (.pointer (some ⟨b, 0, none⟩))) rfl) ?_
 refine qN (yW rfl) ?_
 refine qN (zK (k := 0) rfl Tryz.underlying77 rfl nz30 rfl) ?_
 refine qN (zL (u := bu) ag30 rfl (al.cell (o := 0) rfl)) ?_
 refine qN (zQ (v := (vJ (q : Int))) rfl) ?_
 refine qN (zF Tryz.underlying30 sz65 (v := bu) rfl rfl ak.read (by omega) (by omega)) ?_
 refine qN (xI (off := 0) Tryz.underlying65 rfl rfl nz56 (z := (q : Int)) (k := 0) rfl ak.read (by omega) (by omega)) ?_
 obtain ⟨eq, cr, er⟩ := nm_nl (ak.at (z := (q : Int)) (by omega) (by omega)) (j := q) rfl
 have fy := cr.max
 refine qN (er ag56 rfl (Gadd.pins af.pins bu)) ?_
 refine qN (zQ (v := lo) rfl) ?_
 refine q1g rfl rfl rfl rfl rfl rfl (zH (vs := [eq, lo]) Tryz.func78 nm78 rfl rfl rfl ?_)
 refine Calls.mono (l1Same_spec af.pins cr (a3.mono (Pin.le_trans an au))) ?_
 rintro _ fz ⟨rfl, aw⟩
 refine ⟨_, rfl, ?_⟩
 have a8 := af.step aw.pins aw.below
 have ax := ak.below aw.below
 have cs := av.below aw.below
 have bo := al.below aw.below
 refine qD rfl (yD (v := (.bool (decide (((ns.getD q default).l) = ls)))) rfl rfl) (qM (.bool (decide (((ns.getD q default).l) = ls))) ?_)
 refine qbd (p := (((ns.getD q default).l) = ls)) (t := 95) rfl (fun bp => ?_) (fun bp => ?_)
 refine qN (zQ (v := (.pointer (some ⟨b, 0, none⟩))) rfl) ?_
 refine qN (yW rfl) ?_
 refine qN (zK (k := 0) rfl Tryz.underlying77 rfl nz30 rfl) ?_
 refine qN (zL (u := bu) ag30 rfl (bo.cell (o := 0) rfl)) ?_
 refine qN (zQ (v := (vJ (q : Int))) rfl) ?_
 refine qN (zF Tryz.underlying30 sz65 (v := bu) rfl rfl ax.read (by omega) (by omega)) ?_
 refine qN (xI (off := 1) Tryz.underlying65 rfl rfl nz56 (z := (q : Int)) (k := 0) rfl ax.read (by omega) (by omega)) ?_
 obtain ⟨es, ct, et⟩ := nm_nr (ax.at (z := (q : Int)) (by omega) (by omega)) (j := q) rfl
 have f0 := ct.max
 refine qN (et ag56 rfl (Gadd.pins a8.pins bu)) ?_
 refine qN (zQ (v := ro) rfl) ?_
 refine q1g rfl rfl rfl rfl rfl rfl (zH (vs := [es, ro]) Tryz.func78 nm78 rfl rfl rfl ?_)
 refine Calls.mono (l1Same_spec a8.pins ct a6) ?_
 rintro _ f1 ⟨rfl, ay⟩
 refine ⟨_, rfl, ?_⟩
 have cu := a8.step ay.pins ay.below
 have cv := ax.below ay.below
 have cw := cs.below ay.below
 have cx := bo.below ay.below
 refine qD rfl (yD (v := (.bool (decide (((ns.getD q default).r) = rs)))) rfl rfl) (qe (zA ?_))
 refine yA (p := (((ns.getD q default).r) = rs)) rfl rfl (fun bq => ?_) (fun bq => ?_)
 refine zB (zC ?_)
 refine qM (vJ (q : Int)) ?_
 refine qM (vJ (q : Int)) ?_
 refine qe (zA ?_)
 refine wp_ret (zO (zP (v := (vJ (q : Int))) rfl rfl rfl ?_))
 have hf : findK ns bs (putNd xs ys) (putBorn bs xs ys) = some q := by rw [e1, e2]; exact find_some (by omega) hp ⟨bl, bp, bq⟩
 have eN : putN ns bs xs ys = ns := by unfold putN; rw [hf]
 have eB : putB ns bs xs ys = bs := by unfold putB; rw [hf]
 refine ⟨bu, bv, _, congrArg (fun z => Ending.returned (Value.int .i64 z)) (by unfold putK; rw [hf]), ?_, cu, hlou, hlov⟩
 rw [eN, eB]
 exact ⟨cx, cv, cw, habu, habv, hauv⟩
 refine wp_skip (yB (zA (zC ?_)))
 refine qM (vJ (q : Int)) ?_
 refine qD rfl (yJ rfl rfl (by omega)) (qM (vJ ((q : Int) + 1)) ?_)
 refine qe (zZ (⟨_, ?_, _, rfl, _, q + 1, (pS 12 (pS 9 (pS 8 (pS 7 (pU 0))))), rfl, cu, (by omega), (fun i hi => if h3 : i = q then h3 ▸ (fun g => absurd g.2.2 bq) else hp i (by omega)), cv, cw, cx⟩))
 omega
 refine qW ?_
 refine qW ?_
 refine qW ?_
 refine qW ?_
 refine qW ?_
 refine qW ?_
 refine qW ?_
 refine qW ?_
 refine qW ?_
 refine qW ?_
 refine qD rfl (zY (v := (.bool false)) rfl rfl) (qe (zA ?_))
 refine qA rfl rfl (wp_skip (yB (zA (zC ?_))))
 refine qM (vJ (q : Int)) ?_
 refine qD rfl (yJ rfl rfl (by omega)) (qM (vJ ((q : Int) + 1)) ?_)
 refine qe (zZ (⟨_, ?_, _, rfl, _, q + 1, (pS 12 (pS 9 (pS 8 (pS 7 (pU 0))))), rfl, a8, (by omega), (fun i hi => if h3 : i = q then h3 ▸ (fun g => absurd g.2.1 bp) else hp i (by omega)), ax, cs, bo⟩))
 omega
 refine qW ?_
 refine qW ?_
 refine qW ?_
 refine qW ?_
 refine qW ?_
 refine qW ?_
 refine qW ?_
 refine qW ?_
 refine qW ?_
 refine qW ?_
 refine qD rfl (zY (v := (.bool false)) rfl rfl) (qM (.bool false) ?_)
 refine qW ?_
 refine qW ?_
 refine qW ?_
 refine qW ?_
 refine qW ?_
 refine qW ?_
 refine qW ?_
 refine qW ?_
 refine qW ?_
 refine qW ?_
 refine qD rfl (zY (v := (.bool false)) rfl rfl) (qe (zA ?_))
 refine qA rfl rfl (wp_skip (yB (zA (zC ?_))))
 refine qM (vJ (q : Int)) ?_
 refine qD rfl (yJ rfl rfl (by omega)) (qM (vJ ((q : Int) + 1)) ?_)
 refine qe (zZ (⟨_, ?_, _, rfl, _, q + 1, (pS 12 (pS 9 (pS 8 (pS 7 (pU 0))))), rfl, af, (by omega), (fun i hi => if h3 : i = q then h3 ▸ (fun g => absurd g.1 bl) else hp i (by omega)), ak, av, al⟩))
 omega
 refine wp_exit (zW (yO (yI (zA (zB (zC ?_))))))
 refine qM (.pointer (some ⟨b, 0, none⟩)) ?_
 refine qM (.pointer (some ⟨b, 0, none⟩)) ?_
 refine qD rfl (yW rfl) (qD rfl (zK (k := 0) rfl Tryz.underlying77 rfl nz30 rfl) (qD rfl (zL (u := bu) ag30 rfl (al.cell (o := 0) rfl)) (qM lo ?_)))
 refine qM ro ?_
 refine qD rfl (yG [(.slice none 0 0), (.slice none 0 0)] [lo, ro] [(0, lo, [lo]), (1, ro, [ro])] Tryz.underlying65 zr65 rfl pl65 rfl (List.forall_mem_cons.2 ⟨(xT a3.one), (List.forall_mem_cons.2 ⟨(xT a6.one), (fun _ h => by cases h)⟩)⟩) rfl) (qI rfl (o_build1 (E := eNode) (e := 65) [lo, ro] (⟨ls, rs⟩ : Nd) Tryz.underlying30 sz65 zr65 ⟨_, _, rfl, (a3.mono (Pin.le_trans an au)), a6⟩ rfl (by decide) af.pins (fun cy eu ev ew a9 f2 => ?_)))
 have br := af.step ew a9
 have ex := ak.below a9
 have cz := av.below a9
 have c0 := al.below a9
 have ey : Own eNode 65 ab eu w.heap.size cy ([(⟨ls, rs⟩ : Nd)]) := ev.weaken af.size
 refine qI rfl (oA (E := eNode) (v := bu) (u := cy) 48 Tryz.underlying30 ap65 (by decide) rfl rfl br.pins ex ey.src (Nat.zero_le _) (fun ac f3 bt ez bw bz => ?_))
 have c1 := br.write ez bw (hlou)
 have e3 := cz.keptA bw hauv.symm
 have e4 := c0.keptA bw habu
 have c2 : Apart bv.ownBlock ac.ownBlock := zG hauv.symm bz cz.lt
 have b0 : Apart (some b) ac.ownBlock := zR habu bz c0.lt
 have e5 : Lo w (inS b bu bv) ac.ownBlock := lo_app hlou bz br.size
 have f4 : (ns ++ ([(⟨ls, rs⟩ : Nd)])).length = ns.length + 1 := List.length_append
 refine qD rfl (yW rfl) (qD rfl (zK (k := 0) rfl Tryz.underlying77 rfl nz30 rfl) (q0 rfl rfl rfl (yF (cs' := [ac, bv]) (us := [ac]) (v := ac) sz30 rfl rfl (cells1 bt.one) (xN bt.one) c1.pins e4 (Nat.le_of_ble_eq_true rfl) rfl (fun f5 c3 e6 b1 f6 => ?_))))
 have b2 := c1.write e6 b1 (hlob)
 have e7 := e3.keptA b1 habv.symm
 have e8 := bt.keptA b1 b0.symm
 refine qe (zA (zB (zC ?_)))
 refine qM (.pointer (some ⟨b, 0, none⟩)) ?_
 refine qM (.pointer (some ⟨b, 0, none⟩)) ?_
 refine qD rfl (yW rfl) (qD rfl (zK (k := 1) rfl Tryz.underlying77 rfl nz56 rfl) (qD rfl (zL (u := bv) ag56 rfl (c3.cell (o := 1) rfl)) (qM (vJ bm) ?_)))
 refine qI rfl (xA (E := eInt) (e := 3) [(vJ bm)] [bm] Tryz.underlying56 sz3 zr3 (by exact xZ (by rfl)) (xN (by rfl)) rfl rfl rfl rfl (by decide) b2.pins (fun c4 e9 fa fb ba f7 => ?_))
 have b3 := b2.step fb ba
 have fc := e7.below ba
 have c5 := e8.below ba
 have c6 := c3.below ba
 have fd : Own eInt 3 ab e9 w.heap.size c4 ([bm]) := fa.weaken b2.size
 refine qI rfl (oA (E := eInt) (v := bv) (u := c4) 8 Tryz.underlying56 ap3 (by decide) rfl rfl b3.pins fc fd.src (Nat.zero_le _) (fun am f8 b4 fe b5 b6 => ?_))
 have c7 := b3.write fe b5 (hlov)
 have ff := c5.keptA b5 c2.symm
 have fg := c6.keptA b5 habv
 have fh : Apart ac.ownBlock am.ownBlock := zG c2.symm b6 c5.lt
 have c8 : Apart (some b) am.ownBlock := zR habv b6 c6.lt
 have fi : Lo w (inS b bu bv) am.ownBlock := lo_app hlov b6 b3.size
 have f9 : (bs ++ ([bm])).length = bs.length + 1 := List.length_append
 refine qD rfl (yW rfl) (qD rfl (zK (k := 1) rfl Tryz.underlying77 rfl nz56 rfl) (q0 rfl rfl rfl (yF (cs' := [ac, am]) (us := [am]) (v := am) sz56 rfl rfl (cells1 b4.one) (xN b4.one) c7.pins fg (Nat.le_of_ble_eq_true rfl) rfl (fun ga c9 fj b7 gb => ?_))))
 have fk := c7.write fj b7 (hlob)
 have da := ff.keptA b7 b0.symm
 have fl := b4.keptA b7 c8.symm
 refine qe (zA (zB (zC ?_)))
 refine qM (.pointer (some ⟨b, 0, none⟩)) ?_
 refine qD rfl (yW rfl) (qD rfl (zK (k := 0) rfl Tryz.underlying77 rfl nz30 rfl) (qD rfl (zL (u := ac) ag30 rfl (c9.cell (o := 0) rfl)) (qD rfl (zM Tryz.underlying30 (v := ac) rfl da.read) (qD rfl (qE rfl rfl (by omega)) (qM (vJ (((ns ++ ([(⟨ls, rs⟩ : Nd)])).length : Int) - 1)) ?_)))))
 refine qe (zA ?_)
 refine wp_ret (zO (zP (v := (vJ (((ns ++ ([(⟨ls, rs⟩ : Nd)])).length : Int) - 1))) rfl rfl rfl ?_))
 have hf : findK ns bs (putNd xs ys) (putBorn bs xs ys) = none := by rw [e1, e2]; exact find_none (by omega) hp
 have eN : putN ns bs xs ys = ns ++ [⟨ls, rs⟩] := by unfold putN; rw [hf, e1]
 have eB : putB ns bs xs ys = bs ++ [bm] := by unfold putB; rw [hf, e2]
 refine ⟨ac, am, _, congrArg (fun z => Ending.returned (Value.int .i64 z)) (by unfold putK; rw [hf]; simp), ?_, fk, e5, fi⟩
 rw [eN, eB]
 exact ⟨c9, da, fl, b0, c8, fh⟩

end D1
end Go.Proofs.YtakkjmlnmcemaaaGreatDoor
