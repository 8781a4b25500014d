/- Texts of this claim in one file: Shelf, B1, C1, D1. -/
import Derived.Test.YtajkbplgbikgdaaGreatDoorOr3
import Derived.Shelf.Strings.OnBuilder
import Derived.Shelf.LaysM
import Derived.Shelf.Strconv.Itoa3
import Derived.Shelf.LaysC
import Derived.Shelf.Strconv.AtoiAll
import Derived.Shelf.Strings.Cut
import Derived.Shelf.Strings.Count
import Derived.Shelf.Sort.Plain
import Derived.Shelf.Strings.Split
import Derived.Ground.Names2Prog
import Derived.Shelf.Slices.CompactI
import Derived.Shelf.Slices.In.SortNone
import Derived.Ground.SlsfProg
import Derived.Shelf.SlSortCmp.Whole1
import Derived.Shelf.SlSortCmp.NoneTotal
import Derived.Shelf.SlSortCmp.WholeK
import Derived.Test.YtajkbplgbikgdaaGreatDoorProg
import Derived.Test.YtajkbplgbikgdaaGreatDoorChecked
namespace Go.Proofs
open Go.Shelf
def Tryz.lays189_ren : Go.Shelf.Ren := ⟨fun | 189 => 177 | 125 => 176 | 257 => 232 | 128 => 230 | 129 => 231 | 294 => 273 | 295 => 274 | 296 => 275 | 297 => 276 | 298 => 277 | 299 => 278 | 216 => 279 | 300 => 280 | 301 => 281 | 328 => 297 | 329 => 269 | 330 => 270 | 331 => 298 | 332 => 299 | 215 => 132 | 343 => 305 | n => n, fun | 28 => 59 | 3 => 3 | 46 => 202 | 0 => 0 | 51 => 245 | 53 => 79 | 4 => 4 | 183 => 239 | 182 => 238 | 131 => 91 | 5 => 5 | 9 => 9 | 218 => 272 | 222 => 276 | 228 => 298 | 229 => 299 | n => n, fun | n => n⟩
theorem Tryz.lays189 : Go.Proofs.Lays.n189 Tryz.prog Tryz.lays189_ren := {
 mixed := by kernel_rfl
 f125 := Tryz.func176.trans (congrArg some (by kernel_rfl))
 f128 := Tryz.func230.trans (congrArg some (by kernel_rfl))
 f129 := Tryz.func231.trans (congrArg some (by kernel_rfl))
 f189 := Tryz.func177.trans (congrArg some (by kernel_rfl))
 f215 := Tryz.func132.trans (congrArg some (by kernel_rfl))
 f216 := Tryz.func279.trans (congrArg some (by kernel_rfl))
 f257 := Tryz.func232.trans (congrArg some (by kernel_rfl))
 f294 := Tryz.func273.trans (congrArg some (by kernel_rfl))
 f295 := Tryz.func274.trans (congrArg some (by kernel_rfl))
 f296 := Tryz.func275.trans (congrArg some (by kernel_rfl))
 f297 := Tryz.func276.trans (congrArg some (by kernel_rfl))
 f298 := Tryz.func277.trans (congrArg some (by kernel_rfl))
 f299 := Tryz.func278.trans (congrArg some (by kernel_rfl))
 f300 := Tryz.func280.trans (congrArg some (by kernel_rfl))
 f301 := Tryz.func281.trans (congrArg some (by kernel_rfl))
 f328 := Tryz.func297.trans (congrArg some (by kernel_rfl))
 f329 := Tryz.func269.trans (congrArg some (by kernel_rfl))
 f330 := Tryz.func270.trans (congrArg some (by kernel_rfl))
 f331 := Tryz.func298.trans (congrArg some (by kernel_rfl))
 f332 := Tryz.func299.trans (congrArg some (by kernel_rfl))
 f343 := Tryz.func305.trans (congrArg some (by kernel_rfl))
 t0 := Tryz.underlying0
 a0 := Tryz.isAgg0
 z0 := Tryz.sizeOf0
 v0 := Tryz.zeroValue0
 t3 := Tryz.underlying3
 a3 := Tryz.isAgg3
 z3 := Tryz.sizeOf3
 v3 := Tryz.zeroValue3
 t4 := Tryz.underlying4
 a4 := Tryz.isAgg4
 z4 := Tryz.sizeOf4
 v4 := Tryz.zeroValue4
 t5 := Tryz.underlying5
 a5 := Tryz.isAgg5
 z5 := Tryz.sizeOf5
 v5 := Tryz.zeroValue5
 t9 := Tryz.underlying9
 a9 := Tryz.isAgg9
 z9 := Tryz.sizeOf9
 v9 := Tryz.zeroValue9
 t28 := Tryz.underlying59
 a28 := Tryz.isAgg59
 z28 := Tryz.sizeOf59
 v28 := Tryz.zeroValue59
 t46 := Tryz.underlying202
 a46 := Tryz.isAgg202
 z46 := Tryz.sizeOf202
 v46 := Tryz.zeroValue202
 t51 := Tryz.underlying245
 a51 := Tryz.isAgg245
 z51 := Tryz.sizeOf245
 v51 := Tryz.zeroValue245
 t53 := Tryz.underlying79
 a53 := Tryz.isAgg79
 z53 := Tryz.sizeOf79
 v53 := Tryz.zeroValue79
 t131 := Tryz.underlying91
 a131 := Tryz.isAgg91
 z131 := Tryz.sizeOf91
 v131 := Tryz.zeroValue91
 t182 := Tryz.underlying238
 a182 := Tryz.isAgg238
 z182 := Tryz.sizeOf238
 v182 := Tryz.zeroValue238
 t183 := Tryz.underlying239
 a183 := Tryz.isAgg239
 z183 := Tryz.sizeOf239
 v183 := Tryz.zeroValue239
 t218 := Tryz.underlying272
 a218 := Tryz.isAgg272
 z218 := Tryz.sizeOf272
 v218 := Tryz.zeroValue272
 t222 := Tryz.underlying276
 a222 := Tryz.isAgg276
 z222 := Tryz.sizeOf276
 v222 := Tryz.zeroValue276
 t228 := Tryz.underlying298
 a228 := Tryz.isAgg298
 z228 := Tryz.sizeOf298
 v228 := Tryz.zeroValue298
 t229 := Tryz.underlying299
 a229 := Tryz.isAgg299
 z229 := Tryz.sizeOf299
 v229 := Tryz.zeroValue299 }
open Go.Sort Go.RowKit in
theorem Tryz.slices_Sort_int (blk off cap : Nat) (zs : List Int) (w : World) (hH : Holds (Value.int .i64) w blk off zs.toArray) (hblk : blk < w.heap.size) (hsz : zs.length < 4611686018427387904) :
  Calls Tryz.prog 177 #[.slice (some ⟨blk, off, none⟩) zs.length cap] w fun e w' =>
   e = .returned (.tuple #[]) ∧ ∃ n os, w' = grow (putRow (Value.int .i64) (Sort.ahead w n) blk off (zs.mergeSort fun x y => decide (x ≤ y)).toArray) os := Any.slices_Sort_int Tryz.lays189 blk off cap zs w hH hblk hsz
def Tryz.laysNm220_ren : Go.Shelf.Ren := ⟨fun | 20 => 180 | n => n, fun | 22 => 59 | 3 => 3 | 4 => 4 | 0 => 0 | n => n, fun | n => n⟩
theorem Tryz.laysNm220 : Go.Proofs.Lays2.n20 Tryz.prog Tryz.laysNm220_ren := {
 mixed := by kernel_rfl
 f20 := Tryz.func180.trans (congrArg some (by kernel_rfl))
 t0 := Tryz.underlying0
 a0 := Tryz.isAgg0
 z0 := Tryz.sizeOf0
 v0 := Tryz.zeroValue0
 t3 := Tryz.underlying3
 a3 := Tryz.isAgg3
 z3 := Tryz.sizeOf3
 v3 := Tryz.zeroValue3
 t4 := Tryz.underlying4
 a4 := Tryz.isAgg4
 z4 := Tryz.sizeOf4
 v4 := Tryz.zeroValue4
 t22 := Tryz.underlying59
 a22 := Tryz.isAgg59
 z22 := Tryz.sizeOf59
 v22 := Tryz.zeroValue59
 i3 := by kernel_rfl }
open Go.RowKit Go.Lib Go.Sort in
theorem Tryz.slices_Compact_int (blk off cap : Nat) (zs : List Int) (w : World) (hH : Holds (Value.int .i64) w blk off zs.toArray) (hsz : zs.length ≤ 9223372036854775807) (hcap : zs.length ≤ cap) :
  Calls Tryz.prog 180 #[.slice (some ⟨blk, off, none⟩) zs.length cap] w fun e w' => e = .returned (.slice (some ⟨blk, off, none⟩) (Lib.compact zs).length cap) ∧ ∃ q, w' = putRow (Value.int .i64) (Sort.ahead w q) blk off (Lib.compact zs ++ List.replicate (zs.length - (Lib.compact zs).length) 0).toArray := Any.slices_Compact_int Tryz.laysNm220 blk off cap zs w hH hsz hcap
open Go.RowKit Go.Lib Go.Sort in
theorem Tryz.slices_Compact_int_empty (a : Option Addr) (cap : Nat) (w : World) :
  Calls Tryz.prog 180 #[.slice a 0 cap] w fun e w' => e = .returned (.slice a 0 cap) ∧ w' = w := Any.slices_Compact_int_empty Tryz.laysNm220 a cap w
open Go.RowKit Go.Sort in
theorem Tryz.slices_Sort_int_none (p : Option Addr) (cap : Nat) (w : World) :
  Calls Tryz.prog 177 #[.slice p 0 cap] w fun e w' => e = .returned (.tuple #[]) ∧ w' = w := Any.slices_Sort_int_none Tryz.lays189 p cap w
def Tryz.laysSlF6_f115_ren : Go.Shelf.Ren := ⟨fun | 6 => 115 | 15 => 176 | 14 => 175 | 28 => 230 | 29 => 231 | 20 => 222 | 21 => 223 | 22 => 224 | 23 => 225 | 24 => 226 | 25 => 227 | 26 => 228 | 27 => 229 | 46 => 268 | 47 => 269 | 48 => 270 | 49 => 271 | 50 => 272 | 57 => 296 | n => n, fun | 22 => 59 | 24 => 3 | 25 => 123 | 3 => 3 | 39 => 202 | 0 => 0 | 53 => 245 | 55 => 79 | 4 => 4 | 46 => 239 | 45 => 238 | 50 => 91 | 5 => 5 | 9 => 9 | 66 => 272 | 70 => 276 | 76 => 298 | 77 => 299 | n => n, fun | n => n⟩
theorem Tryz.laysSlF6_f115 : Go.Proofs.SlLaysF.n6 Tryz.prog Tryz.laysSlF6_f115_ren := {
 mixed := by kernel_rfl
 f6 := ⟨Tryz.f115.name, by decide, Tryz.func115.trans (congrArg some (by kernel_rfl))⟩
 f14 := ⟨Tryz.f175.name, by decide, Tryz.func175.trans (congrArg some (by kernel_rfl))⟩
 f15 := Tryz.func176.trans (congrArg some (by kernel_rfl))
 f20 := ⟨Tryz.f222.name, by decide, Tryz.func222.trans (congrArg some (by kernel_rfl))⟩
 f21 := ⟨Tryz.f223.name, by decide, Tryz.func223.trans (congrArg some (by kernel_rfl))⟩
 f22 := ⟨Tryz.f224.name, by decide, Tryz.func224.trans (congrArg some (by kernel_rfl))⟩
 f23 := ⟨Tryz.f225.name, by decide, Tryz.func225.trans (congrArg some (by kernel_rfl))⟩
 f24 := ⟨Tryz.f226.name, by decide, Tryz.func226.trans (congrArg some (by kernel_rfl))⟩
 f25 := ⟨Tryz.f227.name, by decide, Tryz.func227.trans (congrArg some (by kernel_rfl))⟩
 f26 := ⟨Tryz.f228.name, by decide, Tryz.func228.trans (congrArg some (by kernel_rfl))⟩
 f27 := ⟨Tryz.f229.name, by decide, Tryz.func229.trans (congrArg some (by kernel_rfl))⟩
 f28 := Tryz.func230.trans (congrArg some (by kernel_rfl))
 f29 := Tryz.func231.trans (congrArg some (by kernel_rfl))
 f46 := ⟨Tryz.f268.name, by decide, Tryz.func268.trans (congrArg some (by kernel_rfl))⟩
 f47 := Tryz.func269.trans (congrArg some (by kernel_rfl))
 f48 := Tryz.func270.trans (congrArg some (by kernel_rfl))
 f49 := ⟨Tryz.f271.name, by decide, Tryz.func271.trans (congrArg some (by kernel_rfl))⟩
 f50 := ⟨Tryz.f272.name, by decide, Tryz.func272.trans (congrArg some (by kernel_rfl))⟩
 f57 := ⟨Tryz.f296.name, by decide, Tryz.func296.trans (congrArg some (by kernel_rfl))⟩
 t0 := Tryz.underlying0
 a0 := Tryz.isAgg0
 z0 := Tryz.sizeOf0
 v0 := Tryz.zeroValue0
 t3 := Tryz.underlying3
 a3 := Tryz.isAgg3
 z3 := Tryz.sizeOf3
 v3 := Tryz.zeroValue3
 t4 := Tryz.underlying4
 a4 := Tryz.isAgg4
 z4 := Tryz.sizeOf4
 v4 := Tryz.zeroValue4
 t5 := Tryz.underlying5
 a5 := Tryz.isAgg5
 z5 := Tryz.sizeOf5
 v5 := Tryz.zeroValue5
 t9 := Tryz.underlying9
 a9 := Tryz.isAgg9
 z9 := Tryz.sizeOf9
 v9 := Tryz.zeroValue9
 t22 := Tryz.underlying59
 a22 := Tryz.isAgg59
 z22 := Tryz.sizeOf59
 v22 := Tryz.zeroValue59
 a24 := Tryz.isAgg3
 z24 := Tryz.sizeOf3
 t25 := Tryz.underlying123
 a25 := Tryz.isAgg123
 z25 := Tryz.sizeOf123
 v25 := Tryz.zeroValue123
 t39 := Tryz.underlying202
 a39 := Tryz.isAgg202
 z39 := Tryz.sizeOf202
 v39 := Tryz.zeroValue202
 t45 := Tryz.underlying238
 a45 := Tryz.isAgg238
 z45 := Tryz.sizeOf238
 v45 := Tryz.zeroValue238
 t46 := Tryz.underlying239
 a46 := Tryz.isAgg239
 z46 := Tryz.sizeOf239
 v46 := Tryz.zeroValue239
 t50 := Tryz.underlying91
 a50 := Tryz.isAgg91
 z50 := Tryz.sizeOf91
 v50 := Tryz.zeroValue91
 t53 := Tryz.underlying245
 a53 := Tryz.isAgg245
 z53 := Tryz.sizeOf245
 v53 := Tryz.zeroValue245
 t55 := Tryz.underlying79
 a55 := Tryz.isAgg79
 z55 := Tryz.sizeOf79
 v55 := Tryz.zeroValue79
 t66 := Tryz.underlying272
 a66 := Tryz.isAgg272
 z66 := Tryz.sizeOf272
 v66 := Tryz.zeroValue272
 t70 := Tryz.underlying276
 a70 := Tryz.isAgg276
 z70 := Tryz.sizeOf276
 v70 := Tryz.zeroValue276
 t76 := Tryz.underlying298
 a76 := Tryz.isAgg298
 z76 := Tryz.sizeOf298
 v76 := Tryz.zeroValue298
 t77 := Tryz.underlying299
 a77 := Tryz.isAgg299
 z77 := Tryz.sizeOf299
 v77 := Tryz.zeroValue299 }
open Go.RowKit Go.Lib Go.Sort in
theorem Tryz.slices_SortFunc {α : Type} [Inhabited α] (enc : α → Value) (h1 : OneCell enc) (cf : α → α → Int) (hO : SWO (ltOf cf)) (g : Nat) (cb : Array Value) (blk off cap : Nat) (d : Array α) (w : World) (eg : ∀ args w, (callFunc g args).run Tryz.prog w = .ok (.enter g args) w) (hcmp : CmpLays1 Tryz.prog g cb enc cf blk off d.size w) (hH : Holds enc w blk off d) (hblk : blk < w.heap.size) (hsz : d.size < 4611686018427387904) :
  Calls Tryz.prog 115 #[.slice (some ⟨blk, off, none⟩) d.size cap, .func (.func g) #[] cb] w fun e w' =>
   e = .returned (.tuple #[]) ∧ ∃ d' n os, PermIn 0 d.size d d' ∧ SortedIn (ltOf cf) 0 d.size d' ∧ w' = sortWorld enc w blk off n d' os := Any.slices_SortFunc Tryz.laysSlF6_f115 enc h1 cf hO g cb blk off cap d w eg hcmp hH hblk hsz
def Tryz.laysSlF06_f115_ren : Go.Shelf.Ren := ⟨fun | 6 => 115 | 15 => 176 | 14 => 175 | 28 => 230 | 29 => 231 | 20 => 222 | 21 => 223 | 22 => 224 | 23 => 225 | 24 => 226 | 25 => 227 | 26 => 228 | 27 => 229 | 46 => 268 | 47 => 269 | 48 => 270 | 49 => 271 | 50 => 272 | 57 => 296 | n => n, fun | 22 => 59 | 24 => 3 | 25 => 123 | 3 => 3 | 39 => 202 | 0 => 0 | 53 => 245 | 55 => 79 | 4 => 4 | 46 => 239 | 45 => 238 | 50 => 91 | 5 => 5 | 9 => 9 | 66 => 272 | 70 => 276 | 76 => 298 | 77 => 299 | n => n, fun | n => n⟩
theorem Tryz.laysSlF06_f115 : Go.Proofs.SlLaysF0.n6 Tryz.prog Tryz.laysSlF06_f115_ren := {
 mixed := by kernel_rfl
 f6 := ⟨Tryz.f115.name, by decide, Tryz.func115.trans (congrArg some (by kernel_rfl))⟩
 f14 := ⟨Tryz.f175.name, by decide, Tryz.func175.trans (congrArg some (by kernel_rfl))⟩
 f15 := Tryz.func176.trans (congrArg some (by kernel_rfl))
 f20 := ⟨Tryz.f222.name, by decide, Tryz.func222.trans (congrArg some (by kernel_rfl))⟩
 f21 := ⟨Tryz.f223.name, by decide, Tryz.func223.trans (congrArg some (by kernel_rfl))⟩
 f22 := ⟨Tryz.f224.name, by decide, Tryz.func224.trans (congrArg some (by kernel_rfl))⟩
 f23 := ⟨Tryz.f225.name, by decide, Tryz.func225.trans (congrArg some (by kernel_rfl))⟩
 f24 := ⟨Tryz.f226.name, by decide, Tryz.func226.trans (congrArg some (by kernel_rfl))⟩
 f25 := ⟨Tryz.f227.name, by decide, Tryz.func227.trans (congrArg some (by kernel_rfl))⟩
 f26 := ⟨Tryz.f228.name, by decide, Tryz.func228.trans (congrArg some (by kernel_rfl))⟩
 f27 := ⟨Tryz.f229.name, by decide, Tryz.func229.trans (congrArg some (by kernel_rfl))⟩
 f28 := Tryz.func230.trans (congrArg some (by kernel_rfl))
 f29 := Tryz.func231.trans (congrArg some (by kernel_rfl))
 f46 := ⟨Tryz.f268.name, by decide, Tryz.func268.trans (congrArg some (by kernel_rfl))⟩
 f47 := Tryz.func269.trans (congrArg some (by kernel_rfl))
 f48 := Tryz.func270.trans (congrArg some (by kernel_rfl))
 f49 := ⟨Tryz.f271.name, by decide, Tryz.func271.trans (congrArg some (by kernel_rfl))⟩
 f50 := ⟨Tryz.f272.name, by decide, Tryz.func272.trans (congrArg some (by kernel_rfl))⟩
 f57 := ⟨Tryz.f296.name, by decide, Tryz.func296.trans (congrArg some (by kernel_rfl))⟩
 t0 := Tryz.underlying0
 a0 := Tryz.isAgg0
 z0 := Tryz.sizeOf0
 v0 := Tryz.zeroValue0
 t3 := Tryz.underlying3
 a3 := Tryz.isAgg3
 z3 := Tryz.sizeOf3
 v3 := Tryz.zeroValue3
 t4 := Tryz.underlying4
 a4 := Tryz.isAgg4
 z4 := Tryz.sizeOf4
 v4 := Tryz.zeroValue4
 t5 := Tryz.underlying5
 a5 := Tryz.isAgg5
 z5 := Tryz.sizeOf5
 v5 := Tryz.zeroValue5
 t9 := Tryz.underlying9
 a9 := Tryz.isAgg9
 z9 := Tryz.sizeOf9
 v9 := Tryz.zeroValue9
 t22 := Tryz.underlying59
 a22 := Tryz.isAgg59
 z22 := Tryz.sizeOf59
 v22 := Tryz.zeroValue59
 t25 := Tryz.underlying123
 a25 := Tryz.isAgg123
 z25 := Tryz.sizeOf123
 v25 := Tryz.zeroValue123
 t39 := Tryz.underlying202
 a39 := Tryz.isAgg202
 z39 := Tryz.sizeOf202
 v39 := Tryz.zeroValue202
 t45 := Tryz.underlying238
 a45 := Tryz.isAgg238
 z45 := Tryz.sizeOf238
 v45 := Tryz.zeroValue238
 t46 := Tryz.underlying239
 a46 := Tryz.isAgg239
 z46 := Tryz.sizeOf239
 v46 := Tryz.zeroValue239
 t50 := Tryz.underlying91
 a50 := Tryz.isAgg91
 z50 := Tryz.sizeOf91
 v50 := Tryz.zeroValue91
 t53 := Tryz.underlying245
 a53 := Tryz.isAgg245
 z53 := Tryz.sizeOf245
 v53 := Tryz.zeroValue245
 t55 := Tryz.underlying79
 a55 := Tryz.isAgg79
 z55 := Tryz.sizeOf79
 v55 := Tryz.zeroValue79
 t66 := Tryz.underlying272
 a66 := Tryz.isAgg272
 z66 := Tryz.sizeOf272
 v66 := Tryz.zeroValue272
 t70 := Tryz.underlying276
 a70 := Tryz.isAgg276
 z70 := Tryz.sizeOf276
 v70 := Tryz.zeroValue276
 t76 := Tryz.underlying298
 a76 := Tryz.isAgg298
 z76 := Tryz.sizeOf298
 v76 := Tryz.zeroValue298
 t77 := Tryz.underlying299
 a77 := Tryz.isAgg299
 z77 := Tryz.sizeOf299
 v77 := Tryz.zeroValue299 }
open Go.RowKit Go.Lib Go.Sort in
theorem Tryz.slices_SortFunc_none {α : Type} [Inhabited α] (p : Option Addr) (cap : Nat) (fv : Value) (w : World) :
  Calls Tryz.prog 115 #[.slice p 0 cap, fv] w fun e w' => e = .returned (.tuple #[]) ∧ w' = w := AnyF.slices_SortFunc_none Tryz.laysSlF06_f115 p cap fv w
def Tryz.laysSlF06_f118_ren : Go.Shelf.Ren := ⟨fun | 6 => 118 | 15 => 176 | 14 => 178 | 28 => 230 | 29 => 231 | 20 => 233 | 21 => 234 | 22 => 235 | 23 => 236 | 24 => 237 | 25 => 238 | 26 => 239 | 27 => 240 | 46 => 282 | 47 => 269 | 48 => 270 | 49 => 283 | 50 => 284 | 57 => 300 | n => n, fun | 22 => 154 | 24 => 157 | 25 => 159 | 3 => 3 | 39 => 202 | 0 => 0 | 53 => 245 | 55 => 79 | 4 => 4 | 46 => 239 | 45 => 238 | 50 => 91 | 5 => 5 | 9 => 9 | 66 => 272 | 70 => 276 | 76 => 298 | 77 => 299 | n => n, fun | n => n⟩
theorem Tryz.laysSlF06_f118 : Go.Proofs.SlLaysF0.n6 Tryz.prog Tryz.laysSlF06_f118_ren := {
 mixed := by kernel_rfl
 f6 := ⟨Tryz.f118.name, by decide, Tryz.func118.trans (congrArg some (by kernel_rfl))⟩
 f14 := ⟨Tryz.f178.name, by decide, Tryz.func178.trans (congrArg some (by kernel_rfl))⟩
 f15 := Tryz.func176.trans (congrArg some (by kernel_rfl))
 f20 := ⟨Tryz.f233.name, by decide, Tryz.func233.trans (congrArg some (by kernel_rfl))⟩
 f21 := ⟨Tryz.f234.name, by decide, Tryz.func234.trans (congrArg some (by kernel_rfl))⟩
 f22 := ⟨Tryz.f235.name, by decide, Tryz.func235.trans (congrArg some (by kernel_rfl))⟩
 f23 := ⟨Tryz.f236.name, by decide, Tryz.func236.trans (congrArg some (by kernel_rfl))⟩
 f24 := ⟨Tryz.f237.name, by decide, Tryz.func237.trans (congrArg some (by kernel_rfl))⟩
 f25 := ⟨Tryz.f238.name, by decide, Tryz.func238.trans (congrArg some (by kernel_rfl))⟩
 f26 := ⟨Tryz.f239.name, by decide, Tryz.func239.trans (congrArg some (by kernel_rfl))⟩
 f27 := ⟨Tryz.f240.name, by decide, Tryz.func240.trans (congrArg some (by kernel_rfl))⟩
 f28 := Tryz.func230.trans (congrArg some (by kernel_rfl))
 f29 := Tryz.func231.trans (congrArg some (by kernel_rfl))
 f46 := ⟨Tryz.f282.name, by decide, Tryz.func282.trans (congrArg some (by kernel_rfl))⟩
 f47 := Tryz.func269.trans (congrArg some (by kernel_rfl))
 f48 := Tryz.func270.trans (congrArg some (by kernel_rfl))
 f49 := ⟨Tryz.f283.name, by decide, Tryz.func283.trans (congrArg some (by kernel_rfl))⟩
 f50 := ⟨Tryz.f284.name, by decide, Tryz.func284.trans (congrArg some (by kernel_rfl))⟩
 f57 := ⟨Tryz.f300.name, by decide, Tryz.func300.trans (congrArg some (by kernel_rfl))⟩
 t0 := Tryz.underlying0
 a0 := Tryz.isAgg0
 z0 := Tryz.sizeOf0
 v0 := Tryz.zeroValue0
 t3 := Tryz.underlying3
 a3 := Tryz.isAgg3
 z3 := Tryz.sizeOf3
 v3 := Tryz.zeroValue3
 t4 := Tryz.underlying4
 a4 := Tryz.isAgg4
 z4 := Tryz.sizeOf4
 v4 := Tryz.zeroValue4
 t5 := Tryz.underlying5
 a5 := Tryz.isAgg5
 z5 := Tryz.sizeOf5
 v5 := Tryz.zeroValue5
 t9 := Tryz.underlying9
 a9 := Tryz.isAgg9
 z9 := Tryz.sizeOf9
 v9 := Tryz.zeroValue9
 t22 := Tryz.underlying154
 a22 := Tryz.isAgg154
 z22 := Tryz.sizeOf154
 v22 := Tryz.zeroValue154
 t25 := Tryz.underlying159
 a25 := Tryz.isAgg159
 z25 := Tryz.sizeOf159
 v25 := Tryz.zeroValue159
 t39 := Tryz.underlying202
 a39 := Tryz.isAgg202
 z39 := Tryz.sizeOf202
 v39 := Tryz.zeroValue202
 t45 := Tryz.underlying238
 a45 := Tryz.isAgg238
 z45 := Tryz.sizeOf238
 v45 := Tryz.zeroValue238
 t46 := Tryz.underlying239
 a46 := Tryz.isAgg239
 z46 := Tryz.sizeOf239
 v46 := Tryz.zeroValue239
 t50 := Tryz.underlying91
 a50 := Tryz.isAgg91
 z50 := Tryz.sizeOf91
 v50 := Tryz.zeroValue91
 t53 := Tryz.underlying245
 a53 := Tryz.isAgg245
 z53 := Tryz.sizeOf245
 v53 := Tryz.zeroValue245
 t55 := Tryz.underlying79
 a55 := Tryz.isAgg79
 z55 := Tryz.sizeOf79
 v55 := Tryz.zeroValue79
 t66 := Tryz.underlying272
 a66 := Tryz.isAgg272
 z66 := Tryz.sizeOf272
 v66 := Tryz.zeroValue272
 t70 := Tryz.underlying276
 a70 := Tryz.isAgg276
 z70 := Tryz.sizeOf276
 v70 := Tryz.zeroValue276
 t76 := Tryz.underlying298
 a76 := Tryz.isAgg298
 z76 := Tryz.sizeOf298
 v76 := Tryz.zeroValue298
 t77 := Tryz.underlying299
 a77 := Tryz.isAgg299
 z77 := Tryz.sizeOf299
 v77 := Tryz.zeroValue299 }
open Go.RowKit Go.Lib Go.Sort in
theorem Tryz.slices_SortFunc_ent {α : Type} [Inhabited α] (k : Nat) (aE : ∀ w, (isAgg (Tryz.laysSlF06_f118_ren.t 24)).run Tryz.prog w = .ok true w) (zE : ∀ w, (Go.sizeOf (Tryz.laysSlF06_f118_ren.t 24)).run Tryz.prog w = .ok k w) (enc : α → List Value) (hk : ∀ x, (enc x).length = k) (h1 : ∀ x, ∀ v ∈ enc x, v.oneCell' = true) (cf : α → α → Int) (hO : SWO (ltOf cf)) (g : Nat) (cb : Array Value) (blk off cap : Nat) (d : Array α) (w : World)
  (eg : ∀ args w, (callFunc g args).run Tryz.prog w = .ok (.enter g args) w) (hcmp : CmpLays Tryz.prog g cb enc k cf blk off d.size w) (hH : HoldsK enc k w blk off d) (hblk : blk < w.heap.size) (hsz : d.size < 4611686018427387904) :
  Calls Tryz.prog 118 #[.slice (some ⟨blk, off, none⟩) d.size cap, .func (.func g) #[] cb] w fun e w' =>
   e = .returned (.tuple #[]) ∧ ∃ d' n os, PermIn 0 d.size d d' ∧ SortedIn (ltOf cf) 0 d.size d' ∧ w' = sortWorldK enc k w blk off n d' os := AnyQ.slices_SortFunc Tryz.laysSlF06_f118 k aE zE enc hk h1 cf hO g cb blk off cap d w eg hcmp hH hblk hsz
open Go.RowKit Go.Lib Go.Sort in
theorem Tryz.slices_SortFunc_ent_none {α : Type} [Inhabited α] (p : Option Addr) (cap : Nat) (fv : Value) (w : World) :
  Calls Tryz.prog 118 #[.slice p 0 cap, fv] w fun e w' => e = .returned (.tuple #[]) ∧ w' = w := AnyF.slices_SortFunc_none Tryz.laysSlF06_f118 p cap fv w
end Go.Proofs
set_option maxRecDepth 20000
set_option maxHeartbeats 2000000
namespace Go.Proofs.YtajkbplgbikgdaaGreatDoor
namespace B1
open Go.RowKit Go.GL Go.Proofs
end B1
section
open Go.RowKit Go.GL Go.Proofs
abbrev nGo := "runtime.NumGoroutine"
theorem ag105 : (Tryz.prog.underlying 105).map aggD = some false := by kernel_rfl
theorem ag106 : (Tryz.prog.underlying 106).map aggD = some false := by kernel_rfl
theorem vH : (Tryz.prog.underlying 109).map aggD = some false := by kernel_rfl
theorem ag127 : (Tryz.prog.underlying 127).map aggD = some true := by kernel_rfl
theorem ag157 : (Tryz.prog.underlying 157).map aggD = some true := by kernel_rfl
theorem ag22 : (Tryz.prog.underlying 22).map aggD = some false := by kernel_rfl
theorem ag24 : (Tryz.prog.underlying 24).map aggD = some false := by kernel_rfl
theorem ag26 : (Tryz.prog.underlying 26).map aggD = some true := by kernel_rfl
theorem ag3 : (Tryz.prog.underlying 3).map aggD = some false := by kernel_rfl
theorem ag4 : (Tryz.prog.underlying 4).map aggD = some false := by kernel_rfl
theorem ag5 : (Tryz.prog.underlying 5).map aggD = some false := by kernel_rfl
theorem ag54 : (Tryz.prog.underlying 54).map aggD = some false := by kernel_rfl
theorem ag59 : (Tryz.prog.underlying 59).map aggD = some false := by kernel_rfl
theorem ag65 : (Tryz.prog.underlying 65).map aggD = some true := by kernel_rfl
theorem ag79 : (Tryz.prog.underlying 79).map aggD = some false := by kernel_rfl
theorem ap157 : (Tryz.prog.info? 157).map (fun i => (i.size, i.bytes, (i.zero.map (·.cells.size)))) = some (3, 56, some 3) := by kernel_rfl
theorem ap26 : (Tryz.prog.info? 26).map (fun i => (i.size, i.bytes, (i.zero.map (·.cells.size)))) = some (1, 24, some 1) := by kernel_rfl
theorem ap3 : (Tryz.prog.info? 3).map (fun i => (i.size, i.bytes, (i.zero.map (·.cells.size)))) = some (1, 8, some 1) := by kernel_rfl
theorem ap5 : (Tryz.prog.info? 5).map (fun i => (i.size, i.bytes, (i.zero.map (·.cells.size)))) = some (1, 1, some 1) := by kernel_rfl
theorem ap59 : (Tryz.prog.info? 59).map (fun i => (i.size, i.bytes, (i.zero.map (·.cells.size)))) = some (1, 24, some 1) := by kernel_rfl
theorem ap65 : (Tryz.prog.info? 65).map (fun i => (i.size, i.bytes, (i.zero.map (·.cells.size)))) = some (2, 48, some 2) := by kernel_rfl
theorem nm10 : (Tryz.f10.name == nGo) = false := by kernel_rfl
theorem mW : (Tryz.f101.name == nGo) = false := by kernel_rfl
theorem nm11 : (Tryz.f11.name == nGo) = false := by kernel_rfl
theorem nm114 : (Tryz.f114.name == nGo) = false := by kernel_rfl
theorem nm115 : (Tryz.f115.name == nGo) = false := by kernel_rfl
theorem nm117 : (Tryz.f117.name == nGo) = false := by kernel_rfl
theorem nm118 : (Tryz.f118.name == nGo) = false := by kernel_rfl
theorem nm12 : (Tryz.f12.name == nGo) = false := by kernel_rfl
theorem nm120 : (Tryz.f120.name == nGo) = false := by kernel_rfl
theorem nm121 : (Tryz.f121.name == nGo) = false := by kernel_rfl
theorem nm122 : (Tryz.f122.name == nGo) = false := by kernel_rfl
theorem nm123 : (Tryz.f123.name == nGo) = false := by kernel_rfl
theorem nm124 : (Tryz.f124.name == nGo) = false := by kernel_rfl
theorem nm125 : (Tryz.f125.name == nGo) = false := by kernel_rfl
theorem nm126 : (Tryz.f126.name == nGo) = false := by kernel_rfl
theorem nm127 : (Tryz.f127.name == nGo) = false := by kernel_rfl
theorem nm128 : (Tryz.f128.name == nGo) = false := by kernel_rfl
theorem rK : (Tryz.f129.name == nGo) = false := by kernel_rfl
theorem nm13 : (Tryz.f13.name == nGo) = false := by kernel_rfl
theorem nm130 : (Tryz.f130.name == nGo) = false := by kernel_rfl
theorem fE : (Tryz.f131.name == nGo) = false := by kernel_rfl
theorem nm132 : (Tryz.f132.name == nGo) = false := by kernel_rfl
theorem nm133 : (Tryz.f133.name == nGo) = false := by kernel_rfl
theorem nm138 : (Tryz.f138.name == nGo) = false := by kernel_rfl
theorem nm139 : (Tryz.f139.name == nGo) = false := by kernel_rfl
theorem nm14 : (Tryz.f14.name == nGo) = false := by kernel_rfl
theorem nm144 : (Tryz.f144.name == nGo) = false := by kernel_rfl
theorem nm177 : (Tryz.f177.name == nGo) = false := by kernel_rfl
theorem nm179 : (Tryz.f179.name == nGo) = false := by kernel_rfl
theorem nm180 : (Tryz.f180.name == nGo) = false := by kernel_rfl
theorem nm181 : (Tryz.f181.name == nGo) = false := by kernel_rfl
theorem nm182 : (Tryz.f182.name == nGo) = false := by kernel_rfl
theorem nm186 : (Tryz.f186.name == nGo) = false := by kernel_rfl
theorem nm241 : (Tryz.f241.name == nGo) = false := by kernel_rfl
theorem nm244 : (Tryz.f244.name == nGo) = false := by kernel_rfl
theorem nm29 : (Tryz.f29.name == nGo) = false := by kernel_rfl
theorem nm30 : (Tryz.f30.name == nGo) = false := by kernel_rfl
theorem nm31 : (Tryz.f31.name == nGo) = false := by kernel_rfl
theorem nm32 : (Tryz.f32.name == nGo) = false := by kernel_rfl
theorem nm33 : (Tryz.f33.name == nGo) = false := by kernel_rfl
theorem nm34 : (Tryz.f34.name == nGo) = false := by kernel_rfl
theorem nm35 : (Tryz.f35.name == nGo) = false := by kernel_rfl
theorem nm36 : (Tryz.f36.name == nGo) = false := by kernel_rfl
theorem nm37 : (Tryz.f37.name == nGo) = false := by kernel_rfl
theorem nm38 : (Tryz.f38.name == nGo) = false := by kernel_rfl
theorem nm39 : (Tryz.f39.name == nGo) = false := by kernel_rfl
theorem nm40 : (Tryz.f40.name == nGo) = false := by kernel_rfl
theorem nm41 : (Tryz.f41.name == nGo) = false := by kernel_rfl
theorem nm42 : (Tryz.f42.name == nGo) = false := by kernel_rfl
theorem nm43 : (Tryz.f43.name == nGo) = false := by kernel_rfl
theorem nm52 : (Tryz.f52.name == nGo) = false := by kernel_rfl
theorem nm67 : (Tryz.f67.name == nGo) = false := by kernel_rfl
theorem nm68 : (Tryz.f68.name == nGo) = false := by kernel_rfl
theorem nm69 : (Tryz.f69.name == nGo) = false := by kernel_rfl
theorem nm7 : (Tryz.f7.name == nGo) = false := by kernel_rfl
theorem nm70 : (Tryz.f70.name == nGo) = false := by kernel_rfl
theorem nm71 : (Tryz.f71.name == nGo) = false := by kernel_rfl
theorem nm72 : (Tryz.f72.name == nGo) = false := by kernel_rfl
theorem nm73 : (Tryz.f73.name == nGo) = false := by kernel_rfl
theorem nm74 : (Tryz.f74.name == nGo) = false := by kernel_rfl
theorem nm75 : (Tryz.f75.name == nGo) = false := by kernel_rfl
theorem nm76 : (Tryz.f76.name == nGo) = false := by kernel_rfl
theorem nm77 : (Tryz.f77.name == nGo) = false := by kernel_rfl
theorem nm78 : (Tryz.f78.name == nGo) = false := by kernel_rfl
theorem nm79 : (Tryz.f79.name == nGo) = false := by kernel_rfl
theorem nm8 : (Tryz.f8.name == nGo) = false := by kernel_rfl
theorem nm80 : (Tryz.f80.name == nGo) = false := by kernel_rfl
theorem nm81 : (Tryz.f81.name == nGo) = false := by kernel_rfl
theorem nm82 : (Tryz.f82.name == nGo) = false := by kernel_rfl
theorem nm83 : (Tryz.f83.name == nGo) = false := by kernel_rfl
theorem nm84 : (Tryz.f84.name == nGo) = false := by kernel_rfl
theorem nm85 : (Tryz.f85.name == nGo) = false := by kernel_rfl
theorem nm86 : (Tryz.f86.name == nGo) = false := by kernel_rfl
theorem nm87 : (Tryz.f87.name == nGo) = false := by kernel_rfl
theorem nm88 : (Tryz.f88.name == nGo) = false := by kernel_rfl
theorem nm9 : (Tryz.f9.name == nGo) = false := by kernel_rfl
theorem nm95 : (Tryz.f95.name == nGo) = false := by kernel_rfl
theorem nm98 : (Tryz.f98.name == nGo) = false := by kernel_rfl
theorem nz105 : (Tryz.prog.info? 105).map (·.size == 0) = some false := by kernel_rfl
theorem nz106 : (Tryz.prog.info? 106).map (·.size == 0) = some false := by kernel_rfl
theorem jK : (Tryz.prog.info? 109).map (·.size == 0) = some false := by kernel_rfl
theorem nz22 : (Tryz.prog.info? 22).map (·.size == 0) = some false := by kernel_rfl
theorem nz24 : (Tryz.prog.info? 24).map (·.size == 0) = some false := by kernel_rfl
theorem nz3 : (Tryz.prog.info? 3).map (·.size == 0) = some false := by kernel_rfl
theorem nz59 : (Tryz.prog.info? 59).map (·.size == 0) = some false := by kernel_rfl
theorem nz65 : (Tryz.prog.info? 65).map (·.size == 0) = some false := by kernel_rfl
theorem nz79 : (Tryz.prog.info? 79).map (·.size == 0) = some false := by kernel_rfl
theorem sz109 : (Tryz.prog.info? 109).map (·.size) = some 1 := by kernel_rfl
theorem eS : (Tryz.prog.info? 127).map (·.size) = some 2 := by kernel_rfl
theorem eR : (Tryz.prog.info? 157).map (·.size) = some 3 := by kernel_rfl
theorem sz24 : (Tryz.prog.info? 24).map (·.size) = some 1 := by kernel_rfl
theorem sz26 : (Tryz.prog.info? 26).map (·.size) = some 1 := by kernel_rfl
theorem sz3 : (Tryz.prog.info? 3).map (·.size) = some 1 := by kernel_rfl
theorem sz4 : (Tryz.prog.info? 4).map (·.size) = some 1 := by kernel_rfl
theorem sz5 : (Tryz.prog.info? 5).map (·.size) = some 1 := by kernel_rfl
theorem sz59 : (Tryz.prog.info? 59).map (·.size) = some 1 := by kernel_rfl
theorem sz65 : (Tryz.prog.info? 65).map (·.size) = some 2 := by kernel_rfl
theorem sz79 : (Tryz.prog.info? 79).map (·.size) = some 1 := by kernel_rfl
theorem zr111 : (Tryz.prog.info? 111).bind (·.zero) = some (.agg #[(.slice none 0 0), (.slice none 0 0), (.slice none 0 0), (.map none), (.map none), (.map none), (.map none), (.map none)]) := by kernel_rfl
theorem zr119 : (Tryz.prog.info? 119).bind (·.zero) = some (.agg #[(.slice none 0 0), (.slice none 0 0)]) := by kernel_rfl
theorem zr127 : (Tryz.prog.info? 127).bind (·.zero) = some (.agg #[(.int .i64 0), (.int .i64 0)]) := by kernel_rfl
theorem zr129 : (Tryz.prog.info? 129).bind (·.zero) = some (.agg #[(.slice none 0 0), (.slice none 0 0)]) := by kernel_rfl
theorem zr157 : (Tryz.prog.info? 157).bind (·.zero) = some (.agg #[(.int .i64 0), (.slice none 0 0), (.slice none 0 0)]) := by kernel_rfl
theorem zr255 : (Tryz.prog.info? 255).bind (·.zero) = some (.agg #[(.int .u8 0), (.int .u8 0), (.int .u8 0), (.int .u8 0), (.int .u8 0), (.int .u8 0), (.int .u8 0), (.int .u8 0), (.int .u8 0), (.int .u8 0), (.int .u8 0), (.int .u8 0), (.int .u8 0), (.int .u8 0), (.int .u8 0), (.int .u8 0), (.int .u8 0), (.int .u8 0), (.int .u8 0), (.int .u8 0), (.int .u8 0), (.int .u8 0), (.int .u8 0), (.int .u8 0), (.int .u8 0), (.int .u8 0), (.int .u8 0), (.int .u8 0), (.int .u8 0), (.int .u8 0), (.int .u8 0), (.int .u8 0), (.int .u8 0), (.int .u8 0), (.int .u8 0), (.int .u8 0), (.int .u8 0), (.int .u8 0), (.int .u8 0), (.int .u8 0), (.int .u8 0), (.int .u8 0), (.int .u8 0), (.int .u8 0), (.int .u8 0), (.int .u8 0), (.int .u8 0), (.int .u8 0), (.int .u8 0), (.int .u8 0), (.int .u8 0), (.int .u8 0), (.int .u8 0), (.int .u8 0), (.int .u8 0), (.int .u8 0), (.int .u8 0), (.int .u8 0), (.int .u8 0), (.int .u8 0), (.int .u8 0), (.int .u8 0), (.int .u8 0), (.int .u8 0), (.int .u8 0)]) := by kernel_rfl
theorem zr26 : (Tryz.prog.info? 26).bind (·.zero) = some (.agg #[(.slice none 0 0)]) := by kernel_rfl
theorem zr3 : (Tryz.prog.info? 3).bind (·.zero) = some (.int .i64 0) := by kernel_rfl
theorem zr4 : (Tryz.prog.info? 4).bind (·.zero) = some (.bool false) := by kernel_rfl
theorem zr5 : (Tryz.prog.info? 5).bind (·.zero) = some (.int .u8 0) := by kernel_rfl
theorem zr59 : (Tryz.prog.info? 59).bind (·.zero) = some (.slice none 0 0) := by kernel_rfl
theorem zr65 : (Tryz.prog.info? 65).bind (·.zero) = some (.agg #[(.slice none 0 0), (.slice none 0 0)]) := by kernel_rfl
theorem zr81 : (Tryz.prog.info? 81).bind (·.zero) = some (.agg #[(.slice none 0 0), (.int .i64 0), (.int .u64 0)]) := by kernel_rfl
theorem eU : type_of% @Tryz.underlying59 := @Tryz.underlying59
theorem eV : type_of% @Tryz.underlying24 := @Tryz.underlying24
theorem eW : type_of% @Tryz.underlying26 := @Tryz.underlying26
theorem eX : type_of% @Tryz.underlying65 := @Tryz.underlying65
theorem eY : type_of% @Tryz.underlying111 := @Tryz.underlying111
theorem eZ : type_of% @Tryz.underlying166 := @Tryz.underlying166
theorem dA : type_of% @Tryz.underlying22 := @Tryz.underlying22
theorem dB : type_of% @Tryz.underlying3 := @Tryz.underlying3
theorem dC : type_of% @Tryz.underlying119 := @Tryz.underlying119
theorem dD : type_of% @Tryz.underlying81 := @Tryz.underlying81
theorem dE : type_of% @Tryz.underlying109 := @Tryz.underlying109
theorem dF : type_of% @Tryz.underlying107 := @Tryz.underlying107
theorem dG : type_of% @Tryz.underlying157 := @Tryz.underlying157
theorem dH : type_of% @Tryz.underlying125 := @Tryz.underlying125
theorem dI : type_of% @Tryz.underlying154 := @Tryz.underlying154
theorem dJ : type_of% @Tryz.underlying79 := @Tryz.underlying79
theorem dK : type_of% @Tryz.underlying9 := @Tryz.underlying9
theorem dL : type_of% @Tryz.underlying5 := @Tryz.underlying5
theorem dM : type_of% @Tryz.underlying127 := @Tryz.underlying127
end
namespace B1
open Go.RowKit Go.GL Go.Proofs
theorem mk3 : (Tryz.prog.info? 3).map (fun i => (i.size, i.bytes, i.zero)) = some (1, 8, some (.int .i64 0)) := by kernel_rfl
theorem mk4 : (Tryz.prog.info? 4).map (fun i => (i.size, i.bytes, i.zero)) = some (1, 1, some (.bool false)) := by kernel_rfl
theorem kI {w : World} {G : Pin} {v : Value} {xs : List Int} {b : Int} (hP : Pins G w) (hv : RSl eInt G v xs) :
  Calls Tryz.prog 82 [v, (.int .i64 b)].toArray w fun e w' => e = .returned (.bool (goodOpts xs b)) ∧ w' = w := by
 refine yG (n := 27) Tryz.func82 Tryz.ntmps82 rfl rfl ?_
 have hX0 := exr noS hP
 have hm := hv.max
 refine zG (zH ?_)
 refine qD rfl (zD (v := (.bool false)) rfl) (qe (zA (zG (zG (zH ?_)))))
 refine qD rfl (zB (v := v) rfl) (qD rfl (zT Tryz.underlying59 (v := v) rfl hv) (qD rfl (jY rfl rfl) (qe (zA ?_))))
 refine yN (p := (24 : Int) < (xs.length : Int)) rfl rfl (fun h1 => ?_) (fun h1 => ?_)
 refine zG (zH ?_)
 refine qD rfl (zD (v := (.bool false)) rfl) (qe (zA ?_))
 exact wp_ret (zY (zW (v := (.bool false)) rfl rfl rfl (⟨congrArg (fun z => Ending.returned (Value.bool z)) (by unfold goodOpts; rw [if_pos h1]), rfl⟩)))
 refine wp_skip (zA (zG (zH ?_)))
 refine qD rfl (zD (v := (.int .i64 (-1))) rfl) (qe (zA (zG (zG (zH ?_)))))
 refine qD rfl (zB (v := v) rfl) (qD rfl (zT Tryz.underlying59 (v := v) rfl hv) (qD rfl (zB (v := (.int .i64 0)) rfl) (qe (zA ?_))))
 refine yH (yZ (fun (k : Nat) (en : Nat → Value) (W : World) => ∃ (env1 : Nat → Value) (j : Nat) (last : Int), en = (upd (upd (upd (upd (upd env1 1 (.int .i64 b)) 5 (.int .i64 last)) 11 v) 12 (.int .i64 (xs.length : Int))) 13 (.int .i64 (j : Int))) ∧ k = xs.length - j ∧ Ext noS G w G W ∧ (j ≤ xs.length) ∧ (W = w) ∧ (goodOpts xs b = goodFrom last b (xs.drop j))) _ ⟨_, 0, (-1), (zC (x := 13) (zC (x := 12) (zC (x := 11) (zC (x := 5) (zX (x := 1) rfl) rfl) rfl) rfl) rfl), rfl, hX0, Nat.zero_le _, rfl, (by unfold goodOpts; rw [if_neg h1]; rfl)⟩ ?_)
 rintro k2 _ w3 ⟨env1, j, last, rfl, hk4, hX5, hj, hw, hr⟩
 subst hw
 refine zG (zH ?_)
 refine qD rfl (xB rfl rfl) (qe (zA (zG ?_)))
 refine yN (p := ((j : Int) : Int) < (xs.length : Int)) rfl rfl (fun h6 => ?_) (fun h6 => ?_)
 refine wp_skip (zA (zG ?_))
 refine yH (zG (zH ?_))
 refine qD rfl (zN Tryz.underlying59 sz3 (v := v) rfl rfl hv (by omega) (by omega)) (qD rfl (zO (r := xs.getD j 0) rfl ag3 (z := (j : Int)) rfl hv hX5.pins (by omega) (by omega)) (qD rfl (zD (v := (.int .i64 (xs.getD j 0))) rfl) (qe (zA (zG (zG (zH ?_)))))))
 refine qD rfl (zB (v := (.int .i64 (xs.getD j 0))) rfl) (qD rfl (zB (v := (.int .i64 last)) rfl) (qD rfl (fV rfl rfl) (qD rfl (zB (v := (.bool (decide ((xs.getD j 0 : Int) ≤ last)))) rfl) (qbd (p := (xs.getD j 0 : Int) ≤ last) (t := 20) rfl (fun h7 => ?_) (fun h7 => ?_)))))
 refine qs rfl rfl rfl rfl rfl rfl (qs rfl rfl rfl rfl rfl rfl (qs rfl rfl rfl rfl rfl rfl (qD rfl (xI (v := (.bool true)) rfl rfl) (qe (zA ?_)))))
 refine kB rfl rfl (zG (zH ?_))
 refine qD rfl (zD (v := (.bool false)) rfl) (qe (zA ?_))
 exact wp_ret (zY (zW (v := (.bool false)) rfl rfl rfl (⟨congrArg (fun z => Ending.returned (Value.bool z)) ((hr.trans (gZ (by omega) (Or.inl h7))).symm), rfl⟩)))
 refine qdg rfl rfl rfl rfl rfl rfl (zB (v := (.int .i64 (xs.getD j 0))) rfl) (qdg rfl rfl rfl rfl rfl rfl (zB (v := (.int .i64 b)) rfl) (qdg rfl rfl rfl rfl rfl rfl (gO rfl rfl) (qD rfl (xA (v := (.bool (decide ((b : Int) ≤ (xs.getD j 0))))) rfl rfl) (qe (zA ?_)))))
 refine yN (p := (b : Int) ≤ (xs.getD j 0)) rfl rfl (fun h8 => ?_) (fun h8 => ?_)
 refine zG (zH ?_)
 refine qD rfl (zD (v := (.bool false)) rfl) (qe (zA ?_))
 exact wp_ret (zY (zW (v := (.bool false)) rfl rfl rfl (⟨congrArg (fun z => Ending.returned (Value.bool z)) ((hr.trans (gZ (by omega) (Or.inr h8))).symm), rfl⟩)))
 refine wp_skip (zA (zH ?_))
 refine qD rfl (zB (v := (.int .i64 (xs.getD j 0))) rfl) (qD rfl (zD (v := (.int .i64 (xs.getD j 0))) rfl) (qe (yQ (zA (zH ?_)))))
 refine qD rfl (yX rfl rfl (by omega)) (qD rfl (zB (v := (.int .i64 ((j : Int) + 1))) rfl) (qe (yS (⟨_, ?_, _, rfl, _, j + 1, xs.getD j 0, (zC (x := 13) (zC (x := 12) (zC (x := 11) (zC (x := 5) (zX (x := 1) rfl) rfl) rfl) rfl) rfl), rfl, hX5, (by omega), rfl, (hr.trans (nV (by omega) h7 h8))⟩))))
 omega
 refine wp_exit (yI (yW (yV (zA (zG (zH ?_))))))
 refine qD rfl (zD (v := (.bool true)) rfl) (qe (zA ?_))
 exact wp_ret (zY (zW (v := (.bool true)) rfl rfl rfl (⟨congrArg (fun z => Ending.returned (Value.bool z)) ((hr.trans (sU (by omega))).symm), rfl⟩)))
theorem nE {w : World} {G : Pin} {x : Int} (hP : Pins G w) :
  Calls Tryz.prog 132 [(.int .i64 x)].toArray w fun e w' => e = .returned (.bool false) ∧ w' = w := by
 refine yG (n := 6) Tryz.func132 Tryz.ntmps132 rfl rfl ?_
 have hX0 := exr noS hP
 refine zG (zH ?_)
 refine qD rfl (zD (v := (.bool false)) rfl) (qe (zA (zG (zH ?_))))
 refine qD rfl (zB (v := (.int .i64 x)) rfl) (qD rfl (zB (v := (.int .i64 x)) rfl) (qD rfl (kY rfl rfl) (qD rfl (zD (v := (.bool (decide ((x : Int) ≠ x)))) rfl) (qe (zA ?_)))))
 exact wp_ret (zY (zW (v := (.bool (decide ((x : Int) ≠ x)))) rfl rfl rfl (⟨congrArg (fun z => Ending.returned (Value.bool z)) (decide_eq_false (fun h => h rfl)), rfl⟩)))
theorem vG {w : World} {G : Pin} {x y : Int} (hP : Pins G w) :
  Calls Tryz.prog 85 [(.int .i64 x), (.int .i64 y)].toArray w fun e w' => e = .returned (.int .i64 (cmpI x y)) ∧ w' = w := by
 refine yG (n := 20) Tryz.func85 Tryz.ntmps85 rfl rfl ?_
 have hX0 := exr noS hP
 refine zG (zH ?_)
 refine qD rfl (zD (v := (.int .i64 0)) rfl) (qe (zA (zG (zH ?_))))
 refine qD rfl (zB (v := (.int .i64 x)) rfl) (qI rfl (zM (vs := [(.int .i64 x)]) Tryz.func132 nm132 rfl rfl rfl ?_))
 refine dP (nE hX0.pins) ?_
 rintro _ _ ⟨rfl, rfl⟩
 refine ⟨_, rfl, ?_⟩
 refine qD rfl (zD (v := (.bool false)) rfl) (qe (zA (zG (zH ?_))))
 refine qD rfl (zB (v := (.int .i64 y)) rfl) (qI rfl (zM (vs := [(.int .i64 y)]) Tryz.func132 nm132 rfl rfl rfl ?_))
 refine dP (nE hX0.pins) ?_
 rintro _ _ ⟨rfl, rfl⟩
 refine ⟨_, rfl, ?_⟩
 refine qD rfl (zD (v := (.bool false)) rfl) (qe (zA (zG (zG (zH ?_)))))
 refine qD rfl (zB (v := (.bool false)) rfl) (qe (zA ?_))
 refine vE rfl rfl (wp_skip (zA (zG (zG (zH ?_)))))
 refine qD rfl (zB (v := (.bool false)) rfl) (qe (zA ?_))
 refine vE rfl rfl (wp_skip (zA (zG (zG (zH ?_)))))
 refine qD rfl (zB (v := (.int .i64 x)) rfl) (qD rfl (zB (v := (.int .i64 y)) rfl) (qD rfl (xB rfl rfl) (qe (zA ?_))))
 refine yN (p := (x : Int) < y) rfl rfl (fun h1 => ?_) (fun h1 => ?_)
 refine zG (zH ?_)
 refine qD rfl (zD (v := (.int .i64 (-1))) rfl) (qe (zA ?_))
 exact wp_ret (zY (zW (v := (.int .i64 (-1))) rfl rfl rfl (⟨congrArg (fun z => Ending.returned (Value.int .i64 z)) (by unfold cmpI; (first | rw [if_pos (by omega)] | (rw [if_neg (by omega)]; first | rw [if_pos (by omega)] | rw [if_neg (by omega)]))), rfl⟩)))
 refine wp_skip (zA (zG (zG (zH ?_))))
 refine qD rfl (zB (v := (.int .i64 x)) rfl) (qD rfl (zB (v := (.int .i64 y)) rfl) (qD rfl (jY rfl rfl) (qe (zA ?_))))
 refine yN (p := (y : Int) < x) rfl rfl (fun h2 => ?_) (fun h2 => ?_)
 refine zG (zH ?_)
 refine qD rfl (zD (v := (.int .i64 1)) rfl) (qe (zA ?_))
 exact wp_ret (zY (zW (v := (.int .i64 1)) rfl rfl rfl (⟨congrArg (fun z => Ending.returned (Value.int .i64 z)) (by unfold cmpI; (first | rw [if_pos (by omega)] | (rw [if_neg (by omega)]; first | rw [if_pos (by omega)] | rw [if_neg (by omega)]))), rfl⟩)))
 refine wp_skip (zA (zG (zH ?_)))
 refine qD rfl (zD (v := (.int .i64 0)) rfl) (qe (zA ?_))
 exact wp_ret (zY (zW (v := (.int .i64 0)) rfl rfl rfl (⟨congrArg (fun z => Ending.returned (Value.int .i64 z)) (by unfold cmpI; (first | rw [if_pos (by omega)] | (rw [if_neg (by omega)]; first | rw [if_pos (by omega)] | rw [if_neg (by omega)]))), rfl⟩)))
theorem nL {w : World} {G : Pin} {v : Value} {xs : List Int} (hP : Pins G w) (hv : RSl eInt G v xs) :
  Calls Tryz.prog 84 [v].toArray w fun e w' => e = .returned (.int .i64 (orL xs)) ∧ w' = w := by
 refine yG (n := 18) Tryz.func84 Tryz.ntmps84 rfl rfl ?_
 have hX0 := exr noS hP
 have hm := hv.max
 refine zG (zH ?_)
 refine qD rfl (zD (v := (.int .i64 0)) rfl) (qe (zA (zG (zH ?_))))
 refine qD rfl (zD (v := (.int .i64 0)) rfl) (qe (zA (zG (zG (zH ?_)))))
 refine qD rfl (zB (v := v) rfl) (qD rfl (zT Tryz.underlying59 (v := v) rfl hv) (qD rfl (zB (v := (.int .i64 0)) rfl) (qe (zA ?_))))
 refine yH (yZ (fun (k : Nat) (en : Nat → Value) (W : World) => ∃ (env1 : Nat → Value) (j : Nat), en = (upd (upd (upd (upd env1 3 (.int .i64 0)) 6 v) 7 (.int .i64 (xs.length : Int))) 8 (.int .i64 (j : Int))) ∧ k = xs.length - j ∧ Ext noS G w G W ∧ (j ≤ xs.length) ∧ (W = w) ∧ (orL xs = orL (xs.drop j))) _ ⟨_, 0, (zC (x := 8) (zC (x := 7) (zC (x := 6) (zX (x := 3) rfl) rfl) rfl) rfl), rfl, hX0, Nat.zero_le _, rfl, rfl⟩ ?_)
 rintro k1 _ w2 ⟨env1, j, rfl, hk3, hX4, hj, hw, hr⟩
 subst hw
 refine zG (zH ?_)
 refine qD rfl (xB rfl rfl) (qe (zA (zG ?_)))
 refine yN (p := ((j : Int) : Int) < (xs.length : Int)) rfl rfl (fun h5 => ?_) (fun h5 => ?_)
 refine wp_skip (zA (zG ?_))
 refine yH (zG (zH ?_))
 refine qD rfl (zN Tryz.underlying59 sz3 (v := v) rfl rfl hv (by omega) (by omega)) (qD rfl (zO (r := xs.getD j 0) rfl ag3 (z := (j : Int)) rfl hv hX4.pins (by omega) (by omega)) (qD rfl (zD (v := (.int .i64 (xs.getD j 0))) rfl) (qe (zA (zG (zH ?_))))))
 refine qD rfl (zB (v := (.int .i64 (xs.getD j 0))) rfl) (qD rfl (zB (v := (.int .i64 0)) rfl) (qD rfl (kY rfl rfl) (qe (zA ?_))))
 refine yN (p := (xs.getD j 0 : Int) ≠ 0) rfl rfl (fun h6 => ?_) (fun h6 => ?_)
 refine zG (zH ?_)
 refine qD rfl (zB (v := (.int .i64 (xs.getD j 0))) rfl) (qD rfl (zD (v := (.int .i64 (xs.getD j 0))) rfl) (qe (zA ?_)))
 exact wp_ret (zY (zW (v := (.int .i64 (xs.getD j 0))) rfl rfl rfl (⟨congrArg (fun z => Ending.returned (Value.int .i64 z)) ((hr.trans (orL_hit (by omega) h6)).symm), rfl⟩)))
 refine wp_skip (yQ (zA (zH ?_)))
 refine qD rfl (yX rfl rfl (by omega)) (qD rfl (zB (v := (.int .i64 ((j : Int) + 1))) rfl) (qe (yS (⟨_, ?_, _, rfl, _, j + 1, (zC (x := 8) (zC (x := 7) (zC (x := 6) (zX (x := 3) rfl) rfl) rfl) rfl), rfl, hX4, (by omega), rfl, (hr.trans (orL_next (by omega) h6))⟩))))
 omega
 refine wp_exit (yI (yW (yV (zA (zG (zH ?_))))))
 refine qD rfl (zB (v := (.int .i64 0)) rfl) (qD rfl (zD (v := (.int .i64 0)) rfl) (qe (zA ?_)))
 exact wp_ret (zY (zW (v := (.int .i64 0)) rfl rfl rfl (⟨congrArg (fun z => Ending.returned (Value.int .i64 z)) ((hr.trans (orL_end (by omega))).symm), rfl⟩)))
theorem jJ {w : World} {G : Pin} {u v : Value} {xs ys : List Int} (hP : Pins G w) (hu : RSl eInt G u xs) (hv : RSl eInt G v ys) :
  Calls Tryz.prog 86 [u, v].toArray w fun e w' => e = .returned (.int .i64 (cmpL xs ys)) ∧ w' = w := by
 refine yG (n := 36) Tryz.func86 Tryz.ntmps86 rfl rfl ?_
 have hX0 := exr noS hP
 have hm := hu.max
 refine zG (zH ?_)
 refine qD rfl (zD (v := (.int .i64 0)) rfl) (qe (zA (zG (zG (zH ?_)))))
 refine qD rfl (zB (v := u) rfl) (qD rfl (zT Tryz.underlying59 (v := u) rfl hu) (qD rfl (zB (v := (.int .i64 0)) rfl) (qe (zA ?_))))
 refine yH (yZ (fun (k : Nat) (en : Nat → Value) (W : World) => ∃ (env1 : Nat → Value) (j : Nat), en = (upd (upd (upd (upd (upd env1 0 u) 1 v) 9 u) 10 (.int .i64 (xs.length : Int))) 11 (.int .i64 (j : Int))) ∧ k = xs.length - j ∧ Ext noS G w G W ∧ (j ≤ xs.length ∧ j ≤ ys.length) ∧ (W = w) ∧ (cmpL xs ys = cmpL (xs.drop j) (ys.drop j))) _ ⟨_, 0, (zC (x := 11) (zC (x := 10) (zC (x := 9) (zC (x := 1) (zX (x := 0) rfl) rfl) rfl) rfl) rfl), rfl, hX0, ⟨Nat.zero_le _, Nat.zero_le _⟩, rfl, rfl⟩ ?_)
 rintro k1 _ w2 ⟨env1, j, rfl, hk3, hX4, hj, hw, hr⟩
 subst hw
 refine zG (zH ?_)
 refine qD rfl (xB rfl rfl) (qe (zA (zG ?_)))
 refine yN (p := ((j : Int) : Int) < (xs.length : Int)) rfl rfl (fun h5 => ?_) (fun h5 => ?_)
 refine wp_skip (zA (zG ?_))
 refine yH (zG (zH ?_))
 refine qD rfl (zB (v := (.int .i64 (j : Int))) rfl) (qD rfl (zN Tryz.underlying59 sz3 (v := u) rfl rfl hu (by omega) (by omega)) (qD rfl (zO (r := xs.getD j 0) rfl ag3 (z := (j : Int)) rfl hu hX4.pins (by omega) (by omega)) (qD rfl (zD (v := (.int .i64 (j : Int))) rfl) (qD rfl (zD (v := (.int .i64 (xs.getD j 0))) rfl) (qe (zA (zG (zG (zH ?_)))))))))
 refine qD rfl (zB (v := (.int .i64 (j : Int))) rfl) (qD rfl (zB (v := v) rfl) (qD rfl (zT Tryz.underlying59 (v := v) rfl hv) (qD rfl (gO rfl rfl) (qe (zA ?_)))))
 refine yN (p := ((ys.length : Int) : Int) ≤ (j : Int)) rfl rfl (fun h6 => ?_) (fun h6 => ?_)
 refine zG (zH ?_)
 refine qD rfl (zD (v := (.int .i64 1)) rfl) (qe (zA ?_))
 exact wp_ret (zY (zW (v := (.int .i64 1)) rfl rfl rfl (⟨congrArg (fun z => Ending.returned (Value.int .i64 z)) ((hr.trans (tZ (by omega) (by omega))).symm), rfl⟩)))
 refine wp_skip (zA (zG (zH ?_)))
 refine qD rfl (zB (v := v) rfl) (qD rfl (zB (v := (.int .i64 (j : Int))) rfl) (qD rfl (zN Tryz.underlying59 sz3 (v := v) rfl rfl hv (by omega) (by omega)) (qD rfl (zO (r := ys.getD j 0) rfl ag3 (z := (j : Int)) rfl hv hX4.pins (by omega) (by omega)) (qD rfl (zD (v := (.int .i64 (ys.getD j 0))) rfl) (qe (zA (zG (zH ?_))))))))
 refine qD rfl (zB (v := (.int .i64 (xs.getD j 0))) rfl) (qD rfl (zB (v := (.int .i64 (ys.getD j 0))) rfl) (qI rfl (zM (vs := [(.int .i64 (xs.getD j 0)), (.int .i64 (ys.getD j 0))]) Tryz.func85 nm85 rfl rfl rfl ?_)))
 refine dP (vG hX4.pins) ?_
 rintro _ _ ⟨rfl, rfl⟩
 refine ⟨_, rfl, ?_⟩
 refine qD rfl (zD (v := (.int .i64 (cmpI (xs.getD j 0) (ys.getD j 0)))) rfl) (qe (zA (zG (zH ?_))))
 refine qD rfl (zB (v := (.int .i64 (cmpI (xs.getD j 0) (ys.getD j 0)))) rfl) (qD rfl (kY rfl rfl) (qe (zA ?_)))
 refine yN (p := (cmpI (xs.getD j 0) (ys.getD j 0) : Int) ≠ 0) rfl rfl (fun h7 => ?_) (fun h7 => ?_)
 refine zG (zH ?_)
 refine qD rfl (zB (v := (.int .i64 (cmpI (xs.getD j 0) (ys.getD j 0)))) rfl) (qD rfl (zD (v := (.int .i64 (cmpI (xs.getD j 0) (ys.getD j 0)))) rfl) (qe (zA ?_)))
 exact wp_ret (zY (zW (v := (.int .i64 (cmpI (xs.getD j 0) (ys.getD j 0)))) rfl rfl rfl (⟨congrArg (fun z => Ending.returned (Value.int .i64 z)) ((hr.trans (eD (by omega) (by omega) h7)).symm), rfl⟩)))
 refine wp_skip (yQ (zA (zH ?_)))
 refine qD rfl (yX rfl rfl (by omega)) (qD rfl (zB (v := (.int .i64 ((j : Int) + 1))) rfl) (qe (yS (⟨_, ?_, _, rfl, _, j + 1, (zC (x := 11) (zC (x := 10) (zC (x := 9) (zC (x := 1) (zX (x := 0) rfl) rfl) rfl) rfl) rfl), rfl, hX4, (by omega), rfl, (hr.trans (cmpL_eq (by omega) (by omega) h7))⟩))))
 omega
 refine wp_exit (yI (yW (yV (zA (zG (zG (zH ?_)))))))
 refine qD rfl (zB (v := u) rfl) (qD rfl (zT Tryz.underlying59 (v := u) rfl hu) (qD rfl (zB (v := v) rfl) (qD rfl (zT Tryz.underlying59 (v := v) rfl hv) (qD rfl (xB rfl rfl) (qe (zA ?_))))))
 refine yN (p := ((xs.length : Int) : Int) < (ys.length : Int)) rfl rfl (fun h8 => ?_) (fun h8 => ?_)
 refine zG (zH ?_)
 refine qD rfl (zD (v := (.int .i64 (-1))) rfl) (qe (zA ?_))
 exact wp_ret (zY (zW (v := (.int .i64 (-1))) rfl rfl rfl (⟨congrArg (fun z => Ending.returned (Value.int .i64 z)) ((hr.trans (rA (by omega) (by omega))).symm), rfl⟩)))
 refine wp_skip (zA (zG (zH ?_)))
 refine qD rfl (zD (v := (.int .i64 0)) rfl) (qe (zA ?_))
 exact wp_ret (zY (zW (v := (.int .i64 0)) rfl rfl rfl (⟨congrArg (fun z => Ending.returned (Value.int .i64 z)) ((hr.trans (tY (by omega) (by omega))).symm), rfl⟩)))
theorem nS {w : World} {G : Pin} {v : Value} {xs : List Bool} {p : Bool} (hP : Pins G w) (hv : RSl eBool G v xs) :
  Calls Tryz.prog 133 [v, (.bool p)].toArray w fun e w' => e = .returned (.int .i64 (idxB xs p)) ∧ w' = w := by
 refine yG (n := 19) Tryz.func133 Tryz.ntmps133 rfl rfl ?_
 have hX0 := exr noS hP
 have hm := hv.max
 refine zG (zH ?_)
 refine qD rfl (zD (v := (.int .i64 0)) rfl) (qe (zA (zG (zG (zH ?_)))))
 refine qD rfl (zB (v := v) rfl) (qD rfl (zT Tryz.underlying125 (v := v) rfl hv) (qD rfl (zB (v := (.int .i64 0)) rfl) (qe (zA ?_))))
 refine yH (yZ (fun (k : Nat) (en : Nat → Value) (W : World) => ∃ (env1 : Nat → Value) (j : Nat), en = (upd (upd (upd (upd env1 0 v) 1 (.bool p)) 7 (.int .i64 (xs.length : Int))) 8 (.int .i64 (j : Int))) ∧ k = xs.length - j ∧ Ext noS G w G W ∧ (j ≤ xs.length) ∧ (W = w) ∧ (idxB xs p = idxFrom p j (xs.drop j))) _ ⟨_, 0, (zC (x := 8) (zC (x := 7) (zC (x := 1) (zX (x := 0) rfl) rfl) rfl) rfl), rfl, hX0, Nat.zero_le _, rfl, rfl⟩ ?_)
 rintro k1 _ w2 ⟨env1, j, rfl, hk3, hX4, hj, hw, hr⟩
 subst hw
 refine zG (zH ?_)
 refine qD rfl (xB rfl rfl) (qe (zA (zG ?_)))
 refine yN (p := ((j : Int) : Int) < (xs.length : Int)) rfl rfl (fun h5 => ?_) (fun h5 => ?_)
 refine wp_skip (zA (zG ?_))
 refine yH (zG (zH ?_))
 refine qD rfl (zB (v := (.int .i64 (j : Int))) rfl) (qD rfl (zD (v := (.int .i64 (j : Int))) rfl) (qe (zA (zG (zH ?_)))))
 refine qD rfl (zB (v := (.bool p)) rfl) (qD rfl (zB (v := v) rfl) (qD rfl (zB (v := (.int .i64 (j : Int))) rfl) (qD rfl (zN Tryz.underlying125 sz4 (v := v) rfl rfl hv (by omega) (by omega)) (qD rfl (jS (r := xs.getD j false) rfl ag4 (z := (j : Int)) rfl hv hX4.pins (by omega) (by omega)) (qD rfl (r_eqlB Tryz.underlying4 rfl rfl) (qe (zA ?_)))))))
 refine c_if rfl rfl (fun h6 => ?_) (fun h6 => ?_)
 refine zG (zH ?_)
 refine qD rfl (zB (v := (.int .i64 (j : Int))) rfl) (qD rfl (zD (v := (.int .i64 (j : Int))) rfl) (qe (zA ?_)))
 exact wp_ret (zY (zW (v := (.int .i64 (j : Int))) rfl rfl rfl (⟨congrArg (fun z => Ending.returned (Value.int .i64 z)) ((hr.trans (idx_hit (by omega) h6)).symm), rfl⟩)))
 refine wp_skip (yQ (zA (zH ?_)))
 refine qD rfl (yX rfl rfl (by omega)) (qD rfl (zB (v := (.int .i64 ((j : Int) + 1))) rfl) (qe (yS (⟨_, ?_, _, rfl, _, j + 1, (zC (x := 8) (zC (x := 7) (zC (x := 1) (zX (x := 0) rfl) rfl) rfl) rfl), rfl, hX4, (by omega), rfl, (hr.trans (idx_next (by omega) h6))⟩))))
 omega
 refine wp_exit (yI (yW (yV (zA (zG (zH ?_))))))
 refine qD rfl (zD (v := (.int .i64 (-1))) rfl) (qe (zA ?_))
 exact wp_ret (zY (zW (v := (.int .i64 (-1))) rfl rfl rfl (⟨congrArg (fun z => Ending.returned (Value.int .i64 z)) ((hr.trans (idx_end (by omega))).symm), rfl⟩)))
theorem rQ {w : World} {G : Pin} {v : Value} {xs : List Bool} {p : Bool} (hP : Pins G w) (hv : RSl eBool G v xs) :
  Calls Tryz.prog 87 [v, (.bool p)].toArray w fun e w' => e = .returned (.bool (decide ((0 : Int) ≤ idxB xs p))) ∧ w' = w := by
 refine yG (n := 9) Tryz.func87 Tryz.ntmps87 rfl rfl ?_
 have hX0 := exr noS hP
 refine zG (zH ?_)
 refine qD rfl (zD (v := (.bool false)) rfl) (qe (zA (zG (zH ?_))))
 refine qD rfl (zB (v := v) rfl) (qD rfl (zB (v := (.bool p)) rfl) (qI rfl (zM (vs := [v, (.bool p)]) Tryz.func133 nm133 rfl rfl rfl ?_)))
 refine dP (nS hX0.pins hv) ?_
 rintro _ _ ⟨rfl, rfl⟩
 refine ⟨_, rfl, ?_⟩
 refine qD rfl (gO rfl rfl) (qD rfl (zD (v := (.bool (decide ((0 : Int) ≤ (idxB xs p))))) rfl) (qe (zA ?_)))
 exact wp_ret (zY (zW (v := (.bool (decide ((0 : Int) ≤ (idxB xs p))))) rfl rfl rfl (⟨rfl, rfl⟩)))
theorem births_spec {w : World} {G : Pin} {v : Value} {ns : List Nd} (hP : Pins G w) (hv : RSl eNode G v ns) (ho : OptsOk ns) (hs : ns.length ≤ 1048576) :
  Calls Tryz.prog 83 [v].toArray w fun e w' => ∃ (u : Value) (G' : Pin), e = .returned u ∧ Own eInt 3 G' w' w.heap.size u (births ns) ∧ Ext noS G w G' w' := by
 refine yG (n := 64) Tryz.func83 Tryz.ntmps83 rfl rfl ?_
 have hX0 := exr noS hP
 refine zG (zH ?_)
 refine qD rfl (zD (v := (.slice none 0 0)) rfl) (qe (zA (zG (zH ?_))))
 refine qD rfl (zB (v := v) rfl) (qD rfl (zT Tryz.underlying24 (v := v) rfl hv) (qI rfl (tP (E := eInt) 0 8 (.int .i64 0) Tryz.underlying59 mk3 (fun _ => rfl) rfl rfl hX0.pins (by omega) (by omega) (by omega) (fun u1 w2 ho3 hp4 hl5 hk6 => ?_))))
 have hX7 := hX0.step hp4 hl5
 have ho8 : Own eInt 3 G w2 w.heap.size u1 (List.replicate ns.length 0) := ho3.weaken hX0.size
 have hm9 : (List.replicate ns.length 0).length = ns.length := List.length_replicate ..
 refine qD rfl (zD (v := u1) rfl) (qe (zA (zG (zG (zH ?_)))))
 refine qD rfl (zB (v := v) rfl) (qD rfl (zT Tryz.underlying24 (v := v) rfl hv) (qD rfl (zB (v := (.int .i64 0)) rfl) (qe (zA ?_))))
 refine yH (yZ (fun (k : Nat) (en : Nat → Value) (W : World) => ∃ (env1 : Nat → Value) (j : Nat) (b : List Int) (GL1 : Pin), en = (upd (upd (upd (upd (upd env1 2 (.slice none 0 0)) 3 u1) 13 v) 14 (.int .i64 (ns.length : Int))) 15 (.int .i64 (j : Int))) ∧ k = ns.length - j ∧ Ext noS G w GL1 W ∧ Pin.le G GL1 ∧ (j ≤ ns.length) ∧ (b.length = ns.length) ∧ (BOk b) ∧ (births ns = bgo j (ns.drop j) b) ∧ (Own eInt 3 GL1 W w.heap.size u1 (b))) _ ⟨_, 0, List.replicate ns.length 0, G, (zC (x := 15) (zC (x := 14) (zC (x := 13) (zC (x := 3) (zX (x := 2) rfl) rfl) rfl) rfl) rfl), rfl, hX7, Pin.le_refl _, Nat.zero_le _, (by simp), (BOk.replicate _), rfl, ho8⟩ ?_)
 rintro k10 _ w11 ⟨env1, j, b, GL1, rfl, hk12, hX13, hlek10, hj, hnb, hkb, hr, hw14⟩
 refine zG (zH ?_)
 refine qD rfl (xB rfl rfl) (qe (zA (zG ?_)))
 refine yN (p := ((j : Int) : Int) < (ns.length : Int)) rfl rfl (fun h15 => ?_) (fun h15 => ?_)
 refine wp_skip (zA (zG ?_))
 refine yH (zG (zH ?_))
 refine qD rfl (zB (v := (.int .i64 (j : Int))) rfl) (qD rfl (zN Tryz.underlying24 sz65 (v := v) rfl rfl hv (by omega) (by omega)) ?_)
 obtain ⟨u16, u17, hr18, hr19, hl20⟩ := jU (hv.at (z := (j : Int)) (by omega) (by omega)) (j := j) rfl
 have hm21 := hr18.max
 have hm22 := hr19.max
 refine qD rfl (hl20 ag65 sz65 rfl (dO hX13.pins hlek10)) (qI rfl (yO [(.slice none 0 0), (.slice none 0 0)] zr65 rfl hX13.pins (fun b23 w24 hk25 hb26 hp27 hl28 => ?_)))
 have hX29 := hX13.step hp27 hl28
 have ho30 := hw14.below hl28
 have ha31 : Apart (some b23) u1.ownBlock := zK (congrArg some hk25) hw14.lt
 have hlo32 : w.heap.size ≤ b23 := by have := hX13.size; omega
 refine qD rfl (zD (v := (.int .i64 (j : Int))) rfl) (q0 rfl rfl rfl (o_stp (cs' := [u16, u17]) (us := [u16, u17]) (v := (.agg [u16, u17].toArray)) sz65 rfl rfl rfl (jE hr18.one hr19.one) hX29.pins hb26 (dQ rfl) rfl (fun w33 hb34 hp35 hg36 hz37 => ?_)))
 have hX38 := hX29.write hp35 hg36 ((yC hlo32))
 have ho39 := ho30.keptA hg36 ha31.symm
 obtain ⟨G40, hle41, hX42, hbp43, hf44⟩ := hb34.shut hX38 hlo32
 have ho45 := ho39.moreA hle41 hf44 ha31.symm
 refine qe (zA (zG (zG (zH ?_))))
 refine qD rfl (zR (k := 0) rfl Tryz.underlying65 rfl nz59 rfl) (qD rfl (zS (u := u16) ag59 rfl (hX42.pins _ _ _ (hbp43 0 _ rfl))) (qD rfl (zT Tryz.underlying59 (v := u16) rfl hr18) (qD rfl (zB (v := (.int .i64 0)) rfl) (qe (zA ?_)))))
 refine yH (yZ (fun (k : Nat) (en : Nat → Value) (W : World) => ∃ (env1 : Nat → Value) (i : Nat) (b2 : List Int), en = (upd (upd (upd (upd (upd (upd (upd (upd (upd (upd env1 2 (.slice none 0 0)) 3 u1) 4 (.int .i64 (j : Int))) 5 (.pointer (some ⟨b23, 0, none⟩))) 13 v) 14 (.int .i64 (ns.length : Int))) 15 (.int .i64 (j : Int))) 21 u16) 22 (.int .i64 (((ns.getD j default).l).length : Int))) 23 (.int .i64 (i : Int))) ∧ k = (ns.getD j default).l.length - i ∧ Ext noS G w G40 W ∧ (i ≤ (ns.getD j default).l.length) ∧ (b2.length = ns.length) ∧ (BOk b2) ∧ (brow j b (ns.getD j default).l = brow j b2 ((ns.getD j default).l.drop i)) ∧ (Own eInt 3 G40 W w.heap.size u1 (b2))) _ ⟨_, 0, b, (zC (x := 23) (zC (x := 22) (zC (x := 21) (zC (x := 15) (zC (x := 14) (zC (x := 13) (zC (x := 5) (zC (x := 4) (zC (x := 3) (zX (x := 2) rfl) rfl) rfl) rfl) rfl) rfl) rfl) rfl) rfl) rfl), rfl, hX42, Nat.zero_le _, hnb, hkb, rfl, ho45⟩ ?_)
 rintro k46 _ w47 ⟨env1, i, b2, rfl, hk48, hX49, hii, hnb2, hkb2, hrb2, hw50⟩
 refine zG (zH ?_)
 refine qD rfl (xB rfl rfl) (qe (zA (zG ?_)))
 refine yN (p := ((i : Int) : Int) < (((ns.getD j default).l).length : Int)) rfl rfl (fun h51 => ?_) (fun h51 => ?_)
 have hk := ho.left (j := j) (i := i) (by omega) (by omega)
 have hbj := hkb2 j
 have hbk := hkb2 ((ns.getD j default).l.getD i 0).toNat
 refine wp_skip (zA (zG ?_))
 refine yH (zG (zH ?_))
 refine qD rfl (zN Tryz.underlying59 sz3 (v := u16) rfl rfl hr18 (by omega) (by omega)) (qD rfl (zO (r := ((ns.getD j default).l).getD i 0) rfl ag3 (z := (i : Int)) rfl hr18 (dO hX49.pins (dN hlek10 hle41)) (by omega) (by omega)) (qD rfl (zD (v := (.int .i64 (((ns.getD j default).l).getD i 0))) rfl) (qe (zA ?_))))
 have hq52 := Gadd.pins hX49.pins u1
 have hr53 := hw50.read
 refine xD (S := fun wz => Pins (Gadd G40 w47 u1) wz) (last := 13) (by kernel_rfl) rfl ?_
 have hl54 := bdr w47
 have hp55 := hX49.pins.below hl54
 have hX56 := hX49.step hp55 hl54
 have ho57 := hw50.below hl54
 have hq58 := hq52.below hl54
 refine dT (i := 0) rfl rfl (by kernel_rfl) (fun _ _ => zB (v := u1) rfl) hq58 ?_
 refine dT (i := 1) rfl rfl (by kernel_rfl) (fun _ _ => zB (v := (.int .i64 (j : Int))) rfl) hq58 ?_
 refine dT (i := 2) rfl rfl (by kernel_rfl) (fun _ _ => zB (v := u1) rfl) hq58 ?_
 refine dT (i := 3) rfl rfl (by kernel_rfl) (fun _ _ => zB (v := (.int .i64 (j : Int))) rfl) hq58 ?_
 refine dT (i := 4) rfl rfl (by kernel_rfl) (fun _ _ => zN Tryz.underlying59 sz3 (v := u1) rfl rfl hr53 (by omega) (by omega)) hq58 ?_
 refine dT (i := 5) rfl rfl (by kernel_rfl) (fun _ hS => zO (r := b2.getD j 0) rfl ag3 (z := (j : Int)) rfl hr53 hS (by omega) (by omega)) hq58 ?_
 refine dT (i := 6) rfl rfl (by kernel_rfl) (fun _ _ => zB (v := u1) rfl) hq58 ?_
 refine dT (i := 7) rfl rfl (by kernel_rfl) (fun _ _ => zB (v := (.int .i64 (((ns.getD j default).l).getD i 0))) rfl) hq58 ?_
 refine dT (i := 8) rfl rfl (by kernel_rfl) (fun _ _ => zN Tryz.underlying59 sz3 (v := u1) rfl rfl hr53 (by omega) (by omega)) hq58 ?_
 refine dT (i := 9) rfl rfl (by kernel_rfl) (fun _ hS => zO (r := b2.getD (((ns.getD j default).l).getD i 0).toNat 0) rfl ag3 (z := (((ns.getD j default).l).getD i 0)) rfl hr53 hS (by omega) (by omega)) hq58 ?_
 refine dT (i := 10) rfl rfl (by kernel_rfl) (fun _ _ => yX rfl rfl (by omega)) hq58 ?_
 refine dT (i := 11) rfl rfl (by kernel_rfl) (fun _ _ => r_max rfl rfl) hq58 ?_
 refine dT (i := 12) rfl rfl (by kernel_rfl) (fun _ _ => zN Tryz.underlying59 sz3 (v := u1) rfl rfl hr53 (by omega) (by omega)) hq58 ?_
 refine zQ (i := 13) (by kernel_rfl) (qC (i := 13) rfl rfl rfl (zI rfl _) (vX (E := eInt) (v := u1) (u := (.int .i64 (max (b2.getD j 0) ((b2.getD (((ns.getD j default).l).getD i 0).toNat 0) + 1)))) (z := (j : Int)) (max (b2.getD j 0) ((b2.getD (((ns.getD j default).l).getD i 0).toNat 0) + 1)) sz3 rfl rfl rfl rfl hX56.pins ho57 (by omega) (by omega) (fun w59 ho60 hp61 hg62 hz63 => ?_)))
 have hX64 := hX56.write hp61 hg62 ((yD ho57))
 refine ⟨fun h => absurd rfl h, ?_⟩
 refine yP (by kernel_rfl) (yQ (zA (zH ?_)))
 refine qD rfl (yX rfl rfl (by omega)) (qD rfl (zB (v := (.int .i64 ((i : Int) + 1))) rfl) (qe (yS (⟨_, ?_, _, rfl, _, i + 1, bmax j b2 ((ns.getD j default).l.getD i 0), (zC (x := 23) (zC (x := 22) (zC (x := 21) (zC (x := 15) (zC (x := 14) (zC (x := 13) (zC (x := 5) (zC (x := 4) (zC (x := 3) (zX (x := 2) rfl) rfl) rfl) rfl) rfl) rfl) rfl) rfl) rfl) rfl), rfl, hX64, (by omega), ((kC _ _ _).trans hnb2), (hkb2.max hk.1 hk.2), (hrb2.trans (pW (by omega))), ho60⟩))))
 omega
 refine wp_exit (yI (yW (yV (zA (zG (zH ?_))))))
 refine qD rfl (zR (k := 1) rfl Tryz.underlying65 rfl nz59 rfl) (qD rfl (zS (u := u17) ag59 rfl (hX49.pins _ _ _ (hbp43 1 _ rfl))) (qD rfl (zT Tryz.underlying59 (v := u17) rfl hr19) (qD rfl (zB (v := (.int .i64 0)) rfl) (qe (zA ?_)))))
 refine yH (yZ (fun (k : Nat) (en : Nat → Value) (W : World) => ∃ (env1 : Nat → Value) (i3 : Nat) (b3 : List Int), en = (upd (upd (upd (upd (upd (upd (upd (upd (upd env1 2 (.slice none 0 0)) 3 u1) 4 (.int .i64 (j : Int))) 13 v) 14 (.int .i64 (ns.length : Int))) 15 (.int .i64 (j : Int))) 42 u17) 43 (.int .i64 (((ns.getD j default).r).length : Int))) 44 (.int .i64 (i3 : Int))) ∧ k = (ns.getD j default).r.length - i3 ∧ Ext noS G w G40 W ∧ (i3 ≤ (ns.getD j default).r.length) ∧ (b3.length = ns.length) ∧ (BOk b3) ∧ (brow j b2 (ns.getD j default).r = brow j b3 ((ns.getD j default).r.drop i3)) ∧ (Own eInt 3 G40 W w.heap.size u1 (b3))) _ ⟨_, 0, b2, (zC (x := 44) (zC (x := 43) (zC (x := 42) (zC (x := 15) (zC (x := 14) (zC (x := 13) (zC (x := 4) (zC (x := 3) (zX (x := 2) rfl) rfl) rfl) rfl) rfl) rfl) rfl) rfl) rfl), rfl, hX49, Nat.zero_le _, hnb2, hkb2, rfl, hw50⟩ ?_)
 rintro k65 _ w66 ⟨env1, i3, b3, rfl, hk67, hX68, hii3, hnb3, hkb3, hrb3, hw69⟩
 refine zG (zH ?_)
 refine qD rfl (xB rfl rfl) (qe (zA (zG ?_)))
 refine yN (p := ((i3 : Int) : Int) < (((ns.getD j default).r).length : Int)) rfl rfl (fun h70 => ?_) (fun h70 => ?_)
 have hk := ho.right (j := j) (i := i3) (by omega) (by omega)
 have hbj := hkb3 j
 have hbk := hkb3 ((ns.getD j default).r.getD i3 0).toNat
 refine wp_skip (zA (zG ?_))
 refine yH (zG (zH ?_))
 refine qD rfl (zN Tryz.underlying59 sz3 (v := u17) rfl rfl hr19 (by omega) (by omega)) (qD rfl (zO (r := ((ns.getD j default).r).getD i3 0) rfl ag3 (z := (i3 : Int)) rfl hr19 (dO hX68.pins (dN hlek10 hle41)) (by omega) (by omega)) (qD rfl (zD (v := (.int .i64 (((ns.getD j default).r).getD i3 0))) rfl) (qe (zA ?_))))
 have hq71 := Gadd.pins hX68.pins u1
 have hr72 := hw69.read
 refine xD (S := fun wz => Pins (Gadd G40 w66 u1) wz) (last := 13) (by kernel_rfl) rfl ?_
 have hl73 := bdr w66
 have hp74 := hX68.pins.below hl73
 have hX75 := hX68.step hp74 hl73
 have ho76 := hw69.below hl73
 have hq77 := hq71.below hl73
 refine dT (i := 0) rfl rfl (by kernel_rfl) (fun _ _ => zB (v := u1) rfl) hq77 ?_
 refine dT (i := 1) rfl rfl (by kernel_rfl) (fun _ _ => zB (v := (.int .i64 (j : Int))) rfl) hq77 ?_
 refine dT (i := 2) rfl rfl (by kernel_rfl) (fun _ _ => zB (v := u1) rfl) hq77 ?_
 refine dT (i := 3) rfl rfl (by kernel_rfl) (fun _ _ => zB (v := (.int .i64 (j : Int))) rfl) hq77 ?_
 refine dT (i := 4) rfl rfl (by kernel_rfl) (fun _ _ => zN Tryz.underlying59 sz3 (v := u1) rfl rfl hr72 (by omega) (by omega)) hq77 ?_
 refine dT (i := 5) rfl rfl (by kernel_rfl) (fun _ hS => zO (r := b3.getD j 0) rfl ag3 (z := (j : Int)) rfl hr72 hS (by omega) (by omega)) hq77 ?_
 refine dT (i := 6) rfl rfl (by kernel_rfl) (fun _ _ => zB (v := u1) rfl) hq77 ?_
 refine dT (i := 7) rfl rfl (by kernel_rfl) (fun _ _ => zB (v := (.int .i64 (((ns.getD j default).r).getD i3 0))) rfl) hq77 ?_
 refine dT (i := 8) rfl rfl (by kernel_rfl) (fun _ _ => zN Tryz.underlying59 sz3 (v := u1) rfl rfl hr72 (by omega) (by omega)) hq77 ?_
 refine dT (i := 9) rfl rfl (by kernel_rfl) (fun _ hS => zO (r := b3.getD (((ns.getD j default).r).getD i3 0).toNat 0) rfl ag3 (z := (((ns.getD j default).r).getD i3 0)) rfl hr72 hS (by omega) (by omega)) hq77 ?_
 refine dT (i := 10) rfl rfl (by kernel_rfl) (fun _ _ => yX rfl rfl (by omega)) hq77 ?_
 refine dT (i := 11) rfl rfl (by kernel_rfl) (fun _ _ => r_max rfl rfl) hq77 ?_
 refine dT (i := 12) rfl rfl (by kernel_rfl) (fun _ _ => zN Tryz.underlying59 sz3 (v := u1) rfl rfl hr72 (by omega) (by omega)) hq77 ?_
 refine zQ (i := 13) (by kernel_rfl) (qC (i := 13) rfl rfl rfl (zI rfl _) (vX (E := eInt) (v := u1) (u := (.int .i64 (max (b3.getD j 0) ((b3.getD (((ns.getD j default).r).getD i3 0).toNat 0) + 1)))) (z := (j : Int)) (max (b3.getD j 0) ((b3.getD (((ns.getD j default).r).getD i3 0).toNat 0) + 1)) sz3 rfl rfl rfl rfl hX75.pins ho76 (by omega) (by omega) (fun w78 ho79 hp80 hg81 hz82 => ?_)))
 have hX83 := hX75.write hp80 hg81 ((yD ho76))
 refine ⟨fun h => absurd rfl h, ?_⟩
 refine yP (by kernel_rfl) (yQ (zA (zH ?_)))
 refine qD rfl (yX rfl rfl (by omega)) (qD rfl (zB (v := (.int .i64 ((i3 : Int) + 1))) rfl) (qe (yS (⟨_, ?_, _, rfl, _, i3 + 1, bmax j b3 ((ns.getD j default).r.getD i3 0), (zC (x := 44) (zC (x := 43) (zC (x := 42) (zC (x := 15) (zC (x := 14) (zC (x := 13) (zC (x := 4) (zC (x := 3) (zX (x := 2) rfl) rfl) rfl) rfl) rfl) rfl) rfl) rfl) rfl), rfl, hX83, (by omega), ((kC _ _ _).trans hnb3), (hkb3.max hk.1 hk.2), (hrb3.trans (pW (by omega))), ho79⟩))))
 omega
 refine wp_exit (yI (yW (yV (yQ (zA (zH ?_))))))
 refine qD rfl (yX rfl rfl (by omega)) (qD rfl (zB (v := (.int .i64 ((j : Int) + 1))) rfl) (qe (yS (⟨_, ?_, _, rfl, _, j + 1, b3, G40, (zC (x := 15) (zC (x := 14) (zC (x := 13) (zC (x := 3) (zX (x := 2) rfl) rfl) rfl) rfl) rfl), rfl, hX68, (dN hlek10 hle41), (by omega), hnb3, hkb3, (hr.trans ((bgo_next (by omega)).trans (by rw [hrb2, brow_end (by omega), hrb3, brow_end (by omega)]))), hw69⟩))))
 omega
 refine wp_exit (yI (yW (yV (zA (zG (zH ?_))))))
 refine qD rfl (zB (v := u1) rfl) (qD rfl (zD (v := u1) rfl) (qe (zA ?_)))
 exact wp_ret (zY (zW (v := u1) rfl rfl rfl (⟨_, _, rfl, (by rw [hr, bgo_end (by omega)]; exact hw14), hX13⟩)))
theorem used_spec {w : World} {G : Pin} {v : Value} {ns : List Nd} {m : Int} (hP : Pins G w) (hv : RSl eNode G v ns) (ho : OptsOk ns) (hs : (0 ≤ m ∧ m < ns.length) ∧ ns.length ≤ 1048576) :
  Calls Tryz.prog 88 [v, (.int .i64 m)].toArray w fun e w' => ∃ (u : Value) (G' : Pin), e = .returned u ∧ Own eBool 4 G' w' w.heap.size u (usedM ns m.toNat) ∧ Ext noS G w G' w' := by
 refine yG (n := 56) Tryz.func88 Tryz.ntmps88 rfl rfl ?_
 have hX0 := exr noS hP
 refine zG (zH ?_)
 refine qD rfl (zD (v := (.slice none 0 0)) rfl) (qe (zA (zG (zH ?_))))
 refine qD rfl (zB (v := v) rfl) (qD rfl (zT Tryz.underlying24 (v := v) rfl hv) (qI rfl (tP (E := eBool) false 1 (.bool false) Tryz.underlying125 mk4 (fun _ => rfl) rfl rfl hX0.pins (by omega) (by omega) (by omega) (fun u1 w2 ho3 hp4 hl5 hk6 => ?_))))
 have hX7 := hX0.step hp4 hl5
 have ho8 : Own eBool 4 G w2 w.heap.size u1 (List.replicate ns.length false) := ho3.weaken hX0.size
 have hm9 : (List.replicate ns.length false).length = ns.length := List.length_replicate ..
 refine qD rfl (zD (v := u1) rfl) (qe (zA (zG (zH ?_))))
 refine qD rfl (zB (v := u1) rfl) (qD rfl (zB (v := (.int .i64 m)) rfl) (qD rfl (zN Tryz.underlying125 sz4 (v := u1) rfl rfl ho8.read (by omega) (by omega)) (q0 rfl rfl rfl (vX (E := eBool) (v := u1) (u := (.bool true)) (z := m) (true) sz4 rfl rfl rfl rfl hX7.pins ho8 (by omega) (by omega) (fun w10 ho11 hp12 hg13 hz14 => ?_)))))
 have hX15 := hX7.write hp12 hg13 ((yD ho8))
 refine qe (zA (zG (zG (zH ?_))))
 refine qD rfl (zB (v := (.int .i64 m)) rfl) (qD rfl (zD (v := (.int .i64 m)) rfl) (qe (zA ?_)))
 refine yH (yZ (fun (k : Nat) (en : Nat → Value) (W : World) => ∃ (env1 : Nat → Value) (z : Int) (b : List Bool), en = (upd (upd (upd (upd env1 0 v) 4 (.slice none 0 0)) 5 u1) 6 (.int .i64 z)) ∧ k = (z + 1).toNat ∧ Ext noS G w G W ∧ (-1 ≤ z ∧ z ≤ m) ∧ (b.length = ns.length) ∧ (usedM ns m.toNat = ugo ns (z + 1).toNat b) ∧ (Own eBool 4 G W w.heap.size u1 (b))) _ ⟨_, m, (List.replicate ns.length false).set m.toNat true, (zC (x := 6) (zC (x := 5) (zC (x := 4) (zX (x := 0) rfl) rfl) rfl) rfl), rfl, hX15, (by omega), (by simp), (by rw [show (m + 1).toNat = m.toNat + 1 by omega]; rfl), ho11⟩ ?_)
 rintro k16 _ w17 ⟨env1, z, b, rfl, hk18, hX19, hz, hnb, hr, hw20⟩
 refine zG (zG (zH ?_))
 refine qD rfl (zB (v := (.int .i64 z)) rfl) (qD rfl (gO rfl rfl) (qe (zA ?_)))
 refine yN (p := (0 : Int) ≤ z) rfl rfl (fun h21 => ?_) (fun h21 => ?_)
 refine wp_skip (zA (zG ?_))
 refine yH (zG (zG (zH ?_)))
 refine qD rfl (zB (v := u1) rfl) (qD rfl (zB (v := (.int .i64 z)) rfl) (qD rfl (zN Tryz.underlying125 sz4 (v := u1) rfl rfl hw20.read (by omega) (by omega)) (qD rfl (jS (r := b.getD (z).toNat false) rfl ag4 (z := z) rfl hw20.read (Gadd.pins hX19.pins u1) (by omega) (by omega)) (qD rfl (qR rfl) (qe (zA ?_))))))
 refine vN rfl rfl (fun h22 => ?_) (fun h22 => ?_)
 refine wp_skip (zA (zG (zG (zH ?_))))
 refine qD rfl (zB (v := v) rfl) (qD rfl (zB (v := (.int .i64 z)) rfl) (qD rfl (zN Tryz.underlying24 sz65 (v := v) rfl rfl hv (by omega) (by omega)) (qD rfl (xP (off := 0) Tryz.underlying65 rfl rfl nz59 (z := z) (k := 0) rfl hv (by omega) (by omega)) ?_)))
 obtain ⟨u23, hr24, hl25⟩ := vZ (hv.at (z := z) (by omega) (by omega)) (j := (z).toNat) rfl
 have hm26 := hr24.max
 refine qD rfl (hl25 ag59 rfl hX19.pins) (qD rfl (zT Tryz.underlying59 (v := u23) rfl hr24) (qD rfl (zB (v := (.int .i64 0)) rfl) (qe (zA ?_))))
 refine yH (yZ (fun (k : Nat) (en : Nat → Value) (W : World) => ∃ (env1 : Nat → Value) (i : Nat) (b2 : List Bool), en = (upd (upd (upd (upd (upd (upd (upd env1 0 v) 4 (.slice none 0 0)) 5 u1) 6 (.int .i64 z)) 31 u23) 32 (.int .i64 (((ns.getD (z).toNat default).l).length : Int))) 33 (.int .i64 (i : Int))) ∧ k = (ns.getD (z).toNat default).l.length - i ∧ Ext noS G w G W ∧ (i ≤ (ns.getD (z).toNat default).l.length) ∧ (b2.length = ns.length) ∧ (setAll b (ns.getD (z).toNat default).l = setAll b2 ((ns.getD (z).toNat default).l.drop i)) ∧ (Own eBool 4 G W w.heap.size u1 (b2))) _ ⟨_, 0, b, (zC (x := 33) (zC (x := 32) (zC (x := 31) (zC (x := 6) (zC (x := 5) (zC (x := 4) (zX (x := 0) rfl) rfl) rfl) rfl) rfl) rfl) rfl), rfl, hX19, Nat.zero_le _, hnb, rfl, hw20⟩ ?_)
 rintro k27 _ w28 ⟨env1, i, b2, rfl, hk29, hX30, hii, hnb2, hrb2, hw31⟩
 refine zG (zH ?_)
 refine qD rfl (xB rfl rfl) (qe (zA (zG ?_)))
 refine yN (p := ((i : Int) : Int) < (((ns.getD (z).toNat default).l).length : Int)) rfl rfl (fun h32 => ?_) (fun h32 => ?_)
 have hk := ho.left (j := (z).toNat) (i := i) (by omega) (by omega)
 refine wp_skip (zA (zG ?_))
 refine yH (zG (zH ?_))
 refine qD rfl (zN Tryz.underlying59 sz3 (v := u23) rfl rfl hr24 (by omega) (by omega)) (qD rfl (zO (r := ((ns.getD (z).toNat default).l).getD i 0) rfl ag3 (z := (i : Int)) rfl hr24 hX30.pins (by omega) (by omega)) (qD rfl (zD (v := (.int .i64 (((ns.getD (z).toNat default).l).getD i 0))) rfl) (qe (zA (zH ?_)))))
 refine qD rfl (zB (v := u1) rfl) (qD rfl (zB (v := (.int .i64 (((ns.getD (z).toNat default).l).getD i 0))) rfl) (qD rfl (zN Tryz.underlying125 sz4 (v := u1) rfl rfl hw31.read (by omega) (by omega)) (q0 rfl rfl rfl (vX (E := eBool) (v := u1) (u := (.bool true)) (z := (((ns.getD (z).toNat default).l).getD i 0)) (true) sz4 rfl rfl rfl rfl hX30.pins hw31 (by omega) (by omega) (fun w33 ho34 hp35 hg36 hz37 => ?_)))))
 have hX38 := hX30.write hp35 hg36 ((yD hw31))
 refine qe (yQ (zA (zH ?_)))
 refine qD rfl (yX rfl rfl (by omega)) (qD rfl (zB (v := (.int .i64 ((i : Int) + 1))) rfl) (qe (yS (⟨_, ?_, _, rfl, _, i + 1, b2.set ((ns.getD (z).toNat default).l.getD i 0).toNat true, (zC (x := 33) (zC (x := 32) (zC (x := 31) (zC (x := 6) (zC (x := 5) (zC (x := 4) (zX (x := 0) rfl) rfl) rfl) rfl) rfl) rfl) rfl), rfl, hX38, (by omega), ((List.length_set ..).trans hnb2), (hrb2.trans (vU (by omega))), ho34⟩))))
 omega
 refine wp_exit (yI (yW (yV (zA (zG (zH ?_))))))
 refine qD rfl (zB (v := v) rfl) (qD rfl (zB (v := (.int .i64 z)) rfl) (qD rfl (zN Tryz.underlying24 sz65 (v := v) rfl rfl hv (by omega) (by omega)) (qD rfl (xP (off := 1) Tryz.underlying65 rfl rfl nz59 (z := z) (k := 0) rfl hv (by omega) (by omega)) ?_)))
 obtain ⟨u39, hr40, hl41⟩ := kG (hv.at (z := z) (by omega) (by omega)) (j := (z).toNat) rfl
 have hm42 := hr40.max
 refine qD rfl (hl41 ag59 rfl hX30.pins) (qD rfl (zT Tryz.underlying59 (v := u39) rfl hr40) (qD rfl (zB (v := (.int .i64 0)) rfl) (qe (zA ?_))))
 refine yH (yZ (fun (k : Nat) (en : Nat → Value) (W : World) => ∃ (env1 : Nat → Value) (i3 : Nat) (b3 : List Bool), en = (upd (upd (upd (upd (upd (upd (upd env1 0 v) 4 (.slice none 0 0)) 5 u1) 6 (.int .i64 z)) 45 u39) 46 (.int .i64 (((ns.getD (z).toNat default).r).length : Int))) 47 (.int .i64 (i3 : Int))) ∧ k = (ns.getD (z).toNat default).r.length - i3 ∧ Ext noS G w G W ∧ (i3 ≤ (ns.getD (z).toNat default).r.length) ∧ (b3.length = ns.length) ∧ (setAll b2 (ns.getD (z).toNat default).r = setAll b3 ((ns.getD (z).toNat default).r.drop i3)) ∧ (Own eBool 4 G W w.heap.size u1 (b3))) _ ⟨_, 0, b2, (zC (x := 47) (zC (x := 46) (zC (x := 45) (zC (x := 6) (zC (x := 5) (zC (x := 4) (zX (x := 0) rfl) rfl) rfl) rfl) rfl) rfl) rfl), rfl, hX30, Nat.zero_le _, hnb2, rfl, hw31⟩ ?_)
 rintro k43 _ w44 ⟨env1, i3, b3, rfl, hk45, hX46, hii3, hnb3, hrb3, hw47⟩
 refine zG (zH ?_)
 refine qD rfl (xB rfl rfl) (qe (zA (zG ?_)))
 refine yN (p := ((i3 : Int) : Int) < (((ns.getD (z).toNat default).r).length : Int)) rfl rfl (fun h48 => ?_) (fun h48 => ?_)
 have hk := ho.right (j := (z).toNat) (i := i3) (by omega) (by omega)
 refine wp_skip (zA (zG ?_))
 refine yH (zG (zH ?_))
 refine qD rfl (zN Tryz.underlying59 sz3 (v := u39) rfl rfl hr40 (by omega) (by omega)) (qD rfl (zO (r := ((ns.getD (z).toNat default).r).getD i3 0) rfl ag3 (z := (i3 : Int)) rfl hr40 hX46.pins (by omega) (by omega)) (qD rfl (zD (v := (.int .i64 (((ns.getD (z).toNat default).r).getD i3 0))) rfl) (qe (zA (zH ?_)))))
 refine qD rfl (zB (v := u1) rfl) (qD rfl (zB (v := (.int .i64 (((ns.getD (z).toNat default).r).getD i3 0))) rfl) (qD rfl (zN Tryz.underlying125 sz4 (v := u1) rfl rfl hw47.read (by omega) (by omega)) (q0 rfl rfl rfl (vX (E := eBool) (v := u1) (u := (.bool true)) (z := (((ns.getD (z).toNat default).r).getD i3 0)) (true) sz4 rfl rfl rfl rfl hX46.pins hw47 (by omega) (by omega) (fun w49 ho50 hp51 hg52 hz53 => ?_)))))
 have hX54 := hX46.write hp51 hg52 ((yD hw47))
 refine qe (yQ (zA (zH ?_)))
 refine qD rfl (yX rfl rfl (by omega)) (qD rfl (zB (v := (.int .i64 ((i3 : Int) + 1))) rfl) (qe (yS (⟨_, ?_, _, rfl, _, i3 + 1, b3.set ((ns.getD (z).toNat default).r.getD i3 0).toNat true, (zC (x := 47) (zC (x := 46) (zC (x := 45) (zC (x := 6) (zC (x := 5) (zC (x := 4) (zX (x := 0) rfl) rfl) rfl) rfl) rfl) rfl) rfl), rfl, hX54, (by omega), ((List.length_set ..).trans hnb3), (hrb3.trans (vU (by omega))), ho50⟩))))
 omega
 refine wp_exit (yI (yW (yV (yQ (zA (zH ?_))))))
 refine qD rfl (zB (v := (.int .i64 z)) rfl) (qD rfl (jA rfl rfl (by omega)) (qD rfl (zD (v := (.int .i64 (z - 1))) rfl) (qe (yS (⟨_, ?_, _, rfl, _, z - 1, b3, (zC (x := 6) (zC (x := 5) (zC (x := 4) (zX (x := 0) rfl) rfl) rfl) rfl), rfl, hX46, (by omega), hnb3, (hr.trans ((gI (by omega)).trans (by rw [fL h22, hrb2, kM (by omega), hrb3, kM (by omega)]))), hw47⟩)))))
 omega
 refine wp_exit (yI (yV (zA (zH ?_))))
 refine qD rfl (zB (v := (.int .i64 z)) rfl) (qD rfl (jA rfl rfl (by omega)) (qD rfl (zD (v := (.int .i64 (z - 1))) rfl) (qe (yS (⟨_, ?_, _, rfl, _, z - 1, b, (zC (x := 6) (zC (x := 5) (zC (x := 4) (zX (x := 0) rfl) rfl) rfl) rfl), rfl, hX19, (by omega), hnb, (hr.trans ((gI (by omega)).trans (by rw [mC h22]))), hw20⟩)))))
 omega
 refine wp_exit (yI (yW (yV (zA (zG (zH ?_))))))
 refine qD rfl (zB (v := u1) rfl) (qD rfl (zD (v := u1) rfl) (qe (zA ?_)))
 exact wp_ret (zY (zW (v := u1) rfl rfl rfl (⟨_, _, rfl, (by rw [hr, ugo_end (by omega)]; exact hw20), hX19⟩)))
theorem jV {w : World} {G : Pin} {v : Value} {ns : List Nd} (hP : Pins G w) (hv : RSl eNode G v ns) :
  Calls Tryz.prog 42 [(.agg [v].toArray)].toArray w fun e w' => ∃ G', e = .returned (.bool (goodB ns)) ∧ Ext noS G w G' w' := by
 refine yG (n := 93) Tryz.func42 Tryz.ntmps42 rfl rfl ?_
 have hX0 := exr noS hP
 have hm := hv.max
 refine zG (zH ?_)
 refine qI rfl (xW [v] (v := (.agg [v].toArray)) rfl rfl hX0.pins (fun b1 w2 hk3 hb4 hp5 hl6 => ?_))
 have hX7 := hX0.step hp5 hl6
 have hlo8 : w.heap.size ≤ b1 := by have := hX0.size; omega
 obtain ⟨G9, hle10, hX11, hbp12, hf13⟩ := hb4.shut hX7 hlo8
 refine qD rfl (zD (v := (.bool false)) rfl) (qe (zA (zG (zG (zH ?_)))))
 refine qD rfl (zR (k := 0) rfl Tryz.underlying26 rfl nz24 rfl) (qD rfl (zS (u := v) ag24 rfl (hX11.pins _ _ _ (hbp12 0 _ rfl))) (qD rfl (zT Tryz.underlying24 (v := v) rfl hv) (qD rfl (xB rfl rfl) (qD rfl (zB (v := (.bool (decide (((ns.length : Int) : Int) < 1)))) rfl) (qbd (p := ((ns.length : Int) : Int) < 1) (t := 13) rfl (fun h14 => ?_) (fun h14 => ?_))))))
 refine qs rfl rfl rfl rfl rfl rfl (qs rfl rfl rfl rfl rfl rfl (qs rfl rfl rfl rfl rfl rfl (qs rfl rfl rfl rfl rfl rfl (qD rfl (xI (v := (.bool true)) rfl rfl) (qe (zA ?_))))))
 refine kB rfl rfl (zG (zH ?_))
 refine qD rfl (zD (v := (.bool false)) rfl) (qe (zA ?_))
 exact wp_ret (zY (zW (v := (.bool false)) rfl rfl rfl (⟨_, congrArg (fun z => Ending.returned (Value.bool z)) (goodB_false.2 (fun g => by have := g.lo; omega)).symm, hX11⟩)))
 refine qdg rfl rfl rfl rfl rfl rfl (zR (k := 0) rfl Tryz.underlying26 rfl nz24 rfl) (qdg rfl rfl rfl rfl rfl rfl (zS (u := v) ag24 rfl (hX11.pins _ _ _ (hbp12 0 _ rfl))) (qdg rfl rfl rfl rfl rfl rfl (zT Tryz.underlying24 (v := v) rfl hv) (qdg rfl rfl rfl rfl rfl rfl (jY rfl rfl) (qD rfl (xA (v := (.bool (decide ((120 : Int) < (ns.length : Int))))) rfl rfl) (qe (zA ?_))))))
 refine yN (p := (120 : Int) < (ns.length : Int)) rfl rfl (fun h15 => ?_) (fun h15 => ?_)
 refine zG (zH ?_)
 refine qD rfl (zD (v := (.bool false)) rfl) (qe (zA ?_))
 exact wp_ret (zY (zW (v := (.bool false)) rfl rfl rfl (⟨_, congrArg (fun z => Ending.returned (Value.bool z)) (goodB_false.2 (fun g => by have := g.hi; omega)).symm, hX11⟩)))
 refine wp_skip (zA (zG (zG (zH ?_))))
 refine qD rfl (zR (k := 0) rfl Tryz.underlying26 rfl nz24 rfl) (qD rfl (zS (u := v) ag24 rfl (hX11.pins _ _ _ (hbp12 0 _ rfl))) (qD rfl (zT Tryz.underlying24 (v := v) rfl hv) (qD rfl (zB (v := (.int .i64 0)) rfl) (qe (zA ?_)))))
 refine yH (yZ (fun (k : Nat) (en : Nat → Value) (W : World) => ∃ (env1 : Nat → Value) (j : Nat) (GL1 : Pin), en = (upd (upd (upd (upd env1 1 (.pointer (some ⟨b1, 0, none⟩))) 20 v) 21 (.int .i64 (ns.length : Int))) 22 (.int .i64 (j : Int))) ∧ k = ns.length - j ∧ Ext noS G w GL1 W ∧ Pin.le G9 GL1 ∧ (j ≤ ns.length) ∧ (∀ i, i < j → goodOpts (ns.getD i default).l i = true ∧ goodOpts (ns.getD i default).r i = true)) _ ⟨_, 0, G9, (zC (x := 22) (zC (x := 21) (zC (x := 20) (zX (x := 1) rfl) rfl) rfl) rfl), rfl, hX11, Pin.le_refl _, Nat.zero_le _, (fun i hi => absurd hi (Nat.not_lt_zero i))⟩ ?_)
 rintro k16 _ w17 ⟨env1, j, GL1, rfl, hk18, hX19, hlek16, hj, hg⟩
 refine zG (zH ?_)
 refine qD rfl (xB rfl rfl) (qe (zA (zG ?_)))
 refine yN (p := ((j : Int) : Int) < (ns.length : Int)) rfl rfl (fun h20 => ?_) (fun h20 => ?_)
 refine wp_skip (zA (zG ?_))
 refine yH (zG (zH ?_))
 refine qD rfl (zB (v := (.int .i64 (j : Int))) rfl) (qD rfl (zN Tryz.underlying24 sz65 (v := v) rfl rfl hv (by omega) (by omega)) ?_)
 obtain ⟨u21, u22, hr23, hr24, hl25⟩ := jU (hv.at (z := (j : Int)) (by omega) (by omega)) (j := j) rfl
 have hm26 := hr23.max
 have hm27 := hr24.max
 refine qD rfl (hl25 ag65 sz65 rfl (dO hX19.pins (dN hle10 hlek16))) (qI rfl (yO [(.slice none 0 0), (.slice none 0 0)] zr65 rfl hX19.pins (fun b28 w29 hk30 hb31 hp32 hl33 => ?_)))
 have hX34 := hX19.step hp32 hl33
 have hlo35 : w.heap.size ≤ b28 := by have := hX19.size; omega
 refine qD rfl (zD (v := (.int .i64 (j : Int))) rfl) (q0 rfl rfl rfl (o_stp (cs' := [u21, u22]) (us := [u21, u22]) (v := (.agg [u21, u22].toArray)) sz65 rfl rfl rfl (jE hr23.one hr24.one) hX34.pins hb31 (dQ rfl) rfl (fun w36 hb37 hp38 hg39 hz40 => ?_)))
 have hX41 := hX34.write hp38 hg39 ((yC hlo35))
 obtain ⟨G42, hle43, hX44, hbp45, hf46⟩ := hb37.shut hX41 hlo35
 refine qe (zA (zG (zH ?_)))
 refine qD rfl (zR (k := 0) rfl Tryz.underlying65 rfl nz59 rfl) (qD rfl (zS (u := u21) ag59 rfl (hX44.pins _ _ _ (hbp45 0 _ rfl))) (qD rfl (zB (v := (.int .i64 (j : Int))) rfl) (qI rfl (zM (vs := [u21, (.int .i64 (j : Int))]) Tryz.func82 nm82 rfl rfl rfl ?_))))
 refine dP (kI hX44.pins (hr23.mono (dN (dN hle10 hlek16) hle43))) ?_
 rintro _ _ ⟨rfl, rfl⟩
 refine ⟨_, rfl, ?_⟩
 refine qD rfl (qR rfl) (qD rfl (zB (v := (.bool (!(goodOpts ((ns.getD j default).l) (j : Int))))) rfl) (qbn (t := 32) rfl (fun h47 => ?_) (fun h47 => ?_)))
 refine qdg rfl rfl rfl rfl rfl rfl (zR (k := 1) rfl Tryz.underlying65 rfl nz59 rfl) (qdg rfl rfl rfl rfl rfl rfl (zS (u := u22) ag59 rfl (hX44.pins _ _ _ (hbp45 1 _ rfl))) (qdg rfl rfl rfl rfl rfl rfl (zB (v := (.int .i64 (j : Int))) rfl) (q1g rfl rfl rfl rfl rfl rfl (zM (vs := [u22, (.int .i64 (j : Int))]) Tryz.func82 nm82 rfl rfl rfl ?_))))
 refine dP (kI hX44.pins (hr24.mono (dN (dN hle10 hlek16) hle43))) ?_
 rintro _ _ ⟨rfl, rfl⟩
 refine ⟨_, rfl, ?_⟩
 refine qdg rfl rfl rfl rfl rfl rfl (qR rfl) (qD rfl (xA (v := (.bool (!(goodOpts ((ns.getD j default).r) (j : Int))))) rfl rfl) (qe (zA ?_)))
 refine vN rfl rfl (fun h48 => ?_) (fun h48 => ?_)
 refine wp_skip (yQ (zA (zH ?_)))
 refine qD rfl (yX rfl rfl (by omega)) (qD rfl (zB (v := (.int .i64 ((j : Int) + 1))) rfl) (qe (yS (⟨_, ?_, _, rfl, _, j + 1, G42, (zC (x := 22) (zC (x := 21) (zC (x := 20) (zX (x := 1) rfl) rfl) rfl) rfl), rfl, hX44, (dN hlek16 hle43), (by omega), (fun k hk => if h3 : k = j then h3 ▸ ⟨h47, h48⟩ else hg k (by omega))⟩))))
 omega
 refine zG (zH ?_)
 refine qD rfl (zD (v := (.bool false)) rfl) (qe (zA ?_))
 exact wp_ret (zY (zW (v := (.bool false)) rfl rfl rfl (⟨_, congrArg (fun z => Ending.returned (Value.bool z)) (goodB_false.2 (fun g => by have := (g.opts j (by omega)).2; rw [h48] at this; cases this)).symm, hX44⟩)))
 refine qs rfl rfl rfl rfl rfl rfl (qs rfl rfl rfl rfl rfl rfl (qs rfl rfl rfl rfl rfl rfl (qs rfl rfl rfl rfl rfl rfl (qs rfl rfl rfl rfl rfl rfl (qD rfl (xI (v := (.bool true)) rfl rfl) (qe (zA ?_)))))))
 refine kB rfl rfl (zG (zH ?_))
 refine qD rfl (zD (v := (.bool false)) rfl) (qe (zA ?_))
 exact wp_ret (zY (zW (v := (.bool false)) rfl rfl rfl (⟨_, congrArg (fun z => Ending.returned (Value.bool z)) (goodB_false.2 (fun g => by have := (g.opts j (by omega)).1; rw [h47] at this; cases this)).symm, hX44⟩)))
 refine wp_exit (yI (yW (yV (zA (zG (zH ?_))))))
 refine qD rfl (zR (k := 0) rfl Tryz.underlying26 rfl nz24 rfl) (qD rfl (zS (u := v) ag24 rfl ((dO hX19.pins hlek16) _ _ _ (hbp12 0 _ rfl))) ?_)
 have hopts : ∀ i, i < ns.length → goodOpts (ns.getD i default).l i = true ∧ goodOpts (ns.getD i default).r i = true := fun i hi => hg i (by omega)
 refine qI rfl (zM (vs := [v]) Tryz.func83 nm83 rfl rfl rfl ?_)
 refine dP (births_spec hX19.pins (hv.mono (dN hle10 hlek16)) (opts_ok hopts) (by omega)) ?_
 rintro _ w51 ⟨u49, G50, rfl, ho52, hx53⟩
 refine ⟨_, rfl, ?_⟩
 have hX54 := hX19.tr hx53
 have ho55 := ho52.weaken hX19.size
 refine qD rfl (zD (v := u49) rfl) (qe (zA (zG (zG (zH ?_)))))
 have hnb := kE ns
 obtain ⟨G56, hle59, hX58, hr57, hf60⟩ := ho55.sealed hX54
 refine qD rfl (zD (v := (.int .i64 1)) rfl) (qe (zA ?_))
 refine yH (yZ (fun (k : Nat) (en : Nat → Value) (W : World) => ∃ (env1 : Nat → Value) (i : Nat) (GL2 : Pin), en = (upd (upd (upd env1 1 (.pointer (some ⟨b1, 0, none⟩))) 5 u49) 6 (.int .i64 (i : Int))) ∧ k = ns.length - i ∧ Ext noS G w GL2 W ∧ Pin.le G56 GL2 ∧ (1 ≤ i ∧ i ≤ ns.length) ∧ (∀ k, 1 ≤ k → k < i → pairC ns (births ns) k < 0)) _ ⟨_, 1, G56, (zC (x := 6) (zC (x := 5) (zX (x := 1) rfl) rfl) rfl), rfl, hX58, Pin.le_refl _, (by omega), (fun k a b => absurd a (by omega))⟩ ?_)
 rintro k61 _ w62 ⟨env1, i, GL2, rfl, hk63, hX64, hlek61, hi, hsr⟩
 refine zG (zG (zH ?_))
 refine qD rfl (zB (v := (.int .i64 (i : Int))) rfl) (qD rfl (zR (k := 0) rfl Tryz.underlying26 rfl nz24 rfl) (qD rfl (zS (u := v) ag24 rfl ((dO hX64.pins (dN (dN (dN hlek16 hx53.le) hle59) hlek61)) _ _ _ (hbp12 0 _ rfl))) (qD rfl (zT Tryz.underlying24 (v := v) rfl hv) (qD rfl (xB rfl rfl) (qe (zA ?_))))))
 refine yN (p := ((i : Int) : Int) < (ns.length : Int)) rfl rfl (fun h65 => ?_) (fun h65 => ?_)
 refine wp_skip (zA (zG ?_))
 refine yH (zG (tF (fun (en : Nat → Value) (W : World) => ∃ (env1 : Nat → Value) (c66 : Nat) (c67 : Value) (c68 : Value) (c69 : Nat) (c70 : Value) (c71 : Value) (G72 : Pin), en = (upd (upd (upd (upd (upd env1 1 (.pointer (some ⟨b1, 0, none⟩))) 5 u49) 6 (.int .i64 (i : Int))) 7 (.pointer (some ⟨c66, 0, none⟩))) 8 (.pointer (some ⟨c69, 0, none⟩))) ∧ Ext noS G w G72 W ∧ Pin.le GL2 G72 ∧ (RSl eInt G72 c67 ((ns.getD ((i : Int) - 1).toNat default).l)) ∧ (RSl eInt G72 c68 ((ns.getD ((i : Int) - 1).toNat default).r)) ∧ (RSl eInt G72 c70 ((ns.getD i default).l)) ∧ (RSl eInt G72 c71 ((ns.getD i default).r)) ∧ (BxP G72 c66 [c67, c68]) ∧ (BxP G72 c69 [c70, c71])) ?_ ?_))
 ·rintro _ w73 ⟨env1, c66, c67, c68, c69, c70, c71, G72, rfl, hX80, hle81, hr74, hr75, hr76, hr77, hb78, hb79⟩
  refine zA (zG ?_)
  refine xD (S := fun wz => Pins G72 wz) (last := 23) (by kernel_rfl) rfl ?_
  have hl82 := bdr w73
  have hp83 := hX80.pins.below hl82
  have hX84 := hX80.step hp83 hl82
  refine dT (i := 0) rfl rfl (by kernel_rfl) (fun _ _ => zB (v := u49) rfl) hX84.pins ?_
  refine dT (i := 1) rfl rfl (by kernel_rfl) (fun _ _ => zB (v := (.int .i64 (i : Int))) rfl) hX84.pins ?_
  refine dT (i := 2) rfl rfl (by kernel_rfl) (fun _ _ => jA rfl rfl (by omega)) hX84.pins ?_
  refine dT (i := 3) rfl rfl (by kernel_rfl) (fun _ _ => zN Tryz.underlying59 sz3 (v := u49) rfl rfl hr57 (by omega) (by omega)) hX84.pins ?_
  refine dT (i := 4) rfl rfl (by kernel_rfl) (fun _ hS => zO (r := (births ns).getD ((i : Int) - 1).toNat 0) rfl ag3 (z := ((i : Int) - 1)) rfl hr57 (dO hS (dN hlek61 hle81)) (by omega) (by omega)) hX84.pins ?_
  refine dT (i := 5) rfl rfl (by kernel_rfl) (fun _ _ => zB (v := u49) rfl) hX84.pins ?_
  refine dT (i := 6) rfl rfl (by kernel_rfl) (fun _ _ => zB (v := (.int .i64 (i : Int))) rfl) hX84.pins ?_
  refine dT (i := 7) rfl rfl (by kernel_rfl) (fun _ _ => zN Tryz.underlying59 sz3 (v := u49) rfl rfl hr57 (by omega) (by omega)) hX84.pins ?_
  refine dT (i := 8) rfl rfl (by kernel_rfl) (fun _ hS => zO (r := (births ns).getD i 0) rfl ag3 (z := (i : Int)) rfl hr57 (dO hS (dN hlek61 hle81)) (by omega) (by omega)) hX84.pins ?_
  refine dT (i := 10) rfl rfl (by kernel_rfl) (fun _ _ => zR (k := 0) rfl Tryz.underlying65 rfl nz59 rfl) hX84.pins ?_
  refine dT (i := 11) rfl rfl (by kernel_rfl) (fun _ hS => zS (u := c67) ag59 rfl (hS _ _ _ (hb78 0 _ rfl))) hX84.pins ?_
  refine dT (i := 12) rfl rfl (by kernel_rfl) (fun _ _ => zR (k := 0) rfl Tryz.underlying65 rfl nz59 rfl) hX84.pins ?_
  refine dT (i := 13) rfl rfl (by kernel_rfl) (fun _ hS => zS (u := c70) ag59 rfl (hS _ _ _ (hb79 0 _ rfl))) hX84.pins ?_
  refine dT (i := 15) rfl rfl (by kernel_rfl) (fun _ _ => zR (k := 1) rfl Tryz.underlying65 rfl nz59 rfl) hX84.pins ?_
  refine dT (i := 16) rfl rfl (by kernel_rfl) (fun _ hS => zS (u := c68) ag59 rfl (hS _ _ _ (hb78 1 _ rfl))) hX84.pins ?_
  refine dT (i := 17) rfl rfl (by kernel_rfl) (fun _ _ => zR (k := 1) rfl Tryz.underlying65 rfl nz59 rfl) hX84.pins ?_
  refine dT (i := 18) rfl rfl (by kernel_rfl) (fun _ hS => zS (u := c71) ag59 rfl (hS _ _ _ (hb79 1 _ rfl))) hX84.pins ?_
  refine zQ (i := 9) (by kernel_rfl) (zU (i := 9) rfl rfl rfl (zI rfl _) (zM (vs := [(.int .i64 ((births ns).getD ((i : Int) - 1).toNat 0)), (.int .i64 ((births ns).getD i 0))]) Tryz.func85 nm85 rfl rfl rfl ?_))
  refine dP (vG hX84.pins) ?_
  rintro _ _ ⟨rfl, rfl⟩
  refine ⟨_, rfl, ?_⟩
  refine ⟨fun _ => hX84.pins, ?_⟩
  refine zQ (i := 14) (by kernel_rfl) (zU (i := 14) rfl rfl rfl (zI rfl _) (zM (vs := [c67, c70]) Tryz.func86 nm86 rfl rfl rfl ?_))
  refine dP (jJ hX84.pins hr74 hr76) ?_
  rintro _ _ ⟨rfl, rfl⟩
  refine ⟨_, rfl, ?_⟩
  refine ⟨fun _ => hX84.pins, ?_⟩
  refine zQ (i := 19) (by kernel_rfl) (zU (i := 19) rfl rfl rfl (zI rfl _) (zM (vs := [c68, c71]) Tryz.func86 nm86 rfl rfl rfl ?_))
  refine dP (jJ hX84.pins hr75 hr77) ?_
  rintro _ _ ⟨rfl, rfl⟩
  refine ⟨_, rfl, ?_⟩
  refine ⟨fun _ => hX84.pins, ?_⟩
  refine zQ (i := 20) (by kernel_rfl) (zU (i := 20) rfl rfl rfl (zI rfl _) (yY (E := eInt) (e := 3) [(.int .i64 (cmpI ((births ns).getD ((i : Int) - 1).toNat 0) ((births ns).getD i 0))), (.int .i64 (cmpL ((ns.getD ((i : Int) - 1).toNat default).l) ((ns.getD i default).l))), (.int .i64 (cmpL ((ns.getD ((i : Int) - 1).toNat default).r) ((ns.getD i default).r)))] [cmpI ((births ns).getD ((i : Int) - 1).toNat 0) ((births ns).getD i 0), cmpL ((ns.getD ((i : Int) - 1).toNat default).l) ((ns.getD i default).l), cmpL ((ns.getD ((i : Int) - 1).toNat default).r) ((ns.getD i default).r)] Tryz.underlying59 sz3 zr3 (by exact reps3 (by rfl) (by rfl) (by rfl)) (ones3 (by rfl) (by rfl) (by rfl)) rfl rfl rfl rfl (by decide) hX84.pins (fun u85 w86 ho87 hp88 hl89 hk90 => ?_)))
  have hX91 := hX84.step hp88 hl89
  have ho92 := ho87.weaken hX84.size
  refine ⟨fun _ => hX91.pins, ?_⟩
  obtain ⟨G93, hle96, hX95, hr94, hf97⟩ := ho92.sealed hX91
  refine zQ (i := 21) (by kernel_rfl) (zU (i := 21) rfl rfl rfl (zI rfl _) (zM (vs := [u85]) Tryz.func84 nm84 rfl rfl rfl ?_))
  refine dP (nL hX95.pins hr94) ?_
  rintro _ _ ⟨rfl, rfl⟩
  refine ⟨_, rfl, ?_⟩
  refine ⟨fun _ => (dO hX95.pins hle96), ?_⟩
  refine dT (i := 22) rfl rfl (by kernel_rfl) (fun _ _ => gO rfl rfl) (dO hX95.pins hle96) ?_
  refine yP (by kernel_rfl) (zA (yN (p := (0 : Int) ≤ (orL ([cmpI ((births ns).getD ((i : Int) - 1).toNat 0) ((births ns).getD i 0), cmpL ((ns.getD ((i : Int) - 1).toNat default).l) ((ns.getD i default).l), cmpL ((ns.getD ((i : Int) - 1).toNat default).r) ((ns.getD i default).r)]))) rfl rfl (fun h98 => ?_) (fun h98 => ?_)))
  refine zG (zH ?_)
  refine qD rfl (zD (v := (.bool false)) rfl) (qe (zA ?_))
  exact wp_ret (zY (zW (v := (.bool false)) rfl rfl rfl (⟨_, congrArg (fun z => Ending.returned (Value.bool z)) (goodB_false.2 (fun g => by have := g.sorted i (by omega) (by omega); unfold pairC at this; rw [show i - 1 = ((i : Int) - 1).toNat by omega] at this; omega)).symm, hX95⟩)))
  refine wp_skip (yQ (zA (zH ?_)))
  refine qD rfl (zB (v := (.int .i64 (i : Int))) rfl) (qD rfl (yX rfl rfl (by omega)) (qD rfl (zD (v := (.int .i64 ((i : Int) + 1))) rfl) (qe (yS ?_))))
  have hstep : pairC ns (births ns) i < 0 := by
   unfold pairC; rw [show i - 1 = ((i : Int) - 1).toNat by omega]; omega
  refine ⟨_, ?_, _, rfl, _, i + 1, G93, (zC (x := 6) (zC (x := 5) (zX (x := 1) rfl) rfl) rfl), rfl, hX95, (dN (dN hlek61 hle81) hle96), (by omega), (fun k h1 h2 => if h3 : k = i then h3 ▸ hstep else hsr k h1 (by omega))⟩
  omega
 refine xD (S := fun wz => Pins GL2 wz) (last := 14) (by kernel_rfl) rfl ?_
 have hl99 := bdr w62
 have hp100 := hX64.pins.below hl99
 have hX101 := hX64.step hp100 hl99
 refine dT (i := 0) rfl rfl (by kernel_rfl) (fun _ _ => zR (k := 0) rfl Tryz.underlying26 rfl nz24 rfl) hX101.pins ?_
 refine dT (i := 1) rfl rfl (by kernel_rfl) (fun _ hS => zS (u := v) ag24 rfl ((dO hS (dN (dN (dN hlek16 hx53.le) hle59) hlek61)) _ _ _ (hbp12 0 _ rfl))) hX101.pins ?_
 refine dT (i := 2) rfl rfl (by kernel_rfl) (fun _ _ => zB (v := (.int .i64 (i : Int))) rfl) hX101.pins ?_
 refine dT (i := 3) rfl rfl (by kernel_rfl) (fun _ _ => jA rfl rfl (by omega)) hX101.pins ?_
 refine dT (i := 4) rfl rfl (by kernel_rfl) (fun _ _ => zN Tryz.underlying24 sz65 (v := v) rfl rfl hv (by omega) (by omega)) hX101.pins ?_
 obtain ⟨u102, u103, hr104, hr105, hl106⟩ := jU (hv.at (z := ((i : Int) - 1)) (by omega) (by omega)) (j := ((i : Int) - 1).toNat) rfl
 have hm107 := hr104.max
 have hm108 := hr105.max
 refine dT (i := 5) rfl rfl (by kernel_rfl) (fun _ hS => hl106 ag65 sz65 rfl (dO hS (dN (dN (dN (dN hle10 hlek16) hx53.le) hle59) hlek61))) hX101.pins ?_
 refine dT (i := 6) rfl rfl (by kernel_rfl) (fun _ _ => zR (k := 0) rfl Tryz.underlying26 rfl nz24 rfl) hX101.pins ?_
 refine dT (i := 7) rfl rfl (by kernel_rfl) (fun _ hS => zS (u := v) ag24 rfl ((dO hS (dN (dN (dN hlek16 hx53.le) hle59) hlek61)) _ _ _ (hbp12 0 _ rfl))) hX101.pins ?_
 refine dT (i := 8) rfl rfl (by kernel_rfl) (fun _ _ => zB (v := (.int .i64 (i : Int))) rfl) hX101.pins ?_
 refine dT (i := 9) rfl rfl (by kernel_rfl) (fun _ _ => zN Tryz.underlying24 sz65 (v := v) rfl rfl hv (by omega) (by omega)) hX101.pins ?_
 obtain ⟨u109, u110, hr111, hr112, hl113⟩ := jU (hv.at (z := (i : Int)) (by omega) (by omega)) (j := i) rfl
 have hm114 := hr111.max
 have hm115 := hr112.max
 refine dT (i := 10) rfl rfl (by kernel_rfl) (fun _ hS => hl113 ag65 sz65 rfl (dO hS (dN (dN (dN (dN hle10 hlek16) hx53.le) hle59) hlek61))) hX101.pins ?_
 refine qG (i := 11) (j := 12) (by kernel_rfl) ?_ ?_
 refine (zU (i := 11) rfl rfl rfl (zI rfl _) (yO [(.slice none 0 0), (.slice none 0 0)] zr65 rfl hX101.pins (fun b116 w117 hk118 hb119 hp120 hl121 => ?_)))
 have hX122 := hX101.step hp120 hl121
 have hlo123 : w.heap.size ≤ b116 := by have := hX101.size; omega
 refine ⟨fun _ => hX122.pins, ?_⟩
 refine zQ (i := 12) (by kernel_rfl) (zU (i := 12) rfl rfl rfl (zI rfl _) (yO [(.slice none 0 0), (.slice none 0 0)] zr65 rfl hX122.pins (fun b124 w125 hk126 hb127 hp128 hl129 => ?_)))
 have hX130 := hX122.step hp128 hl129
 have hb131 := hb119.below hl129
 have ha132 : Apart (some b124) (some b116) := zL (congrArg some hk126) hb119.lt
 have hlo133 : w.heap.size ≤ b124 := by have := hX122.size; omega
 refine ⟨fun _ => hX130.pins, ?_⟩
 refine zQ (i := 13) (by kernel_rfl) (qC (i := 13) rfl rfl rfl (zI rfl _) (o_stp (cs' := [u102, u103]) (us := [u102, u103]) (v := (.agg [u102, u103].toArray)) sz65 rfl rfl rfl (jE hr104.one hr105.one) hX130.pins hb131 (dQ rfl) rfl (fun w134 hb135 hp136 hg137 hz138 => ?_)))
 have hX139 := hX130.write hp136 hg137 ((yC hlo123))
 have hb140 := hb127.keptA hg137 ha132
 obtain ⟨G141, hle142, hX143, hbp144, hf145⟩ := hb135.shut hX139 hlo123
 have hb146 := hb140.moreA hf145 ha132
 refine ⟨fun _ => (dO hX143.pins hle142), ?_⟩
 refine zQ (i := 14) (by kernel_rfl) (qC (i := 14) rfl rfl rfl (zI rfl _) (o_stp (cs' := [u109, u110]) (us := [u109, u110]) (v := (.agg [u109, u110].toArray)) sz65 rfl rfl rfl (jE hr111.one hr112.one) hX143.pins hb146 (dQ rfl) rfl (fun w147 hb148 hp149 hg150 hz151 => ?_)))
 have hX152 := hX143.write hp149 hg150 ((yC hlo133))
 obtain ⟨G153, hle154, hX155, hbp156, hf157⟩ := hb148.shut hX152 hlo133
 refine ⟨fun h => absurd rfl h, ?_⟩
 exact yP (by kernel_rfl) (xU ⟨_, b116, u102, u103, b124, u109, u110, G153, (zC (x := 8) (zC (x := 7) (zC (x := 6) (zC (x := 5) (zX (x := 1) rfl) rfl) rfl) rfl) rfl), hX155, (dN hle142 hle154), (hr104.mono (dN (dN (dN (dN (dN (dN hle10 hlek16) hx53.le) hle59) hlek61) hle142) hle154)), (hr105.mono (dN (dN (dN (dN (dN (dN hle10 hlek16) hx53.le) hle59) hlek61) hle142) hle154)), (hr111.mono (dN (dN (dN (dN (dN (dN hle10 hlek16) hx53.le) hle59) hlek61) hle142) hle154)), (hr112.mono (dN (dN (dN (dN (dN (dN hle10 hlek16) hx53.le) hle59) hlek61) hle142) hle154)), (hbp144.mono hle154), (hbp156.mono (Pin.le_refl _))⟩)
 refine (zU (i := 12) rfl rfl rfl (zI rfl _) (yO [(.slice none 0 0), (.slice none 0 0)] zr65 rfl hX101.pins (fun b158 w159 hk160 hb161 hp162 hl163 => ?_)))
 have hX164 := hX101.step hp162 hl163
 have hlo165 : w.heap.size ≤ b158 := by have := hX101.size; omega
 refine ⟨fun _ => hX164.pins, ?_⟩
 refine zQ (i := 11) (by kernel_rfl) (zU (i := 11) rfl rfl rfl (zI rfl _) (yO [(.slice none 0 0), (.slice none 0 0)] zr65 rfl hX164.pins (fun b166 w167 hk168 hb169 hp170 hl171 => ?_)))
 have hX172 := hX164.step hp170 hl171
 have hb173 := hb161.below hl171
 have ha174 : Apart (some b166) (some b158) := zL (congrArg some hk168) hb161.lt
 have hlo175 : w.heap.size ≤ b166 := by have := hX164.size; omega
 refine ⟨fun _ => hX172.pins, ?_⟩
 refine zQ (i := 13) (by kernel_rfl) (qC (i := 13) rfl rfl rfl (zI rfl _) (o_stp (cs' := [u102, u103]) (us := [u102, u103]) (v := (.agg [u102, u103].toArray)) sz65 rfl rfl rfl (jE hr104.one hr105.one) hX172.pins hb169 (dQ rfl) rfl (fun w176 hb177 hp178 hg179 hz180 => ?_)))
 have hX181 := hX172.write hp178 hg179 ((yC hlo175))
 have hb182 := hb173.keptA hg179 ha174.symm
 obtain ⟨G183, hle184, hX185, hbp186, hf187⟩ := hb177.shut hX181 hlo175
 have hb188 := hb182.moreA hf187 ha174.symm
 refine ⟨fun _ => (dO hX185.pins hle184), ?_⟩
 refine zQ (i := 14) (by kernel_rfl) (qC (i := 14) rfl rfl rfl (zI rfl _) (o_stp (cs' := [u109, u110]) (us := [u109, u110]) (v := (.agg [u109, u110].toArray)) sz65 rfl rfl rfl (jE hr111.one hr112.one) hX185.pins hb188 (dQ rfl) rfl (fun w189 hb190 hp191 hg192 hz193 => ?_)))
 have hX194 := hX185.write hp191 hg192 ((yC hlo165))
 obtain ⟨G195, hle196, hX197, hbp198, hf199⟩ := hb190.shut hX194 hlo165
 refine ⟨fun h => absurd rfl h, ?_⟩
 exact yP (by kernel_rfl) (xU ⟨_, b166, u102, u103, b158, u109, u110, G195, (zC (x := 8) (zC (x := 7) (zC (x := 6) (zC (x := 5) (zX (x := 1) rfl) rfl) rfl) rfl) rfl), hX197, (dN hle184 hle196), (hr104.mono (dN (dN (dN (dN (dN (dN hle10 hlek16) hx53.le) hle59) hlek61) hle184) hle196)), (hr105.mono (dN (dN (dN (dN (dN (dN hle10 hlek16) hx53.le) hle59) hlek61) hle184) hle196)), (hr111.mono (dN (dN (dN (dN (dN (dN hle10 hlek16) hx53.le) hle59) hlek61) hle184) hle196)), (hr112.mono (dN (dN (dN (dN (dN (dN hle10 hlek16) hx53.le) hle59) hlek61) hle184) hle196)), (hbp186.mono hle196), (hbp198.mono (Pin.le_refl _))⟩)
 refine wp_exit (yI (yW (yV (zA (zG (zH ?_))))))
 refine qD rfl (zR (k := 0) rfl Tryz.underlying26 rfl nz24 rfl) (qD rfl (zS (u := v) ag24 rfl ((dO hX64.pins (dN (dN (dN hlek16 hx53.le) hle59) hlek61)) _ _ _ (hbp12 0 _ rfl))) (qD rfl (zR (k := 0) rfl Tryz.underlying26 rfl nz24 rfl) (qD rfl (zS (u := v) ag24 rfl ((dO hX64.pins (dN (dN (dN hlek16 hx53.le) hle59) hlek61)) _ _ _ (hbp12 0 _ rfl))) (qD rfl (zT Tryz.underlying24 (v := v) rfl hv) (qD rfl (jA rfl rfl (by omega)) (qI rfl (zM (vs := [v, (.int .i64 ((ns.length : Int) - 1))]) Tryz.func88 nm88 rfl rfl rfl ?_)))))))
 refine dP (used_spec hX64.pins (hv.mono (dN (dN (dN (dN hle10 hlek16) hx53.le) hle59) hlek61)) (opts_ok hopts) (by omega)) ?_
 rintro _ w202 ⟨u200, G201, rfl, ho203, hx204⟩
 refine ⟨_, rfl, ?_⟩
 have hX205 := hX64.tr hx204
 have ho206 := ho203.weaken hX64.size
 obtain ⟨G207, hle210, hX209, hr208, hf211⟩ := ho206.sealed hX205
 refine qI rfl (zM (vs := [u200, (.bool false)]) Tryz.func87 nm87 rfl rfl rfl ?_)
 refine dP (rQ hX209.pins hr208) ?_
 rintro _ _ ⟨rfl, rfl⟩
 refine ⟨_, rfl, ?_⟩
 refine qD rfl (qR rfl) (qD rfl (zD (v := (.bool (!(decide ((0 : Int) ≤ idxB (usedM ns ((ns.length : Int) - 1).toNat) false))))) rfl) (qe (zA ?_)))
 exact wp_ret (zY (zW (v := (.bool (!(decide ((0 : Int) ≤ idxB (usedM ns ((ns.length : Int) - 1).toNat) false))))) rfl rfl rfl (⟨_, congrArg (fun z => Ending.returned (Value.bool z)) (goodB_used (by omega) (by omega) (by omega) hopts (fun k h1 h2 => hsr k h1 (by omega))).symm, hX209⟩)))
end B1
end Go.Proofs.YtajkbplgbikgdaaGreatDoor
namespace Go.Proofs.YtajkbplgbikgdaaGreatDoor
namespace C1
open Go.RowKit Go.GL Go.Proofs
open B1
theorem tS {w : World} {G : Pin} {x a b : Int} (hP : Pins G w) :
  Calls Tryz.prog 95 [(.int .i64 x), (.int .i64 a), (.int .i64 b)].toArray w fun e w' => e = .returned (.bool (decide (a ≤ x ∧ x ≤ b))) ∧ w' = w := by
 refine yG (n := 15) Tryz.func95 Tryz.ntmps95 rfl rfl ?_
 have hX0 := exr noS hP
 refine zG (zH ?_)
 refine qD rfl (zD (v := (.bool false)) rfl) (qe (zA (zG (zH ?_))))
 refine qD rfl (zB (v := (.int .i64 x)) rfl) (qD rfl (zB (v := (.int .i64 a)) rfl) (qD rfl (gO rfl rfl) (qD rfl (zB (v := (.bool (decide ((a : Int) ≤ x)))) rfl) (qbd (p := (a : Int) ≤ x) (t := 10) rfl (fun h1 => ?_) (fun h1 => ?_)))))
 refine qdg rfl rfl rfl rfl rfl rfl (zB (v := (.int .i64 x)) rfl) (qdg rfl rfl rfl rfl rfl rfl (zB (v := (.int .i64 b)) rfl) (qdg rfl rfl rfl rfl rfl rfl (fV rfl rfl) (qD rfl (xI (v := (.bool (decide ((x : Int) ≤ b)))) rfl rfl) (qD rfl (zD (v := (.bool (decide ((x : Int) ≤ b)))) rfl) (qe (zA ?_))))))
 exact wp_ret (zY (zW (v := (.bool (decide ((x : Int) ≤ b)))) rfl rfl rfl (⟨congrArg (fun z => Ending.returned (Value.bool z)) (decide_eq_decide.2 (by omega)), rfl⟩)))
 refine qs rfl rfl rfl rfl rfl rfl (qs rfl rfl rfl rfl rfl rfl (qs rfl rfl rfl rfl rfl rfl (qD rfl (xA (v := (.bool false)) rfl rfl) (qD rfl (zD (v := (.bool false)) rfl) (qe (zA ?_))))))
 exact wp_ret (zY (zW (v := (.bool false)) rfl rfl rfl (⟨congrArg (fun z => Ending.returned (Value.bool z)) ((decide_eq_false (by omega)).symm), rfl⟩)))
theorem rN {w : World} {G : Pin} {x y : Int} (hP : Pins G w) :
  Calls Tryz.prog 126 [(.int .i64 x), (.int .i64 y)].toArray w fun e w' => e = .returned (.int .i64 (max x y)) ∧ w' = w := by
 refine yG (n := 10) Tryz.func126 Tryz.ntmps126 rfl rfl ?_
 have hX0 := exr noS hP
 refine zG (zH ?_)
 refine qD rfl (zD (v := (.int .i64 0)) rfl) (qe (zA (zG (zG (zH ?_)))))
 refine qD rfl (zB (v := (.int .i64 x)) rfl) (qD rfl (zB (v := (.int .i64 y)) rfl) (qD rfl (jY rfl rfl) (qe (zA ?_))))
 refine yN (p := (y : Int) < x) rfl rfl (fun h1 => ?_) (fun h1 => ?_)
 refine zG (zH ?_)
 refine qD rfl (zB (v := (.int .i64 x)) rfl) (qD rfl (zD (v := (.int .i64 x)) rfl) (qe (zA ?_)))
 exact wp_ret (zY (zW (v := (.int .i64 x)) rfl rfl rfl (⟨congrArg (fun z => Ending.returned (Value.int .i64 z)) (by omega), rfl⟩)))
 refine wp_skip (zA (zG (zH ?_)))
 refine qD rfl (zB (v := (.int .i64 y)) rfl) (qD rfl (zD (v := (.int .i64 y)) rfl) (qe (zA ?_)))
 exact wp_ret (zY (zW (v := (.int .i64 y)) rfl rfl rfl (⟨congrArg (fun z => Ending.returned (Value.int .i64 z)) (by omega), rfl⟩)))
theorem fW {w : World} {G : Pin} {v : Value} {xs : List Int} {lo hi : Int} (hP : Pins G w) (hv : RSl eInt G v xs) :
  Calls Tryz.prog 122 [v, (.int .i64 lo), (.int .i64 hi)].toArray w fun e w' => e = .returned (.bool (decP (Rise xs lo hi))) ∧ Ext noS G w G w' := by
 refine yG (n := 38) Tryz.func122 Tryz.ntmps122 rfl rfl ?_
 have hX0 := exr noS hP
 have hm := hv.max
 refine zG (zH ?_)
 refine qD rfl (zD (v := (.bool false)) rfl) (qe (zA (zG (zG (zH ?_)))))
 refine qD rfl (zD (v := (.int .i64 0)) rfl) (qe (zA ?_))
 refine yH (yZ (fun (k : Nat) (en : Nat → Value) (W : World) => ∃ (env1 : Nat → Value) (j : Nat), en = (upd (upd (upd (upd env1 0 v) 1 (.int .i64 lo)) 2 (.int .i64 hi)) 7 (.int .i64 (j : Int))) ∧ k = xs.length - j ∧ Ext noS G w G W ∧ (j ≤ xs.length) ∧ (∀ i, i < j → (lo ≤ xs.getD i 0 ∧ xs.getD i 0 ≤ hi) ∧ (0 < i → xs.getD (i - 1) 0 < xs.getD i 0))) _ ⟨_, 0, (zC (x := 7) (zC (x := 2) (zC (x := 1) (zX (x := 0) rfl) rfl) rfl) rfl), rfl, hX0, Nat.zero_le _, (fun i hi => absurd hi (Nat.not_lt_zero i))⟩ ?_)
 rintro k1 _ w2 ⟨env1, j, rfl, hk3, hX4, hj, hp⟩
 refine zG (zG (zH ?_))
 refine qD rfl (zB (v := (.int .i64 (j : Int))) rfl) (qD rfl (zB (v := v) rfl) (qD rfl (zT eU (v := v) rfl hv) (qD rfl (xB rfl rfl) (qe (zA ?_)))))
 refine yN (p := ((j : Int) : Int) < (xs.length : Int)) rfl rfl (fun h5 => ?_) (fun h5 => ?_)
 refine wp_skip (zA (zG ?_))
 refine yH (zG (xD (S := fun wz => Pins G wz) (last := 24) (by kernel_rfl) rfl ?_))
 have hl6 := bdr w2
 have hp7 := hX4.pins.below hl6
 have hX8 := hX4.step hp7 hl6
 refine dT (i := 0) rfl rfl (by kernel_rfl) (fun _ _ => zB (v := v) rfl) hX8.pins ?_
 refine dT (i := 1) rfl rfl (by kernel_rfl) (fun _ _ => zB (v := (.int .i64 (j : Int))) rfl) hX8.pins ?_
 refine dT (i := 2) rfl rfl (by kernel_rfl) (fun _ _ => zN eU sz3 (v := v) rfl rfl hv (by omega) (by omega)) hX8.pins ?_
 refine dT (i := 3) rfl rfl (by kernel_rfl) (fun _ hS => zO (r := xs.getD j 0) rfl ag3 (z := (j : Int)) rfl hv hS (by omega) (by omega)) hX8.pins ?_
 refine dT (i := 4) rfl rfl (by kernel_rfl) (fun _ _ => zB (v := (.int .i64 lo)) rfl) hX8.pins ?_
 refine dT (i := 5) rfl rfl (by kernel_rfl) (fun _ _ => zB (v := (.int .i64 hi)) rfl) hX8.pins ?_
 refine zQ (i := 6) (by kernel_rfl) (zU (i := 6) rfl rfl rfl (zI rfl _) (zM (vs := [(.int .i64 (xs.getD j 0)), (.int .i64 lo), (.int .i64 hi)]) Tryz.func95 nm95 rfl rfl rfl ?_))
 refine dP (tS hX8.pins) ?_
 rintro _ _ ⟨rfl, rfl⟩
 refine ⟨_, rfl, ?_⟩
 refine ⟨fun _ => hX8.pins, ?_⟩
 refine dT (i := 7) rfl rfl (by kernel_rfl) (fun _ _ => qR rfl) hX8.pins ?_
 refine dT (i := 8) rfl rfl (by kernel_rfl) (fun _ _ => zB (v := (.bool (!(decide ((lo : Int) ≤ (xs.getD j 0) ∧ (xs.getD j 0 : Int) ≤ hi))))) rfl) hX8.pins ?_
 refine drbn (t := 22) rfl (fun h9 => ?_) (fun h9 => ?_)
 replace h9 := of_decide_eq_true h9
 refine yL (i := 9) rfl rfl rfl (yB rfl rfl rfl rfl) (by kernel_rfl) (fun _ _ => zB (v := (.int .i64 (j : Int))) rfl) hX8.pins (yL (i := 10) rfl rfl rfl (yB rfl rfl rfl rfl) (by kernel_rfl) (fun _ _ => jY rfl rfl) hX8.pins (yL (i := 11) rfl rfl rfl (yB rfl rfl rfl rfl) (by kernel_rfl) (fun _ _ => zB (v := (.bool (decide ((0 : Int) < (j : Int))))) rfl) hX8.pins (drbd (p := (0 : Int) < (j : Int)) (t := 25) rfl (fun h10 => ?_) (fun h10 => ?_))))
 refine yL (i := 12) rfl rfl rfl (yB rfl rfl rfl rfl) (by kernel_rfl) (fun _ _ => zB (v := v) rfl) hX8.pins (yL (i := 13) rfl rfl rfl (yB rfl rfl rfl rfl) (by kernel_rfl) (fun _ _ => zB (v := (.int .i64 (j : Int))) rfl) hX8.pins (yL (i := 14) rfl rfl rfl (yB rfl rfl rfl rfl) (by kernel_rfl) (fun _ _ => jA rfl rfl (by omega)) hX8.pins (yL (i := 15) rfl rfl rfl (yB rfl rfl rfl rfl) (by kernel_rfl) (fun _ _ => zN eU sz3 (v := v) rfl rfl hv (by omega) (by omega)) hX8.pins (yL (i := 16) rfl rfl rfl (yB rfl rfl rfl rfl) (by kernel_rfl) (fun _ hS => zO (r := xs.getD ((j : Int) - 1).toNat 0) rfl ag3 (z := ((j : Int) - 1)) rfl hv hS (by omega) (by omega)) hX8.pins (yL (i := 17) rfl rfl rfl (yB rfl rfl rfl rfl) (by kernel_rfl) (fun _ _ => zB (v := v) rfl) hX8.pins (yL (i := 18) rfl rfl rfl (yB rfl rfl rfl rfl) (by kernel_rfl) (fun _ _ => zB (v := (.int .i64 (j : Int))) rfl) hX8.pins (yL (i := 19) rfl rfl rfl (yB rfl rfl rfl rfl) (by kernel_rfl) (fun _ _ => zN eU sz3 (v := v) rfl rfl hv (by omega) (by omega)) hX8.pins (yL (i := 20) rfl rfl rfl (yB rfl rfl rfl rfl) (by kernel_rfl) (fun _ hS => zO (r := xs.getD j 0) rfl ag3 (z := (j : Int)) rfl hv hS (by omega) (by omega)) hX8.pins (yL (i := 21) rfl rfl rfl (yB rfl rfl rfl rfl) (by kernel_rfl) (fun _ _ => gO rfl rfl) hX8.pins (yL (i := 22) rfl rfl rfl (yB rfl rfl rfl rfl) (by kernel_rfl) (fun _ _ => xI (v := (.bool (decide ((xs.getD j 0 : Int) ≤ (xs.getD ((j : Int) - 1).toNat 0))))) rfl rfl) hX8.pins (dT (i := 23) rfl rfl (by kernel_rfl) (fun _ _ => xA (v := (.bool (decide ((xs.getD j 0 : Int) ≤ (xs.getD ((j : Int) - 1).toNat 0))))) rfl rfl) hX8.pins ?_)))))))))))
 refine yP (by kernel_rfl) (zA (yN (p := (xs.getD j 0 : Int) ≤ (xs.getD ((j : Int) - 1).toNat 0)) rfl rfl (fun h11 => ?_) (fun h11 => ?_)))
 refine zG (zH ?_)
 refine qD rfl (zD (v := (.bool false)) rfl) (qe (zA ?_))
 exact wp_ret (zY (zW (v := (.bool false)) rfl rfl rfl (⟨congrArg (fun z => Ending.returned (Value.bool z)) (decP_false.2 (fun hR => by have := hR j (by omega); rw [show j - 1 = ((j : Int) - 1).toNat by omega] at this; omega)).symm, hX8⟩)))
 refine wp_skip (yQ (zA (zH ?_)))
 refine qD rfl (zB (v := (.int .i64 (j : Int))) rfl) (qD rfl (yX rfl rfl (by omega)) (qD rfl (zD (v := (.int .i64 ((j : Int) + 1))) rfl) (qe (yS (⟨_, ?_, _, rfl, _, j + 1, (zC (x := 7) (zC (x := 2) (zC (x := 1) (zX (x := 0) rfl) rfl) rfl) rfl), rfl, hX8, (by omega), (pI hp (by omega) (fun h0 => by rw [show j - 1 = ((j : Int) - 1).toNat by omega]; omega))⟩)))))
 omega
 refine yE (i := 12) rfl rfl (yK rfl rfl rfl rfl rfl) (by kernel_rfl) hX8.pins (yE (i := 13) rfl rfl (yK rfl rfl rfl rfl rfl) (by kernel_rfl) hX8.pins (yE (i := 14) rfl rfl (yK rfl rfl rfl rfl rfl) (by kernel_rfl) hX8.pins (yE (i := 15) rfl rfl (yK rfl rfl rfl rfl rfl) (by kernel_rfl) hX8.pins (yE (i := 16) rfl rfl (yK rfl rfl rfl rfl rfl) (by kernel_rfl) hX8.pins (yE (i := 17) rfl rfl (yK rfl rfl rfl rfl rfl) (by kernel_rfl) hX8.pins (yE (i := 18) rfl rfl (yK rfl rfl rfl rfl rfl) (by kernel_rfl) hX8.pins (yE (i := 19) rfl rfl (yK rfl rfl rfl rfl rfl) (by kernel_rfl) hX8.pins (yE (i := 20) rfl rfl (yK rfl rfl rfl rfl rfl) (by kernel_rfl) hX8.pins (yE (i := 21) rfl rfl (yK rfl rfl rfl rfl rfl) (by kernel_rfl) hX8.pins (yL (i := 22) rfl rfl rfl (yB rfl rfl rfl rfl) (by kernel_rfl) (fun _ _ => xA (v := (.bool false)) rfl rfl) hX8.pins (dT (i := 23) rfl rfl (by kernel_rfl) (fun _ _ => xA (v := (.bool false)) rfl rfl) hX8.pins ?_)))))))))))
 refine yP (by kernel_rfl) (zA (vE rfl rfl (wp_skip (yQ (zA (zH ?_))))))
 refine qD rfl (zB (v := (.int .i64 (j : Int))) rfl) (qD rfl (yX rfl rfl (by omega)) (qD rfl (zD (v := (.int .i64 ((j : Int) + 1))) rfl) (qe (yS (⟨_, ?_, _, rfl, _, j + 1, (zC (x := 7) (zC (x := 2) (zC (x := 1) (zX (x := 0) rfl) rfl) rfl) rfl), rfl, hX8, (by omega), (pI hp (by omega) (fun h0 => by rw [show j - 1 = ((j : Int) - 1).toNat by omega]; omega))⟩)))))
 omega
 replace h9 := of_decide_eq_false h9
 refine yE (i := 9) rfl rfl (yK rfl rfl rfl rfl rfl) (by kernel_rfl) hX8.pins (yE (i := 10) rfl rfl (yK rfl rfl rfl rfl rfl) (by kernel_rfl) hX8.pins (yE (i := 11) rfl rfl (yK rfl rfl rfl rfl rfl) (by kernel_rfl) hX8.pins (yE (i := 12) rfl rfl (qF rfl rfl rfl rfl) (by kernel_rfl) hX8.pins (yE (i := 13) rfl rfl (qF rfl rfl rfl rfl) (by kernel_rfl) hX8.pins (yE (i := 14) rfl rfl (qF rfl rfl rfl rfl) (by kernel_rfl) hX8.pins (yE (i := 15) rfl rfl (qF rfl rfl rfl rfl) (by kernel_rfl) hX8.pins (yE (i := 16) rfl rfl (qF rfl rfl rfl rfl) (by kernel_rfl) hX8.pins (yE (i := 17) rfl rfl (qF rfl rfl rfl rfl) (by kernel_rfl) hX8.pins (yE (i := 18) rfl rfl (qF rfl rfl rfl rfl) (by kernel_rfl) hX8.pins (yE (i := 19) rfl rfl (qF rfl rfl rfl rfl) (by kernel_rfl) hX8.pins (yE (i := 20) rfl rfl (qF rfl rfl rfl rfl) (by kernel_rfl) hX8.pins (yE (i := 21) rfl rfl (qF rfl rfl rfl rfl) (by kernel_rfl) hX8.pins (yE (i := 22) rfl rfl (yK rfl rfl rfl rfl rfl) (by kernel_rfl) hX8.pins (dT (i := 23) rfl rfl (by kernel_rfl) (fun _ _ => xI (v := (.bool true)) rfl rfl) hX8.pins ?_))))))))))))))
 refine yP (by kernel_rfl) (zA (kB rfl rfl (zG (zH ?_))))
 refine qD rfl (zD (v := (.bool false)) rfl) (qe (zA ?_))
 exact wp_ret (zY (zW (v := (.bool false)) rfl rfl rfl (⟨congrArg (fun z => Ending.returned (Value.bool z)) (decP_false.2 (fun hR => by have := hR j (by omega); rw [show j - 1 = ((j : Int) - 1).toNat by omega] at this; omega)).symm, hX8⟩)))
 refine wp_exit (yI (yW (yV (zA (zG (zH ?_))))))
 refine qD rfl (zD (v := (.bool true)) rfl) (qe (zA ?_))
 exact wp_ret (zY (zW (v := (.bool true)) rfl rfl rfl (⟨congrArg (fun z => Ending.returned (Value.bool z)) (decP_true.2 (Rise.done (by omega) hp)).symm, hX4⟩)))
theorem rM {w : World} {G : Pin} {v : Value} {ns : List Nd} (hP : Pins G w) (hv : RSl eNode G v ns) :
  Calls Tryz.prog 75 [(.agg [v].toArray)].toArray w fun e w' => ∃ G', e = .returned (.bool (decP (FitsP ns))) ∧ Ext noS G w G' w' := by
 refine yG (n := 37) Tryz.func75 Tryz.ntmps75 rfl rfl ?_
 have hX0 := exr noS hP
 have hm := hv.max
 refine zG (zH ?_)
 refine qI rfl (xW [v] (v := (.agg [v].toArray)) rfl rfl hX0.pins (fun b1 w2 hk3 hb4 hp5 hl6 => ?_))
 have hX7 := hX0.step hp5 hl6
 have hlo8 : w.heap.size ≤ b1 := by have := hX0.size; omega
 obtain ⟨G9, hle10, hX11, hbp12, hf13⟩ := hb4.shut hX7 hlo8
 refine qD rfl (zD (v := (.bool false)) rfl) (qe (zA (zG (zG (zH ?_)))))
 refine qD rfl (zD (v := (.int .i64 0)) rfl) (qe (zA ?_))
 refine yH (yZ (fun (k : Nat) (en : Nat → Value) (W : World) => ∃ (env1 : Nat → Value) (j : Nat), en = (upd (upd env1 1 (.pointer (some ⟨b1, 0, none⟩))) 3 (.int .i64 (j : Int))) ∧ k = 121 - j ∧ Ext noS G w G9 W ∧ (j ≤ ns.length ∧ j ≤ 121) ∧ (∀ k, k < j → (ns.getD k default).l.length ≤ 24 ∧ (ns.getD k default).r.length ≤ 24)) _ ⟨_, 0, (zC (x := 3) (zX (x := 1) rfl) rfl), rfl, hX11, (by omega), (fun i hi => absurd hi (Nat.not_lt_zero i))⟩ ?_)
 rintro k14 _ w15 ⟨env1, j, rfl, hk16, hX17, hj, hp⟩
 refine zG (zG (zH ?_))
 refine qD rfl (zB (v := (.int .i64 (j : Int))) rfl) (qD rfl (zR (k := 0) rfl eW rfl nz24 rfl) (qD rfl (zS (u := v) ag24 rfl (hX17.pins _ _ _ (hbp12 0 _ rfl))) (qD rfl (zT eV (v := v) rfl hv) (qD rfl (xB rfl rfl) (qD rfl (zB (v := (.bool (decide (((j : Int) : Int) < (ns.length : Int))))) rfl) (qbd (p := ((j : Int) : Int) < (ns.length : Int)) (t := 9) rfl (fun h18 => ?_) (fun h18 => ?_)))))))
 refine qdg rfl rfl rfl rfl rfl rfl (zB (v := (.int .i64 (j : Int))) rfl) (qdg rfl rfl rfl rfl rfl rfl (fV rfl rfl) (qD rfl (xI (v := (.bool (decide (((j : Int) : Int) ≤ 120)))) rfl rfl) (qe (zA ?_))))
 refine yN (p := ((j : Int) : Int) ≤ 120) rfl rfl (fun h19 => ?_) (fun h19 => ?_)
 refine wp_skip (zA (zG ?_))
 refine yH (zG (zH ?_))
 refine qD rfl (zR (k := 0) rfl eW rfl nz24 rfl) (qD rfl (zS (u := v) ag24 rfl (hX17.pins _ _ _ (hbp12 0 _ rfl))) (qD rfl (zB (v := (.int .i64 (j : Int))) rfl) (qD rfl (zN eV sz65 (v := v) rfl rfl hv (by omega) (by omega)) (qD rfl (xP (off := 0) eX rfl rfl nz59 (z := (j : Int)) (k := 0) rfl hv (by omega) (by omega)) ?_))))
 obtain ⟨u20, hr21, hl22⟩ := vZ (hv.at (z := (j : Int)) (by omega) (by omega)) (j := j) rfl
 have hm23 := hr21.max
 refine qD rfl (hl22 ag59 rfl (dO hX17.pins hle10)) (qD rfl (zT eU (v := u20) rfl hr21) (qD rfl (jY rfl rfl) (qD rfl (zB (v := (.bool (decide ((24 : Int) < (((ns.getD j default).l).length : Int))))) rfl) (qbd (p := (24 : Int) < (((ns.getD j default).l).length : Int)) (t := 23) rfl (fun h24 => ?_) (fun h24 => ?_)))))
 refine qs rfl rfl rfl rfl rfl rfl (qs rfl rfl rfl rfl rfl rfl (qs rfl rfl rfl rfl rfl rfl (qs rfl rfl rfl rfl rfl rfl (qs rfl rfl rfl rfl rfl rfl (qs rfl rfl rfl rfl rfl rfl (qs rfl rfl rfl rfl rfl rfl (qs rfl rfl rfl rfl rfl rfl (qD rfl (xI (v := (.bool true)) rfl rfl) (qe (zA ?_))))))))))
 refine kB rfl rfl (zG (zH ?_))
 refine qD rfl (zD (v := (.bool false)) rfl) (qe (zA ?_))
 exact wp_ret (zY (zW (v := (.bool false)) rfl rfl rfl (⟨_, congrArg (fun z => Ending.returned (Value.bool z)) (decP_false.2 (fun g => by have := g.opts j (by omega); omega)).symm, hX17⟩)))
 refine qdg rfl rfl rfl rfl rfl rfl (zR (k := 0) rfl eW rfl nz24 rfl) (qdg rfl rfl rfl rfl rfl rfl (zS (u := v) ag24 rfl (hX17.pins _ _ _ (hbp12 0 _ rfl))) (qdg rfl rfl rfl rfl rfl rfl (zB (v := (.int .i64 (j : Int))) rfl) (qdg rfl rfl rfl rfl rfl rfl (zN eV sz65 (v := v) rfl rfl hv (by omega) (by omega)) (qdg rfl rfl rfl rfl rfl rfl (xP (off := 1) eX rfl rfl nz59 (z := (j : Int)) (k := 0) rfl hv (by omega) (by omega)) ?_))))
 obtain ⟨u25, hr26, hl27⟩ := kG (hv.at (z := (j : Int)) (by omega) (by omega)) (j := j) rfl
 have hm28 := hr26.max
 refine qdg rfl rfl rfl rfl rfl rfl (hl27 ag59 rfl (dO hX17.pins hle10)) (qdg rfl rfl rfl rfl rfl rfl (zT eU (v := u25) rfl hr26) (qdg rfl rfl rfl rfl rfl rfl (jY rfl rfl) (qD rfl (xA (v := (.bool (decide ((24 : Int) < (((ns.getD j default).r).length : Int))))) rfl rfl) (qe (zA ?_)))))
 refine yN (p := (24 : Int) < (((ns.getD j default).r).length : Int)) rfl rfl (fun h29 => ?_) (fun h29 => ?_)
 refine zG (zH ?_)
 refine qD rfl (zD (v := (.bool false)) rfl) (qe (zA ?_))
 exact wp_ret (zY (zW (v := (.bool false)) rfl rfl rfl (⟨_, congrArg (fun z => Ending.returned (Value.bool z)) (decP_false.2 (fun g => by have := g.opts j (by omega); omega)).symm, hX17⟩)))
 refine wp_skip (yQ (zA (zH ?_)))
 refine qD rfl (zB (v := (.int .i64 (j : Int))) rfl) (qD rfl (yX rfl rfl (by omega)) (qD rfl (zD (v := (.int .i64 ((j : Int) + 1))) rfl) (qe (yS (⟨_, ?_, _, rfl, _, j + 1, (zC (x := 3) (zX (x := 1) rfl) rfl), rfl, hX17, (by omega), (fun k hk => if h3 : k = j then h3 ▸ ⟨by omega, by omega⟩ else hp k (by omega))⟩)))))
 omega
 refine wp_exit (yI (yW (yV (zA (zG (zH ?_))))))
 refine qD rfl (zR (k := 0) rfl eW rfl nz24 rfl) (qD rfl (zS (u := v) ag24 rfl (hX17.pins _ _ _ (hbp12 0 _ rfl))) (qD rfl (zT eV (v := v) rfl hv) (qI rfl (zM (vs := [(.int .i64 (ns.length : Int)), (.int .i64 1), (.int .i64 120)]) Tryz.func95 nm95 rfl rfl rfl ?_))))
 refine dP (tS hX17.pins) ?_
 rintro _ _ ⟨rfl, rfl⟩
 refine ⟨_, rfl, ?_⟩
 refine qD rfl (zD (v := (.bool (decide ((1 : Int) ≤ (ns.length : Int) ∧ ((ns.length : Int) : Int) ≤ 120)))) rfl) (qe (zA ?_))
 exact wp_ret (zY (zW (v := (.bool (decide ((1 : Int) ≤ (ns.length : Int) ∧ ((ns.length : Int) : Int) ≤ 120)))) rfl rfl rfl (⟨_, congrArg (fun z => Ending.returned (Value.bool z)) (fits_end hp (by omega) (by omega)), hX17⟩)))
 refine qs rfl rfl rfl rfl rfl rfl (qs rfl rfl rfl rfl rfl rfl (qD rfl (xA (v := (.bool false)) rfl rfl) (qe (zA ?_))))
 refine vE rfl rfl (wp_exit (yI (yW (yV (zA (zG (zH ?_)))))))
 refine qD rfl (zR (k := 0) rfl eW rfl nz24 rfl) (qD rfl (zS (u := v) ag24 rfl (hX17.pins _ _ _ (hbp12 0 _ rfl))) (qD rfl (zT eV (v := v) rfl hv) (qI rfl (zM (vs := [(.int .i64 (ns.length : Int)), (.int .i64 1), (.int .i64 120)]) Tryz.func95 nm95 rfl rfl rfl ?_))))
 refine dP (tS hX17.pins) ?_
 rintro _ _ ⟨rfl, rfl⟩
 refine ⟨_, rfl, ?_⟩
 refine qD rfl (zD (v := (.bool (decide ((1 : Int) ≤ (ns.length : Int) ∧ ((ns.length : Int) : Int) ≤ 120)))) rfl) (qe (zA ?_))
 exact wp_ret (zY (zW (v := (.bool (decide ((1 : Int) ≤ (ns.length : Int) ∧ ((ns.length : Int) : Int) ≤ 120)))) rfl rfl rfl (⟨_, congrArg (fun z => Ending.returned (Value.bool z)) (fits_end hp (by omega) (by omega)), hX17⟩)))
theorem gD {w : World} {G : Pin} {v : Value} {xs : List Int} {n : Int} (hP : Pins G w) (hv : RSl eInt G v xs) (hs : xs.length ≤ 2097152) :
  Calls Tryz.prog 125 [v, (.int .i64 n)].toArray w fun e w' => ∃ (u : Value) (G' : Pin), e = .returned u ∧ RSl eInt G' u (putL xs n) ∧ Ext noS G w G' w' := by
 refine yG (n := 45) Tryz.func125 Tryz.ntmps125 rfl rfl ?_
 have hX0 := exr noS hP
 refine zG (zH ?_)
 refine qD rfl (zD (v := (.slice none 0 0)) rfl) (qe (zA (zG (zH ?_))))
 refine qD rfl (zD (v := (.int .i64 0)) rfl) (qe (zA (zG ?_)))
 refine yH (yZ (fun (k : Nat) (en : Nat → Value) (W : World) => ∃ (env1 : Nat → Value) (j : Nat), en = (upd (upd (upd (upd env1 0 v) 1 (.int .i64 n)) 4 (.slice none 0 0)) 5 (.int .i64 (j : Int))) ∧ k = xs.length - j ∧ Ext noS G w G W ∧ (j ≤ xs.length) ∧ (putL xs n = xs.take j ++ putL (xs.drop j) n)) _ ⟨_, 0, (zC (x := 5) (zC (x := 4) (zC (x := 1) (zX (x := 0) rfl) rfl) rfl) rfl), rfl, hX0, Nat.zero_le _, rfl⟩ ?_)
 rintro k1 _ w2 ⟨env1, j, rfl, hk3, hX4, hj, hr⟩
 refine zG (zG (zH ?_))
 refine qD rfl (zB (v := (.int .i64 (j : Int))) rfl) (qD rfl (zB (v := v) rfl) (qD rfl (zT eU (v := v) rfl hv) (qD rfl (xB rfl rfl) (qD rfl (zB (v := (.bool (decide (((j : Int) : Int) < (xs.length : Int))))) rfl) (qbd (p := ((j : Int) : Int) < (xs.length : Int)) (t := 10) rfl (fun h5 => ?_) (fun h5 => ?_))))))
 refine qdg rfl rfl rfl rfl rfl rfl (zB (v := v) rfl) (qdg rfl rfl rfl rfl rfl rfl (zB (v := (.int .i64 (j : Int))) rfl) (qdg rfl rfl rfl rfl rfl rfl (zN eU sz3 (v := v) rfl rfl hv (by omega) (by omega)) (qdg rfl rfl rfl rfl rfl rfl (zO (r := xs.getD j 0) rfl ag3 (z := (j : Int)) rfl hv hX4.pins (by omega) (by omega)) (qdg rfl rfl rfl rfl rfl rfl (zB (v := (.int .i64 n)) rfl) (qdg rfl rfl rfl rfl rfl rfl (xB rfl rfl) (qD rfl (xI (v := (.bool (decide ((xs.getD j 0 : Int) < n)))) rfl rfl) (qe (zA ?_))))))))
 refine yN (p := (xs.getD j 0 : Int) < n) rfl rfl (fun h6 => ?_) (fun h6 => ?_)
 refine wp_skip (zA (yH (zH (qD rfl (zB (v := (.int .i64 (j : Int))) rfl) (qD rfl (yX rfl rfl (by omega)) (qD rfl (zD (v := (.int .i64 ((j : Int) + 1))) rfl) (qe (yQ (yS (⟨_, ?_, _, rfl, _, j + 1, (zC (x := 5) (zC (x := 4) (zC (x := 1) (zX (x := 0) rfl) rfl) rfl) rfl), rfl, hX4, (by omega), (put_next (by omega) (by omega) hr)⟩))))))))))
 omega
 refine wp_exit (yI (yW (yV (zA (zG (zG (zH ?_)))))))
 refine qD rfl (zB (v := (.int .i64 (j : Int))) rfl) (qD rfl (zB (v := v) rfl) (qD rfl (zT eU (v := v) rfl hv) (qD rfl (xB rfl rfl) (qD rfl (zB (v := (.bool (decide (((j : Int) : Int) < (xs.length : Int))))) rfl) (qbd (p := ((j : Int) : Int) < (xs.length : Int)) (t := 24) rfl (fun _ => ?_) (fun h => absurd h5 h))))))
 refine qdg rfl rfl rfl rfl rfl rfl (zB (v := v) rfl) (qdg rfl rfl rfl rfl rfl rfl (zB (v := (.int .i64 (j : Int))) rfl) (qdg rfl rfl rfl rfl rfl rfl (zN eU sz3 (v := v) rfl rfl hv (by omega) (by omega)) (qdg rfl rfl rfl rfl rfl rfl (zO (r := xs.getD j 0) rfl ag3 (z := (j : Int)) rfl hv hX4.pins (by omega) (by omega)) (qdg rfl rfl rfl rfl rfl rfl (zB (v := (.int .i64 n)) rfl) (qdg rfl rfl rfl rfl rfl rfl (kZ rfl rfl) (qD rfl (xI (v := (.bool (decide ((xs.getD j 0 : Int) = n)))) rfl rfl) (qe (zA ?_))))))))
 refine yN (p := (xs.getD j 0 : Int) = n) rfl rfl (fun h8 => ?_) (fun h8 => ?_)
 refine zG (zH ?_)
 refine qD rfl (zB (v := v) rfl) (qD rfl (zD (v := v) rfl) (qe (zA ?_)))
 exact wp_ret (zY (zW (v := v) rfl rfl rfl (⟨_, _, rfl, (by rw [put_hit (by omega) (by omega) hr]; exact hv), hX4⟩)))
 refine wp_skip (zA (zG ?_))
 refine tF (fun (en : Nat → Value) (W : World) => ∃ (env1 : Nat → Value) (c9 : Value) (G10 : Pin), en = (upd env1 4 c9) ∧ Ext noS G w G10 W ∧ Pin.le G G10 ∧ (Own eInt 3 G10 W w.heap.size c9 (((([]) ++ ((xs.take j).drop 0)) ++ ([n])) ++ ((xs.take xs.length).drop j)))) ?_ ?_
 ·rintro _ w11 ⟨env1, c9, G10, rfl, hX13, hle14, ho12⟩
  refine zA (wp_ret (zY (zW (v := c9) rfl rfl rfl ?_)))
  obtain ⟨G15, hle18, hX17, hr16, hf19⟩ := ho12.sealed hX13
  exact ⟨_, _, rfl, (by rw [← put_new (fun h => ⟨by omega, by omega⟩) hr]; exact hr16), hX17⟩
 refine xD (S := fun wz => Pins G wz) (last := 13) (by kernel_rfl) rfl ?_
 have hl20 := bdr w2
 have hp21 := hX4.pins.below hl20
 have hX22 := hX4.step hp21 hl20
 refine dT (i := 1) rfl rfl (by kernel_rfl) (fun _ _ => zB (v := v) rfl) hX22.pins ?_
 refine dT (i := 2) rfl rfl (by kernel_rfl) (fun _ _ => zB (v := (.int .i64 (j : Int))) rfl) hX22.pins ?_
 obtain ⟨u23, hr24, hl25⟩ := qO hv (lo := none) (hi := (some ((j : Int)))) (0) (j) (Or.inl ⟨rfl, rfl⟩) (Or.inr ⟨_, rfl, (by omega), rfl⟩) (by omega) (by omega)
 refine dT (i := 3) rfl rfl (by kernel_rfl) (fun _ _ => hl25 eU sz3 rfl rfl rfl) hX22.pins ?_
 refine dT (i := 5) rfl rfl (by kernel_rfl) (fun _ _ => zB (v := (.int .i64 n)) rfl) hX22.pins ?_
 refine dT (i := 8) rfl rfl (by kernel_rfl) (fun _ _ => zB (v := v) rfl) hX22.pins ?_
 refine dT (i := 9) rfl rfl (by kernel_rfl) (fun _ _ => zB (v := (.int .i64 (j : Int))) rfl) hX22.pins ?_
 obtain ⟨u26, hr27, hl28⟩ := qO hv (lo := (some ((j : Int)))) (hi := none) (j) (xs.length) (Or.inr ⟨_, rfl, (by omega), rfl⟩) (Or.inl ⟨rfl, rfl⟩) (by omega) (by omega)
 refine dT (i := 10) rfl rfl (by kernel_rfl) (fun _ _ => hl28 eU sz3 rfl rfl rfl) hX22.pins ?_
 refine qG (i := 0) (j := 6) (by kernel_rfl) ?_ ?_
 refine (zU (i := 0) rfl rfl rfl (zI rfl _) (xG (E := eInt) (e := 3) eU sz3 hX22.pins (fun u29 w30 ho31 hp32 hl33 hk34 => ?_)))
 have hX35 := hX22.step hp32 hl33
 have ho36 := ho31.weaken hX22.size
 refine ⟨fun _ => hX35.pins, ?_⟩
 refine qG (i := 4) (j := 6) (by kernel_rfl) ?_ ?_
 refine (zU (i := 4) rfl rfl rfl (zI rfl _) (zZ (E := eInt) (v := u29) (u := u23) 8 eU ap3 (by decide) rfl rfl hX35.pins ho36 ((hr24.mono (Pin.le_refl _)).src hX35.pins (by decide)) (by first | omega | (rw [List.nil_append]; omega) | (rw [List.length_nil]; omega) | (rw [List.length_append]; omega) | (simp; done) | (simp; omega) | (simp only [List.length_append, List.length_cons, List.length_nil]; omega)) (by first | omega | (rw [List.nil_append]; omega) | (rw [List.length_nil]; omega) | (rw [List.length_append]; omega) | (simp; done) | (simp; omega) | (simp only [List.length_append, List.length_cons, List.length_nil]; omega)) (hX35.size) (fun u37 w38 ho39 hp40 hg41 hw42 => ?_)))
 have hX43 := hX35.write hp40 hg41 ((yD ho36))
 have hm44 := la2 ([]) ((xs.take j).drop 0)
 refine ⟨fun _ => hX43.pins, ?_⟩
 refine zQ (i := 6) (by kernel_rfl) (zU (i := 6) rfl rfl rfl (zI rfl _) (yY (E := eInt) (e := 3) [(.int .i64 n)] [n] eU sz3 zr3 (by exact xT (by rfl)) (yM (by rfl)) rfl rfl rfl rfl (by decide) hX43.pins (fun u45 w46 ho47 hp48 hl49 hk50 => ?_)))
 have hX51 := hX43.step hp48 hl49
 have ho52 := ho39.below hl49
 have ho54 := ho47.weaken hX43.size
 refine ⟨fun _ => hX51.pins, ?_⟩
 refine zQ (i := 7) (by kernel_rfl) (zU (i := 7) rfl rfl rfl (zI rfl _) (zZ (E := eInt) (v := u37) (u := u45) 8 eU ap3 (by decide) rfl rfl hX51.pins ho52 ho54.src (by first | omega | (rw [List.nil_append]; omega) | (rw [List.length_nil]; omega) | (rw [List.length_append]; omega) | (simp; done) | (simp; omega) | (simp only [List.length_append, List.length_cons, List.length_nil]; omega)) (by first | omega | (rw [List.nil_append]; omega) | (rw [List.length_nil]; omega) | (rw [List.length_append]; omega) | (simp; done) | (simp; omega) | (simp only [List.length_append, List.length_cons, List.length_nil]; omega)) (hX51.size) (fun u55 w56 ho57 hp58 hg59 hw60 => ?_)))
 have hX61 := hX51.write hp58 hg59 ((yD ho52))
 have hm64 := la1 (([]) ++ ((xs.take j).drop 0)) n
 refine ⟨fun _ => hX61.pins, ?_⟩
 refine zQ (i := 11) (by kernel_rfl) (zU (i := 11) rfl rfl rfl (zI rfl _) (zZ (E := eInt) (v := u55) (u := u26) 8 eU ap3 (by decide) rfl rfl hX61.pins ho57 ((hr27.mono (Pin.le_refl _)).src hX61.pins (by decide)) (by first | omega | (rw [List.nil_append]; omega) | (rw [List.length_nil]; omega) | (rw [List.length_append]; omega) | (simp; done) | (simp; omega) | (simp only [List.length_append, List.length_cons, List.length_nil]; omega)) (by first | omega | (rw [List.nil_append]; omega) | (rw [List.length_nil]; omega) | (rw [List.length_append]; omega) | (simp; done) | (simp; omega) | (simp only [List.length_append, List.length_cons, List.length_nil]; omega)) (hX61.size) (fun u65 w66 ho67 hp68 hg69 hw70 => ?_)))
 have hX71 := hX61.write hp68 hg69 ((yD ho57))
 have hm72 := la2 ((([]) ++ ((xs.take j).drop 0)) ++ ([n])) ((xs.take xs.length).drop j)
 refine ⟨fun _ => hX71.pins, ?_⟩
 refine dT (i := 12) rfl rfl (by kernel_rfl) (fun _ _ => zD (v := u65) rfl) hX71.pins ?_
 exact yP (by kernel_rfl) (xU ⟨_, u65, G, (zX (x := 4) rfl), hX71, (Pin.le_refl _), ho67⟩)
 refine (zU (i := 6) rfl rfl rfl (zI rfl _) (yY (E := eInt) (e := 3) [(.int .i64 n)] [n] eU sz3 zr3 (by exact xT (by rfl)) (yM (by rfl)) rfl rfl rfl rfl (by decide) hX35.pins (fun u73 w74 ho75 hp76 hl77 hk78 => ?_)))
 have hX79 := hX35.step hp76 hl77
 have ho80 := ho36.below hl77
 have ha81 : Apart u73.ownBlock u29.ownBlock := zK hk78 ho36.lt
 have ho82 := ho75.weaken hX35.size
 refine ⟨fun _ => hX79.pins, ?_⟩
 refine zQ (i := 4) (by kernel_rfl) (zU (i := 4) rfl rfl rfl (zI rfl _) (zZ (E := eInt) (v := u29) (u := u23) 8 eU ap3 (by decide) rfl rfl hX79.pins ho80 ((hr24.mono (Pin.le_refl _)).src hX79.pins (by decide)) (by first | omega | (rw [List.nil_append]; omega) | (rw [List.length_nil]; omega) | (rw [List.length_append]; omega) | (simp; done) | (simp; omega) | (simp only [List.length_append, List.length_cons, List.length_nil]; omega)) (by first | omega | (rw [List.nil_append]; omega) | (rw [List.length_nil]; omega) | (rw [List.length_append]; omega) | (simp; done) | (simp; omega) | (simp only [List.length_append, List.length_cons, List.length_nil]; omega)) (hX79.size) (fun u83 w84 ho85 hp86 hg87 hw88 => ?_)))
 have hX89 := hX79.write hp86 hg87 ((yD ho80))
 have ho90 := ho82.keptA hg87 ha81
 have hm92 := la2 ([]) ((xs.take j).drop 0)
 refine ⟨fun _ => hX89.pins, ?_⟩
 refine zQ (i := 7) (by kernel_rfl) (zU (i := 7) rfl rfl rfl (zI rfl _) (zZ (E := eInt) (v := u83) (u := u73) 8 eU ap3 (by decide) rfl rfl hX89.pins ho85 ho90.src (by first | omega | (rw [List.nil_append]; omega) | (rw [List.length_nil]; omega) | (rw [List.length_append]; omega) | (simp; done) | (simp; omega) | (simp only [List.length_append, List.length_cons, List.length_nil]; omega)) (by first | omega | (rw [List.nil_append]; omega) | (rw [List.length_nil]; omega) | (rw [List.length_append]; omega) | (simp; done) | (simp; omega) | (simp only [List.length_append, List.length_cons, List.length_nil]; omega)) (hX89.size) (fun u93 w94 ho95 hp96 hg97 hw98 => ?_)))
 have hX99 := hX89.write hp96 hg97 ((yD ho85))
 have hm102 := la1 (([]) ++ ((xs.take j).drop 0)) n
 refine ⟨fun _ => hX99.pins, ?_⟩
 refine zQ (i := 11) (by kernel_rfl) (zU (i := 11) rfl rfl rfl (zI rfl _) (zZ (E := eInt) (v := u93) (u := u26) 8 eU ap3 (by decide) rfl rfl hX99.pins ho95 ((hr27.mono (Pin.le_refl _)).src hX99.pins (by decide)) (by first | omega | (rw [List.nil_append]; omega) | (rw [List.length_nil]; omega) | (rw [List.length_append]; omega) | (simp; done) | (simp; omega) | (simp only [List.length_append, List.length_cons, List.length_nil]; omega)) (by first | omega | (rw [List.nil_append]; omega) | (rw [List.length_nil]; omega) | (rw [List.length_append]; omega) | (simp; done) | (simp; omega) | (simp only [List.length_append, List.length_cons, List.length_nil]; omega)) (hX99.size) (fun u103 w104 ho105 hp106 hg107 hw108 => ?_)))
 have hX109 := hX99.write hp106 hg107 ((yD ho95))
 have hm110 := la2 ((([]) ++ ((xs.take j).drop 0)) ++ ([n])) ((xs.take xs.length).drop j)
 refine ⟨fun _ => hX109.pins, ?_⟩
 refine dT (i := 12) rfl rfl (by kernel_rfl) (fun _ _ => zD (v := u103) rfl) hX109.pins ?_
 exact yP (by kernel_rfl) (xU ⟨_, u103, G, (zX (x := 4) rfl), hX109, (Pin.le_refl _), ho105⟩)
 refine (zU (i := 6) rfl rfl rfl (zI rfl _) (yY (E := eInt) (e := 3) [(.int .i64 n)] [n] eU sz3 zr3 (by exact xT (by rfl)) (yM (by rfl)) rfl rfl rfl rfl (by decide) hX22.pins (fun u111 w112 ho113 hp114 hl115 hk116 => ?_)))
 have hX117 := hX22.step hp114 hl115
 have ho118 := ho113.weaken hX22.size
 refine ⟨fun _ => hX117.pins, ?_⟩
 refine zQ (i := 0) (by kernel_rfl) (zU (i := 0) rfl rfl rfl (zI rfl _) (xG (E := eInt) (e := 3) eU sz3 hX117.pins (fun u119 w120 ho121 hp122 hl123 hk124 => ?_)))
 have hX125 := hX117.step hp122 hl123
 have ho126 := ho118.below hl123
 have ha127 : Apart u119.ownBlock u111.ownBlock := zK hk124 ho118.lt
 have ho128 := ho121.weaken hX117.size
 refine ⟨fun _ => hX125.pins, ?_⟩
 refine zQ (i := 4) (by kernel_rfl) (zU (i := 4) rfl rfl rfl (zI rfl _) (zZ (E := eInt) (v := u119) (u := u23) 8 eU ap3 (by decide) rfl rfl hX125.pins ho128 ((hr24.mono (Pin.le_refl _)).src hX125.pins (by decide)) (by first | omega | (rw [List.nil_append]; omega) | (rw [List.length_nil]; omega) | (rw [List.length_append]; omega) | (simp; done) | (simp; omega) | (simp only [List.length_append, List.length_cons, List.length_nil]; omega)) (by first | omega | (rw [List.nil_append]; omega) | (rw [List.length_nil]; omega) | (rw [List.length_append]; omega) | (simp; done) | (simp; omega) | (simp only [List.length_append, List.length_cons, List.length_nil]; omega)) (hX125.size) (fun u129 w130 ho131 hp132 hg133 hw134 => ?_)))
 have hX135 := hX125.write hp132 hg133 ((yD ho128))
 have ho136 := ho126.keptA hg133 ha127.symm
 have hm138 := la2 ([]) ((xs.take j).drop 0)
 refine ⟨fun _ => hX135.pins, ?_⟩
 refine zQ (i := 7) (by kernel_rfl) (zU (i := 7) rfl rfl rfl (zI rfl _) (zZ (E := eInt) (v := u129) (u := u111) 8 eU ap3 (by decide) rfl rfl hX135.pins ho131 ho136.src (by first | omega | (rw [List.nil_append]; omega) | (rw [List.length_nil]; omega) | (rw [List.length_append]; omega) | (simp; done) | (simp; omega) | (simp only [List.length_append, List.length_cons, List.length_nil]; omega)) (by first | omega | (rw [List.nil_append]; omega) | (rw [List.length_nil]; omega) | (rw [List.length_append]; omega) | (simp; done) | (simp; omega) | (simp only [List.length_append, List.length_cons, List.length_nil]; omega)) (hX135.size) (fun u139 w140 ho141 hp142 hg143 hw144 => ?_)))
 have hX145 := hX135.write hp142 hg143 ((yD ho131))
 have hm148 := la1 (([]) ++ ((xs.take j).drop 0)) n
 refine ⟨fun _ => hX145.pins, ?_⟩
 refine zQ (i := 11) (by kernel_rfl) (zU (i := 11) rfl rfl rfl (zI rfl _) (zZ (E := eInt) (v := u139) (u := u26) 8 eU ap3 (by decide) rfl rfl hX145.pins ho141 ((hr27.mono (Pin.le_refl _)).src hX145.pins (by decide)) (by first | omega | (rw [List.nil_append]; omega) | (rw [List.length_nil]; omega) | (rw [List.length_append]; omega) | (simp; done) | (simp; omega) | (simp only [List.length_append, List.length_cons, List.length_nil]; omega)) (by first | omega | (rw [List.nil_append]; omega) | (rw [List.length_nil]; omega) | (rw [List.length_append]; omega) | (simp; done) | (simp; omega) | (simp only [List.length_append, List.length_cons, List.length_nil]; omega)) (hX145.size) (fun u149 w150 ho151 hp152 hg153 hw154 => ?_)))
 have hX155 := hX145.write hp152 hg153 ((yD ho141))
 have hm156 := la2 ((([]) ++ ((xs.take j).drop 0)) ++ ([n])) ((xs.take xs.length).drop j)
 refine ⟨fun _ => hX155.pins, ?_⟩
 refine dT (i := 12) rfl rfl (by kernel_rfl) (fun _ _ => zD (v := u149) rfl) hX155.pins ?_
 exact yP (by kernel_rfl) (xU ⟨_, u149, G, (zX (x := 4) rfl), hX155, (Pin.le_refl _), ho151⟩)
 refine qs rfl rfl rfl rfl rfl rfl (qs rfl rfl rfl rfl rfl rfl (qs rfl rfl rfl rfl rfl rfl (qs rfl rfl rfl rfl rfl rfl (qs rfl rfl rfl rfl rfl rfl (qs rfl rfl rfl rfl rfl rfl (qD rfl (xA (v := (.bool false)) rfl rfl) (qe (zA ?_))))))))
 refine vE rfl rfl (wp_exit (yI (yW (yV (zA (zG (zG (zH ?_))))))))
 refine qD rfl (zB (v := (.int .i64 (j : Int))) rfl) (qD rfl (zB (v := v) rfl) (qD rfl (zT eU (v := v) rfl hv) (qD rfl (xB rfl rfl) (qD rfl (zB (v := (.bool (decide (((j : Int) : Int) < (xs.length : Int))))) rfl) (qbd (p := ((j : Int) : Int) < (xs.length : Int)) (t := 24) rfl (fun h => absurd h h5) (fun _ => ?_))))))
 refine qs rfl rfl rfl rfl rfl rfl (qs rfl rfl rfl rfl rfl rfl (qs rfl rfl rfl rfl rfl rfl (qs rfl rfl rfl rfl rfl rfl (qs rfl rfl rfl rfl rfl rfl (qs rfl rfl rfl rfl rfl rfl (qD rfl (xA (v := (.bool false)) rfl rfl) (qe (zA ?_))))))))
 refine vE rfl rfl (wp_skip (zA (zG ?_)))
 refine tF (fun (en : Nat → Value) (W : World) => ∃ (env1 : Nat → Value) (c158 : Value) (G159 : Pin), en = (upd env1 4 c158) ∧ Ext noS G w G159 W ∧ Pin.le G G159 ∧ (Own eInt 3 G159 W w.heap.size c158 (((([]) ++ ((xs.take j).drop 0)) ++ ([n])) ++ ((xs.take xs.length).drop j)))) ?_ ?_
 ·rintro _ w160 ⟨env1, c158, G159, rfl, hX162, hle163, ho161⟩
  refine zA (wp_ret (zY (zW (v := c158) rfl rfl rfl ?_)))
  obtain ⟨G164, hle167, hX166, hr165, hf168⟩ := ho161.sealed hX162
  exact ⟨_, _, rfl, (by rw [← put_new (fun h => ⟨by omega, by omega⟩) hr]; exact hr165), hX166⟩
 refine xD (S := fun wz => Pins G wz) (last := 13) (by kernel_rfl) rfl ?_
 have hl169 := bdr w2
 have hp170 := hX4.pins.below hl169
 have hX171 := hX4.step hp170 hl169
 refine dT (i := 1) rfl rfl (by kernel_rfl) (fun _ _ => zB (v := v) rfl) hX171.pins ?_
 refine dT (i := 2) rfl rfl (by kernel_rfl) (fun _ _ => zB (v := (.int .i64 (j : Int))) rfl) hX171.pins ?_
 obtain ⟨u172, hr173, hl174⟩ := qO hv (lo := none) (hi := (some ((j : Int)))) (0) (j) (Or.inl ⟨rfl, rfl⟩) (Or.inr ⟨_, rfl, (by omega), rfl⟩) (by omega) (by omega)
 refine dT (i := 3) rfl rfl (by kernel_rfl) (fun _ _ => hl174 eU sz3 rfl rfl rfl) hX171.pins ?_
 refine dT (i := 5) rfl rfl (by kernel_rfl) (fun _ _ => zB (v := (.int .i64 n)) rfl) hX171.pins ?_
 refine dT (i := 8) rfl rfl (by kernel_rfl) (fun _ _ => zB (v := v) rfl) hX171.pins ?_
 refine dT (i := 9) rfl rfl (by kernel_rfl) (fun _ _ => zB (v := (.int .i64 (j : Int))) rfl) hX171.pins ?_
 obtain ⟨u175, hr176, hl177⟩ := qO hv (lo := (some ((j : Int)))) (hi := none) (j) (xs.length) (Or.inr ⟨_, rfl, (by omega), rfl⟩) (Or.inl ⟨rfl, rfl⟩) (by omega) (by omega)
 refine dT (i := 10) rfl rfl (by kernel_rfl) (fun _ _ => hl177 eU sz3 rfl rfl rfl) hX171.pins ?_
 refine qG (i := 0) (j := 6) (by kernel_rfl) ?_ ?_
 refine (zU (i := 0) rfl rfl rfl (zI rfl _) (xG (E := eInt) (e := 3) eU sz3 hX171.pins (fun u178 w179 ho180 hp181 hl182 hk183 => ?_)))
 have hX184 := hX171.step hp181 hl182
 have ho185 := ho180.weaken hX171.size
 refine ⟨fun _ => hX184.pins, ?_⟩
 refine qG (i := 4) (j := 6) (by kernel_rfl) ?_ ?_
 refine (zU (i := 4) rfl rfl rfl (zI rfl _) (zZ (E := eInt) (v := u178) (u := u172) 8 eU ap3 (by decide) rfl rfl hX184.pins ho185 ((hr173.mono (Pin.le_refl _)).src hX184.pins (by decide)) (by first | omega | (rw [List.nil_append]; omega) | (rw [List.length_nil]; omega) | (rw [List.length_append]; omega) | (simp; done) | (simp; omega) | (simp only [List.length_append, List.length_cons, List.length_nil]; omega)) (by first | omega | (rw [List.nil_append]; omega) | (rw [List.length_nil]; omega) | (rw [List.length_append]; omega) | (simp; done) | (simp; omega) | (simp only [List.length_append, List.length_cons, List.length_nil]; omega)) (hX184.size) (fun u186 w187 ho188 hp189 hg190 hw191 => ?_)))
 have hX192 := hX184.write hp189 hg190 ((yD ho185))
 have hm193 := la2 ([]) ((xs.take j).drop 0)
 refine ⟨fun _ => hX192.pins, ?_⟩
 refine zQ (i := 6) (by kernel_rfl) (zU (i := 6) rfl rfl rfl (zI rfl _) (yY (E := eInt) (e := 3) [(.int .i64 n)] [n] eU sz3 zr3 (by exact xT (by rfl)) (yM (by rfl)) rfl rfl rfl rfl (by decide) hX192.pins (fun u194 w195 ho196 hp197 hl198 hk199 => ?_)))
 have hX200 := hX192.step hp197 hl198
 have ho201 := ho188.below hl198
 have ho203 := ho196.weaken hX192.size
 refine ⟨fun _ => hX200.pins, ?_⟩
 refine zQ (i := 7) (by kernel_rfl) (zU (i := 7) rfl rfl rfl (zI rfl _) (zZ (E := eInt) (v := u186) (u := u194) 8 eU ap3 (by decide) rfl rfl hX200.pins ho201 ho203.src (by first | omega | (rw [List.nil_append]; omega) | (rw [List.length_nil]; omega) | (rw [List.length_append]; omega) | (simp; done) | (simp; omega) | (simp only [List.length_append, List.length_cons, List.length_nil]; omega)) (by first | omega | (rw [List.nil_append]; omega) | (rw [List.length_nil]; omega) | (rw [List.length_append]; omega) | (simp; done) | (simp; omega) | (simp only [List.length_append, List.length_cons, List.length_nil]; omega)) (hX200.size) (fun u204 w205 ho206 hp207 hg208 hw209 => ?_)))
 have hX210 := hX200.write hp207 hg208 ((yD ho201))
 have hm213 := la1 (([]) ++ ((xs.take j).drop 0)) n
 refine ⟨fun _ => hX210.pins, ?_⟩
 refine zQ (i := 11) (by kernel_rfl) (zU (i := 11) rfl rfl rfl (zI rfl _) (zZ (E := eInt) (v := u204) (u := u175) 8 eU ap3 (by decide) rfl rfl hX210.pins ho206 ((hr176.mono (Pin.le_refl _)).src hX210.pins (by decide)) (by first | omega | (rw [List.nil_append]; omega) | (rw [List.length_nil]; omega) | (rw [List.length_append]; omega) | (simp; done) | (simp; omega) | (simp only [List.length_append, List.length_cons, List.length_nil]; omega)) (by first | omega | (rw [List.nil_append]; omega) | (rw [List.length_nil]; omega) | (rw [List.length_append]; omega) | (simp; done) | (simp; omega) | (simp only [List.length_append, List.length_cons, List.length_nil]; omega)) (hX210.size) (fun u214 w215 ho216 hp217 hg218 hw219 => ?_)))
 have hX220 := hX210.write hp217 hg218 ((yD ho206))
 have hm221 := la2 ((([]) ++ ((xs.take j).drop 0)) ++ ([n])) ((xs.take xs.length).drop j)
 refine ⟨fun _ => hX220.pins, ?_⟩
 refine dT (i := 12) rfl rfl (by kernel_rfl) (fun _ _ => zD (v := u214) rfl) hX220.pins ?_
 exact yP (by kernel_rfl) (xU ⟨_, u214, G, (zX (x := 4) rfl), hX220, (Pin.le_refl _), ho216⟩)
 refine (zU (i := 6) rfl rfl rfl (zI rfl _) (yY (E := eInt) (e := 3) [(.int .i64 n)] [n] eU sz3 zr3 (by exact xT (by rfl)) (yM (by rfl)) rfl rfl rfl rfl (by decide) hX184.pins (fun u222 w223 ho224 hp225 hl226 hk227 => ?_)))
 have hX228 := hX184.step hp225 hl226
 have ho229 := ho185.below hl226
 have ha230 : Apart u222.ownBlock u178.ownBlock := zK hk227 ho185.lt
 have ho231 := ho224.weaken hX184.size
 refine ⟨fun _ => hX228.pins, ?_⟩
 refine zQ (i := 4) (by kernel_rfl) (zU (i := 4) rfl rfl rfl (zI rfl _) (zZ (E := eInt) (v := u178) (u := u172) 8 eU ap3 (by decide) rfl rfl hX228.pins ho229 ((hr173.mono (Pin.le_refl _)).src hX228.pins (by decide)) (by first | omega | (rw [List.nil_append]; omega) | (rw [List.length_nil]; omega) | (rw [List.length_append]; omega) | (simp; done) | (simp; omega) | (simp only [List.length_append, List.length_cons, List.length_nil]; omega)) (by first | omega | (rw [List.nil_append]; omega) | (rw [List.length_nil]; omega) | (rw [List.length_append]; omega) | (simp; done) | (simp; omega) | (simp only [List.length_append, List.length_cons, List.length_nil]; omega)) (hX228.size) (fun u232 w233 ho234 hp235 hg236 hw237 => ?_)))
 have hX238 := hX228.write hp235 hg236 ((yD ho229))
 have ho239 := ho231.keptA hg236 ha230
 have hm241 := la2 ([]) ((xs.take j).drop 0)
 refine ⟨fun _ => hX238.pins, ?_⟩
 refine zQ (i := 7) (by kernel_rfl) (zU (i := 7) rfl rfl rfl (zI rfl _) (zZ (E := eInt) (v := u232) (u := u222) 8 eU ap3 (by decide) rfl rfl hX238.pins ho234 ho239.src (by first | omega | (rw [List.nil_append]; omega) | (rw [List.length_nil]; omega) | (rw [List.length_append]; omega) | (simp; done) | (simp; omega) | (simp only [List.length_append, List.length_cons, List.length_nil]; omega)) (by first | omega | (rw [List.nil_append]; omega) | (rw [List.length_nil]; omega) | (rw [List.length_append]; omega) | (simp; done) | (simp; omega) | (simp only [List.length_append, List.length_cons, List.length_nil]; omega)) (hX238.size) (fun u242 w243 ho244 hp245 hg246 hw247 => ?_)))
 have hX248 := hX238.write hp245 hg246 ((yD ho234))
 have hm251 := la1 (([]) ++ ((xs.take j).drop 0)) n
 refine ⟨fun _ => hX248.pins, ?_⟩
 refine zQ (i := 11) (by kernel_rfl) (zU (i := 11) rfl rfl rfl (zI rfl _) (zZ (E := eInt) (v := u242) (u := u175) 8 eU ap3 (by decide) rfl rfl hX248.pins ho244 ((hr176.mono (Pin.le_refl _)).src hX248.pins (by decide)) (by first | omega | (rw [List.nil_append]; omega) | (rw [List.length_nil]; omega) | (rw [List.length_append]; omega) | (simp; done) | (simp; omega) | (simp only [List.length_append, List.length_cons, List.length_nil]; omega)) (by first | omega | (rw [List.nil_append]; omega) | (rw [List.length_nil]; omega) | (rw [List.length_append]; omega) | (simp; done) | (simp; omega) | (simp only [List.length_append, List.length_cons, List.length_nil]; omega)) (hX248.size) (fun u252 w253 ho254 hp255 hg256 hw257 => ?_)))
 have hX258 := hX248.write hp255 hg256 ((yD ho244))
 have hm259 := la2 ((([]) ++ ((xs.take j).drop 0)) ++ ([n])) ((xs.take xs.length).drop j)
 refine ⟨fun _ => hX258.pins, ?_⟩
 refine dT (i := 12) rfl rfl (by kernel_rfl) (fun _ _ => zD (v := u252) rfl) hX258.pins ?_
 exact yP (by kernel_rfl) (xU ⟨_, u252, G, (zX (x := 4) rfl), hX258, (Pin.le_refl _), ho254⟩)
 refine (zU (i := 6) rfl rfl rfl (zI rfl _) (yY (E := eInt) (e := 3) [(.int .i64 n)] [n] eU sz3 zr3 (by exact xT (by rfl)) (yM (by rfl)) rfl rfl rfl rfl (by decide) hX171.pins (fun u260 w261 ho262 hp263 hl264 hk265 => ?_)))
 have hX266 := hX171.step hp263 hl264
 have ho267 := ho262.weaken hX171.size
 refine ⟨fun _ => hX266.pins, ?_⟩
 refine zQ (i := 0) (by kernel_rfl) (zU (i := 0) rfl rfl rfl (zI rfl _) (xG (E := eInt) (e := 3) eU sz3 hX266.pins (fun u268 w269 ho270 hp271 hl272 hk273 => ?_)))
 have hX274 := hX266.step hp271 hl272
 have ho275 := ho267.below hl272
 have ha276 : Apart u268.ownBlock u260.ownBlock := zK hk273 ho267.lt
 have ho277 := ho270.weaken hX266.size
 refine ⟨fun _ => hX274.pins, ?_⟩
 refine zQ (i := 4) (by kernel_rfl) (zU (i := 4) rfl rfl rfl (zI rfl _) (zZ (E := eInt) (v := u268) (u := u172) 8 eU ap3 (by decide) rfl rfl hX274.pins ho277 ((hr173.mono (Pin.le_refl _)).src hX274.pins (by decide)) (by first | omega | (rw [List.nil_append]; omega) | (rw [List.length_nil]; omega) | (rw [List.length_append]; omega) | (simp; done) | (simp; omega) | (simp only [List.length_append, List.length_cons, List.length_nil]; omega)) (by first | omega | (rw [List.nil_append]; omega) | (rw [List.length_nil]; omega) | (rw [List.length_append]; omega) | (simp; done) | (simp; omega) | (simp only [List.length_append, List.length_cons, List.length_nil]; omega)) (hX274.size) (fun u278 w279 ho280 hp281 hg282 hw283 => ?_)))
 have hX284 := hX274.write hp281 hg282 ((yD ho277))
 have ho285 := ho275.keptA hg282 ha276.symm
 have hm287 := la2 ([]) ((xs.take j).drop 0)
 refine ⟨fun _ => hX284.pins, ?_⟩
 refine zQ (i := 7) (by kernel_rfl) (zU (i := 7) rfl rfl rfl (zI rfl _) (zZ (E := eInt) (v := u278) (u := u260) 8 eU ap3 (by decide) rfl rfl hX284.pins ho280 ho285.src (by first | omega | (rw [List.nil_append]; omega) | (rw [List.length_nil]; omega) | (rw [List.length_append]; omega) | (simp; done) | (simp; omega) | (simp only [List.length_append, List.length_cons, List.length_nil]; omega)) (by first | omega | (rw [List.nil_append]; omega) | (rw [List.length_nil]; omega) | (rw [List.length_append]; omega) | (simp; done) | (simp; omega) | (simp only [List.length_append, List.length_cons, List.length_nil]; omega)) (hX284.size) (fun u288 w289 ho290 hp291 hg292 hw293 => ?_)))
 have hX294 := hX284.write hp291 hg292 ((yD ho280))
 have hm297 := la1 (([]) ++ ((xs.take j).drop 0)) n
 refine ⟨fun _ => hX294.pins, ?_⟩
 refine zQ (i := 11) (by kernel_rfl) (zU (i := 11) rfl rfl rfl (zI rfl _) (zZ (E := eInt) (v := u288) (u := u175) 8 eU ap3 (by decide) rfl rfl hX294.pins ho290 ((hr176.mono (Pin.le_refl _)).src hX294.pins (by decide)) (by first | omega | (rw [List.nil_append]; omega) | (rw [List.length_nil]; omega) | (rw [List.length_append]; omega) | (simp; done) | (simp; omega) | (simp only [List.length_append, List.length_cons, List.length_nil]; omega)) (by first | omega | (rw [List.nil_append]; omega) | (rw [List.length_nil]; omega) | (rw [List.length_append]; omega) | (simp; done) | (simp; omega) | (simp only [List.length_append, List.length_cons, List.length_nil]; omega)) (hX294.size) (fun u298 w299 ho300 hp301 hg302 hw303 => ?_)))
 have hX304 := hX294.write hp301 hg302 ((yD ho290))
 have hm305 := la2 ((([]) ++ ((xs.take j).drop 0)) ++ ([n])) ((xs.take xs.length).drop j)
 refine ⟨fun _ => hX304.pins, ?_⟩
 refine dT (i := 12) rfl rfl (by kernel_rfl) (fun _ _ => zD (v := u298) rfl) hX304.pins ?_
 exact yP (by kernel_rfl) (xU ⟨_, u298, G, (zX (x := 4) rfl), hX304, (Pin.le_refl _), ho300⟩)
theorem kA {w : World} {G : Pin} {u v : Value} {xs ys : List Int} (hP : Pins G w) (hu : RSl eInt G u xs) (hv : RSl eInt G v ys) :
  Calls Tryz.prog 127 [u, v].toArray w fun e w' => e = .returned (.bool (decide (xs = ys))) ∧ Ext noS G w G w' := by
 refine yG (n := 26) Tryz.func127 Tryz.ntmps127 rfl rfl ?_
 have hX0 := exr noS hP
 have hm := hu.max
 refine zG (zH ?_)
 refine qD rfl (zD (v := (.bool false)) rfl) (qe (zA (zG (zG (zH ?_)))))
 refine qD rfl (zB (v := u) rfl) (qD rfl (zT eU (v := u) rfl hu) (qD rfl (zB (v := v) rfl) (qD rfl (zT eU (v := v) rfl hv) (qD rfl (kY rfl rfl) (qe (zA ?_))))))
 refine yN (p := ((xs.length : Int) : Int) ≠ (ys.length : Int)) rfl rfl (fun h1 => ?_) (fun h1 => ?_)
 refine zG (zH ?_)
 refine qD rfl (zD (v := (.bool false)) rfl) (qe (zA ?_))
 exact wp_ret (zY (zW (v := (.bool false)) rfl rfl rfl (⟨congrArg (fun z => Ending.returned (Value.bool z)) (decide_eq_false (fun e => h1 (by rw [e]))).symm, hX0⟩)))
 refine wp_skip (zA (zG (zG (zH ?_))))
 refine qD rfl (zD (v := (.int .i64 0)) rfl) (qe (zA ?_))
 refine yH (yZ (fun (k : Nat) (en : Nat → Value) (W : World) => ∃ (env1 : Nat → Value) (j : Nat), en = (upd (upd (upd env1 0 u) 1 v) 5 (.int .i64 (j : Int))) ∧ k = xs.length - j ∧ Ext noS G w G W ∧ (j ≤ xs.length) ∧ (xs.length = ys.length) ∧ (∀ i, i < j → xs.getD i 0 = ys.getD i 0)) _ ⟨_, 0, (zC (x := 5) (zC (x := 1) (zX (x := 0) rfl) rfl) rfl), rfl, hX0, Nat.zero_le _, (by omega), (fun i hi => absurd hi (Nat.not_lt_zero i))⟩ ?_)
 rintro k2 _ w3 ⟨env1, j, rfl, hk4, hX5, hj, heq, hp⟩
 refine zG (zG (zH ?_))
 refine qD rfl (zB (v := (.int .i64 (j : Int))) rfl) (qD rfl (zB (v := u) rfl) (qD rfl (zT eU (v := u) rfl hu) (qD rfl (xB rfl rfl) (qe (zA ?_)))))
 refine yN (p := ((j : Int) : Int) < (xs.length : Int)) rfl rfl (fun h6 => ?_) (fun h6 => ?_)
 refine wp_skip (zA (zG ?_))
 refine yH (zG (xD (S := fun wz => Pins G wz) (last := 9) (by kernel_rfl) rfl ?_))
 have hl7 := bdr w3
 have hp8 := hX5.pins.below hl7
 have hX9 := hX5.step hp8 hl7
 refine dT (i := 0) rfl rfl (by kernel_rfl) (fun _ _ => zB (v := u) rfl) hX9.pins ?_
 refine dT (i := 1) rfl rfl (by kernel_rfl) (fun _ _ => zB (v := (.int .i64 (j : Int))) rfl) hX9.pins ?_
 refine dT (i := 2) rfl rfl (by kernel_rfl) (fun _ _ => zN eU sz3 (v := u) rfl rfl hu (by omega) (by omega)) hX9.pins ?_
 refine dT (i := 3) rfl rfl (by kernel_rfl) (fun _ hS => zO (r := xs.getD j 0) rfl ag3 (z := (j : Int)) rfl hu hS (by omega) (by omega)) hX9.pins ?_
 refine dT (i := 4) rfl rfl (by kernel_rfl) (fun _ _ => zB (v := v) rfl) hX9.pins ?_
 refine dT (i := 5) rfl rfl (by kernel_rfl) (fun _ _ => zB (v := (.int .i64 (j : Int))) rfl) hX9.pins ?_
 refine dT (i := 6) rfl rfl (by kernel_rfl) (fun _ _ => zN eU sz3 (v := v) rfl rfl hv (by omega) (by omega)) hX9.pins ?_
 refine dT (i := 7) rfl rfl (by kernel_rfl) (fun _ hS => zO (r := ys.getD j 0) rfl ag3 (z := (j : Int)) rfl hv hS (by omega) (by omega)) hX9.pins ?_
 refine dT (i := 8) rfl rfl (by kernel_rfl) (fun _ _ => kY rfl rfl) hX9.pins ?_
 refine yP (by kernel_rfl) (zA (yN (p := (xs.getD j 0 : Int) ≠ (ys.getD j 0)) rfl rfl (fun h10 => ?_) (fun h10 => ?_)))
 refine zG (zH ?_)
 refine qD rfl (zD (v := (.bool false)) rfl) (qe (zA ?_))
 exact wp_ret (zY (zW (v := (.bool false)) rfl rfl rfl (⟨congrArg (fun z => Ending.returned (Value.bool z)) (decide_eq_false (fun e => h10 (by rw [e]))).symm, hX9⟩)))
 refine wp_skip (yQ (zA (zH ?_)))
 refine qD rfl (zB (v := (.int .i64 (j : Int))) rfl) (qD rfl (yX rfl rfl (by omega)) (qD rfl (zD (v := (.int .i64 ((j : Int) + 1))) rfl) (qe (yS (⟨_, ?_, _, rfl, _, j + 1, (zC (x := 5) (zC (x := 1) (zX (x := 0) rfl) rfl) rfl), rfl, hX9, (by omega), heq, (eqstep hp h10)⟩)))))
 omega
 refine wp_exit (yI (yW (yV (zA (zG (zH ?_))))))
 refine qD rfl (zD (v := (.bool true)) rfl) (qe (zA ?_))
 exact wp_ret (zY (zW (v := (.bool true)) rfl rfl rfl (⟨congrArg (fun z => Ending.returned (Value.bool z)) (decide_eq_true (eqdone heq (by omega) hp)).symm, hX5⟩)))
theorem qK {w : World} {G Gr : Pin} {u v : Value} {a xs : List Int} (hP : Pins G w) (hPr : Pins Gr w) (hu : RSl eInt Gr u a) (hv : RSl eInt G v xs) (hs : xs.length ≤ 1048576) (hk : ∀ i, i < xs.length → 0 ≤ xs.getD i 0 ∧ xs.getD i 0 < a.length) :
  Calls Tryz.prog 77 [u, v].toArray w fun e w' => ∃ (u : Value) (G' : Pin), e = .returned u ∧ Own eInt 3 G' w' w.heap.size u (atL a xs) ∧ Ext noS G w G' w' := by
 refine yG (n := 25) Tryz.func77 Tryz.ntmps77 rfl rfl ?_
 have hX0 := exr noS hP
 refine zG (zH ?_)
 refine qD rfl (zD (v := (.slice none 0 0)) rfl) (qe (zA (zG (zH ?_))))
 refine qI rfl (xG (E := eInt) (e := 3) eU sz3 hX0.pins (fun u1 w2 ho3 hp4 hl5 hk6 => ?_))
 have hX7 := hX0.step hp4 hl5
 have ho8 := ho3.weaken hX0.size
 refine qD rfl (zD (v := u1) rfl) (qe (zA (zG (zG (zH ?_)))))
 refine qD rfl (zD (v := (.int .i64 0)) rfl) (qe (zA ?_))
 refine yH (yZ (fun (k : Nat) (en : Nat → Value) (W : World) => ∃ (env1 : Nat → Value) (j : Nat) (o : Value) (os : List Int), en = (upd (upd (upd (upd (upd env1 0 u) 1 v) 4 (.slice none 0 0)) 5 o) 6 (.int .i64 (j : Int))) ∧ k = xs.length - j ∧ Ext noS G w G W ∧ (j ≤ xs.length) ∧ (os = atL a (xs.take j)) ∧ (os.length = j) ∧ (Own eInt 3 G W w.heap.size o (os))) _ ⟨_, 0, u1, [], (zC (x := 6) (zC (x := 5) (zC (x := 4) (zC (x := 1) (zX (x := 0) rfl) rfl) rfl) rfl) rfl), rfl, hX7, Nat.zero_le _, rfl, rfl, ho8⟩ ?_)
 rintro k9 _ w10 ⟨env1, j, o, os, rfl, hk11, hX12, hj, hr, hol, hw13⟩
 refine zG (zG (zH ?_))
 refine qD rfl (zB (v := (.int .i64 (j : Int))) rfl) (qD rfl (zB (v := v) rfl) (qD rfl (zT eU (v := v) rfl hv) (qD rfl (xB rfl rfl) (qe (zA ?_)))))
 refine yN (p := ((j : Int) : Int) < (xs.length : Int)) rfl rfl (fun h14 => ?_) (fun h14 => ?_)
 have hkj := hk j (by omega)
 refine wp_skip (zA (zG ?_))
 refine yH (zH (qD rfl (zB (v := o) rfl) (qD rfl (zB (v := u) rfl) (qD rfl (zB (v := v) rfl) (qD rfl (zB (v := (.int .i64 (j : Int))) rfl) (qD rfl (zN eU sz3 (v := v) rfl rfl hv (by omega) (by omega)) (qD rfl (zO (r := xs.getD j 0) rfl ag3 (z := (j : Int)) rfl hv hX12.pins (by omega) (by omega)) (qD rfl (zN eU sz3 (v := u) rfl rfl hu (by omega) (by omega)) (qD rfl (zO (r := a.getD (xs.getD j 0).toNat 0) rfl ag3 (z := (xs.getD j 0)) rfl hu (hPr.ext0 hX12) (by omega) (by omega)) (qI rfl (yY (E := eInt) (e := 3) [(.int .i64 (a.getD (xs.getD j 0).toNat 0))] [a.getD (xs.getD j 0).toNat 0] eU sz3 zr3 (by exact xT (by rfl)) (yM (by rfl)) rfl rfl rfl rfl (by decide) hX12.pins (fun u15 w16 ho17 hp18 hl19 hk20 => ?_))))))))))))
 have hX21 := hX12.step hp18 hl19
 have ho22 := hw13.below hl19
 have ho24 := ho17.weaken hX12.size
 refine qI rfl (zZ (E := eInt) (v := o) (u := u15) 8 eU ap3 (by decide) rfl rfl hX21.pins ho22 ho24.src (by first | omega | (rw [List.nil_append]; omega) | (rw [List.length_nil]; omega) | (rw [List.length_append]; omega) | (simp; done) | (simp; omega) | (simp only [List.length_append, List.length_cons, List.length_nil]; omega)) (by first | omega | (rw [List.nil_append]; omega) | (rw [List.length_nil]; omega) | (rw [List.length_append]; omega) | (simp; done) | (simp; omega) | (simp only [List.length_append, List.length_cons, List.length_nil]; omega)) (hX21.size) (fun u25 w26 ho27 hp28 hg29 hw30 => ?_))
 have hX31 := hX21.write hp28 hg29 ((yD ho22))
 have hm34 := la1 os (a.getD (xs.getD j 0).toNat 0)
 refine qD rfl (zD (v := u25) rfl) (qe (yQ (zA (zH ?_))))
 refine qD rfl (zB (v := (.int .i64 (j : Int))) rfl) (qD rfl (yX rfl rfl (by omega)) (qD rfl (zD (v := (.int .i64 ((j : Int) + 1))) rfl) (qe (yS (⟨_, ?_, _, rfl, _, j + 1, u25, os ++ [a.getD (xs.getD j 0).toNat 0], (zC (x := 6) (zC (x := 5) (zC (x := 4) (zC (x := 1) (zX (x := 0) rfl) rfl) rfl) rfl) rfl), rfl, hX31, (by omega), (by rw [hr, at_next (by omega)]), (by rw [List.length_append, hol]; rfl), ho27⟩)))))
 omega
 refine wp_exit (yI (yW (yV (zA (zG (zH ?_))))))
 refine qD rfl (zB (v := o) rfl) (qD rfl (zD (v := o) rfl) (qe (zA ?_)))
 exact wp_ret (zY (zW (v := o) rfl rfl rfl (⟨_, _, rfl, (by rw [jI (by omega)] at hr; rw [← hr]; exact hw13), hX12⟩)))
theorem qB {w : World} {G : Pin} {v : Value} {xs : List Int} (hP : Pins G w) (hv : RSl eInt G v xs) (hs : xs.length ≤ 1048576) :
  Calls Tryz.prog 129 [v].toArray w fun e w' => ∃ (u : Value) (G' : Pin), e = .returned u ∧ RSl eInt G' u (sortL xs) ∧ Ext noS G w G' w' := by
 refine yG (n := 19) Tryz.func129 Tryz.ntmps129 rfl rfl ?_
 have hX0 := exr noS hP
 refine zG (zH ?_)
 refine qD rfl (zD (v := (.slice none 0 0)) rfl) (qe (zA (zG (zH ?_))))
 refine qI rfl (xG (E := eInt) (e := 3) eU sz3 hX0.pins (fun u1 w2 ho3 hp4 hl5 hk6 => ?_))
 have hX7 := hX0.step hp4 hl5
 have ho8 := ho3.weaken hX0.size
 refine qD rfl (zD (v := u1) rfl) (qe (zA (zG (zG (zH ?_)))))
 refine qD rfl (zD (v := (.int .i64 0)) rfl) (qe (zA ?_))
 refine yH ?_
 obtain ⟨G13, hle16, hX15, hr14, hf17⟩ := ho8.sealed hX7
 refine yZ (fun (k : Nat) (en : Nat → Value) (W : World) => ∃ (env1 : Nat → Value) (j : Nat) (o : Value) (os : List Int) (GL1 : Pin), en = (upd (upd (upd (upd env1 0 v) 2 (.slice none 0 0)) 3 o) 4 (.int .i64 (j : Int))) ∧ k = xs.length - j ∧ Ext noS G w GL1 W ∧ Pin.le G13 GL1 ∧ (j ≤ xs.length) ∧ (os = sortL (xs.take j)) ∧ (os.length ≤ j) ∧ (RSl eInt GL1 o (os))) _ ⟨_, 0, u1, [], G13, (zC (x := 4) (zC (x := 3) (zC (x := 2) (zX (x := 0) rfl) rfl) rfl) rfl), rfl, hX15, Pin.le_refl _, Nat.zero_le _, rfl, Nat.le_refl 0, hr14⟩ ?_
 rintro k9 _ w10 ⟨env1, j, o, os, GL1, rfl, hk11, hX12, hlek9, hj, hr, hol, hr18⟩
 refine zG (zG (zH ?_))
 refine qD rfl (zB (v := (.int .i64 (j : Int))) rfl) (qD rfl (zB (v := v) rfl) (qD rfl (zT eU (v := v) rfl hv) (qD rfl (xB rfl rfl) (qe (zA ?_)))))
 refine yN (p := ((j : Int) : Int) < (xs.length : Int)) rfl rfl (fun h19 => ?_) (fun h19 => ?_)
 refine wp_skip (zA (zG ?_))
 refine yH (zH (qD rfl (zB (v := o) rfl) (qD rfl (zB (v := v) rfl) (qD rfl (zB (v := (.int .i64 (j : Int))) rfl) (qD rfl (zN eU sz3 (v := v) rfl rfl hv (by omega) (by omega)) (qD rfl (zO (r := xs.getD j 0) rfl ag3 (z := (j : Int)) rfl hv (dO hX12.pins (dN hle16 hlek9)) (by omega) (by omega)) (qI rfl (zM (vs := [o, (.int .i64 (xs.getD j 0))]) Tryz.func125 nm125 rfl rfl rfl ?_))))))))
 refine dP (gD hX12.pins hr18 (by omega)) ?_
 rintro _ w22 ⟨u20, G21, rfl, hr23, hx24⟩
 refine ⟨_, rfl, ?_⟩
 have hX25 := hX12.tr hx24
 refine qD rfl (zD (v := u20) rfl) (qe (yQ (zA (zH ?_))))
 refine qD rfl (zB (v := (.int .i64 (j : Int))) rfl) (qD rfl (yX rfl rfl (by omega)) (qD rfl (zD (v := (.int .i64 ((j : Int) + 1))) rfl) (qe (yS (⟨_, ?_, _, rfl, _, j + 1, u20, putL os (xs.getD j 0), G21, (zC (x := 4) (zC (x := 3) (zC (x := 2) (zX (x := 0) rfl) rfl) rfl) rfl), rfl, hX25, (dN hlek9 hx24.le), (by omega), (by rw [hr, tI (by omega)]), (Nat.le_trans jZ (by omega)), hr23⟩)))))
 omega
 refine wp_exit (yI (yW (yV (zA (zG (zH ?_))))))
 refine qD rfl (zB (v := o) rfl) (qD rfl (zD (v := o) rfl) (qe (zA ?_)))
 exact wp_ret (zY (zW (v := o) rfl rfl rfl (⟨_, _, rfl, (by rw [jI (by omega)] at hr; rw [← hr]; exact hr18), hX12⟩)))
end C1
end Go.Proofs.YtajkbplgbikgdaaGreatDoor
namespace Go.Proofs.YtajkbplgbikgdaaGreatDoor
namespace D1
open Go.RowKit Go.GL Go.Proofs
open C1
theorem pl65 : (Tryz.prog.underlying 65).bind (placesD Tryz.prog) = some [(0, 1), (1, 1)] := by kernel_rfl
theorem rL {w : World} {G : Pin} {u v : Value} {xs ys : List Int} (hP : Pins G w) (hu : RSl eInt G u xs) (hv : RSl eInt G v ys) :
  Calls Tryz.prog 182 [u, v].toArray w fun e w' => e = .returned (.int .i64 (cmpL xs ys)) ∧ Ext noS G w G w' := by
 refine yG (n := 48) Tryz.func182 Tryz.ntmps182 rfl rfl ?_
 have hX0 := exr noS hP
 have hm := hu.max
 refine zG (zH ?_)
 refine qD rfl (zD (v := (.int .i64 0)) rfl) (qe (zA (zG (zG (zH ?_)))))
 refine qD rfl (zD (v := (.int .i64 0)) rfl) (qe (zA ?_))
 refine yH (yZ (fun (k : Nat) (en : Nat → Value) (W : World) => ∃ (env1 : Nat → Value) (j : Nat), en = (upd (upd (upd env1 0 u) 1 v) 5 (.int .i64 (j : Int))) ∧ k = xs.length - j ∧ Ext noS G w G W ∧ (j ≤ xs.length ∧ j ≤ ys.length) ∧ (cmpL xs ys = cmpL (xs.drop j) (ys.drop j))) _ ⟨_, 0, (zC (x := 5) (zC (x := 1) (zX (x := 0) rfl) rfl) rfl), rfl, hX0, ⟨Nat.zero_le _, Nat.zero_le _⟩, rfl⟩ ?_)
 rintro k1 _ w2 ⟨env1, j, rfl, hk3, hX4, hj, hr⟩
 refine zG (zG (zH ?_))
 refine qD rfl (zB (v := (.int .i64 (j : Int))) rfl) (qD rfl (zB (v := u) rfl) (qD rfl (zT eU (v := u) rfl hu) (qD rfl (xB rfl rfl) (qD rfl (zB (v := (.bool (decide (((j : Int) : Int) < (xs.length : Int))))) rfl) (qbd (p := ((j : Int) : Int) < (xs.length : Int)) (t := 10) rfl (fun h5 => ?_) (fun h5 => ?_))))))
 refine qdg rfl rfl rfl rfl rfl rfl (zB (v := (.int .i64 (j : Int))) rfl) (qdg rfl rfl rfl rfl rfl rfl (zB (v := v) rfl) (qdg rfl rfl rfl rfl rfl rfl (zT eU (v := v) rfl hv) (qdg rfl rfl rfl rfl rfl rfl (xB rfl rfl) (qD rfl (xI (v := (.bool (decide (((j : Int) : Int) < (ys.length : Int))))) rfl rfl) (qe (zA ?_))))))
 refine yN (p := ((j : Int) : Int) < (ys.length : Int)) rfl rfl (fun h6 => ?_) (fun h6 => ?_)
 refine wp_skip (zA (zG ?_))
 refine yH (zG (xD (S := fun wz => Pins G wz) (last := 9) (by kernel_rfl) rfl ?_))
 have hl7 := bdr w2
 have hp8 := hX4.pins.below hl7
 have hX9 := hX4.step hp8 hl7
 refine dT (i := 0) rfl rfl (by kernel_rfl) (fun _ _ => zB (v := u) rfl) hX9.pins ?_
 refine dT (i := 1) rfl rfl (by kernel_rfl) (fun _ _ => zB (v := (.int .i64 (j : Int))) rfl) hX9.pins ?_
 refine dT (i := 2) rfl rfl (by kernel_rfl) (fun _ _ => zN eU sz3 (v := u) rfl rfl hu (by omega) (by omega)) hX9.pins ?_
 refine dT (i := 3) rfl rfl (by kernel_rfl) (fun _ hS => zO (r := xs.getD j 0) rfl ag3 (z := (j : Int)) rfl hu hS (by omega) (by omega)) hX9.pins ?_
 refine dT (i := 4) rfl rfl (by kernel_rfl) (fun _ _ => zB (v := v) rfl) hX9.pins ?_
 refine dT (i := 5) rfl rfl (by kernel_rfl) (fun _ _ => zB (v := (.int .i64 (j : Int))) rfl) hX9.pins ?_
 refine dT (i := 6) rfl rfl (by kernel_rfl) (fun _ _ => zN eU sz3 (v := v) rfl rfl hv (by omega) (by omega)) hX9.pins ?_
 refine dT (i := 7) rfl rfl (by kernel_rfl) (fun _ hS => zO (r := ys.getD j 0) rfl ag3 (z := (j : Int)) rfl hv hS (by omega) (by omega)) hX9.pins ?_
 refine dT (i := 8) rfl rfl (by kernel_rfl) (fun _ _ => kY rfl rfl) hX9.pins ?_
 refine yP (by kernel_rfl) (zA (yN (p := (xs.getD j 0 : Int) ≠ (ys.getD j 0)) rfl rfl (fun h10 => ?_) (fun h10 => ?_)))
 refine zG (zG ?_)
 refine xD (S := fun wz => Pins G wz) (last := 9) (by kernel_rfl) rfl ?_
 have hl11 : Below w2.drew.heap.size w2.drew w2.drew.drew := (Below.refl _ _).drew
 have hp12 := hX9.pins.below hl11
 have hX13 := hX9.step hp12 hl11
 refine dT (i := 0) rfl rfl (by kernel_rfl) (fun _ _ => zB (v := u) rfl) hX13.pins ?_
 refine dT (i := 1) rfl rfl (by kernel_rfl) (fun _ _ => zB (v := (.int .i64 (j : Int))) rfl) hX13.pins ?_
 refine dT (i := 2) rfl rfl (by kernel_rfl) (fun _ _ => zN eU sz3 (v := u) rfl rfl hu (by omega) (by omega)) hX13.pins ?_
 refine dT (i := 3) rfl rfl (by kernel_rfl) (fun _ hS => zO (r := xs.getD j 0) rfl ag3 (z := (j : Int)) rfl hu hS (by omega) (by omega)) hX13.pins ?_
 refine dT (i := 4) rfl rfl (by kernel_rfl) (fun _ _ => zB (v := v) rfl) hX13.pins ?_
 refine dT (i := 5) rfl rfl (by kernel_rfl) (fun _ _ => zB (v := (.int .i64 (j : Int))) rfl) hX13.pins ?_
 refine dT (i := 6) rfl rfl (by kernel_rfl) (fun _ _ => zN eU sz3 (v := v) rfl rfl hv (by omega) (by omega)) hX13.pins ?_
 refine dT (i := 7) rfl rfl (by kernel_rfl) (fun _ hS => zO (r := ys.getD j 0) rfl ag3 (z := (j : Int)) rfl hv hS (by omega) (by omega)) hX13.pins ?_
 refine dT (i := 8) rfl rfl (by kernel_rfl) (fun _ _ => xB rfl rfl) hX13.pins ?_
 refine yP (by kernel_rfl) (zA (yN (p := (xs.getD j 0 : Int) < (ys.getD j 0)) rfl rfl (fun h14 => ?_) (fun h14 => ?_)))
 refine zG (zH ?_)
 refine qD rfl (zD (v := (.int .i64 (-1))) rfl) (qe (zA ?_))
 exact wp_ret (zY (zW (v := (.int .i64 (-1))) rfl rfl rfl (⟨congrArg (fun z => Ending.returned (Value.int .i64 z)) ((hr.trans ((eD (by omega) (by omega) (by unfold cmpI; split <;> omega)).trans (by unfold cmpI; rw [if_pos h14]))).symm), hX13⟩)))
 refine wp_skip (zA (zG (zH ?_)))
 refine qD rfl (zD (v := (.int .i64 1)) rfl) (qe (zA ?_))
 exact wp_ret (zY (zW (v := (.int .i64 1)) rfl rfl rfl (⟨congrArg (fun z => Ending.returned (Value.int .i64 z)) ((hr.trans ((eD (by omega) (by omega) (by unfold cmpI; split <;> omega)).trans (by unfold cmpI; rw [if_neg h14, if_pos (by omega)]))).symm), hX13⟩)))
 refine wp_skip (yQ (zA (zH ?_)))
 refine qD rfl (zB (v := (.int .i64 (j : Int))) rfl) (qD rfl (yX rfl rfl (by omega)) (qD rfl (zD (v := (.int .i64 ((j : Int) + 1))) rfl) (qe (yS (⟨_, ?_, _, rfl, _, j + 1, (zC (x := 5) (zC (x := 1) (zX (x := 0) rfl) rfl) rfl), rfl, hX9, (by omega), (hr.trans (cmpL_eq (by omega) (by omega) (by unfold cmpI; rw [if_neg (by omega), if_neg (by omega)]; omega)))⟩)))))
 omega
 refine wp_exit (yI (yW (yV (zA (zG ?_)))))
 refine yH (zG (zH ?_))
 refine qD rfl (zB (v := u) rfl) (qD rfl (zT eU (v := u) rfl hu) (qD rfl (zB (v := v) rfl) (qD rfl (zT eU (v := v) rfl hv) (qD rfl (xB rfl rfl) (qD rfl (zD (v := (.bool (decide (((xs.length : Int) : Int) < (ys.length : Int))))) rfl) (qe (zA ?_)))))))
 refine yN (p := ((xs.length : Int) : Int) < (ys.length : Int)) rfl rfl (fun h15 => ?_) (fun h15 => ?_)
 refine zG (zH ?_)
 refine qD rfl (zD (v := (.int .i64 (-1))) rfl) (qe (zA ?_))
 exact wp_ret (zY (zW (v := (.int .i64 (-1))) rfl rfl rfl (⟨congrArg (fun z => Ending.returned (Value.int .i64 z)) ((hr.trans (rA (by omega) (by omega))).symm), hX4⟩)))
 refine zG (zH ?_)
 refine qD rfl (zB (v := u) rfl) (qD rfl (zT eU (v := u) rfl hu) (qD rfl (zB (v := v) rfl) (qD rfl (zT eU (v := v) rfl hv) (qD rfl (jY rfl rfl) (qD rfl (zD (v := (.bool (decide (((ys.length : Int) : Int) < (xs.length : Int))))) rfl) (qe (zA ?_)))))))
 refine yN (p := ((ys.length : Int) : Int) < (xs.length : Int)) rfl rfl (fun h16 => ?_) (fun h16 => ?_)
 refine zG (zH ?_)
 refine qD rfl (zD (v := (.int .i64 1)) rfl) (qe (zA ?_))
 exact wp_ret (zY (zW (v := (.int .i64 1)) rfl rfl rfl (⟨congrArg (fun z => Ending.returned (Value.int .i64 z)) ((hr.trans (tZ (by omega) (by omega))).symm), hX4⟩)))
 refine wp_skip (yQ (zA (zG (zH ?_))))
 refine qD rfl (zD (v := (.int .i64 0)) rfl) (qe (zA ?_))
 exact wp_ret (zY (zW (v := (.int .i64 0)) rfl rfl rfl (⟨congrArg (fun z => Ending.returned (Value.int .i64 z)) ((hr.trans (tY (by omega) (by omega))).symm), hX4⟩)))
 refine qs rfl rfl rfl rfl rfl rfl (qs rfl rfl rfl rfl rfl rfl (qs rfl rfl rfl rfl rfl rfl (qs rfl rfl rfl rfl rfl rfl (qD rfl (xA (v := (.bool false)) rfl rfl) (qe (zA ?_))))))
 refine vE rfl rfl (wp_exit (yI (yW (yV (zA (zG ?_))))))
 refine yH (zG (zH ?_))
 refine qD rfl (zB (v := u) rfl) (qD rfl (zT eU (v := u) rfl hu) (qD rfl (zB (v := v) rfl) (qD rfl (zT eU (v := v) rfl hv) (qD rfl (xB rfl rfl) (qD rfl (zD (v := (.bool (decide (((xs.length : Int) : Int) < (ys.length : Int))))) rfl) (qe (zA ?_)))))))
 refine yN (p := ((xs.length : Int) : Int) < (ys.length : Int)) rfl rfl (fun h17 => ?_) (fun h17 => ?_)
 refine zG (zH ?_)
 refine qD rfl (zD (v := (.int .i64 (-1))) rfl) (qe (zA ?_))
 exact wp_ret (zY (zW (v := (.int .i64 (-1))) rfl rfl rfl (⟨congrArg (fun z => Ending.returned (Value.int .i64 z)) ((hr.trans (rA (by omega) (by omega))).symm), hX4⟩)))
 refine zG (zH ?_)
 refine qD rfl (zB (v := u) rfl) (qD rfl (zT eU (v := u) rfl hu) (qD rfl (zB (v := v) rfl) (qD rfl (zT eU (v := v) rfl hv) (qD rfl (jY rfl rfl) (qD rfl (zD (v := (.bool (decide (((ys.length : Int) : Int) < (xs.length : Int))))) rfl) (qe (zA ?_)))))))
 refine yN (p := ((ys.length : Int) : Int) < (xs.length : Int)) rfl rfl (fun h18 => ?_) (fun h18 => ?_)
 refine zG (zH ?_)
 refine qD rfl (zD (v := (.int .i64 1)) rfl) (qe (zA ?_))
 exact wp_ret (zY (zW (v := (.int .i64 1)) rfl rfl rfl (⟨congrArg (fun z => Ending.returned (Value.int .i64 z)) ((hr.trans (tZ (by omega) (by omega))).symm), hX4⟩)))
 refine wp_skip (yQ (zA (zG (zH ?_))))
 refine qD rfl (zD (v := (.int .i64 0)) rfl) (qe (zA ?_))
 exact wp_ret (zY (zW (v := (.int .i64 0)) rfl rfl rfl (⟨congrArg (fun z => Ending.returned (Value.int .i64 z)) ((hr.trans (tY (by omega) (by omega))).symm), hX4⟩)))
theorem tR {w : World} {G : Pin} {al ar bl br : Value} {a b : Nd} (hP : Pins G w) (hal : RSl eInt G al a.l) (har : RSl eInt G ar a.r) (hbl : RSl eInt G bl b.l) (hbr : RSl eInt G br b.r) :
  Calls Tryz.prog 130 [(.agg [al, ar].toArray), (.agg [bl, br].toArray)].toArray w fun e w' => ∃ G', e = .returned (.bool (decide (aheadI a b < 0))) ∧ Ext noS G w G' w' := by
 refine yG (n := 21) Tryz.func130 Tryz.ntmps130 rfl rfl ?_
 have hX0 := exr noS hP
 refine zG (zH ?_)
 refine qI rfl (xW [al, ar] (v := (.agg [al, ar].toArray)) rfl rfl hX0.pins (fun b1 w2 hk3 hb4 hp5 hl6 => ?_))
 have hX7 := hX0.step hp5 hl6
 have hlo8 : w.heap.size ≤ b1 := by have := hX0.size; omega
 obtain ⟨G9, hle10, hX11, hbp12, hf13⟩ := hb4.shut hX7 hlo8
 refine qI rfl (xW [bl, br] (v := (.agg [bl, br].toArray)) rfl rfl hX11.pins (fun b14 w15 hk16 hb17 hp18 hl19 => ?_))
 have hX20 := hX11.step hp18 hl19
 have hlo21 : w.heap.size ≤ b14 := by have := hX11.size; omega
 obtain ⟨G22, hle23, hX24, hbp25, hf26⟩ := hb17.shut hX20 hlo21
 refine qD rfl (zD (v := (.bool false)) rfl) (qe (zA (zG (zG (zH ?_)))))
 refine qD rfl (zR (k := 0) rfl eX rfl nz59 rfl) (qD rfl (zS (u := al) ag59 rfl ((dO hX24.pins hle23) _ _ _ (hbp12 0 _ rfl))) (qD rfl (zR (k := 0) rfl eX rfl nz59 rfl) (qD rfl (zS (u := bl) ag59 rfl (hX24.pins _ _ _ (hbp25 0 _ rfl))) (qI rfl (zM (vs := [al, bl]) Tryz.func182 nm182 rfl rfl rfl ?_)))))
 refine dP (rL hX24.pins (hal.mono (dN hle10 hle23)) (hbl.mono (dN hle10 hle23))) ?_
 rintro _ w27 ⟨rfl, hx28⟩
 refine ⟨_, rfl, ?_⟩
 have hX29 := hX24.step hx28.pins hx28.below
 refine qD rfl (zD (v := (.int .i64 (cmpL a.l b.l))) rfl) (qe (zA (zG (zH ?_))))
 refine qD rfl (zB (v := (.int .i64 (cmpL a.l b.l))) rfl) (qD rfl (kY rfl rfl) (qe (zA ?_)))
 refine yN (p := (cmpL a.l b.l : Int) ≠ 0) rfl rfl (fun h30 => ?_) (fun h30 => ?_)
 refine zG (zH ?_)
 refine qD rfl (zB (v := (.int .i64 (cmpL a.l b.l))) rfl) (qD rfl (xB rfl rfl) (qD rfl (zD (v := (.bool (decide ((cmpL a.l b.l : Int) < 0)))) rfl) (qe (zA ?_))))
 exact wp_ret (zY (zW (v := (.bool (decide ((cmpL a.l b.l : Int) < 0)))) rfl rfl rfl (⟨_, congrArg (fun z => Ending.returned (Value.bool z)) (by rw [vR h30]), hX29⟩)))
 refine wp_skip (zA (zG (zH ?_)))
 refine qD rfl (zR (k := 1) rfl eX rfl nz59 rfl) (qD rfl (zS (u := ar) ag59 rfl ((dO hX29.pins hle23) _ _ _ (hbp12 1 _ rfl))) (qD rfl (zR (k := 1) rfl eX rfl nz59 rfl) (qD rfl (zS (u := br) ag59 rfl (hX29.pins _ _ _ (hbp25 1 _ rfl))) (qI rfl (zM (vs := [ar, br]) Tryz.func182 nm182 rfl rfl rfl ?_)))))
 refine dP (rL hX29.pins (har.mono (dN hle10 hle23)) (hbr.mono (dN hle10 hle23))) ?_
 rintro _ w31 ⟨rfl, hx32⟩
 refine ⟨_, rfl, ?_⟩
 have hX33 := hX29.step hx32.pins hx32.below
 refine qD rfl (xB rfl rfl) (qD rfl (zD (v := (.bool (decide ((cmpL a.r b.r : Int) < 0)))) rfl) (qe (zA ?_)))
 exact wp_ret (zY (zW (v := (.bool (decide ((cmpL a.r b.r : Int) < 0)))) rfl rfl rfl (⟨_, congrArg (fun z => Ending.returned (Value.bool z)) (by rw [vF (by omega)]), hX33⟩)))
theorem l3Same_spec {w : World} {G : Pin} {u v : Value} {xs ys : List Nd} (hP : Pins G w) (hu : RSl eNode G u xs) (hv : RSl eNode G v ys) :
  Calls Tryz.prog 123 [(.agg [u].toArray), (.agg [v].toArray)].toArray w fun e w' => ∃ G', e = .returned (.bool (decide (xs = ys))) ∧ Ext noS G w G' w' := by
 refine yG (n := 50) Tryz.func123 Tryz.ntmps123 rfl rfl ?_
 have hX0 := exr noS hP
 have hm := hu.max
 refine zG (zH ?_)
 refine qI rfl (xW [u] (v := (.agg [u].toArray)) rfl rfl hX0.pins (fun b1 w2 hk3 hb4 hp5 hl6 => ?_))
 have hX7 := hX0.step hp5 hl6
 have hlo8 : w.heap.size ≤ b1 := by have := hX0.size; omega
 obtain ⟨G9, hle10, hX11, hbp12, hf13⟩ := hb4.shut hX7 hlo8
 refine qI rfl (xW [v] (v := (.agg [v].toArray)) rfl rfl hX11.pins (fun b14 w15 hk16 hb17 hp18 hl19 => ?_))
 have hX20 := hX11.step hp18 hl19
 have hlo21 : w.heap.size ≤ b14 := by have := hX11.size; omega
 obtain ⟨G22, hle23, hX24, hbp25, hf26⟩ := hb17.shut hX20 hlo21
 refine qD rfl (zD (v := (.bool false)) rfl) (qe (zA (zG (zG (zH ?_)))))
 refine qD rfl (zR (k := 0) rfl eW rfl nz24 rfl) (qD rfl (zS (u := u) ag24 rfl ((dO hX24.pins hle23) _ _ _ (hbp12 0 _ rfl))) (qD rfl (zT eV (v := u) rfl hu) (qD rfl (zR (k := 0) rfl eW rfl nz24 rfl) (qD rfl (zS (u := v) ag24 rfl (hX24.pins _ _ _ (hbp25 0 _ rfl))) (qD rfl (zT eV (v := v) rfl hv) (qD rfl (kY rfl rfl) (qe (zA ?_))))))))
 refine yN (p := ((xs.length : Int) : Int) ≠ (ys.length : Int)) rfl rfl (fun h27 => ?_) (fun h27 => ?_)
 refine zG (zH ?_)
 refine qD rfl (zD (v := (.bool false)) rfl) (qe (zA ?_))
 exact wp_ret (zY (zW (v := (.bool false)) rfl rfl rfl (⟨_, congrArg (fun z => Ending.returned (Value.bool z)) (decide_eq_false (fun e => h27 (by rw [e]))).symm, hX24⟩)))
 refine wp_skip (zA (zG (zG (zH ?_))))
 refine qD rfl (zD (v := (.int .i64 0)) rfl) (qe (zA ?_))
 refine yH (yZ (fun (k : Nat) (en : Nat → Value) (W : World) => ∃ (env1 : Nat → Value) (j : Nat), en = (upd (upd (upd env1 2 (.pointer (some ⟨b1, 0, none⟩))) 3 (.pointer (some ⟨b14, 0, none⟩))) 5 (.int .i64 (j : Int))) ∧ k = xs.length - j ∧ Ext noS G w G22 W ∧ (j ≤ xs.length) ∧ (xs.length = ys.length) ∧ (∀ i, i < j → xs.getD i default = ys.getD i default)) _ ⟨_, 0, (zC (x := 5) (zC (x := 3) (zX (x := 2) rfl) rfl) rfl), rfl, hX24, Nat.zero_le _, (by omega), (fun i hi => absurd hi (Nat.not_lt_zero i))⟩ ?_)
 rintro k28 _ w29 ⟨env1, j, rfl, hk30, hX31, hj, heq, hp⟩
 refine zG (zG (zH ?_))
 refine qD rfl (zB (v := (.int .i64 (j : Int))) rfl) (qD rfl (zR (k := 0) rfl eW rfl nz24 rfl) (qD rfl (zS (u := u) ag24 rfl ((dO hX31.pins hle23) _ _ _ (hbp12 0 _ rfl))) (qD rfl (zT eV (v := u) rfl hu) (qD rfl (xB rfl rfl) (qe (zA ?_))))))
 refine yN (p := ((j : Int) : Int) < (xs.length : Int)) rfl rfl (fun h32 => ?_) (fun h32 => ?_)
 refine wp_skip (zA (zG ?_))
 refine yH (zG (xD (S := fun wz => Pins G22 wz) (last := 30) (by kernel_rfl) rfl ?_))
 have hl33 := bdr w29
 have hp34 := hX31.pins.below hl33
 have hX35 := hX31.step hp34 hl33
 refine dT (i := 0) rfl rfl (by kernel_rfl) (fun _ _ => zR (k := 0) rfl eW rfl nz24 rfl) hX35.pins ?_
 refine dT (i := 1) rfl rfl (by kernel_rfl) (fun _ hS => zS (u := u) ag24 rfl ((dO hS hle23) _ _ _ (hbp12 0 _ rfl))) hX35.pins ?_
 refine dT (i := 2) rfl rfl (by kernel_rfl) (fun _ _ => zB (v := (.int .i64 (j : Int))) rfl) hX35.pins ?_
 refine dT (i := 3) rfl rfl (by kernel_rfl) (fun _ _ => zN eV sz65 (v := u) rfl rfl hu (by omega) (by omega)) hX35.pins ?_
 refine dT (i := 4) rfl rfl (by kernel_rfl) (fun _ _ => xP (off := 0) eX rfl rfl nz59 (z := (j : Int)) (k := 0) rfl hu (by omega) (by omega)) hX35.pins ?_
 obtain ⟨u36, hr37, hl38⟩ := vZ (hu.at (z := (j : Int)) (by omega) (by omega)) (j := j) rfl
 have hm39 := hr37.max
 refine dT (i := 5) rfl rfl (by kernel_rfl) (fun _ hS => hl38 ag59 rfl (dO hS (dN hle10 hle23))) hX35.pins ?_
 refine dT (i := 6) rfl rfl (by kernel_rfl) (fun _ _ => zR (k := 0) rfl eW rfl nz24 rfl) hX35.pins ?_
 refine dT (i := 7) rfl rfl (by kernel_rfl) (fun _ hS => zS (u := v) ag24 rfl (hS _ _ _ (hbp25 0 _ rfl))) hX35.pins ?_
 refine dT (i := 8) rfl rfl (by kernel_rfl) (fun _ _ => zB (v := (.int .i64 (j : Int))) rfl) hX35.pins ?_
 refine dT (i := 9) rfl rfl (by kernel_rfl) (fun _ _ => zN eV sz65 (v := v) rfl rfl hv (by omega) (by omega)) hX35.pins ?_
 refine dT (i := 10) rfl rfl (by kernel_rfl) (fun _ _ => xP (off := 0) eX rfl rfl nz59 (z := (j : Int)) (k := 0) rfl hv (by omega) (by omega)) hX35.pins ?_
 obtain ⟨u40, hr41, hl42⟩ := vZ (hv.at (z := (j : Int)) (by omega) (by omega)) (j := j) rfl
 have hm43 := hr41.max
 refine dT (i := 11) rfl rfl (by kernel_rfl) (fun _ hS => hl42 ag59 rfl (dO hS (dN hle10 hle23))) hX35.pins ?_
 refine zQ (i := 12) (by kernel_rfl) (zU (i := 12) rfl rfl rfl (zI rfl _) (zM (vs := [u36, u40]) Tryz.func127 nm127 rfl rfl rfl ?_))
 refine dP (kA hX35.pins (hr37.mono (dN hle10 hle23)) (hr41.mono (dN hle10 hle23))) ?_
 rintro _ w44 ⟨rfl, hx45⟩
 refine ⟨_, rfl, ?_⟩
 have hX46 := hX35.step hx45.pins hx45.below
 refine ⟨fun _ => hX46.pins, ?_⟩
 refine dT (i := 13) rfl rfl (by kernel_rfl) (fun _ _ => qR rfl) hX46.pins ?_
 refine dT (i := 14) rfl rfl (by kernel_rfl) (fun _ _ => zB (v := (.bool (!(decide (((xs.getD j default).l) = ((ys.getD j default).l)))))) rfl) hX46.pins ?_
 refine drbn (t := 34) rfl (fun h47 => ?_) (fun h47 => ?_)
 replace h47 := of_decide_eq_true h47
 refine yL (i := 15) rfl rfl rfl (yB rfl rfl rfl rfl) (by kernel_rfl) (fun _ _ => zR (k := 0) rfl eW rfl nz24 rfl) hX46.pins (yL (i := 16) rfl rfl rfl (yB rfl rfl rfl rfl) (by kernel_rfl) (fun _ hS => zS (u := u) ag24 rfl ((dO hS hle23) _ _ _ (hbp12 0 _ rfl))) hX46.pins (yL (i := 17) rfl rfl rfl (yB rfl rfl rfl rfl) (by kernel_rfl) (fun _ _ => zB (v := (.int .i64 (j : Int))) rfl) hX46.pins (yL (i := 18) rfl rfl rfl (yB rfl rfl rfl rfl) (by kernel_rfl) (fun _ _ => zN eV sz65 (v := u) rfl rfl hu (by omega) (by omega)) hX46.pins (yL (i := 19) rfl rfl rfl (yB rfl rfl rfl rfl) (by kernel_rfl) (fun _ _ => xP (off := 1) eX rfl rfl nz59 (z := (j : Int)) (k := 0) rfl hu (by omega) (by omega)) hX46.pins ?_))))
 obtain ⟨u48, hr49, hl50⟩ := kG (hu.at (z := (j : Int)) (by omega) (by omega)) (j := j) rfl
 have hm51 := hr49.max
 refine yL (i := 20) rfl rfl rfl (yB rfl rfl rfl rfl) (by kernel_rfl) (fun _ hS => hl50 ag59 rfl (dO hS (dN hle10 hle23))) hX46.pins (yL (i := 21) rfl rfl rfl (yB rfl rfl rfl rfl) (by kernel_rfl) (fun _ _ => zR (k := 0) rfl eW rfl nz24 rfl) hX46.pins (yL (i := 22) rfl rfl rfl (yB rfl rfl rfl rfl) (by kernel_rfl) (fun _ hS => zS (u := v) ag24 rfl (hS _ _ _ (hbp25 0 _ rfl))) hX46.pins (yL (i := 23) rfl rfl rfl (yB rfl rfl rfl rfl) (by kernel_rfl) (fun _ _ => zB (v := (.int .i64 (j : Int))) rfl) hX46.pins (yL (i := 24) rfl rfl rfl (yB rfl rfl rfl rfl) (by kernel_rfl) (fun _ _ => zN eV sz65 (v := v) rfl rfl hv (by omega) (by omega)) hX46.pins (yL (i := 25) rfl rfl rfl (yB rfl rfl rfl rfl) (by kernel_rfl) (fun _ _ => xP (off := 1) eX rfl rfl nz59 (z := (j : Int)) (k := 0) rfl hv (by omega) (by omega)) hX46.pins ?_)))))
 obtain ⟨u52, hr53, hl54⟩ := kG (hv.at (z := (j : Int)) (by omega) (by omega)) (j := j) rfl
 have hm55 := hr53.max
 refine yL (i := 26) rfl rfl rfl (yB rfl rfl rfl rfl) (by kernel_rfl) (fun _ hS => hl54 ag59 rfl (dO hS (dN hle10 hle23))) hX46.pins (zQ (i := 27) (by kernel_rfl) (zU (i := 27) rfl rfl rfl (yB rfl rfl rfl rfl) (zM (vs := [u48, u52]) Tryz.func127 nm127 rfl rfl rfl ?_)))
 refine dP (kA hX46.pins (hr49.mono (dN hle10 hle23)) (hr53.mono (dN hle10 hle23))) ?_
 rintro _ w56 ⟨rfl, hx57⟩
 refine ⟨_, rfl, ?_⟩
 have hX58 := hX46.step hx57.pins hx57.below
 refine ⟨fun _ => hX58.pins, ?_⟩
 refine yL (i := 28) rfl rfl rfl (yB rfl rfl rfl rfl) (by kernel_rfl) (fun _ _ => qR rfl) hX58.pins (dT (i := 29) rfl rfl (by kernel_rfl) (fun _ _ => xA (v := (.bool (!(decide (((xs.getD j default).r) = ((ys.getD j default).r)))))) rfl rfl) hX58.pins ?_)
 refine yP (by kernel_rfl) (zA (vN rfl rfl (fun h59 => ?_) (fun h59 => ?_)))
 replace h59 := of_decide_eq_true h59
 refine wp_skip (yQ (zA (zH ?_)))
 refine qD rfl (zB (v := (.int .i64 (j : Int))) rfl) (qD rfl (yX rfl rfl (by omega)) (qD rfl (zD (v := (.int .i64 ((j : Int) + 1))) rfl) (qe (yS (⟨_, ?_, _, rfl, _, j + 1, (zC (x := 5) (zC (x := 3) (zX (x := 2) rfl) rfl) rfl), rfl, hX58, (by omega), heq, (eqstepN hp h47 h59)⟩)))))
 omega
 replace h59 := of_decide_eq_false h59
 refine zG (zH ?_)
 refine qD rfl (zD (v := (.bool false)) rfl) (qe (zA ?_))
 exact wp_ret (zY (zW (v := (.bool false)) rfl rfl rfl (⟨_, congrArg (fun z => Ending.returned (Value.bool z)) (decide_eq_false (fun e => h59 (by rw [e]))).symm, hX58⟩)))
 replace h47 := of_decide_eq_false h47
 refine yE (i := 15) rfl rfl (yK rfl rfl rfl rfl rfl) (by kernel_rfl) hX46.pins (yE (i := 16) rfl rfl (yK rfl rfl rfl rfl rfl) (by kernel_rfl) hX46.pins (yE (i := 17) rfl rfl (yK rfl rfl rfl rfl rfl) (by kernel_rfl) hX46.pins (yE (i := 18) rfl rfl (yK rfl rfl rfl rfl rfl) (by kernel_rfl) hX46.pins (yE (i := 19) rfl rfl (yK rfl rfl rfl rfl rfl) (by kernel_rfl) hX46.pins (yE (i := 20) rfl rfl (yK rfl rfl rfl rfl rfl) (by kernel_rfl) hX46.pins (yE (i := 21) rfl rfl (yK rfl rfl rfl rfl rfl) (by kernel_rfl) hX46.pins (yE (i := 22) rfl rfl (yK rfl rfl rfl rfl rfl) (by kernel_rfl) hX46.pins (yE (i := 23) rfl rfl (yK rfl rfl rfl rfl rfl) (by kernel_rfl) hX46.pins (yE (i := 24) rfl rfl (yK rfl rfl rfl rfl rfl) (by kernel_rfl) hX46.pins (yE (i := 25) rfl rfl (yK rfl rfl rfl rfl rfl) (by kernel_rfl) hX46.pins (yE (i := 26) rfl rfl (yK rfl rfl rfl rfl rfl) (by kernel_rfl) hX46.pins (yE (i := 27) rfl rfl (yK rfl rfl rfl rfl rfl) (by kernel_rfl) hX46.pins (yE (i := 28) rfl rfl (yK rfl rfl rfl rfl rfl) (by kernel_rfl) hX46.pins (dT (i := 29) rfl rfl (by kernel_rfl) (fun _ _ => xI (v := (.bool true)) rfl rfl) hX46.pins ?_))))))))))))))
 refine yP (by kernel_rfl) (zA (kB rfl rfl (zG (zH ?_))))
 refine qD rfl (zD (v := (.bool false)) rfl) (qe (zA ?_))
 exact wp_ret (zY (zW (v := (.bool false)) rfl rfl rfl (⟨_, congrArg (fun z => Ending.returned (Value.bool z)) (decide_eq_false (fun e => h47 (by rw [e]))).symm, hX46⟩)))
 refine wp_exit (yI (yW (yV (zA (zG (zH ?_))))))
 refine qD rfl (zD (v := (.bool true)) rfl) (qe (zA ?_))
 exact wp_ret (zY (zW (v := (.bool true)) rfl rfl rfl (⟨_, congrArg (fun z => Ending.returned (Value.bool z)) (decide_eq_true (sX heq (by omega) hp)).symm, hX31⟩)))
theorem mN {w : World} {G : Pin} {b : Nat} {bu bv : Value} {ns : List Nd} {bs : List Int} (hP : Pins G w) (hB : Bk 65 3 G w b bu bv ns bs) (hok : BookOk ns bs) {x y : Value} {xs ys : List Int} (hx : RSl eInt G x xs) (hy : RSl eInt G y ys) (hls : xs.length ≤ 1048576 ∧ ys.length ≤ 1048576) (hk1 : ∀ i, i < xs.length → 0 ≤ xs.getD i 0 ∧ xs.getD i 0 < ns.length) (hk2 : ∀ i, i < ys.length → 0 ≤ ys.getD i 0 ∧ ys.getD i 0 < ns.length) :
  Calls Tryz.prog 78 [(.pointer (some ⟨b, 0, none⟩)), x, y].toArray w fun e w' => ∃ (u' v' : Value) (G' : Pin), e = .returned (.int .i64 (putK ns bs xs ys)) ∧ Bk 65 3 G' w' b u' v' (putN ns bs xs ys) (putB ns bs xs ys) ∧ Ext (inS b bu bv) G w G' w' ∧ Lo w (inS b bu bv) u'.ownBlock ∧ Lo w (inS b bu bv) v'.ownBlock := by
 refine yG (n := 136) Tryz.func78 Tryz.ntmps78 rfl rfl ?_
 have hX0 := exr (inS b bu bv) hP
 have hbx := hB.bx
 have hou := hB.ou
 have hov := hB.ov
 have habu := hB.abu
 have habv := hB.abv
 have hauv := hB.auv
 have hlob : Lo w (inS b bu bv) (some b) := lo_b
 have hlou : Lo w (inS b bu bv) bu.ownBlock := lo_u
 have hlov : Lo w (inS b bu bv) bv.ownBlock := lo_v
 have hlen := hok.len
 have hlim := hok.lim
 refine zG (zH ?_)
 refine qD rfl (zD (v := (.int .i64 0)) rfl) (qe (zA (zG (zH ?_))))
 refine qI rfl (xG (E := eInt) (e := 3) eU sz3 hX0.pins (fun u1 w2 ho3 hp4 hl5 hk6 => ?_))
 have hX7 := hX0.step hp4 hl5
 have ho8 := hou.below hl5
 have ho9 := hov.below hl5
 have hb10 := hbx.below hl5
 have ha11 : Apart u1.ownBlock bu.ownBlock := zK hk6 hou.lt
 have ha12 : Apart u1.ownBlock bv.ownBlock := zK hk6 hov.lt
 have ha13 : Apart u1.ownBlock (some b) := zL hk6 hbx.lt
 have ho14 := ho3.weaken hX0.size
 refine qI rfl (xG (E := eInt) (e := 3) eU sz3 hX7.pins (fun u15 w16 ho17 hp18 hl19 hk20 => ?_))
 have hX21 := hX7.step hp18 hl19
 have ho22 := ho8.below hl19
 have ho23 := ho9.below hl19
 have ho24 := ho14.below hl19
 have hb25 := hb10.below hl19
 have ha26 : Apart u15.ownBlock bu.ownBlock := zK hk20 ho8.lt
 have ha27 : Apart u15.ownBlock bv.ownBlock := zK hk20 ho9.lt
 have ha28 : Apart u15.ownBlock u1.ownBlock := zK hk20 ho14.lt
 have ha29 : Apart u15.ownBlock (some b) := zL hk20 hb10.lt
 have ho30 := ho17.weaken hX7.size
 refine qD rfl (zD (v := u1) rfl) (qD rfl (zD (v := u15) rfl) (qe (zA (zG (zH ?_)))))
 refine qD rfl (zD (v := (.int .i64 0)) rfl) (qe (zA (zG (zG (zH ?_)))))
 refine qD rfl (zD (v := (.int .i64 0)) rfl) (qe (zA ?_))
 refine yH ?_
 obtain ⟨G35, hle38, hX37, hr36, hf39⟩ := ho24.sealed hX21
 have ho40 := ho22.moreO hle38 hf39 ha11.symm
 have ho41 := ho23.moreO hle38 hf39 ha12.symm
 have ho42 := ho30.moreO hle38 hf39 ha28
 have hb43 := hb25.moreO hf39 ha13.symm
 refine yZ (fun (k : Nat) (en : Nat → Value) (W : World) => ∃ (env1 : Nat → Value) (i : Nat) (lo : Value) (ls : List Int) (bn : Int) (GLi : Pin), en = (upd (upd (upd (upd (upd (upd (upd (upd env1 0 (.pointer (some ⟨b, 0, none⟩))) 1 x) 2 y) 6 (.int .i64 0)) 7 lo) 8 u15) 9 (.int .i64 bn)) 10 (.int .i64 (i : Int))) ∧ k = xs.length - i ∧ Ext (inS b bu bv) G w GLi W ∧ Pin.le G35 GLi ∧ (i ≤ xs.length) ∧ (ls = sortL (xs.take i)) ∧ (ls.length ≤ i) ∧ (bn = bornOf bs (xs.take i) 0) ∧ (0 ≤ bn ∧ bn ≤ ns.length) ∧ (Own eNode 65 GLi W 0 bu (ns)) ∧ (Own eInt 3 GLi W 0 bv (bs)) ∧ (Own eInt 3 GLi W w.heap.size u15 ([])) ∧ (Bx GLi W b [bu, bv]) ∧ (RSl eInt GLi lo (ls))) _ ⟨_, 0, u1, [], 0, G35, (zC (x := 10) (zC (x := 9) (zC (x := 8) (zC (x := 7) (zC (x := 6) (zC (x := 2) (zC (x := 1) (zX (x := 0) rfl) rfl) rfl) rfl) rfl) rfl) rfl) rfl), rfl, hX37, Pin.le_refl _, Nat.zero_le _, rfl, Nat.le_refl 0, rfl, (by omega), ho40, ho41, ho42, hb43, hr36⟩ ?_
 rintro k31 _ w32 ⟨env1, i, lo, ls, bn, GLi, rfl, hk33, hX34, hlek31, hji, hrls, holls, hbbn, hlbn, hw44, hw45, hw46, hw47, hr48⟩
 refine zG (zG (zH ?_))
 refine qD rfl (zB (v := (.int .i64 (i : Int))) rfl) (qD rfl (zB (v := x) rfl) (qD rfl (zT eU (v := x) rfl hx) (qD rfl (xB rfl rfl) (qe (zA ?_)))))
 refine yN (p := ((i : Int) : Int) < (xs.length : Int)) rfl rfl (fun h49 => ?_) (fun h49 => ?_)
 have hki := hk1 i (by omega)
 have hbk := hok.born (xs.getD i 0).toNat (by omega)
 refine wp_skip (zA (zG ?_))
 refine yH (zG (zH ?_))
 refine qD rfl (zB (v := lo) rfl) (qD rfl (zB (v := x) rfl) (qD rfl (zB (v := (.int .i64 (i : Int))) rfl) (qD rfl (zN eU sz3 (v := x) rfl rfl hx (by omega) (by omega)) (qD rfl (zO (r := xs.getD i 0) rfl ag3 (z := (i : Int)) rfl hx (dO hX34.pins (dN hle38 hlek31)) (by omega) (by omega)) (qI rfl (zM (vs := [lo, (.int .i64 (xs.getD i 0))]) Tryz.func125 nm125 rfl rfl rfl ?_))))))
 refine dP (gD hX34.pins hr48 (by omega)) ?_
 rintro _ w52 ⟨u50, G51, rfl, hr53, hx54⟩
 refine ⟨_, rfl, ?_⟩
 have hX55 := hX34.tr hx54
 have ho56 := hw44.ext hx54
 have ho57 := hw45.ext hx54
 have ho58 := hw46.ext hx54
 have hb59 := hw47.ext hx54
 refine qD rfl (zD (v := u50) rfl) (qe (zA ?_))
 have hq60 := Gadd.pins hX55.pins bv
 have hr61 := ho57.read
 refine xD (S := fun wz => BxR wz b [bu, bv] ∧ Pins G51 wz ∧ Pins (Gadd G51 w52 bv) wz) (last := 14) (by kernel_rfl) rfl ?_
 have hl62 := bdr w52
 have hp63 := hX55.pins.below hl62
 have hX64 := hX55.step hp63 hl62
 have ho65 := ho56.below hl62
 have ho66 := ho57.below hl62
 have ho67 := ho58.below hl62
 have hb68 := hb59.below hl62
 have hq69 := hq60.below hl62
 refine dT (i := 0) rfl rfl (by kernel_rfl) (fun _ _ => zB (v := (.int .i64 bn)) rfl) ⟨hb68.reads, hX64.pins, hq69⟩ ?_
 refine dT (i := 1) rfl rfl (by kernel_rfl) (fun _ _ => zB (v := (.pointer (some ⟨b, 0, none⟩))) rfl) ⟨hb68.reads, hX64.pins, hq69⟩ ?_
 refine dT (i := 2) rfl rfl (by kernel_rfl) (fun _ _ => xC rfl) ⟨hb68.reads, hX64.pins, hq69⟩ ?_
 refine dT (i := 3) rfl rfl (by kernel_rfl) (fun _ _ => zR (k := 1) rfl dC rfl nz59 rfl) ⟨hb68.reads, hX64.pins, hq69⟩ ?_
 refine dT (i := 4) rfl rfl (by kernel_rfl) (fun _ hS => zS (u := bv) ag59 rfl (hS.1 1 _ rfl)) ⟨hb68.reads, hX64.pins, hq69⟩ ?_
 refine dT (i := 5) rfl rfl (by kernel_rfl) (fun _ _ => zB (v := x) rfl) ⟨hb68.reads, hX64.pins, hq69⟩ ?_
 refine dT (i := 6) rfl rfl (by kernel_rfl) (fun _ _ => zB (v := (.int .i64 (i : Int))) rfl) ⟨hb68.reads, hX64.pins, hq69⟩ ?_
 refine dT (i := 7) rfl rfl (by kernel_rfl) (fun _ _ => zN eU sz3 (v := x) rfl rfl hx (by omega) (by omega)) ⟨hb68.reads, hX64.pins, hq69⟩ ?_
 refine dT (i := 8) rfl rfl (by kernel_rfl) (fun _ hS => zO (r := xs.getD i 0) rfl ag3 (z := (i : Int)) rfl hx (dO hS.2.1 (dN (dN hle38 hlek31) hx54.le)) (by omega) (by omega)) ⟨hb68.reads, hX64.pins, hq69⟩ ?_
 refine dT (i := 9) rfl rfl (by kernel_rfl) (fun _ _ => zN eU sz3 (v := bv) rfl rfl hr61 (by omega) (by omega)) ⟨hb68.reads, hX64.pins, hq69⟩ ?_
 refine dT (i := 10) rfl rfl (by kernel_rfl) (fun _ hS => zO (r := bs.getD (xs.getD i 0).toNat 0) rfl ag3 (z := (xs.getD i 0)) rfl hr61 hS.2.2 (by omega) (by omega)) ⟨hb68.reads, hX64.pins, hq69⟩ ?_
 refine dT (i := 11) rfl rfl (by kernel_rfl) (fun _ _ => yX rfl rfl (by omega)) ⟨hb68.reads, hX64.pins, hq69⟩ ?_
 refine zQ (i := 12) (by kernel_rfl) (zU (i := 12) rfl rfl rfl (zI rfl _) (zM (vs := [(.int .i64 bn), (.int .i64 ((bs.getD (xs.getD i 0).toNat 0) + 1))]) Tryz.func126 nm126 rfl rfl rfl ?_))
 refine dP (rN hX64.pins) ?_
 rintro _ _ ⟨rfl, rfl⟩
 refine ⟨_, rfl, ?_⟩
 refine ⟨fun _ => ⟨hb68.reads, hX64.pins, hq69⟩, ?_⟩
 refine dT (i := 13) rfl rfl (by kernel_rfl) (fun _ _ => zD (v := (.int .i64 (max bn ((bs.getD (xs.getD i 0).toNat 0) + 1)))) rfl) ⟨hb68.reads, hX64.pins, hq69⟩ ?_
 refine yP (by kernel_rfl) (yQ (zA (zH ?_)))
 refine qD rfl (zB (v := (.int .i64 (i : Int))) rfl) (qD rfl (yX rfl rfl (by omega)) (qD rfl (zD (v := (.int .i64 ((i : Int) + 1))) rfl) (qe (yS (⟨_, ?_, _, rfl, _, i + 1, u50, putL ls (xs.getD i 0), max bn ((bs.getD (xs.getD i 0).toNat 0) + 1), G51, (zC (x := 10) (zC (x := 9) (zC (x := 8) (zC (x := 7) (zC (x := 6) (zC (x := 2) (zC (x := 1) (zX (x := 0) rfl) rfl) rfl) rfl) rfl) rfl) rfl) rfl), rfl, hX64, (dN hlek31 hx54.le), (by omega), (by rw [hrls, tI (by omega)]), (Nat.le_trans jZ (by omega)), (by rw [hbbn, fT (by omega)]), (by omega), ho65, ho66, ho67, hb68, hr53⟩)))))
 omega
 refine wp_exit (yI (yW (yV (zA (zG (zG (zH ?_)))))))
 refine qD rfl (zD (v := (.int .i64 0)) rfl) (qe (zA ?_))
 refine yH ?_
 obtain ⟨G74, hle77, hX76, hr75, hf78⟩ := hw46.sealed hX34
 have ho79 := hw44.moreO hle77 hf78 ha26.symm
 have ho80 := hw45.moreO hle77 hf78 ha27.symm
 have hb81 := hw47.moreO hf78 ha29.symm
 refine yZ (fun (k : Nat) (en : Nat → Value) (W : World) => ∃ (env1 : Nat → Value) (i2 : Nat) (ro : Value) (rs : List Int) (bm : Int) (GLi2 : Pin), en = (upd (upd (upd (upd (upd (upd (upd env1 0 (.pointer (some ⟨b, 0, none⟩))) 2 y) 6 (.int .i64 0)) 7 lo) 8 ro) 9 (.int .i64 bm)) 11 (.int .i64 (i2 : Int))) ∧ k = ys.length - i2 ∧ Ext (inS b bu bv) G w GLi2 W ∧ Pin.le G74 GLi2 ∧ (i2 ≤ ys.length) ∧ (rs = sortL (ys.take i2)) ∧ (rs.length ≤ i2) ∧ (bm = bornOf bs (ys.take i2) bn) ∧ (0 ≤ bm ∧ bm ≤ ns.length) ∧ (Own eNode 65 GLi2 W 0 bu (ns)) ∧ (Own eInt 3 GLi2 W 0 bv (bs)) ∧ (Bx GLi2 W b [bu, bv]) ∧ (RSl eInt GLi2 ro (rs))) _ ⟨_, 0, u15, [], bn, G74, (zC (x := 11) (zC (x := 9) (zC (x := 8) (zC (x := 7) (zC (x := 6) (zC (x := 2) (zX (x := 0) rfl) rfl) rfl) rfl) rfl) rfl) rfl), rfl, hX76, Pin.le_refl _, Nat.zero_le _, rfl, Nat.le_refl 0, rfl, (by omega), ho79, ho80, hb81, hr75⟩ ?_
 rintro k70 _ w71 ⟨env1, i2, ro, rs, bm, GLi2, rfl, hk72, hX73, hlek70, hji2, hrrs, holrs, hbbm, hlbm, hw82, hw83, hw84, hr85⟩
 refine zG (zG (zH ?_))
 refine qD rfl (zB (v := (.int .i64 (i2 : Int))) rfl) (qD rfl (zB (v := y) rfl) (qD rfl (zT eU (v := y) rfl hy) (qD rfl (xB rfl rfl) (qe (zA ?_)))))
 refine yN (p := ((i2 : Int) : Int) < (ys.length : Int)) rfl rfl (fun h86 => ?_) (fun h86 => ?_)
 have hki := hk2 i2 (by omega)
 have hbk := hok.born (ys.getD i2 0).toNat (by omega)
 refine wp_skip (zA (zG ?_))
 refine yH (zG (zH ?_))
 refine qD rfl (zB (v := ro) rfl) (qD rfl (zB (v := y) rfl) (qD rfl (zB (v := (.int .i64 (i2 : Int))) rfl) (qD rfl (zN eU sz3 (v := y) rfl rfl hy (by omega) (by omega)) (qD rfl (zO (r := ys.getD i2 0) rfl ag3 (z := (i2 : Int)) rfl hy (dO hX73.pins (dN (dN (dN hle38 hlek31) hle77) hlek70)) (by omega) (by omega)) (qI rfl (zM (vs := [ro, (.int .i64 (ys.getD i2 0))]) Tryz.func125 nm125 rfl rfl rfl ?_))))))
 refine dP (gD hX73.pins hr85 (by omega)) ?_
 rintro _ w89 ⟨u87, G88, rfl, hr90, hx91⟩
 refine ⟨_, rfl, ?_⟩
 have hX92 := hX73.tr hx91
 have ho93 := hw82.ext hx91
 have ho94 := hw83.ext hx91
 have hb95 := hw84.ext hx91
 refine qD rfl (zD (v := u87) rfl) (qe (zA ?_))
 have hq96 := Gadd.pins hX92.pins bv
 have hr97 := ho94.read
 refine xD (S := fun wz => BxR wz b [bu, bv] ∧ Pins G88 wz ∧ Pins (Gadd G88 w89 bv) wz) (last := 14) (by kernel_rfl) rfl ?_
 have hl98 := bdr w89
 have hp99 := hX92.pins.below hl98
 have hX100 := hX92.step hp99 hl98
 have ho101 := ho93.below hl98
 have ho102 := ho94.below hl98
 have hb103 := hb95.below hl98
 have hq104 := hq96.below hl98
 refine dT (i := 0) rfl rfl (by kernel_rfl) (fun _ _ => zB (v := (.int .i64 bm)) rfl) ⟨hb103.reads, hX100.pins, hq104⟩ ?_
 refine dT (i := 1) rfl rfl (by kernel_rfl) (fun _ _ => zB (v := (.pointer (some ⟨b, 0, none⟩))) rfl) ⟨hb103.reads, hX100.pins, hq104⟩ ?_
 refine dT (i := 2) rfl rfl (by kernel_rfl) (fun _ _ => xC rfl) ⟨hb103.reads, hX100.pins, hq104⟩ ?_
 refine dT (i := 3) rfl rfl (by kernel_rfl) (fun _ _ => zR (k := 1) rfl dC rfl nz59 rfl) ⟨hb103.reads, hX100.pins, hq104⟩ ?_
 refine dT (i := 4) rfl rfl (by kernel_rfl) (fun _ hS => zS (u := bv) ag59 rfl (hS.1 1 _ rfl)) ⟨hb103.reads, hX100.pins, hq104⟩ ?_
 refine dT (i := 5) rfl rfl (by kernel_rfl) (fun _ _ => zB (v := y) rfl) ⟨hb103.reads, hX100.pins, hq104⟩ ?_
 refine dT (i := 6) rfl rfl (by kernel_rfl) (fun _ _ => zB (v := (.int .i64 (i2 : Int))) rfl) ⟨hb103.reads, hX100.pins, hq104⟩ ?_
 refine dT (i := 7) rfl rfl (by kernel_rfl) (fun _ _ => zN eU sz3 (v := y) rfl rfl hy (by omega) (by omega)) ⟨hb103.reads, hX100.pins, hq104⟩ ?_
 refine dT (i := 8) rfl rfl (by kernel_rfl) (fun _ hS => zO (r := ys.getD i2 0) rfl ag3 (z := (i2 : Int)) rfl hy (dO hS.2.1 (dN (dN (dN (dN hle38 hlek31) hle77) hlek70) hx91.le)) (by omega) (by omega)) ⟨hb103.reads, hX100.pins, hq104⟩ ?_
 refine dT (i := 9) rfl rfl (by kernel_rfl) (fun _ _ => zN eU sz3 (v := bv) rfl rfl hr97 (by omega) (by omega)) ⟨hb103.reads, hX100.pins, hq104⟩ ?_
 refine dT (i := 10) rfl rfl (by kernel_rfl) (fun _ hS => zO (r := bs.getD (ys.getD i2 0).toNat 0) rfl ag3 (z := (ys.getD i2 0)) rfl hr97 hS.2.2 (by omega) (by omega)) ⟨hb103.reads, hX100.pins, hq104⟩ ?_
 refine dT (i := 11) rfl rfl (by kernel_rfl) (fun _ _ => yX rfl rfl (by omega)) ⟨hb103.reads, hX100.pins, hq104⟩ ?_
 refine zQ (i := 12) (by kernel_rfl) (zU (i := 12) rfl rfl rfl (zI rfl _) (zM (vs := [(.int .i64 bm), (.int .i64 ((bs.getD (ys.getD i2 0).toNat 0) + 1))]) Tryz.func126 nm126 rfl rfl rfl ?_))
 refine dP (rN hX100.pins) ?_
 rintro _ _ ⟨rfl, rfl⟩
 refine ⟨_, rfl, ?_⟩
 refine ⟨fun _ => ⟨hb103.reads, hX100.pins, hq104⟩, ?_⟩
 refine dT (i := 13) rfl rfl (by kernel_rfl) (fun _ _ => zD (v := (.int .i64 (max bm ((bs.getD (ys.getD i2 0).toNat 0) + 1)))) rfl) ⟨hb103.reads, hX100.pins, hq104⟩ ?_
 refine yP (by kernel_rfl) (yQ (zA (zH ?_)))
 refine qD rfl (zB (v := (.int .i64 (i2 : Int))) rfl) (qD rfl (yX rfl rfl (by omega)) (qD rfl (zD (v := (.int .i64 ((i2 : Int) + 1))) rfl) (qe (yS (⟨_, ?_, _, rfl, _, i2 + 1, u87, putL rs (ys.getD i2 0), max bm ((bs.getD (ys.getD i2 0).toNat 0) + 1), G88, (zC (x := 11) (zC (x := 9) (zC (x := 8) (zC (x := 7) (zC (x := 6) (zC (x := 2) (zX (x := 0) rfl) rfl) rfl) rfl) rfl) rfl) rfl), rfl, hX100, (dN hlek70 hx91.le), (by omega), (by rw [hrrs, tI (by omega)]), (Nat.le_trans jZ (by omega)), (by rw [hbbm, fT (by omega)]), (by omega), ho101, ho102, hb103, hr90⟩)))))
 omega
 refine wp_exit (yI (yW (yV (zA (zG (zG (zH ?_)))))))
 rw [jI (by omega)] at hrls hrrs hbbn hbbm
 have e1 : putNd xs ys = ⟨ls, rs⟩ := by unfold putNd; rw [hrls, hrrs]
 have e2 : putBorn bs xs ys = bm := by unfold putBorn; rw [← hbbn, ← hbbm]
 refine qD rfl (zD (v := (.int .i64 0)) rfl) (qe (zA ?_))
 refine yH ?_
 have e0 : True := trivial
 refine yZ (fun (k : Nat) (en : Nat → Value) (W : World) => ∃ (env1 : Nat → Value) (q : Nat), en = (upd (upd (upd (upd (upd env1 0 (.pointer (some ⟨b, 0, none⟩))) 7 lo) 8 ro) 9 (.int .i64 bm)) 12 (.int .i64 (q : Int))) ∧ k = ns.length - q ∧ Ext (inS b bu bv) G w GLi2 W ∧ (q ≤ ns.length) ∧ (∀ i, i < q → NotAt ns bs ⟨ls, rs⟩ bm i) ∧ (Own eNode 65 GLi2 W 0 bu (ns)) ∧ (Own eInt 3 GLi2 W 0 bv (bs)) ∧ (Bx GLi2 W b [bu, bv])) _ ⟨_, 0, (zC (x := 12) (zC (x := 9) (zC (x := 8) (zC (x := 7) (zX (x := 0) rfl) rfl) rfl) rfl) rfl), rfl, hX73, Nat.zero_le _, (fun i hi => absurd hi (Nat.not_lt_zero i)), hw82, hw83, hw84⟩ ?_
 rintro k105 _ w106 ⟨env1, q, rfl, hk107, hX108, hk3, hp, hw109, hw110, hw111⟩
 refine zG (zG (zH ?_))
 refine qD rfl (zB (v := (.int .i64 (q : Int))) rfl) (qD rfl (zB (v := (.pointer (some ⟨b, 0, none⟩))) rfl) (qD rfl (xC rfl) (qD rfl (zR (k := 0) rfl dC rfl nz24 rfl) (qD rfl (zS (u := bu) ag24 rfl (hw111.cell (o := 0) rfl)) (qD rfl (zT eV (v := bu) rfl hw109.read) (qD rfl (xB rfl rfl) (qe (zA ?_))))))))
 refine yN (p := ((q : Int) : Int) < (ns.length : Int)) rfl rfl (fun h112 => ?_) (fun h112 => ?_)
 refine wp_skip (zA (zG ?_))
 refine yH (zG (zH ?_))
 refine qD rfl (zB (v := (.pointer (some ⟨b, 0, none⟩))) rfl) (qD rfl (xC rfl) (qD rfl (zR (k := 1) rfl dC rfl nz59 rfl) (qD rfl (zS (u := bv) ag59 rfl (hw111.cell (o := 1) rfl)) (qD rfl (zB (v := (.int .i64 (q : Int))) rfl) (qD rfl (zN eU sz3 (v := bv) rfl rfl hw110.read (by omega) (by omega)) (qD rfl (zO (r := bs.getD q 0) rfl ag3 (z := (q : Int)) rfl hw110.read (Gadd.pins hX108.pins bv) (by omega) (by omega)) (qD rfl (zB (v := (.int .i64 bm)) rfl) (qD rfl (kZ rfl rfl) (qD rfl (zB (v := (.bool (decide ((bs.getD q 0 : Int) = bm)))) rfl) (qbd (p := (bs.getD q 0 : Int) = bm) (t := 83) rfl (fun h113 => ?_) (fun h113 => ?_)))))))))))
 refine qdg rfl rfl rfl rfl rfl rfl (zB (v := (.pointer (some ⟨b, 0, none⟩))) rfl) (qdg rfl rfl rfl rfl rfl rfl (xC rfl) (qdg rfl rfl rfl rfl rfl rfl (zR (k := 0) rfl dC rfl nz24 rfl) (qdg rfl rfl rfl rfl rfl rfl (zS (u := bu) ag24 rfl (hw111.cell (o := 0) rfl)) (qdg rfl rfl rfl rfl rfl rfl (zB (v := (.int .i64 (q : Int))) rfl) (qdg rfl rfl rfl rfl rfl rfl (zN eV sz65 (v := bu) rfl rfl hw109.read (by omega) (by omega)) (qdg rfl rfl rfl rfl rfl rfl (xP (off := 0) eX rfl rfl nz59 (z := (q : Int)) (k := 0) rfl hw109.read (by omega) (by omega)) ?_))))))
 obtain ⟨u114, hr115, hl116⟩ := vZ (hw109.at (z := (q : Int)) (by omega) (by omega)) (j := q) rfl
 have hm117 := hr115.max
 refine qdg rfl rfl rfl rfl rfl rfl (hl116 ag59 rfl (Gadd.pins hX108.pins bu)) (qdg rfl rfl rfl rfl rfl rfl (zB (v := lo) rfl) (q1g rfl rfl rfl rfl rfl rfl (zM (vs := [u114, lo]) Tryz.func127 nm127 rfl rfl rfl ?_)))
 refine dP (kA hX108.pins hr115 (hr48.mono (dN hle77 hlek70))) ?_
 rintro _ w118 ⟨rfl, hx119⟩
 refine ⟨_, rfl, ?_⟩
 have hX120 := hX108.step hx119.pins hx119.below
 have ho121 := hw109.below hx119.below
 have ho122 := hw110.below hx119.below
 have hb123 := hw111.below hx119.below
 refine qD rfl (xI (v := (.bool (decide (((ns.getD q default).l) = ls)))) rfl rfl) (qD rfl (zB (v := (.bool (decide (((ns.getD q default).l) = ls)))) rfl) (qbd (p := (((ns.getD q default).l) = ls)) (t := 95) rfl (fun h124 => ?_) (fun h124 => ?_)))
 refine qdg rfl rfl rfl rfl rfl rfl (zB (v := (.pointer (some ⟨b, 0, none⟩))) rfl) (qdg rfl rfl rfl rfl rfl rfl (xC rfl) (qdg rfl rfl rfl rfl rfl rfl (zR (k := 0) rfl dC rfl nz24 rfl) (qdg rfl rfl rfl rfl rfl rfl (zS (u := bu) ag24 rfl (hb123.cell (o := 0) rfl)) (qdg rfl rfl rfl rfl rfl rfl (zB (v := (.int .i64 (q : Int))) rfl) (qdg rfl rfl rfl rfl rfl rfl (zN eV sz65 (v := bu) rfl rfl ho121.read (by omega) (by omega)) (qdg rfl rfl rfl rfl rfl rfl (xP (off := 1) eX rfl rfl nz59 (z := (q : Int)) (k := 0) rfl ho121.read (by omega) (by omega)) ?_))))))
 obtain ⟨u125, hr126, hl127⟩ := kG (ho121.at (z := (q : Int)) (by omega) (by omega)) (j := q) rfl
 have hm128 := hr126.max
 refine qdg rfl rfl rfl rfl rfl rfl (hl127 ag59 rfl (Gadd.pins hX120.pins bu)) (qdg rfl rfl rfl rfl rfl rfl (zB (v := ro) rfl) (q1g rfl rfl rfl rfl rfl rfl (zM (vs := [u125, ro]) Tryz.func127 nm127 rfl rfl rfl ?_)))
 refine dP (kA hX120.pins hr126 hr85) ?_
 rintro _ w129 ⟨rfl, hx130⟩
 refine ⟨_, rfl, ?_⟩
 have hX131 := hX120.step hx130.pins hx130.below
 have ho132 := ho121.below hx130.below
 have ho133 := ho122.below hx130.below
 have hb134 := hb123.below hx130.below
 refine qD rfl (xI (v := (.bool (decide (((ns.getD q default).r) = rs)))) rfl rfl) (qe (zA ?_))
 refine yN (p := (((ns.getD q default).r) = rs)) rfl rfl (fun h135 => ?_) (fun h135 => ?_)
 refine zG (zH ?_)
 refine qD rfl (zB (v := (.int .i64 (q : Int))) rfl) (qD rfl (zD (v := (.int .i64 (q : Int))) rfl) (qe (zA ?_)))
 refine wp_ret (zY (zW (v := (.int .i64 (q : Int))) rfl rfl rfl ?_))
 have hf : findK ns bs (putNd xs ys) (putBorn bs xs ys) = some q := by rw [e1, e2]; exact find_some (by omega) hp ⟨h113, h124, h135⟩
 have eN : putN ns bs xs ys = ns := by unfold putN; rw [hf]
 have eB : putB ns bs xs ys = bs := by unfold putB; rw [hf]
 refine ⟨bu, bv, _, congrArg (fun z => Ending.returned (Value.int .i64 z)) (by unfold putK; rw [hf]), ?_, hX131, hlou, hlov⟩
 rw [eN, eB]
 exact ⟨hb134, ho132, ho133, habu, habv, hauv⟩
 refine wp_skip (yQ (zA (zH ?_)))
 refine qD rfl (zB (v := (.int .i64 (q : Int))) rfl) (qD rfl (yX rfl rfl (by omega)) (qD rfl (zD (v := (.int .i64 ((q : Int) + 1))) rfl) (qe (yS (⟨_, ?_, _, rfl, _, q + 1, (zC (x := 12) (zC (x := 9) (zC (x := 8) (zC (x := 7) (zX (x := 0) rfl) rfl) rfl) rfl) rfl), rfl, hX131, (by omega), (fun i hi => if h3 : i = q then h3 ▸ (fun g => absurd g.2.2 h135) else hp i (by omega)), ho132, ho133, hb134⟩)))))
 omega
 refine qs rfl rfl rfl rfl rfl rfl (qs rfl rfl rfl rfl rfl rfl (qs rfl rfl rfl rfl rfl rfl (qs rfl rfl rfl rfl rfl rfl (qs rfl rfl rfl rfl rfl rfl (qs rfl rfl rfl rfl rfl rfl (qs rfl rfl rfl rfl rfl rfl (qs rfl rfl rfl rfl rfl rfl (qs rfl rfl rfl rfl rfl rfl (qs rfl rfl rfl rfl rfl rfl (qD rfl (xA (v := (.bool false)) rfl rfl) (qe (zA ?_))))))))))))
 refine vE rfl rfl (wp_skip (yQ (zA (zH ?_))))
 refine qD rfl (zB (v := (.int .i64 (q : Int))) rfl) (qD rfl (yX rfl rfl (by omega)) (qD rfl (zD (v := (.int .i64 ((q : Int) + 1))) rfl) (qe (yS (⟨_, ?_, _, rfl, _, q + 1, (zC (x := 12) (zC (x := 9) (zC (x := 8) (zC (x := 7) (zX (x := 0) rfl) rfl) rfl) rfl) rfl), rfl, hX120, (by omega), (fun i hi => if h3 : i = q then h3 ▸ (fun g => absurd g.2.1 h124) else hp i (by omega)), ho121, ho122, hb123⟩)))))
 omega
 refine qs rfl rfl rfl rfl rfl rfl (qs rfl rfl rfl rfl rfl rfl (qs rfl rfl rfl rfl rfl rfl (qs rfl rfl rfl rfl rfl rfl (qs rfl rfl rfl rfl rfl rfl (qs rfl rfl rfl rfl rfl rfl (qs rfl rfl rfl rfl rfl rfl (qs rfl rfl rfl rfl rfl rfl (qs rfl rfl rfl rfl rfl rfl (qs rfl rfl rfl rfl rfl rfl (qD rfl (xA (v := (.bool false)) rfl rfl) (qD rfl (zB (v := (.bool false)) rfl) (qs rfl rfl rfl rfl rfl rfl (qs rfl rfl rfl rfl rfl rfl (qs rfl rfl rfl rfl rfl rfl (qs rfl rfl rfl rfl rfl rfl (qs rfl rfl rfl rfl rfl rfl (qs rfl rfl rfl rfl rfl rfl (qs rfl rfl rfl rfl rfl rfl (qs rfl rfl rfl rfl rfl rfl (qs rfl rfl rfl rfl rfl rfl (qs rfl rfl rfl rfl rfl rfl (qD rfl (xA (v := (.bool false)) rfl rfl) (qe (zA ?_))))))))))))))))))))))))
 refine vE rfl rfl (wp_skip (yQ (zA (zH ?_))))
 refine qD rfl (zB (v := (.int .i64 (q : Int))) rfl) (qD rfl (yX rfl rfl (by omega)) (qD rfl (zD (v := (.int .i64 ((q : Int) + 1))) rfl) (qe (yS (⟨_, ?_, _, rfl, _, q + 1, (zC (x := 12) (zC (x := 9) (zC (x := 8) (zC (x := 7) (zX (x := 0) rfl) rfl) rfl) rfl) rfl), rfl, hX108, (by omega), (fun i hi => if h3 : i = q then h3 ▸ (fun g => absurd g.1 h113) else hp i (by omega)), hw109, hw110, hw111⟩)))))
 omega
 refine wp_exit (yI (yW (yV (zA (zG (zH ?_))))))
 refine qD rfl (zB (v := (.pointer (some ⟨b, 0, none⟩))) rfl) (qD rfl (zB (v := (.pointer (some ⟨b, 0, none⟩))) rfl) (qD rfl (xC rfl) (qD rfl (zR (k := 0) rfl dC rfl nz24 rfl) (qD rfl (zS (u := bu) ag24 rfl (hw111.cell (o := 0) rfl)) (qD rfl (zB (v := lo) rfl) (qD rfl (zB (v := ro) rfl) (qD rfl (xQ [(.slice none 0 0), (.slice none 0 0)] [lo, ro] [(0, lo, [lo]), (1, ro, [ro])] eX zr65 rfl pl65 rfl (List.forall_mem_cons.2 ⟨(xE hr48.one), (List.forall_mem_cons.2 ⟨(xE hr85.one), (fun _ h => by cases h)⟩)⟩) rfl) (qI rfl (xJ (E := eNode) (e := 65) [lo, ro] (⟨ls, rs⟩ : Nd) eV sz65 zr65 ⟨_, _, rfl, (hr48.mono (dN hle77 hlek70)), hr85⟩ rfl (by decide) hX108.pins (fun u136 w137 ho138 hp139 hl140 hk141 => ?_))))))))))
 have hX142 := hX108.step hp139 hl140
 have ho143 := hw109.below hl140
 have ho144 := hw110.below hl140
 have hb145 := hw111.below hl140
 have ho149 := ho138.weaken hX108.size
 refine qI rfl (zZ (E := eNode) (v := bu) (u := u136) 48 eV ap65 (by decide) rfl rfl hX142.pins ho143 ho149.src (by first | omega | (rw [List.nil_append]; omega) | (rw [List.length_nil]; omega) | (rw [List.length_append]; omega) | (simp; done) | (simp; omega) | (simp only [List.length_append, List.length_cons, List.length_nil]; omega)) (by first | omega | (rw [List.nil_append]; omega) | (rw [List.length_nil]; omega) | (rw [List.length_append]; omega) | (simp; done) | (simp; omega) | (simp only [List.length_append, List.length_cons, List.length_nil]; omega)) (Nat.zero_le _) (fun u150 w151 ho152 hp153 hg154 hw155 => ?_))
 have hX156 := hX142.write hp153 hg154 (hlou)
 have ho157 := ho144.keptA hg154 hauv.symm
 have hb159 := hb145.keptA hg154 habu
 have ha160 : Apart bv.ownBlock u150.ownBlock := zJ hauv.symm hw155 ho144.lt
 have ha162 : Apart (some b) u150.ownBlock := zP habu hw155 hb145.lt
 have hlo163 : Lo w (inS b bu bv) u150.ownBlock := tQ hlou hw155 hX142.size
 have hm164 := la1 ns (⟨ls, rs⟩ : Nd)
 refine qD rfl (xC rfl) (qD rfl (zR (k := 0) rfl dC rfl nz24 rfl) (q0 rfl rfl rfl (o_stp (cs' := [u150, bv]) (us := [u150]) (v := u150) sz24 rfl rfl (kT ho152.one) (yM ho152.one) hX156.pins hb159 (dQ rfl) rfl (fun w165 hb166 hp167 hg168 hz169 => ?_))))
 have hX170 := hX156.write hp167 hg168 (hlob)
 have ho171 := ho157.keptA hg168 habv.symm
 have ho172 := ho152.keptA hg168 ha162.symm
 refine qe (zA (zG (zH ?_)))
 refine qD rfl (zB (v := (.pointer (some ⟨b, 0, none⟩))) rfl) (qD rfl (zB (v := (.pointer (some ⟨b, 0, none⟩))) rfl) (qD rfl (xC rfl) (qD rfl (zR (k := 1) rfl dC rfl nz59 rfl) (qD rfl (zS (u := bv) ag59 rfl (hb166.cell (o := 1) rfl)) (qD rfl (zB (v := (.int .i64 bm)) rfl) (qI rfl (yY (E := eInt) (e := 3) [(.int .i64 bm)] [bm] eU sz3 zr3 (by exact xT (by rfl)) (yM (by rfl)) rfl rfl rfl rfl (by decide) hX170.pins (fun u173 w174 ho175 hp176 hl177 hk178 => ?_))))))))
 have hX179 := hX170.step hp176 hl177
 have ho180 := ho171.below hl177
 have ho181 := ho172.below hl177
 have hb182 := hb166.below hl177
 have ho186 := ho175.weaken hX170.size
 refine qI rfl (zZ (E := eInt) (v := bv) (u := u173) 8 eU ap3 (by decide) rfl rfl hX179.pins ho180 ho186.src (by first | omega | (rw [List.nil_append]; omega) | (rw [List.length_nil]; omega) | (rw [List.length_append]; omega) | (simp; done) | (simp; omega) | (simp only [List.length_append, List.length_cons, List.length_nil]; omega)) (by first | omega | (rw [List.nil_append]; omega) | (rw [List.length_nil]; omega) | (rw [List.length_append]; omega) | (simp; done) | (simp; omega) | (simp only [List.length_append, List.length_cons, List.length_nil]; omega)) (Nat.zero_le _) (fun u187 w188 ho189 hp190 hg191 hw192 => ?_))
 have hX193 := hX179.write hp190 hg191 (hlov)
 have ho194 := ho181.keptA hg191 ha160.symm
 have hb196 := hb182.keptA hg191 habv
 have ha197 : Apart u150.ownBlock u187.ownBlock := zJ ha160.symm hw192 ho181.lt
 have ha199 : Apart (some b) u187.ownBlock := zP habv hw192 hb182.lt
 have hlo200 : Lo w (inS b bu bv) u187.ownBlock := tQ hlov hw192 hX179.size
 have hm201 := la1 bs bm
 refine qD rfl (xC rfl) (qD rfl (zR (k := 1) rfl dC rfl nz59 rfl) (q0 rfl rfl rfl (o_stp (cs' := [u150, u187]) (us := [u187]) (v := u187) sz59 rfl rfl (kT ho189.one) (yM ho189.one) hX193.pins hb196 (dQ rfl) rfl (fun w202 hb203 hp204 hg205 hz206 => ?_))))
 have hX207 := hX193.write hp204 hg205 (hlob)
 have ho208 := ho194.keptA hg205 ha162.symm
 have ho209 := ho189.keptA hg205 ha199.symm
 refine qe (zA (zG (zH ?_)))
 refine qD rfl (zB (v := (.pointer (some ⟨b, 0, none⟩))) rfl) (qD rfl (xC rfl) (qD rfl (zR (k := 0) rfl dC rfl nz24 rfl) (qD rfl (zS (u := u150) ag24 rfl (hb203.cell (o := 0) rfl)) (qD rfl (zT eV (v := u150) rfl ho208.read) (qD rfl (jA rfl rfl (by omega)) (qD rfl (zD (v := (.int .i64 (((ns ++ ([(⟨ls, rs⟩ : Nd)])).length : Int) - 1))) rfl) (qe (zA ?_))))))))
 refine wp_ret (zY (zW (v := (.int .i64 (((ns ++ ([(⟨ls, rs⟩ : Nd)])).length : Int) - 1))) rfl rfl rfl ?_))
 have hf : findK ns bs (putNd xs ys) (putBorn bs xs ys) = none := by rw [e1, e2]; exact pT (by omega) hp
 have eN : putN ns bs xs ys = ns ++ [⟨ls, rs⟩] := by unfold putN; rw [hf, e1]
 have eB : putB ns bs xs ys = bs ++ [bm] := by unfold putB; rw [hf, e2]
 refine ⟨u150, u187, _, congrArg (fun z => Ending.returned (Value.int .i64 z)) (by unfold putK; rw [hf]; simp), ?_, hX207, hlo163, hlo200⟩
 rw [eN, eB]
 exact ⟨hb203, ho208, ho209, ha162, ha199, ha197⟩
end D1
end Go.Proofs.YtajkbplgbikgdaaGreatDoor
