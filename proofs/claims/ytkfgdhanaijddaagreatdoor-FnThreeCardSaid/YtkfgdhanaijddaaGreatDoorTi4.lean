/- Texts of this claim in one file: Shelf, B1, C1, D1. -/
import Derived.Test.YtkfgdhanaijddaaGreatDoorTi3
import Derived.Shelf.Sort.Plain
import Derived.Ground.Names2Prog
import Derived.Shelf.Slices.CompactI
import Derived.Shelf.Slices.In.SortNone
import Derived.Ground.SlsfProg
import Derived.Shelf.SlSortCmp.Whole1
import Derived.Shelf.SlSortCmp.NoneTotal
import Derived.Shelf.SlSortCmp.WholeK
import Derived.Test.YtkfgdhanaijddaaGreatDoorProg
import Derived.Test.YtkfgdhanaijddaaGreatDoorChecked
namespace Go.Proofs
open Go.Shelf
def Tryz.lays189_ren : Go.Shelf.Ren := ⟨fun | 189 => 150 | 125 => 149 | 257 => 177 | 128 => 175 | 129 => 176 | 294 => 193 | 295 => 194 | 296 => 195 | 297 => 196 | 298 => 197 | 299 => 198 | 216 => 199 | 300 => 200 | 301 => 201 | 328 => 210 | 329 => 189 | 330 => 190 | 331 => 211 | 332 => 212 | 215 => 132 | 343 => 218 | n => n, fun | 28 => 57 | 3 => 3 | 46 => 147 | 0 => 0 | 51 => 178 | 53 => 61 | 4 => 4 | 183 => 172 | 182 => 171 | 131 => 47 | 5 => 5 | 9 => 9 | 218 => 187 | 222 => 191 | 228 => 204 | 229 => 205 | n => n, fun | n => n⟩
theorem Tryz.lays189 : Go.Proofs.Lays.n189 Tryz.prog Tryz.lays189_ren := {
 mixed := by kernel_rfl
 f125 := Tryz.func149.trans (congrArg some (by kernel_rfl))
 f128 := Tryz.func175.trans (congrArg some (by kernel_rfl))
 f129 := Tryz.func176.trans (congrArg some (by kernel_rfl))
 f189 := Tryz.func150.trans (congrArg some (by kernel_rfl))
 f215 := Tryz.func132.trans (congrArg some (by kernel_rfl))
 f216 := Tryz.func199.trans (congrArg some (by kernel_rfl))
 f257 := Tryz.func177.trans (congrArg some (by kernel_rfl))
 f294 := Tryz.func193.trans (congrArg some (by kernel_rfl))
 f295 := Tryz.func194.trans (congrArg some (by kernel_rfl))
 f296 := Tryz.func195.trans (congrArg some (by kernel_rfl))
 f297 := Tryz.func196.trans (congrArg some (by kernel_rfl))
 f298 := Tryz.func197.trans (congrArg some (by kernel_rfl))
 f299 := Tryz.func198.trans (congrArg some (by kernel_rfl))
 f300 := Tryz.func200.trans (congrArg some (by kernel_rfl))
 f301 := Tryz.func201.trans (congrArg some (by kernel_rfl))
 f328 := Tryz.func210.trans (congrArg some (by kernel_rfl))
 f329 := Tryz.func189.trans (congrArg some (by kernel_rfl))
 f330 := Tryz.func190.trans (congrArg some (by kernel_rfl))
 f331 := Tryz.func211.trans (congrArg some (by kernel_rfl))
 f332 := Tryz.func212.trans (congrArg some (by kernel_rfl))
 f343 := Tryz.func218.trans (congrArg some (by kernel_rfl))
 t0 := Tryz.underlying0
 a0 := Tryz.isAgg0
 z0 := Tryz.sizeOf0
 v0 := Tryz.zeroValue0
 t3 := Tryz.underlying3
 a3 := Tryz.isAgg3
 z3 := Tryz.sizeOf3
 v3 := Tryz.zeroValue3
 t4 := Tryz.underlying4
 a4 := Tryz.isAgg4
 z4 := Tryz.sizeOf4
 v4 := Tryz.zeroValue4
 t5 := Tryz.underlying5
 a5 := Tryz.isAgg5
 z5 := Tryz.sizeOf5
 v5 := Tryz.zeroValue5
 t9 := Tryz.underlying9
 a9 := Tryz.isAgg9
 z9 := Tryz.sizeOf9
 v9 := Tryz.zeroValue9
 t28 := Tryz.underlying57
 a28 := Tryz.isAgg57
 z28 := Tryz.sizeOf57
 v28 := Tryz.zeroValue57
 t46 := Tryz.underlying147
 a46 := Tryz.isAgg147
 z46 := Tryz.sizeOf147
 v46 := Tryz.zeroValue147
 t51 := Tryz.underlying178
 a51 := Tryz.isAgg178
 z51 := Tryz.sizeOf178
 v51 := Tryz.zeroValue178
 t53 := Tryz.underlying61
 a53 := Tryz.isAgg61
 z53 := Tryz.sizeOf61
 v53 := Tryz.zeroValue61
 t131 := Tryz.underlying47
 a131 := Tryz.isAgg47
 z131 := Tryz.sizeOf47
 v131 := Tryz.zeroValue47
 t182 := Tryz.underlying171
 a182 := Tryz.isAgg171
 z182 := Tryz.sizeOf171
 v182 := Tryz.zeroValue171
 t183 := Tryz.underlying172
 a183 := Tryz.isAgg172
 z183 := Tryz.sizeOf172
 v183 := Tryz.zeroValue172
 t218 := Tryz.underlying187
 a218 := Tryz.isAgg187
 z218 := Tryz.sizeOf187
 v218 := Tryz.zeroValue187
 t222 := Tryz.underlying191
 a222 := Tryz.isAgg191
 z222 := Tryz.sizeOf191
 v222 := Tryz.zeroValue191
 t228 := Tryz.underlying204
 a228 := Tryz.isAgg204
 z228 := Tryz.sizeOf204
 v228 := Tryz.zeroValue204
 t229 := Tryz.underlying205
 a229 := Tryz.isAgg205
 z229 := Tryz.sizeOf205
 v229 := Tryz.zeroValue205 }
open Go.Sort Go.RowKit in
theorem Tryz.slices_Sort_int (blk off cap : Nat) (zs : List Int) (w : World) (hH : Holds (Value.int .i64) w blk off zs.toArray) (hblk : blk < w.heap.size) (hsz : zs.length < 4611686018427387904) :
  Calls Tryz.prog 150 #[.slice (some ⟨blk, off, none⟩) zs.length cap] w fun e w' =>
   e = .returned (.tuple #[]) ∧ ∃ n os, w' = grow (putRow (Value.int .i64) (Sort.ahead w n) blk off (zs.mergeSort fun x y => decide (x ≤ y)).toArray) os := Any.slices_Sort_int Tryz.lays189 blk off cap zs w hH hblk hsz
def Tryz.laysNm220_ren : Go.Shelf.Ren := ⟨fun | 20 => 162 | n => n, fun | 22 => 57 | 3 => 3 | 4 => 4 | 0 => 0 | n => n, fun | n => n⟩
theorem Tryz.laysNm220 : Go.Proofs.Lays2.n20 Tryz.prog Tryz.laysNm220_ren := {
 mixed := by kernel_rfl
 f20 := Tryz.func162.trans (congrArg some (by kernel_rfl))
 t0 := Tryz.underlying0
 a0 := Tryz.isAgg0
 z0 := Tryz.sizeOf0
 v0 := Tryz.zeroValue0
 t3 := Tryz.underlying3
 a3 := Tryz.isAgg3
 z3 := Tryz.sizeOf3
 v3 := Tryz.zeroValue3
 t4 := Tryz.underlying4
 a4 := Tryz.isAgg4
 z4 := Tryz.sizeOf4
 v4 := Tryz.zeroValue4
 t22 := Tryz.underlying57
 a22 := Tryz.isAgg57
 z22 := Tryz.sizeOf57
 v22 := Tryz.zeroValue57
 i3 := by kernel_rfl }
open Go.RowKit Go.Lib Go.Sort in
theorem Tryz.slices_Compact_int (blk off cap : Nat) (zs : List Int) (w : World) (hH : Holds (Value.int .i64) w blk off zs.toArray) (hsz : zs.length ≤ 9223372036854775807) (hcap : zs.length ≤ cap) :
  Calls Tryz.prog 162 #[.slice (some ⟨blk, off, none⟩) zs.length cap] w fun e w' => e = .returned (.slice (some ⟨blk, off, none⟩) (Lib.compact zs).length cap) ∧ ∃ q, w' = putRow (Value.int .i64) (Sort.ahead w q) blk off (Lib.compact zs ++ List.replicate (zs.length - (Lib.compact zs).length) 0).toArray := Any.slices_Compact_int Tryz.laysNm220 blk off cap zs w hH hsz hcap
open Go.RowKit Go.Lib Go.Sort in
theorem Tryz.slices_Compact_int_empty (a : Option Addr) (cap : Nat) (w : World) :
  Calls Tryz.prog 162 #[.slice a 0 cap] w fun e w' => e = .returned (.slice a 0 cap) ∧ w' = w := Any.slices_Compact_int_empty Tryz.laysNm220 a cap w
open Go.RowKit Go.Sort in
theorem Tryz.slices_Sort_int_none (p : Option Addr) (cap : Nat) (w : World) :
  Calls Tryz.prog 150 #[.slice p 0 cap] w fun e w' => e = .returned (.tuple #[]) ∧ w' = w := Any.slices_Sort_int_none Tryz.lays189 p cap w
def Tryz.laysSlF6_f119_ren : Go.Shelf.Ren := ⟨fun | 6 => 119 | 15 => 149 | 14 => 148 | 28 => 175 | 29 => 176 | 20 => 167 | 21 => 168 | 22 => 169 | 23 => 170 | 24 => 171 | 25 => 172 | 26 => 173 | 27 => 174 | 46 => 188 | 47 => 189 | 48 => 190 | 49 => 191 | 50 => 192 | 57 => 209 | n => n, fun | 22 => 57 | 24 => 3 | 25 => 72 | 3 => 3 | 39 => 147 | 0 => 0 | 53 => 178 | 55 => 61 | 4 => 4 | 46 => 172 | 45 => 171 | 50 => 47 | 5 => 5 | 9 => 9 | 66 => 187 | 70 => 191 | 76 => 204 | 77 => 205 | n => n, fun | n => n⟩
theorem Tryz.laysSlF6_f119 : Go.Proofs.SlLaysF.n6 Tryz.prog Tryz.laysSlF6_f119_ren := {
 mixed := by kernel_rfl
 f6 := ⟨Tryz.f119.name, by decide, Tryz.func119.trans (congrArg some (by kernel_rfl))⟩
 f14 := ⟨Tryz.f148.name, by decide, Tryz.func148.trans (congrArg some (by kernel_rfl))⟩
 f15 := Tryz.func149.trans (congrArg some (by kernel_rfl))
 f20 := ⟨Tryz.f167.name, by decide, Tryz.func167.trans (congrArg some (by kernel_rfl))⟩
 f21 := ⟨Tryz.f168.name, by decide, Tryz.func168.trans (congrArg some (by kernel_rfl))⟩
 f22 := ⟨Tryz.f169.name, by decide, Tryz.func169.trans (congrArg some (by kernel_rfl))⟩
 f23 := ⟨Tryz.f170.name, by decide, Tryz.func170.trans (congrArg some (by kernel_rfl))⟩
 f24 := ⟨Tryz.f171.name, by decide, Tryz.func171.trans (congrArg some (by kernel_rfl))⟩
 f25 := ⟨Tryz.f172.name, by decide, Tryz.func172.trans (congrArg some (by kernel_rfl))⟩
 f26 := ⟨Tryz.f173.name, by decide, Tryz.func173.trans (congrArg some (by kernel_rfl))⟩
 f27 := ⟨Tryz.f174.name, by decide, Tryz.func174.trans (congrArg some (by kernel_rfl))⟩
 f28 := Tryz.func175.trans (congrArg some (by kernel_rfl))
 f29 := Tryz.func176.trans (congrArg some (by kernel_rfl))
 f46 := ⟨Tryz.f188.name, by decide, Tryz.func188.trans (congrArg some (by kernel_rfl))⟩
 f47 := Tryz.func189.trans (congrArg some (by kernel_rfl))
 f48 := Tryz.func190.trans (congrArg some (by kernel_rfl))
 f49 := ⟨Tryz.f191.name, by decide, Tryz.func191.trans (congrArg some (by kernel_rfl))⟩
 f50 := ⟨Tryz.f192.name, by decide, Tryz.func192.trans (congrArg some (by kernel_rfl))⟩
 f57 := ⟨Tryz.f209.name, by decide, Tryz.func209.trans (congrArg some (by kernel_rfl))⟩
 t0 := Tryz.underlying0
 a0 := Tryz.isAgg0
 z0 := Tryz.sizeOf0
 v0 := Tryz.zeroValue0
 t3 := Tryz.underlying3
 a3 := Tryz.isAgg3
 z3 := Tryz.sizeOf3
 v3 := Tryz.zeroValue3
 t4 := Tryz.underlying4
 a4 := Tryz.isAgg4
 z4 := Tryz.sizeOf4
 v4 := Tryz.zeroValue4
 t5 := Tryz.underlying5
 a5 := Tryz.isAgg5
 z5 := Tryz.sizeOf5
 v5 := Tryz.zeroValue5
 t9 := Tryz.underlying9
 a9 := Tryz.isAgg9
 z9 := Tryz.sizeOf9
 v9 := Tryz.zeroValue9
 t22 := Tryz.underlying57
 a22 := Tryz.isAgg57
 z22 := Tryz.sizeOf57
 v22 := Tryz.zeroValue57
 a24 := Tryz.isAgg3
 z24 := Tryz.sizeOf3
 t25 := Tryz.underlying72
 a25 := Tryz.isAgg72
 z25 := Tryz.sizeOf72
 v25 := Tryz.zeroValue72
 t39 := Tryz.underlying147
 a39 := Tryz.isAgg147
 z39 := Tryz.sizeOf147
 v39 := Tryz.zeroValue147
 t45 := Tryz.underlying171
 a45 := Tryz.isAgg171
 z45 := Tryz.sizeOf171
 v45 := Tryz.zeroValue171
 t46 := Tryz.underlying172
 a46 := Tryz.isAgg172
 z46 := Tryz.sizeOf172
 v46 := Tryz.zeroValue172
 t50 := Tryz.underlying47
 a50 := Tryz.isAgg47
 z50 := Tryz.sizeOf47
 v50 := Tryz.zeroValue47
 t53 := Tryz.underlying178
 a53 := Tryz.isAgg178
 z53 := Tryz.sizeOf178
 v53 := Tryz.zeroValue178
 t55 := Tryz.underlying61
 a55 := Tryz.isAgg61
 z55 := Tryz.sizeOf61
 v55 := Tryz.zeroValue61
 t66 := Tryz.underlying187
 a66 := Tryz.isAgg187
 z66 := Tryz.sizeOf187
 v66 := Tryz.zeroValue187
 t70 := Tryz.underlying191
 a70 := Tryz.isAgg191
 z70 := Tryz.sizeOf191
 v70 := Tryz.zeroValue191
 t76 := Tryz.underlying204
 a76 := Tryz.isAgg204
 z76 := Tryz.sizeOf204
 v76 := Tryz.zeroValue204
 t77 := Tryz.underlying205
 a77 := Tryz.isAgg205
 z77 := Tryz.sizeOf205
 v77 := Tryz.zeroValue205 }
open Go.RowKit Go.Lib Go.Sort in
theorem Tryz.slices_SortFunc {α : Type} [Inhabited α] (enc : α → Value) (h1 : OneCell enc) (cf : α → α → Int) (hO : SWO (ltOf cf)) (g : Nat) (cb : Array Value) (blk off cap : Nat) (d : Array α) (w : World) (eg : ∀ args w, (callFunc g args).run Tryz.prog w = .ok (.enter g args) w) (hcmp : CmpLays1 Tryz.prog g cb enc cf blk off d.size w) (hH : Holds enc w blk off d) (hblk : blk < w.heap.size) (hsz : d.size < 4611686018427387904) :
  Calls Tryz.prog 119 #[.slice (some ⟨blk, off, none⟩) d.size cap, .func (.func g) #[] cb] w fun e w' =>
   e = .returned (.tuple #[]) ∧ ∃ d' n os, PermIn 0 d.size d d' ∧ SortedIn (ltOf cf) 0 d.size d' ∧ w' = sortWorld enc w blk off n d' os := Any.slices_SortFunc Tryz.laysSlF6_f119 enc h1 cf hO g cb blk off cap d w eg hcmp hH hblk hsz
def Tryz.laysSlF06_f119_ren : Go.Shelf.Ren := ⟨fun | 6 => 119 | 15 => 149 | 14 => 148 | 28 => 175 | 29 => 176 | 20 => 167 | 21 => 168 | 22 => 169 | 23 => 170 | 24 => 171 | 25 => 172 | 26 => 173 | 27 => 174 | 46 => 188 | 47 => 189 | 48 => 190 | 49 => 191 | 50 => 192 | 57 => 209 | n => n, fun | 22 => 57 | 24 => 3 | 25 => 72 | 3 => 3 | 39 => 147 | 0 => 0 | 53 => 178 | 55 => 61 | 4 => 4 | 46 => 172 | 45 => 171 | 50 => 47 | 5 => 5 | 9 => 9 | 66 => 187 | 70 => 191 | 76 => 204 | 77 => 205 | n => n, fun | n => n⟩
theorem Tryz.laysSlF06_f119 : Go.Proofs.SlLaysF0.n6 Tryz.prog Tryz.laysSlF06_f119_ren := {
 mixed := by kernel_rfl
 f6 := ⟨Tryz.f119.name, by decide, Tryz.func119.trans (congrArg some (by kernel_rfl))⟩
 f14 := ⟨Tryz.f148.name, by decide, Tryz.func148.trans (congrArg some (by kernel_rfl))⟩
 f15 := Tryz.func149.trans (congrArg some (by kernel_rfl))
 f20 := ⟨Tryz.f167.name, by decide, Tryz.func167.trans (congrArg some (by kernel_rfl))⟩
 f21 := ⟨Tryz.f168.name, by decide, Tryz.func168.trans (congrArg some (by kernel_rfl))⟩
 f22 := ⟨Tryz.f169.name, by decide, Tryz.func169.trans (congrArg some (by kernel_rfl))⟩
 f23 := ⟨Tryz.f170.name, by decide, Tryz.func170.trans (congrArg some (by kernel_rfl))⟩
 f24 := ⟨Tryz.f171.name, by decide, Tryz.func171.trans (congrArg some (by kernel_rfl))⟩
 f25 := ⟨Tryz.f172.name, by decide, Tryz.func172.trans (congrArg some (by kernel_rfl))⟩
 f26 := ⟨Tryz.f173.name, by decide, Tryz.func173.trans (congrArg some (by kernel_rfl))⟩
 f27 := ⟨Tryz.f174.name, by decide, Tryz.func174.trans (congrArg some (by kernel_rfl))⟩
 f28 := Tryz.func175.trans (congrArg some (by kernel_rfl))
 f29 := Tryz.func176.trans (congrArg some (by kernel_rfl))
 f46 := ⟨Tryz.f188.name, by decide, Tryz.func188.trans (congrArg some (by kernel_rfl))⟩
 f47 := Tryz.func189.trans (congrArg some (by kernel_rfl))
 f48 := Tryz.func190.trans (congrArg some (by kernel_rfl))
 f49 := ⟨Tryz.f191.name, by decide, Tryz.func191.trans (congrArg some (by kernel_rfl))⟩
 f50 := ⟨Tryz.f192.name, by decide, Tryz.func192.trans (congrArg some (by kernel_rfl))⟩
 f57 := ⟨Tryz.f209.name, by decide, Tryz.func209.trans (congrArg some (by kernel_rfl))⟩
 t0 := Tryz.underlying0
 a0 := Tryz.isAgg0
 z0 := Tryz.sizeOf0
 v0 := Tryz.zeroValue0
 t3 := Tryz.underlying3
 a3 := Tryz.isAgg3
 z3 := Tryz.sizeOf3
 v3 := Tryz.zeroValue3
 t4 := Tryz.underlying4
 a4 := Tryz.isAgg4
 z4 := Tryz.sizeOf4
 v4 := Tryz.zeroValue4
 t5 := Tryz.underlying5
 a5 := Tryz.isAgg5
 z5 := Tryz.sizeOf5
 v5 := Tryz.zeroValue5
 t9 := Tryz.underlying9
 a9 := Tryz.isAgg9
 z9 := Tryz.sizeOf9
 v9 := Tryz.zeroValue9
 t22 := Tryz.underlying57
 a22 := Tryz.isAgg57
 z22 := Tryz.sizeOf57
 v22 := Tryz.zeroValue57
 t25 := Tryz.underlying72
 a25 := Tryz.isAgg72
 z25 := Tryz.sizeOf72
 v25 := Tryz.zeroValue72
 t39 := Tryz.underlying147
 a39 := Tryz.isAgg147
 z39 := Tryz.sizeOf147
 v39 := Tryz.zeroValue147
 t45 := Tryz.underlying171
 a45 := Tryz.isAgg171
 z45 := Tryz.sizeOf171
 v45 := Tryz.zeroValue171
 t46 := Tryz.underlying172
 a46 := Tryz.isAgg172
 z46 := Tryz.sizeOf172
 v46 := Tryz.zeroValue172
 t50 := Tryz.underlying47
 a50 := Tryz.isAgg47
 z50 := Tryz.sizeOf47
 v50 := Tryz.zeroValue47
 t53 := Tryz.underlying178
 a53 := Tryz.isAgg178
 z53 := Tryz.sizeOf178
 v53 := Tryz.zeroValue178
 t55 := Tryz.underlying61
 a55 := Tryz.isAgg61
 z55 := Tryz.sizeOf61
 v55 := Tryz.zeroValue61
 t66 := Tryz.underlying187
 a66 := Tryz.isAgg187
 z66 := Tryz.sizeOf187
 v66 := Tryz.zeroValue187
 t70 := Tryz.underlying191
 a70 := Tryz.isAgg191
 z70 := Tryz.sizeOf191
 v70 := Tryz.zeroValue191
 t76 := Tryz.underlying204
 a76 := Tryz.isAgg204
 z76 := Tryz.sizeOf204
 v76 := Tryz.zeroValue204
 t77 := Tryz.underlying205
 a77 := Tryz.isAgg205
 z77 := Tryz.sizeOf205
 v77 := Tryz.zeroValue205 }
open Go.RowKit Go.Lib Go.Sort in
theorem Tryz.slices_SortFunc_none {α : Type} [Inhabited α] (p : Option Addr) (cap : Nat) (fv : Value) (w : World) :
  Calls Tryz.prog 119 #[.slice p 0 cap, fv] w fun e w' => e = .returned (.tuple #[]) ∧ w' = w := AnyF.slices_SortFunc_none Tryz.laysSlF06_f119 p cap fv w
def Tryz.laysSlF06_f122_ren : Go.Shelf.Ren := ⟨fun | 6 => 122 | 15 => 149 | 14 => 151 | 28 => 175 | 29 => 176 | 20 => 178 | 21 => 179 | 22 => 180 | 23 => 181 | 24 => 182 | 25 => 183 | 26 => 184 | 27 => 185 | 46 => 202 | 47 => 189 | 48 => 190 | 49 => 203 | 50 => 204 | 57 => 213 | n => n, fun | 22 => 136 | 24 => 139 | 25 => 141 | 3 => 3 | 39 => 147 | 0 => 0 | 53 => 178 | 55 => 61 | 4 => 4 | 46 => 172 | 45 => 171 | 50 => 47 | 5 => 5 | 9 => 9 | 66 => 187 | 70 => 191 | 76 => 204 | 77 => 205 | n => n, fun | n => n⟩
theorem Tryz.laysSlF06_f122 : Go.Proofs.SlLaysF0.n6 Tryz.prog Tryz.laysSlF06_f122_ren := {
 mixed := by kernel_rfl
 f6 := ⟨Tryz.f122.name, by decide, Tryz.func122.trans (congrArg some (by kernel_rfl))⟩
 f14 := ⟨Tryz.f151.name, by decide, Tryz.func151.trans (congrArg some (by kernel_rfl))⟩
 f15 := Tryz.func149.trans (congrArg some (by kernel_rfl))
 f20 := ⟨Tryz.f178.name, by decide, Tryz.func178.trans (congrArg some (by kernel_rfl))⟩
 f21 := ⟨Tryz.f179.name, by decide, Tryz.func179.trans (congrArg some (by kernel_rfl))⟩
 f22 := ⟨Tryz.f180.name, by decide, Tryz.func180.trans (congrArg some (by kernel_rfl))⟩
 f23 := ⟨Tryz.f181.name, by decide, Tryz.func181.trans (congrArg some (by kernel_rfl))⟩
 f24 := ⟨Tryz.f182.name, by decide, Tryz.func182.trans (congrArg some (by kernel_rfl))⟩
 f25 := ⟨Tryz.f183.name, by decide, Tryz.func183.trans (congrArg some (by kernel_rfl))⟩
 f26 := ⟨Tryz.f184.name, by decide, Tryz.func184.trans (congrArg some (by kernel_rfl))⟩
 f27 := ⟨Tryz.f185.name, by decide, Tryz.func185.trans (congrArg some (by kernel_rfl))⟩
 f28 := Tryz.func175.trans (congrArg some (by kernel_rfl))
 f29 := Tryz.func176.trans (congrArg some (by kernel_rfl))
 f46 := ⟨Tryz.f202.name, by decide, Tryz.func202.trans (congrArg some (by kernel_rfl))⟩
 f47 := Tryz.func189.trans (congrArg some (by kernel_rfl))
 f48 := Tryz.func190.trans (congrArg some (by kernel_rfl))
 f49 := ⟨Tryz.f203.name, by decide, Tryz.func203.trans (congrArg some (by kernel_rfl))⟩
 f50 := ⟨Tryz.f204.name, by decide, Tryz.func204.trans (congrArg some (by kernel_rfl))⟩
 f57 := ⟨Tryz.f213.name, by decide, Tryz.func213.trans (congrArg some (by kernel_rfl))⟩
 t0 := Tryz.underlying0
 a0 := Tryz.isAgg0
 z0 := Tryz.sizeOf0
 v0 := Tryz.zeroValue0
 t3 := Tryz.underlying3
 a3 := Tryz.isAgg3
 z3 := Tryz.sizeOf3
 v3 := Tryz.zeroValue3
 t4 := Tryz.underlying4
 a4 := Tryz.isAgg4
 z4 := Tryz.sizeOf4
 v4 := Tryz.zeroValue4
 t5 := Tryz.underlying5
 a5 := Tryz.isAgg5
 z5 := Tryz.sizeOf5
 v5 := Tryz.zeroValue5
 t9 := Tryz.underlying9
 a9 := Tryz.isAgg9
 z9 := Tryz.sizeOf9
 v9 := Tryz.zeroValue9
 t22 := Tryz.underlying136
 a22 := Tryz.isAgg136
 z22 := Tryz.sizeOf136
 v22 := Tryz.zeroValue136
 t25 := Tryz.underlying141
 a25 := Tryz.isAgg141
 z25 := Tryz.sizeOf141
 v25 := Tryz.zeroValue141
 t39 := Tryz.underlying147
 a39 := Tryz.isAgg147
 z39 := Tryz.sizeOf147
 v39 := Tryz.zeroValue147
 t45 := Tryz.underlying171
 a45 := Tryz.isAgg171
 z45 := Tryz.sizeOf171
 v45 := Tryz.zeroValue171
 t46 := Tryz.underlying172
 a46 := Tryz.isAgg172
 z46 := Tryz.sizeOf172
 v46 := Tryz.zeroValue172
 t50 := Tryz.underlying47
 a50 := Tryz.isAgg47
 z50 := Tryz.sizeOf47
 v50 := Tryz.zeroValue47
 t53 := Tryz.underlying178
 a53 := Tryz.isAgg178
 z53 := Tryz.sizeOf178
 v53 := Tryz.zeroValue178
 t55 := Tryz.underlying61
 a55 := Tryz.isAgg61
 z55 := Tryz.sizeOf61
 v55 := Tryz.zeroValue61
 t66 := Tryz.underlying187
 a66 := Tryz.isAgg187
 z66 := Tryz.sizeOf187
 v66 := Tryz.zeroValue187
 t70 := Tryz.underlying191
 a70 := Tryz.isAgg191
 z70 := Tryz.sizeOf191
 v70 := Tryz.zeroValue191
 t76 := Tryz.underlying204
 a76 := Tryz.isAgg204
 z76 := Tryz.sizeOf204
 v76 := Tryz.zeroValue204
 t77 := Tryz.underlying205
 a77 := Tryz.isAgg205
 z77 := Tryz.sizeOf205
 v77 := Tryz.zeroValue205 }
open Go.RowKit Go.Lib Go.Sort in
theorem Tryz.slices_SortFunc_ent {α : Type} [Inhabited α] (k : Nat) (aE : ∀ w, (isAgg (Tryz.laysSlF06_f122_ren.t 24)).run Tryz.prog w = .ok true w) (zE : ∀ w, (Go.sizeOf (Tryz.laysSlF06_f122_ren.t 24)).run Tryz.prog w = .ok k w) (enc : α → List Value) (hk : ∀ x, (enc x).length = k) (h1 : ∀ x, ∀ v ∈ enc x, v.oneCell' = true) (cf : α → α → Int) (hO : SWO (ltOf cf)) (g : Nat) (cb : Array Value) (blk off cap : Nat) (d : Array α) (w : World)
  (eg : ∀ args w, (callFunc g args).run Tryz.prog w = .ok (.enter g args) w) (hcmp : CmpLays Tryz.prog g cb enc k cf blk off d.size w) (hH : HoldsK enc k w blk off d) (hblk : blk < w.heap.size) (hsz : d.size < 4611686018427387904) :
  Calls Tryz.prog 122 #[.slice (some ⟨blk, off, none⟩) d.size cap, .func (.func g) #[] cb] w fun e w' =>
   e = .returned (.tuple #[]) ∧ ∃ d' n os, PermIn 0 d.size d d' ∧ SortedIn (ltOf cf) 0 d.size d' ∧ w' = sortWorldK enc k w blk off n d' os := AnyQ.slices_SortFunc Tryz.laysSlF06_f122 k aE zE enc hk h1 cf hO g cb blk off cap d w eg hcmp hH hblk hsz
open Go.RowKit Go.Lib Go.Sort in
theorem Tryz.slices_SortFunc_ent_none {α : Type} [Inhabited α] (p : Option Addr) (cap : Nat) (fv : Value) (w : World) :
  Calls Tryz.prog 122 #[.slice p 0 cap, fv] w fun e w' => e = .returned (.tuple #[]) ∧ w' = w := AnyF.slices_SortFunc_none Tryz.laysSlF06_f122 p cap fv w
end Go.Proofs

set_option maxRecDepth 20000
set_option maxHeartbeats 2000000
namespace Go.Proofs.YtkfgdhanaijddaaGreatDoor
namespace B1
open Go.RowKit Go.GL Go.Proofs
end B1
section
open Go.RowKit Go.GL Go.Proofs
theorem ag111 : (Tryz.prog.underlying 111).map aggD = some false := by kernel_rfl
theorem ag114 : (Tryz.prog.underlying 114).map aggD = some false := by kernel_rfl
theorem ag115 : (Tryz.prog.underlying 115).map aggD = some false := by kernel_rfl
theorem ag118 : (Tryz.prog.underlying 118).map aggD = some true := by kernel_rfl
theorem ag139 : (Tryz.prog.underlying 139).map aggD = some true := by kernel_rfl
theorem ag22 : (Tryz.prog.underlying 22).map aggD = some false := by kernel_rfl
theorem ag26 : (Tryz.prog.underlying 26).map aggD = some false := by kernel_rfl
theorem ag28 : (Tryz.prog.underlying 28).map aggD = some true := by kernel_rfl
theorem ag3 : (Tryz.prog.underlying 3).map aggD = some false := by kernel_rfl
theorem ag4 : (Tryz.prog.underlying 4).map aggD = some false := by kernel_rfl
theorem ag5 : (Tryz.prog.underlying 5).map aggD = some false := by kernel_rfl
theorem ag57 : (Tryz.prog.underlying 57).map aggD = some false := by kernel_rfl
theorem ag61 : (Tryz.prog.underlying 61).map aggD = some false := by kernel_rfl
theorem ag68 : (Tryz.prog.underlying 68).map aggD = some true := by kernel_rfl
theorem ag69 : (Tryz.prog.underlying 69).map aggD = some false := by kernel_rfl
theorem ap139 : (Tryz.prog.info? 139).map (fun i => (i.size, i.bytes, (i.zero.map (·.cells.size)))) = some (3, 56, some 3) := by kernel_rfl
theorem ap28 : (Tryz.prog.info? 28).map (fun i => (i.size, i.bytes, (i.zero.map (·.cells.size)))) = some (1, 24, some 1) := by kernel_rfl
theorem ap3 : (Tryz.prog.info? 3).map (fun i => (i.size, i.bytes, (i.zero.map (·.cells.size)))) = some (1, 8, some 1) := by kernel_rfl
theorem ap5 : (Tryz.prog.info? 5).map (fun i => (i.size, i.bytes, (i.zero.map (·.cells.size)))) = some (1, 1, some 1) := by kernel_rfl
theorem ap57 : (Tryz.prog.info? 57).map (fun i => (i.size, i.bytes, (i.zero.map (·.cells.size)))) = some (1, 24, some 1) := by kernel_rfl
theorem ap68 : (Tryz.prog.info? 68).map (fun i => (i.size, i.bytes, (i.zero.map (·.cells.size)))) = some (2, 48, some 2) := by kernel_rfl
theorem nm10 : (Tryz.f10.name == "runtime.NumGoroutine") = false := by kernel_rfl
theorem nm100 : (Tryz.f100.name == "runtime.NumGoroutine") = false := by kernel_rfl
theorem nm101 : (Tryz.f101.name == "runtime.NumGoroutine") = false := by kernel_rfl
theorem nm102 : (Tryz.f102.name == "runtime.NumGoroutine") = false := by kernel_rfl
theorem nm103 : (Tryz.f103.name == "runtime.NumGoroutine") = false := by kernel_rfl
theorem nm105 : (Tryz.f105.name == "runtime.NumGoroutine") = false := by kernel_rfl
theorem nm106 : (Tryz.f106.name == "runtime.NumGoroutine") = false := by kernel_rfl
theorem nm107 : (Tryz.f107.name == "runtime.NumGoroutine") = false := by kernel_rfl
theorem nm108 : (Tryz.f108.name == "runtime.NumGoroutine") = false := by kernel_rfl
theorem nm109 : (Tryz.f109.name == "runtime.NumGoroutine") = false := by kernel_rfl
theorem nm11 : (Tryz.f11.name == "runtime.NumGoroutine") = false := by kernel_rfl
theorem nm113 : (Tryz.f113.name == "runtime.NumGoroutine") = false := by kernel_rfl
theorem nm114 : (Tryz.f114.name == "runtime.NumGoroutine") = false := by kernel_rfl
theorem nm115 : (Tryz.f115.name == "runtime.NumGoroutine") = false := by kernel_rfl
theorem nm116 : (Tryz.f116.name == "runtime.NumGoroutine") = false := by kernel_rfl
theorem nm119 : (Tryz.f119.name == "runtime.NumGoroutine") = false := by kernel_rfl
theorem nm12 : (Tryz.f12.name == "runtime.NumGoroutine") = false := by kernel_rfl
theorem nm121 : (Tryz.f121.name == "runtime.NumGoroutine") = false := by kernel_rfl
theorem nm122 : (Tryz.f122.name == "runtime.NumGoroutine") = false := by kernel_rfl
theorem nm124 : (Tryz.f124.name == "runtime.NumGoroutine") = false := by kernel_rfl
theorem nm126 : (Tryz.f126.name == "runtime.NumGoroutine") = false := by kernel_rfl
theorem nm127 : (Tryz.f127.name == "runtime.NumGoroutine") = false := by kernel_rfl
theorem nm13 : (Tryz.f13.name == "runtime.NumGoroutine") = false := by kernel_rfl
theorem nm132 : (Tryz.f132.name == "runtime.NumGoroutine") = false := by kernel_rfl
theorem nm136 : (Tryz.f136.name == "runtime.NumGoroutine") = false := by kernel_rfl
theorem nm137 : (Tryz.f137.name == "runtime.NumGoroutine") = false := by kernel_rfl
theorem nm138 : (Tryz.f138.name == "runtime.NumGoroutine") = false := by kernel_rfl
theorem nm139 : (Tryz.f139.name == "runtime.NumGoroutine") = false := by kernel_rfl
theorem nm14 : (Tryz.f14.name == "runtime.NumGoroutine") = false := by kernel_rfl
theorem nm142 : (Tryz.f142.name == "runtime.NumGoroutine") = false := by kernel_rfl
theorem nm144 : (Tryz.f144.name == "runtime.NumGoroutine") = false := by kernel_rfl
theorem nm145 : (Tryz.f145.name == "runtime.NumGoroutine") = false := by kernel_rfl
theorem nm146 : (Tryz.f146.name == "runtime.NumGoroutine") = false := by kernel_rfl
theorem nm15 : (Tryz.f15.name == "runtime.NumGoroutine") = false := by kernel_rfl
theorem nm150 : (Tryz.f150.name == "runtime.NumGoroutine") = false := by kernel_rfl
theorem nm152 : (Tryz.f152.name == "runtime.NumGoroutine") = false := by kernel_rfl
theorem nm153 : (Tryz.f153.name == "runtime.NumGoroutine") = false := by kernel_rfl
theorem nm161 : (Tryz.f161.name == "runtime.NumGoroutine") = false := by kernel_rfl
theorem nm162 : (Tryz.f162.name == "runtime.NumGoroutine") = false := by kernel_rfl
theorem nm163 : (Tryz.f163.name == "runtime.NumGoroutine") = false := by kernel_rfl
theorem nm166 : (Tryz.f166.name == "runtime.NumGoroutine") = false := by kernel_rfl
theorem nm187 : (Tryz.f187.name == "runtime.NumGoroutine") = false := by kernel_rfl
theorem nm208 : (Tryz.f208.name == "runtime.NumGoroutine") = false := by kernel_rfl
theorem nm216 : (Tryz.f216.name == "runtime.NumGoroutine") = false := by kernel_rfl
theorem nm41 : (Tryz.f41.name == "runtime.NumGoroutine") = false := by kernel_rfl
theorem nm42 : (Tryz.f42.name == "runtime.NumGoroutine") = false := by kernel_rfl
theorem nm43 : (Tryz.f43.name == "runtime.NumGoroutine") = false := by kernel_rfl
theorem nm44 : (Tryz.f44.name == "runtime.NumGoroutine") = false := by kernel_rfl
theorem nm45 : (Tryz.f45.name == "runtime.NumGoroutine") = false := by kernel_rfl
theorem nm46 : (Tryz.f46.name == "runtime.NumGoroutine") = false := by kernel_rfl
theorem nm47 : (Tryz.f47.name == "runtime.NumGoroutine") = false := by kernel_rfl
theorem nm48 : (Tryz.f48.name == "runtime.NumGoroutine") = false := by kernel_rfl
theorem nm49 : (Tryz.f49.name == "runtime.NumGoroutine") = false := by kernel_rfl
theorem nm50 : (Tryz.f50.name == "runtime.NumGoroutine") = false := by kernel_rfl
theorem nm51 : (Tryz.f51.name == "runtime.NumGoroutine") = false := by kernel_rfl
theorem nm52 : (Tryz.f52.name == "runtime.NumGoroutine") = false := by kernel_rfl
theorem nm53 : (Tryz.f53.name == "runtime.NumGoroutine") = false := by kernel_rfl
theorem nm54 : (Tryz.f54.name == "runtime.NumGoroutine") = false := by kernel_rfl
theorem nm57 : (Tryz.f57.name == "runtime.NumGoroutine") = false := by kernel_rfl
theorem nm59 : (Tryz.f59.name == "runtime.NumGoroutine") = false := by kernel_rfl
theorem nm60 : (Tryz.f60.name == "runtime.NumGoroutine") = false := by kernel_rfl
theorem nm65 : (Tryz.f65.name == "runtime.NumGoroutine") = false := by kernel_rfl
theorem nm67 : (Tryz.f67.name == "runtime.NumGoroutine") = false := by kernel_rfl
theorem nm69 : (Tryz.f69.name == "runtime.NumGoroutine") = false := by kernel_rfl
theorem nm78 : (Tryz.f78.name == "runtime.NumGoroutine") = false := by kernel_rfl
theorem nm82 : (Tryz.f82.name == "runtime.NumGoroutine") = false := by kernel_rfl
theorem nm85 : (Tryz.f85.name == "runtime.NumGoroutine") = false := by kernel_rfl
theorem nm93 : (Tryz.f93.name == "runtime.NumGoroutine") = false := by kernel_rfl
theorem nm94 : (Tryz.f94.name == "runtime.NumGoroutine") = false := by kernel_rfl
theorem nm96 : (Tryz.f96.name == "runtime.NumGoroutine") = false := by kernel_rfl
theorem nm97 : (Tryz.f97.name == "runtime.NumGoroutine") = false := by kernel_rfl
theorem nm98 : (Tryz.f98.name == "runtime.NumGoroutine") = false := by kernel_rfl
theorem nm99 : (Tryz.f99.name == "runtime.NumGoroutine") = false := by kernel_rfl
theorem nz111 : (Tryz.prog.info? 111).map (·.size == 0) = some false := by kernel_rfl
theorem nz114 : (Tryz.prog.info? 114).map (·.size == 0) = some false := by kernel_rfl
theorem nz115 : (Tryz.prog.info? 115).map (·.size == 0) = some false := by kernel_rfl
theorem nz22 : (Tryz.prog.info? 22).map (·.size == 0) = some false := by kernel_rfl
theorem nz26 : (Tryz.prog.info? 26).map (·.size == 0) = some false := by kernel_rfl
theorem nz3 : (Tryz.prog.info? 3).map (·.size == 0) = some false := by kernel_rfl
theorem nz57 : (Tryz.prog.info? 57).map (·.size == 0) = some false := by kernel_rfl
theorem nz61 : (Tryz.prog.info? 61).map (·.size == 0) = some false := by kernel_rfl
theorem nz68 : (Tryz.prog.info? 68).map (·.size == 0) = some false := by kernel_rfl
theorem sz115 : (Tryz.prog.info? 115).map (·.size) = some 1 := by kernel_rfl
theorem sz118 : (Tryz.prog.info? 118).map (·.size) = some 2 := by kernel_rfl
theorem sz139 : (Tryz.prog.info? 139).map (·.size) = some 3 := by kernel_rfl
theorem sz26 : (Tryz.prog.info? 26).map (·.size) = some 1 := by kernel_rfl
theorem sz28 : (Tryz.prog.info? 28).map (·.size) = some 1 := by kernel_rfl
theorem sz3 : (Tryz.prog.info? 3).map (·.size) = some 1 := by kernel_rfl
theorem sz4 : (Tryz.prog.info? 4).map (·.size) = some 1 := by kernel_rfl
theorem sz5 : (Tryz.prog.info? 5).map (·.size) = some 1 := by kernel_rfl
theorem sz57 : (Tryz.prog.info? 57).map (·.size) = some 1 := by kernel_rfl
theorem sz61 : (Tryz.prog.info? 61).map (·.size) = some 1 := by kernel_rfl
theorem sz68 : (Tryz.prog.info? 68).map (·.size) = some 2 := by kernel_rfl
theorem zr117 : (Tryz.prog.info? 117).bind (·.zero) = some (.agg #[(.slice none 0 0), (.slice none 0 0), (.slice none 0 0), (.map none), (.map none), (.map none), (.map none), (.map none)]) := by kernel_rfl
theorem zr118 : (Tryz.prog.info? 118).bind (·.zero) = some (.agg #[(.int .i64 0), (.int .i64 0)]) := by kernel_rfl
theorem zr133 : (Tryz.prog.info? 133).bind (·.zero) = some (.agg #[(.slice none 0 0), (.slice none 0 0)]) := by kernel_rfl
theorem zr139 : (Tryz.prog.info? 139).bind (·.zero) = some (.agg #[(.int .i64 0), (.slice none 0 0), (.slice none 0 0)]) := by kernel_rfl
theorem zr149 : (Tryz.prog.info? 149).bind (·.zero) = some (.agg #[(.slice none 0 0), (.slice none 0 0)]) := by kernel_rfl
theorem zr212 : (Tryz.prog.info? 212).bind (·.zero) = some (.agg #[(.int .u8 0), (.int .u8 0), (.int .u8 0), (.int .u8 0), (.int .u8 0), (.int .u8 0), (.int .u8 0), (.int .u8 0), (.int .u8 0), (.int .u8 0), (.int .u8 0), (.int .u8 0), (.int .u8 0), (.int .u8 0), (.int .u8 0), (.int .u8 0), (.int .u8 0), (.int .u8 0), (.int .u8 0), (.int .u8 0), (.int .u8 0), (.int .u8 0), (.int .u8 0), (.int .u8 0), (.int .u8 0), (.int .u8 0), (.int .u8 0), (.int .u8 0), (.int .u8 0), (.int .u8 0), (.int .u8 0), (.int .u8 0), (.int .u8 0), (.int .u8 0), (.int .u8 0), (.int .u8 0), (.int .u8 0), (.int .u8 0), (.int .u8 0), (.int .u8 0), (.int .u8 0), (.int .u8 0), (.int .u8 0), (.int .u8 0), (.int .u8 0), (.int .u8 0), (.int .u8 0), (.int .u8 0), (.int .u8 0), (.int .u8 0), (.int .u8 0), (.int .u8 0), (.int .u8 0), (.int .u8 0), (.int .u8 0), (.int .u8 0), (.int .u8 0), (.int .u8 0), (.int .u8 0), (.int .u8 0), (.int .u8 0), (.int .u8 0), (.int .u8 0), (.int .u8 0), (.int .u8 0)]) := by kernel_rfl
theorem zr28 : (Tryz.prog.info? 28).bind (·.zero) = some (.agg #[(.slice none 0 0)]) := by kernel_rfl
theorem zr3 : (Tryz.prog.info? 3).bind (·.zero) = some (.int .i64 0) := by kernel_rfl
theorem zr4 : (Tryz.prog.info? 4).bind (·.zero) = some (.bool false) := by kernel_rfl
theorem zr5 : (Tryz.prog.info? 5).bind (·.zero) = some (.int .u8 0) := by kernel_rfl
theorem zr57 : (Tryz.prog.info? 57).bind (·.zero) = some (.slice none 0 0) := by kernel_rfl
theorem zr63 : (Tryz.prog.info? 63).bind (·.zero) = some (.agg #[(.slice none 0 0), (.int .i64 0), (.int .u64 0)]) := by kernel_rfl
theorem zr68 : (Tryz.prog.info? 68).bind (·.zero) = some (.agg #[(.slice none 0 0), (.slice none 0 0)]) := by kernel_rfl
end
namespace B1
open Go.RowKit Go.GL Go.Proofs




theorem mk3 : (Tryz.prog.info? 3).map (fun i => (i.size, i.bytes, i.zero)) = some (1, 8, some (.int .i64 0)) := by kernel_rfl
theorem mk4 : (Tryz.prog.info? 4).map (fun i => (i.size, i.bytes, i.zero)) = some (1, 1, some (.bool false)) := by kernel_rfl
















theorem goodOptions_spec {w : World} {G : Pin} {v : Value} {xs : List Int} {b : Int} (hP : Pins G w) (hv : RSl eInt G v xs) :
  Calls Tryz.prog 105 [v, (vJ b)].toArray w fun e w' => e = .returned (.bool (goodOpts xs b)) ∧ w' = w := by
 refine yD (n := 27) Tryz.func105 Tryz.ntmps105 rfl rfl ?_
 have h : Ext noS G w G w := Ext.refl hP
 have hm := hv.max
 refine zB (zC ?_)
 refine qM (.bool false) ?_
 refine qe (zA (zB (zB (zC ?_))))
 refine qM v ?_
 refine qD rfl (zN Tryz.underlying57 (v := v) rfl hv) ?_
 refine qD rfl (r_gtr rfl rfl) ?_
 refine qe (zA ?_)
 refine yI (p := (24 : Int) < (xs.length : Int)) rfl rfl (fun a => ?_) (fun a => ?_)
 ·skip
  refine zB (zC ?_)
  refine qM (.bool false) ?_
  refine qe (zA ?_)
  refine wp_ret ?_
  refine zR ?_
  refine zQ (v := (.bool false)) rfl rfl rfl ?_
  exact ⟨congrArg (fun z => Ending.returned (Value.bool z)) (by unfold goodOpts; rw [if_pos a]), rfl⟩
 refine wp_skip ?_
 refine zA (zB (zC ?_))
 refine qM (vJ (-1)) ?_
 refine qe (zA (zB (zB (zC ?_))))
 refine qM v ?_
 refine qD rfl (zN Tryz.underlying57 (v := v) rfl hv) ?_
 refine qM (vJ 0) ?_
 refine qe (zA ?_)
 refine zX ?_
 refine yQ (fun (k : Nat) (en : Nat → Value) (W : World) => ∃ (f : Nat → Value) (j : Nat) (last : Int), en = (upd (upd (upd (upd (upd f 1 (vJ b)) 5 (vJ last)) 11 v) 12 (vJ (xs.length : Int))) 13 (vJ (j : Int))) ∧ k = xs.length - j ∧ Ext noS G w G W ∧ (j ≤ xs.length) ∧ (W = w) ∧ (goodOpts xs b = goodFrom last b (xs.drop j))) _ ⟨_, 0, (-1), (pS 13 (pS 12 (pS 11 (pS 5 (pU 1))))), rfl, h, Nat.zero_le _, rfl, (by unfold goodOpts; rw [if_neg a]; rfl)⟩ ?_
 rintro l _ m ⟨f, j, last, rfl, o, g, hj, hw, hr⟩
 subst hw
 refine zB (zC ?_)
 refine qD rfl (yV rfl rfl) ?_
 refine qe (zA (zB ?_))
 refine yI (p := ((j : Int) : Int) < (xs.length : Int)) rfl rfl (fun i => ?_) (fun i => ?_)
 ·skip
  refine wp_skip ?_
  refine zA (zB ?_)
  refine zX ?_
  refine zB (zC ?_)
  refine qD rfl (zJ Tryz.underlying57 sz3 (v := v) rfl rfl hv (by omega) (by omega)) ?_
  refine qD rfl (zK (r := xs.getD j 0) rfl ag3 (z := (j : Int)) rfl hv g.pins (by omega) (by omega)) ?_
  refine qM (vJ (xs.getD j 0)) ?_
  refine qe (zA (zB (zB (zC ?_))))
  refine qM (vJ (xs.getD j 0)) ?_
  refine qM (vJ last) ?_
  refine qD rfl (r_leq rfl rfl) ?_
  refine qM (.bool (decide ((xs.getD j 0 : Int) ≤ last))) ?_
  refine qbd (p := (xs.getD j 0 : Int) ≤ last) (t := 20) rfl (fun c => ?_) (fun c => ?_)
  ·skip
   refine qW ?_
   refine qW ?_
   refine qW ?_
   refine qD rfl (xE (v := (.bool true)) rfl rfl) ?_
   refine qe (zA ?_)
   refine c_ifT rfl rfl ?_
   refine zB (zC ?_)
   refine qM (.bool false) ?_
   refine qe (zA ?_)
   refine wp_ret ?_
   refine zR ?_
   refine zQ (v := (.bool false)) rfl rfl rfl ?_
   exact ⟨congrArg (fun z => Ending.returned (Value.bool z)) ((hr.trans (goodFrom_bad (by omega) (Or.inl c))).symm), rfl⟩
  refine qN (zU (v := (vJ (xs.getD j 0))) rfl) ?_
  refine qN (zU (v := (vJ b)) rfl) ?_
  refine qN (r_geq rfl rfl) ?_
  refine qD rfl (xA (v := (.bool (decide ((b : Int) ≤ (xs.getD j 0))))) rfl rfl) ?_
  refine qe (zA ?_)
  refine yI (p := (b : Int) ≤ (xs.getD j 0)) rfl rfl (fun d => ?_) (fun d => ?_)
  ·skip
   refine zB (zC ?_)
   refine qM (.bool false) ?_
   refine qe (zA ?_)
   refine wp_ret ?_
   refine zR ?_
   refine zQ (v := (.bool false)) rfl rfl rfl ?_
   exact ⟨congrArg (fun z => Ending.returned (Value.bool z)) ((hr.trans (goodFrom_bad (by omega) (Or.inr d))).symm), rfl⟩
  refine wp_skip ?_
  refine zA (zC ?_)
  refine qM (vJ (xs.getD j 0)) ?_
  refine qM (vJ (xs.getD j 0)) ?_
  refine qe ?_
  refine yJ ?_
  refine zA (zC ?_)
  refine qD rfl (yR rfl rfl (by omega)) ?_
  refine qM (vJ ((j : Int) + 1)) ?_
  refine qe ?_
  refine yK ?_
  refine ⟨_, ?_, _, rfl, _, j + 1, xs.getD j 0, (pS 13 (pS 12 (pS 11 (pS 5 (pU 1))))), rfl, g, (by omega), rfl, (hr.trans (goodFrom_next (by omega) c d))⟩
  omega
 refine wp_exit ?_
 refine yA ?_
 refine yN ?_
 refine yL ?_
 refine zA (zB (zC ?_))
 refine qM (.bool true) ?_
 refine qe (zA ?_)
 refine wp_ret ?_
 refine zR ?_
 refine zQ (v := (.bool true)) rfl rfl rfl ?_
 exact ⟨congrArg (fun z => Ending.returned (Value.bool z)) ((hr.trans (goodFrom_end (by omega))).symm), rfl⟩

theorem isNaN_spec {w : World} {G : Pin} {x : Int} (hP : Pins G w) :
  Calls Tryz.prog 132 [(.int .i64 x)].toArray w fun e w' => e = .returned (.bool false) ∧ w' = w := by
 refine yD (n := 6) Tryz.func132 Tryz.ntmps132 rfl rfl ?_
 have hX0 : Ext noS G w G w := Ext.refl hP
 refine zB (zC ?_)
 refine qM (.bool false) ?_
 refine qe (zA (zB (zC ?_)))
 refine qM (.int .i64 x) ?_
 refine qM (.int .i64 x) ?_
 refine qD rfl (r_neq rfl rfl) ?_
 refine qM (.bool (decide ((x : Int) ≠ x))) ?_
 refine qe (zA ?_)
 refine wp_ret ?_
 refine zR ?_
 refine zQ (v := (.bool (decide ((x : Int) ≠ x)))) rfl rfl rfl ?_
 exact ⟨congrArg (fun z => Ending.returned (Value.bool z)) (decide_eq_false (fun h => h rfl)), rfl⟩

theorem cmpCompare_spec {w : World} {G : Pin} {x y : Int} (hP : Pins G w) :
  Calls Tryz.prog 85 [(.int .i64 x), (.int .i64 y)].toArray w fun e w' => e = .returned (.int .i64 (cmpI x y)) ∧ w' = w := by
 refine yD (n := 20) Tryz.func85 Tryz.ntmps85 rfl rfl ?_
 have hX0 : Ext noS G w G w := Ext.refl hP
 refine zB (zC ?_)
 refine qM (.int .i64 0) ?_
 refine qe (zA (zB (zC ?_)))
 refine qM (.int .i64 x) ?_
 refine qI rfl (zM (vs := [(.int .i64 x)]) Tryz.func132 nm132 rfl rfl rfl ?_)
 refine Calls.mono (isNaN_spec hX0.pins) ?_
 rintro _ _ ⟨rfl, rfl⟩
 refine ⟨_, rfl, ?_⟩
 refine qM (.bool false) ?_
 refine qe (zA (zB (zC ?_)))
 refine qM (.int .i64 y) ?_
 refine qI rfl (zM (vs := [(.int .i64 y)]) Tryz.func132 nm132 rfl rfl rfl ?_)
 refine Calls.mono (isNaN_spec hX0.pins) ?_
 rintro _ _ ⟨rfl, rfl⟩
 refine ⟨_, rfl, ?_⟩
 refine qM (.bool false) ?_
 refine qe (zA (zB (zB (zC ?_))))
 refine qM (.bool false) ?_
 refine qe (zA ?_)
 refine c_ifF rfl rfl ?_
 refine wp_skip ?_
 refine zA (zB (zB (zC ?_)))
 refine qM (.bool false) ?_
 refine qe (zA ?_)
 refine c_ifF rfl rfl ?_
 refine wp_skip ?_
 refine zA (zB (zB (zC ?_)))
 refine qM (.int .i64 x) ?_
 refine qM (.int .i64 y) ?_
 refine qD rfl (yV rfl rfl) ?_
 refine qe (zA ?_)
 refine yI (p := (x : Int) < y) rfl rfl (fun h1 => ?_) (fun h1 => ?_)
 ·skip
  refine zB (zC ?_)
  refine qM (.int .i64 (-1)) ?_
  refine qe (zA ?_)
  refine wp_ret ?_
  refine zR ?_
  refine zQ (v := (.int .i64 (-1))) rfl rfl rfl ?_
  exact ⟨congrArg (fun z => Ending.returned (Value.int .i64 z)) (by unfold cmpI; (first | rw [if_pos (by omega)] | (rw [if_neg (by omega)]; first | rw [if_pos (by omega)] | rw [if_neg (by omega)]))), rfl⟩
 refine wp_skip ?_
 refine zA (zB (zB (zC ?_)))
 refine qM (.int .i64 x) ?_
 refine qM (.int .i64 y) ?_
 refine qD rfl (r_gtr rfl rfl) ?_
 refine qe (zA ?_)
 refine yI (p := (y : Int) < x) rfl rfl (fun h2 => ?_) (fun h2 => ?_)
 ·skip
  refine zB (zC ?_)
  refine qM (.int .i64 1) ?_
  refine qe (zA ?_)
  refine wp_ret ?_
  refine zR ?_
  refine zQ (v := (.int .i64 1)) rfl rfl rfl ?_
  exact ⟨congrArg (fun z => Ending.returned (Value.int .i64 z)) (by unfold cmpI; (first | rw [if_pos (by omega)] | (rw [if_neg (by omega)]; first | rw [if_pos (by omega)] | rw [if_neg (by omega)]))), rfl⟩
 refine wp_skip ?_
 refine zA (zB (zC ?_))
 refine qM (.int .i64 0) ?_
 refine qe (zA ?_)
 refine wp_ret ?_
 refine zR ?_
 refine zQ (v := (.int .i64 0)) rfl rfl rfl ?_
 exact ⟨congrArg (fun z => Ending.returned (Value.int .i64 z)) (by unfold cmpI; (first | rw [if_pos (by omega)] | (rw [if_neg (by omega)]; first | rw [if_pos (by omega)] | rw [if_neg (by omega)]))), rfl⟩

theorem cmpOr_spec {w : World} {G : Pin} {v : Value} {xs : List Int} (hP : Pins G w) (hv : RSl eInt G v xs) :
  Calls Tryz.prog 106 [v].toArray w fun e w' => e = .returned (.int .i64 (orL xs)) ∧ w' = w := by
 refine yD (n := 18) Tryz.func106 Tryz.ntmps106 rfl rfl ?_
 have d : Ext noS G w G w := Ext.refl hP
 have hm := hv.max
 refine zB (zC ?_)
 refine qM (.int .i64 0) ?_
 refine qe (zA (zB (zC ?_)))
 refine qM (.int .i64 0) ?_
 refine qe (zA (zB (zB (zC ?_))))
 refine qM v ?_
 refine qD rfl (zN Tryz.underlying57 (v := v) rfl hv) ?_
 refine qM (.int .i64 0) ?_
 refine qe (zA ?_)
 refine zX ?_
 refine yQ (fun (k : Nat) (en : Nat → Value) (W : World) => ∃ (b : Nat → Value) (j : Nat), en = (upd (upd (upd (upd b 3 (.int .i64 0)) 6 v) 7 (.int .i64 (xs.length : Int))) 8 (.int .i64 (j : Int))) ∧ k = xs.length - j ∧ Ext noS G w G W ∧ (j ≤ xs.length) ∧ (W = w) ∧ (orL xs = orL (xs.drop j))) _ ⟨_, 0, (pS 8 (pS 7 (pS 6 (pU 3)))), rfl, d, Nat.zero_le _, rfl, rfl⟩ ?_
 rintro g _ h ⟨b, j, rfl, i, c, hj, hw, hr⟩
 subst hw
 refine zB (zC ?_)
 refine qD rfl (yV rfl rfl) ?_
 refine qe (zA (zB ?_))
 refine yI (p := ((j : Int) : Int) < (xs.length : Int)) rfl rfl (fun f => ?_) (fun f => ?_)
 ·skip
  refine wp_skip ?_
  refine zA (zB ?_)
  refine zX ?_
  refine zB (zC ?_)
  refine qD rfl (zJ Tryz.underlying57 sz3 (v := v) rfl rfl hv (by omega) (by omega)) ?_
  refine qD rfl (zK (r := xs.getD j 0) rfl ag3 (z := (j : Int)) rfl hv c.pins (by omega) (by omega)) ?_
  refine qM (.int .i64 (xs.getD j 0)) ?_
  refine qe (zA (zB (zC ?_)))
  refine qM (.int .i64 (xs.getD j 0)) ?_
  refine qM (.int .i64 0) ?_
  refine qD rfl (r_neq rfl rfl) ?_
  refine qe (zA ?_)
  refine yI (p := (xs.getD j 0 : Int) ≠ 0) rfl rfl (fun a => ?_) (fun a => ?_)
  ·skip
   refine zB (zC ?_)
   refine qM (.int .i64 (xs.getD j 0)) ?_
   refine qM (.int .i64 (xs.getD j 0)) ?_
   refine qe (zA ?_)
   refine wp_ret ?_
   refine zR ?_
   refine zQ (v := (.int .i64 (xs.getD j 0))) rfl rfl rfl ?_
   exact ⟨congrArg (fun z => Ending.returned (Value.int .i64 z)) ((hr.trans (orL_hit (by omega) a)).symm), rfl⟩
  refine wp_skip ?_
  refine yJ ?_
  refine zA (zC ?_)
  refine qD rfl (yR rfl rfl (by omega)) ?_
  refine qM (.int .i64 ((j : Int) + 1)) ?_
  refine qe ?_
  refine yK ?_
  refine ⟨_, ?_, _, rfl, _, j + 1, (pS 8 (pS 7 (pS 6 (pU 3)))), rfl, c, (by omega), rfl, (hr.trans (orL_next (by omega) a))⟩
  omega
 refine wp_exit ?_
 refine yA ?_
 refine yN ?_
 refine yL ?_
 refine zA (zB (zC ?_))
 refine qM (.int .i64 0) ?_
 refine qM (.int .i64 0) ?_
 refine qe (zA ?_)
 refine wp_ret ?_
 refine zR ?_
 refine zQ (v := (.int .i64 0)) rfl rfl rfl ?_
 exact ⟨congrArg (fun z => Ending.returned (Value.int .i64 z)) ((hr.trans (orL_end (by omega))).symm), rfl⟩

theorem slCompare_spec {w : World} {G : Pin} {u v : Value} {xs ys : List Int} (hP : Pins G w) (hu : RSl eInt G u xs) (hv : RSl eInt G v ys) :
  Calls Tryz.prog 107 [u, v].toArray w fun e w' => e = .returned (vJ (cmpL xs ys)) ∧ w' = w := by
 refine yD (n := 36) Tryz.func107 Tryz.ntmps107 rfl rfl ?_
 have d : Ext noS G w G w := Ext.refl hP
 have hm := hu.max
 refine zB (zC ?_)
 refine qM (vJ 0) ?_
 refine qe (zA (zB (zB (zC ?_))))
 refine qM u ?_
 refine qD rfl (zN Tryz.underlying57 (v := u) rfl hu) ?_
 refine qM (vJ 0) ?_
 refine qe (zA ?_)
 refine zX ?_
 refine yQ (fun (k : Nat) (en : Nat → Value) (W : World) => ∃ (c : Nat → Value) (j : Nat), en = (upd (upd (upd (upd (upd c 0 u) 1 v) 9 u) 10 (vJ (xs.length : Int))) 11 (vJ (j : Int))) ∧ k = xs.length - j ∧ Ext noS G w G W ∧ (j ≤ xs.length ∧ j ≤ ys.length) ∧ (W = w) ∧ (cmpL xs ys = cmpL (xs.drop j) (ys.drop j))) _ ⟨_, 0, (pS 11 (pS 10 (pS 9 (pS 1 (pU 0))))), rfl, d, ⟨Nat.zero_le _, Nat.zero_le _⟩, rfl, rfl⟩ ?_
 rintro i _ l ⟨c, j, rfl, m, a, hj, hw, hr⟩
 subst hw
 refine zB (zC ?_)
 refine qD rfl (yV rfl rfl) ?_
 refine qe (zA (zB ?_))
 refine yI (p := ((j : Int) : Int) < (xs.length : Int)) rfl rfl (fun f => ?_) (fun f => ?_)
 ·skip
  refine wp_skip ?_
  refine zA (zB ?_)
  refine zX ?_
  refine zB (zC ?_)
  refine qM (vJ (j : Int)) ?_
  refine qD rfl (zJ Tryz.underlying57 sz3 (v := u) rfl rfl hu (by omega) (by omega)) ?_
  refine qD rfl (zK (r := xs.getD j 0) rfl ag3 (z := (j : Int)) rfl hu a.pins (by omega) (by omega)) ?_
  refine qM (vJ (j : Int)) ?_
  refine qM (vJ (xs.getD j 0)) ?_
  refine qe (zA (zB (zB (zC ?_))))
  refine qM (vJ (j : Int)) ?_
  refine qM v ?_
  refine qD rfl (zN Tryz.underlying57 (v := v) rfl hv) ?_
  refine qD rfl (r_geq rfl rfl) ?_
  refine qe (zA ?_)
  refine yI (p := ((ys.length : Int) : Int) ≤ (j : Int)) rfl rfl (fun g => ?_) (fun g => ?_)
  ·skip
   refine zB (zC ?_)
   refine qM (vJ 1) ?_
   refine qe (zA ?_)
   refine wp_ret ?_
   refine zR ?_
   refine zQ (v := (vJ 1)) rfl rfl rfl ?_
   exact ⟨congrArg (fun z => Ending.returned (Value.int .i64 z)) ((hr.trans (cmpL_more (by omega) (by omega))).symm), rfl⟩
  refine wp_skip ?_
  refine zA (zB (zC ?_))
  refine qM v ?_
  refine qM (vJ (j : Int)) ?_
  refine qD rfl (zJ Tryz.underlying57 sz3 (v := v) rfl rfl hv (by omega) (by omega)) ?_
  refine qD rfl (zK (r := ys.getD j 0) rfl ag3 (z := (j : Int)) rfl hv a.pins (by omega) (by omega)) ?_
  refine qM (vJ (ys.getD j 0)) ?_
  refine qe (zA (zB (zC ?_)))
  refine qM (vJ (xs.getD j 0)) ?_
  refine qM (vJ (ys.getD j 0)) ?_
  refine qI rfl (zM (vs := [(vJ (xs.getD j 0)), (vJ (ys.getD j 0))]) Tryz.func85 nm85 rfl rfl rfl ?_)
  refine Calls.mono (cmpCompare_spec a.pins) ?_
  rintro _ _ ⟨rfl, rfl⟩
  refine ⟨_, rfl, ?_⟩
  refine qM (vJ (cmpI (xs.getD j 0) (ys.getD j 0))) ?_
  refine qe (zA (zB (zC ?_)))
  refine qM (vJ (cmpI (xs.getD j 0) (ys.getD j 0))) ?_
  refine qD rfl (r_neq rfl rfl) ?_
  refine qe (zA ?_)
  refine yI (p := (cmpI (xs.getD j 0) (ys.getD j 0) : Int) ≠ 0) rfl rfl (fun b => ?_) (fun b => ?_)
  ·skip
   refine zB (zC ?_)
   refine qM (vJ (cmpI (xs.getD j 0) (ys.getD j 0))) ?_
   refine qM (vJ (cmpI (xs.getD j 0) (ys.getD j 0))) ?_
   refine qe (zA ?_)
   refine wp_ret ?_
   refine zR ?_
   refine zQ (v := (vJ (cmpI (xs.getD j 0) (ys.getD j 0)))) rfl rfl rfl ?_
   exact ⟨congrArg (fun z => Ending.returned (Value.int .i64 z)) ((hr.trans (cmpL_ne (by omega) (by omega) b)).symm), rfl⟩
  refine wp_skip ?_
  refine yJ ?_
  refine zA (zC ?_)
  refine qD rfl (yR rfl rfl (by omega)) ?_
  refine qM (vJ ((j : Int) + 1)) ?_
  refine qe ?_
  refine yK ?_
  refine ⟨_, ?_, _, rfl, _, j + 1, (pS 11 (pS 10 (pS 9 (pS 1 (pU 0))))), rfl, a, (by omega), rfl, (hr.trans (cmpL_eq (by omega) (by omega) b))⟩
  omega
 refine wp_exit ?_
 refine yA ?_
 refine yN ?_
 refine yL ?_
 refine zA (zB (zB (zC ?_)))
 refine qM u ?_
 refine qD rfl (zN Tryz.underlying57 (v := u) rfl hu) ?_
 refine qM v ?_
 refine qD rfl (zN Tryz.underlying57 (v := v) rfl hv) ?_
 refine qD rfl (yV rfl rfl) ?_
 refine qe (zA ?_)
 refine yI (p := ((xs.length : Int) : Int) < (ys.length : Int)) rfl rfl (fun h => ?_) (fun h => ?_)
 ·skip
  refine zB (zC ?_)
  refine qM (vJ (-1)) ?_
  refine qe (zA ?_)
  refine wp_ret ?_
  refine zR ?_
  refine zQ (v := (vJ (-1))) rfl rfl rfl ?_
  exact ⟨congrArg (fun z => Ending.returned (Value.int .i64 z)) ((hr.trans (cmpL_less (by omega) (by omega))).symm), rfl⟩
 refine wp_skip ?_
 refine zA (zB (zC ?_))
 refine qM (vJ 0) ?_
 refine qe (zA ?_)
 refine wp_ret ?_
 refine zR ?_
 refine zQ (v := (vJ 0)) rfl rfl rfl ?_
 exact ⟨congrArg (fun z => Ending.returned (Value.int .i64 z)) ((hr.trans (cmpL_same (by omega) (by omega))).symm), rfl⟩

theorem slIndexB_spec {w : World} {G : Pin} {v : Value} {xs : List Bool} {p : Bool} (hP : Pins G w) (hv : RSl eBool G v xs) :
  Calls Tryz.prog 142 [v, (.bool p)].toArray w fun e w' => e = .returned (.int .i64 (idxB xs p)) ∧ w' = w := by
 refine yD (n := 19) Tryz.func142 Tryz.ntmps142 rfl rfl ?_
 have d : Ext noS G w G w := Ext.refl hP
 have hm := hv.max
 refine zB (zC ?_)
 refine qM (.int .i64 0) ?_
 refine qe (zA (zB (zB (zC ?_))))
 refine qM v ?_
 refine qD rfl (zN Tryz.underlying125 (v := v) rfl hv) ?_
 refine qM (.int .i64 0) ?_
 refine qe (zA ?_)
 refine zX ?_
 refine yQ (fun (k : Nat) (en : Nat → Value) (W : World) => ∃ (b : Nat → Value) (j : Nat), en = (upd (upd (upd (upd b 0 v) 1 (.bool p)) 7 (.int .i64 (xs.length : Int))) 8 (.int .i64 (j : Int))) ∧ k = xs.length - j ∧ Ext noS G w G W ∧ (j ≤ xs.length) ∧ (W = w) ∧ (idxB xs p = idxFrom p j (xs.drop j))) _ ⟨_, 0, (pS 8 (pS 7 (pS 1 (pU 0)))), rfl, d, Nat.zero_le _, rfl, rfl⟩ ?_
 rintro g _ h ⟨b, j, rfl, i, c, hj, hw, hr⟩
 subst hw
 refine zB (zC ?_)
 refine qD rfl (yV rfl rfl) ?_
 refine qe (zA (zB ?_))
 refine yI (p := ((j : Int) : Int) < (xs.length : Int)) rfl rfl (fun f => ?_) (fun f => ?_)
 ·skip
  refine wp_skip ?_
  refine zA (zB ?_)
  refine zX ?_
  refine zB (zC ?_)
  refine qM (.int .i64 (j : Int)) ?_
  refine qM (.int .i64 (j : Int)) ?_
  refine qe (zA (zB (zC ?_)))
  refine qM (.bool p) ?_
  refine qM v ?_
  refine qM (.int .i64 (j : Int)) ?_
  refine qD rfl (zJ Tryz.underlying125 sz4 (v := v) rfl rfl hv (by omega) (by omega)) ?_
  refine qD rfl (run_load_bool (r := xs.getD j false) rfl ag4 (z := (j : Int)) rfl hv c.pins (by omega) (by omega)) ?_
  refine qD rfl (r_eqlB Tryz.underlying4 rfl rfl) ?_
  refine qe (zA ?_)
  refine c_if rfl rfl (fun a => ?_) (fun a => ?_)
  ·skip
   refine zB (zC ?_)
   refine qM (.int .i64 (j : Int)) ?_
   refine qM (.int .i64 (j : Int)) ?_
   refine qe (zA ?_)
   refine wp_ret ?_
   refine zR ?_
   refine zQ (v := (.int .i64 (j : Int))) rfl rfl rfl ?_
   exact ⟨congrArg (fun z => Ending.returned (Value.int .i64 z)) ((hr.trans (idx_hit (by omega) a)).symm), rfl⟩
  refine wp_skip ?_
  refine yJ ?_
  refine zA (zC ?_)
  refine qD rfl (yR rfl rfl (by omega)) ?_
  refine qM (.int .i64 ((j : Int) + 1)) ?_
  refine qe ?_
  refine yK ?_
  refine ⟨_, ?_, _, rfl, _, j + 1, (pS 8 (pS 7 (pS 1 (pU 0)))), rfl, c, (by omega), rfl, (hr.trans (idx_next (by omega) a))⟩
  omega
 refine wp_exit ?_
 refine yA ?_
 refine yN ?_
 refine yL ?_
 refine zA (zB (zC ?_))
 refine qM (.int .i64 (-1)) ?_
 refine qe (zA ?_)
 refine wp_ret ?_
 refine zR ?_
 refine zQ (v := (.int .i64 (-1))) rfl rfl rfl ?_
 exact ⟨congrArg (fun z => Ending.returned (Value.int .i64 z)) ((hr.trans (idx_end (by omega))).symm), rfl⟩

theorem slContains_spec {w : World} {G : Pin} {v : Value} {xs : List Bool} {p : Bool} (hP : Pins G w) (hv : RSl eBool G v xs) :
  Calls Tryz.prog 108 [v, (.bool p)].toArray w fun e w' => e = .returned (.bool (decide ((0 : Int) ≤ idxB xs p))) ∧ w' = w := by
 refine yD (n := 9) Tryz.func108 Tryz.ntmps108 rfl rfl ?_
 have hX0 : Ext noS G w G w := Ext.refl hP
 refine zB (zC ?_)
 refine qM (.bool false) ?_
 refine qe (zA (zB (zC ?_)))
 refine qM v ?_
 refine qM (.bool p) ?_
 refine qI rfl (zM (vs := [v, (.bool p)]) Tryz.func142 nm142 rfl rfl rfl ?_)
 refine Calls.mono (slIndexB_spec hX0.pins hv) ?_
 rintro _ _ ⟨rfl, rfl⟩
 refine ⟨_, rfl, ?_⟩
 refine qD rfl (r_geq rfl rfl) ?_
 refine qM (.bool (decide ((0 : Int) ≤ (idxB xs p)))) ?_
 refine qe (zA ?_)
 refine wp_ret ?_
 refine zR ?_
 refine zQ (v := (.bool (decide ((0 : Int) ≤ (idxB xs p))))) rfl rfl rfl ?_
 exact ⟨rfl, rfl⟩

theorem births_spec {w : World} {G : Pin} {v : Value} {ns : List Nd} (hP : Pins G w) (hv : RSl eNode G v ns) (ho : OptsOk ns) (hs : ns.length ≤ 1048576) :
  Calls Tryz.prog 78 [v].toArray w fun e w' => ∃ (u : Value) (G' : Pin), e = .returned u ∧ Own eInt 3 G' w' w.heap.size u (births ns) ∧ Ext noS G w G' w' := by
 refine yD (n := 64) Tryz.func78 Tryz.ntmps78 rfl rfl ?_
 have ao : Ext noS G w G w := Ext.refl hP
 refine zB (zC ?_)
 refine qM (.slice none 0 0) ?_
 refine qe (zA (zB (zC ?_)))
 refine qM v ?_
 refine qD rfl (zN Tryz.underlying26 (v := v) rfl hv) ?_
 refine qI rfl (o_make (E := eInt) 0 8 (vJ 0) Tryz.underlying57 mk3 (fun _ => rfl) rfl rfl ao.pins (by omega) (by omega) (by omega) (fun a w2 bb bc bd b9 => ?_))
 have be := ao.step bc bd
 have bf : Own eInt 3 G w2 w.heap.size a (List.replicate ns.length 0) := bb.weaken ao.size
 have ca : (List.replicate ns.length 0).length = ns.length := List.length_replicate ..
 refine qM a ?_
 refine qe (zA (zB (zB (zC ?_))))
 refine qM v ?_
 refine qD rfl (zN Tryz.underlying26 (v := v) rfl hv) ?_
 refine qM (vJ 0) ?_
 refine qe (zA ?_)
 refine zX ?_
 refine yQ (fun (k : Nat) (en : Nat → Value) (W : World) => ∃ (o : Nat → Value) (j : Nat) (b : List Int) (af : Pin), en = (upd (upd (upd (upd (upd o 2 (.slice none 0 0)) 3 a) 13 v) 14 (vJ (ns.length : Int))) 15 (vJ (j : Int))) ∧ k = ns.length - j ∧ Ext noS G w af W ∧ Pin.le G af ∧ (j ≤ ns.length) ∧ (b.length = ns.length) ∧ (BOk b) ∧ (births ns = bgo j (ns.drop j) b) ∧ (Own eInt 3 af W w.heap.size a (b))) _ ⟨_, 0, List.replicate ns.length 0, G, (pS 15 (pS 14 (pS 13 (pS 3 (pU 2))))), rfl, be, Pin.le_refl _, Nat.zero_le _, (by simp), (BOk.replicate _), rfl, bf⟩ ?_
 rintro cb _ cc ⟨o, j, b, af, rfl, cd, y, ag, hj, hnb, hkb, hr, ap⟩
 refine zB (zC ?_)
 refine qD rfl (yV rfl rfl) ?_
 refine qe (zA (zB ?_))
 refine yI (p := ((j : Int) : Int) < (ns.length : Int)) rfl rfl (fun bg => ?_) (fun bg => ?_)
 ·skip
  refine wp_skip ?_
  refine zA (zB ?_)
  refine zX ?_
  refine zB (zC ?_)
  refine qM (vJ (j : Int)) ?_
  refine qD rfl (zJ Tryz.underlying26 sz68 (v := v) rfl rfl hv (by omega) (by omega)) ?_
  obtain ⟨q, s, aa, ab, bh⟩ := nm_node (hv.at (z := (j : Int)) (by omega) (by omega)) (j := j) rfl
  have ce := aa.max
  have cf := ab.max
  refine qD rfl (bh ag68 sz68 rfl (Pins.of_le y.pins ag)) ?_
  refine qI rfl (yH [(.slice none 0 0), (.slice none 0 0)] zr68 rfl y.pins (fun aq cg bi bj bk av => ?_))
  have aw := y.step bk av
  have bl := ap.below av
  have ax : Apart (some aq) a.ownBlock := zI (congrArg some bi) ap.lt
  have ay : w.heap.size ≤ aq := by have := y.size; omega
  refine qM (vJ (j : Int)) ?_
  refine q0 rfl rfl rfl (yM (cs' := [q, s]) (us := [q, s]) (v := (.agg [q, s].toArray)) sz68 rfl rfl rfl (ones2 aa.one ab.one) aw.pins bj (Nat.le_of_ble_eq_true rfl) rfl (fun ch bm bn az ci => ?_))
  have bo := aw.write bn az ((zV ay))
  have bp := bl.keptA az ax.symm
  obtain ⟨t, ah, a0, a1, bq⟩ := bm.shut bo ay
  have br := bp.moreA ah bq ax.symm
  refine qe (zA (zB (zB (zC ?_))))
  refine qD rfl (zO (k := 0) rfl Tryz.underlying68 rfl nz57 rfl) ?_
  refine qD rfl (zP (u := q) ag57 rfl (a0.pins _ _ _ (a1 0 _ rfl))) ?_
  refine qD rfl (zN Tryz.underlying57 (v := q) rfl aa) ?_
  refine qM (vJ 0) ?_
  refine qe (zA ?_)
  refine zX ?_
  refine yQ (fun (k : Nat) (en : Nat → Value) (W : World) => ∃ (o : Nat → Value) (i : Nat) (d : List Int), en = (upd (upd (upd (upd (upd (upd (upd (upd (upd (upd o 2 (.slice none 0 0)) 3 a) 4 (vJ (j : Int))) 5 (.pointer (some ⟨aq, 0, none⟩))) 13 v) 14 (vJ (ns.length : Int))) 15 (vJ (j : Int))) 21 q) 22 (vJ (((ns.getD j default).l).length : Int))) 23 (vJ (i : Int))) ∧ k = (ns.getD j default).l.length - i ∧ Ext noS G w t W ∧ (i ≤ (ns.getD j default).l.length) ∧ (d.length = ns.length) ∧ (BOk d) ∧ (brow j b (ns.getD j default).l = brow j d ((ns.getD j default).l.drop i)) ∧ (Own eInt 3 t W w.heap.size a (d))) _ ⟨_, 0, b, (pS 23 (pS 22 (pS 21 (pS 15 (pS 14 (pS 13 (pS 5 (pS 4 (pS 3 (pU 2)))))))))), rfl, a0, Nat.zero_le _, hnb, hkb, rfl, br⟩ ?_
  rintro cj _ ai ⟨o, i, d, rfl, ck, x, hii, a2, aj, a3, ar⟩
  refine zB (zC ?_)
  refine qD rfl (yV rfl rfl) ?_
  refine qe (zA (zB ?_))
  refine yI (p := ((i : Int) : Int) < (((ns.getD j default).l).length : Int)) rfl rfl (fun bs => ?_) (fun bs => ?_)
  ·skip
   have hk := ho.left (j := j) (i := i) (by omega) (by omega)
   have hbj := aj j
   have hbk := aj ((ns.getD j default).l.getD i 0).toNat
   refine wp_skip ?_
   refine zA (zB ?_)
   refine zX ?_
   refine zB (zC ?_)
   refine qD rfl (zJ Tryz.underlying57 sz3 (v := q) rfl rfl aa (by omega) (by omega)) ?_
   refine qD rfl (zK (r := ((ns.getD j default).l).getD i 0) rfl ag3 (z := (i : Int)) rfl aa (Pins.of_le x.pins (Pin.le_trans ag ah)) (by omega) (by omega)) ?_
   refine qM (vJ (((ns.getD j default).l).getD i 0)) ?_
   refine qe (zA ?_)
   have bt := Gadd.pins x.pins a
   have ac := ar.read
   refine xG (S := fun wz => Pins (Gadd t ai a) wz) (last := 13) (by kernel_rfl) rfl ?_
   have ak : Below ai.heap.size ai ai.drew := (Below.refl _ _).drew
   have bu := x.pins.below ak
   have a4 := x.step bu ak
   have a5 := ar.below ak
   have f := bt.below ak
   refine dM 0 a f ?_
   refine dM 1 (vJ (j : Int)) f ?_
   refine dM 2 a f ?_
   refine dM 3 (vJ (j : Int)) f ?_
   refine dT (i := 4) rfl rfl (by kernel_rfl) (fun _ _ => zJ Tryz.underlying57 sz3 (v := a) rfl rfl ac (by omega) (by omega)) f ?_
   refine dT (i := 5) rfl rfl (by kernel_rfl) (fun _ hS => zK (r := d.getD j 0) rfl ag3 (z := (j : Int)) rfl ac hS (by omega) (by omega)) f ?_
   refine dM 6 a f ?_
   refine dM 7 (vJ (((ns.getD j default).l).getD i 0)) f ?_
   refine dT (i := 8) rfl rfl (by kernel_rfl) (fun _ _ => zJ Tryz.underlying57 sz3 (v := a) rfl rfl ac (by omega) (by omega)) f ?_
   refine dT (i := 9) rfl rfl (by kernel_rfl) (fun _ hS => zK (r := d.getD (((ns.getD j default).l).getD i 0).toNat 0) rfl ag3 (z := (((ns.getD j default).l).getD i 0)) rfl ac hS (by omega) (by omega)) f ?_
   refine dT (i := 10) rfl rfl (by kernel_rfl) (fun _ _ => yR rfl rfl (by omega)) f ?_
   refine dT (i := 11) rfl rfl (by kernel_rfl) (fun _ _ => r_max rfl rfl) f ?_
   refine dT (i := 12) rfl rfl (by kernel_rfl) (fun _ _ => zJ Tryz.underlying57 sz3 (v := a) rfl rfl ac (by omega) (by omega)) f ?_
   refine dO (i := 13) (xP (i := 13) rfl rfl rfl (zD rfl _) (o_set (E := eInt) (v := a) (u := (vJ (max (d.getD j 0) ((d.getD (((ns.getD j default).l).getD i 0).toNat 0) + 1)))) (z := (j : Int)) (max (d.getD j 0) ((d.getD (((ns.getD j default).l).getD i 0).toNat 0) + 1)) sz3 rfl rfl rfl rfl a4.pins a5 (by omega) (by omega) (fun cl bv bw bx cm => ?_)))
   have bz := a4.write bw bx ((yB a5))
   refine ⟨fun h => absurd rfl h, ?_⟩
   refine yT (by kernel_rfl) ?_
   refine yJ ?_
   refine zA (zC ?_)
   refine qD rfl (yR rfl rfl (by omega)) ?_
   refine qM (vJ ((i : Int) + 1)) ?_
   refine qe ?_
   refine yK ?_
   refine ⟨_, ?_, _, rfl, _, i + 1, bmax j d ((ns.getD j default).l.getD i 0), (pS 23 (pS 22 (pS 21 (pS 15 (pS 14 (pS 13 (pS 5 (pS 4 (pS 3 (pU 2)))))))))), rfl, bz, (by omega), ((bmax_length _ _ _).trans a2), (aj.max hk.1 hk.2), (a3.trans (brow_next (by omega))), bv⟩
   omega
  refine wp_exit ?_
  refine yA ?_
  refine yN ?_
  refine yL ?_
  refine zA (zB (zC ?_))
  refine qD rfl (zO (k := 1) rfl Tryz.underlying68 rfl nz57 rfl) ?_
  refine qD rfl (zP (u := s) ag57 rfl (x.pins _ _ _ (a1 1 _ rfl))) ?_
  refine qD rfl (zN Tryz.underlying57 (v := s) rfl ab) ?_
  refine qM (vJ 0) ?_
  refine qe (zA ?_)
  refine zX ?_
  refine yQ (fun (k : Nat) (en : Nat → Value) (W : World) => ∃ (o : Nat → Value) (c : Nat) (g : List Int), en = (upd (upd (upd (upd (upd (upd (upd (upd (upd o 2 (.slice none 0 0)) 3 a) 4 (vJ (j : Int))) 13 v) 14 (vJ (ns.length : Int))) 15 (vJ (j : Int))) 42 s) 43 (vJ (((ns.getD j default).r).length : Int))) 44 (vJ (c : Int))) ∧ k = (ns.getD j default).r.length - c ∧ Ext noS G w t W ∧ (c ≤ (ns.getD j default).r.length) ∧ (g.length = ns.length) ∧ (BOk g) ∧ (brow j d (ns.getD j default).r = brow j g ((ns.getD j default).r.drop c)) ∧ (Own eInt 3 t W w.heap.size a (g))) _ ⟨_, 0, d, (pS 44 (pS 43 (pS 42 (pS 15 (pS 14 (pS 13 (pS 4 (pS 3 (pU 2))))))))), rfl, x, Nat.zero_le _, a2, aj, rfl, ar⟩ ?_
  rintro cn _ al ⟨o, c, g, rfl, co, ad, cp, a6, am, a7, au⟩
  refine zB (zC ?_)
  refine qD rfl (yV rfl rfl) ?_
  refine qe (zA (zB ?_))
  refine yI (p := ((c : Int) : Int) < (((ns.getD j default).r).length : Int)) rfl rfl (fun b0 => ?_) (fun b0 => ?_)
  ·skip
   have hk := ho.right (j := j) (i := c) (by omega) (by omega)
   have hbj := am j
   have hbk := am ((ns.getD j default).r.getD c 0).toNat
   refine wp_skip ?_
   refine zA (zB ?_)
   refine zX ?_
   refine zB (zC ?_)
   refine qD rfl (zJ Tryz.underlying57 sz3 (v := s) rfl rfl ab (by omega) (by omega)) ?_
   refine qD rfl (zK (r := ((ns.getD j default).r).getD c 0) rfl ag3 (z := (c : Int)) rfl ab (Pins.of_le ad.pins (Pin.le_trans ag ah)) (by omega) (by omega)) ?_
   refine qM (vJ (((ns.getD j default).r).getD c 0)) ?_
   refine qe (zA ?_)
   have b1 := Gadd.pins ad.pins a
   have ae := au.read
   refine xG (S := fun wz => Pins (Gadd t al a) wz) (last := 13) (by kernel_rfl) rfl ?_
   have an : Below al.heap.size al al.drew := (Below.refl _ _).drew
   have b4 := ad.pins.below an
   have a8 := ad.step b4 an
   have a9 := au.below an
   have m := b1.below an
   refine dM 0 a m ?_
   refine dM 1 (vJ (j : Int)) m ?_
   refine dM 2 a m ?_
   refine dM 3 (vJ (j : Int)) m ?_
   refine dT (i := 4) rfl rfl (by kernel_rfl) (fun _ _ => zJ Tryz.underlying57 sz3 (v := a) rfl rfl ae (by omega) (by omega)) m ?_
   refine dT (i := 5) rfl rfl (by kernel_rfl) (fun _ hS => zK (r := g.getD j 0) rfl ag3 (z := (j : Int)) rfl ae hS (by omega) (by omega)) m ?_
   refine dM 6 a m ?_
   refine dM 7 (vJ (((ns.getD j default).r).getD c 0)) m ?_
   refine dT (i := 8) rfl rfl (by kernel_rfl) (fun _ _ => zJ Tryz.underlying57 sz3 (v := a) rfl rfl ae (by omega) (by omega)) m ?_
   refine dT (i := 9) rfl rfl (by kernel_rfl) (fun _ hS => zK (r := g.getD (((ns.getD j default).r).getD c 0).toNat 0) rfl ag3 (z := (((ns.getD j default).r).getD c 0)) rfl ae hS (by omega) (by omega)) m ?_
   refine dT (i := 10) rfl rfl (by kernel_rfl) (fun _ _ => yR rfl rfl (by omega)) m ?_
   refine dT (i := 11) rfl rfl (by kernel_rfl) (fun _ _ => r_max rfl rfl) m ?_
   refine dT (i := 12) rfl rfl (by kernel_rfl) (fun _ _ => zJ Tryz.underlying57 sz3 (v := a) rfl rfl ae (by omega) (by omega)) m ?_
   refine dO (i := 13) (xP (i := 13) rfl rfl rfl (zD rfl _) (o_set (E := eInt) (v := a) (u := (vJ (max (g.getD j 0) ((g.getD (((ns.getD j default).r).getD c 0).toNat 0) + 1)))) (z := (j : Int)) (max (g.getD j 0) ((g.getD (((ns.getD j default).r).getD c 0).toNat 0) + 1)) sz3 rfl rfl rfl rfl a8.pins a9 (by omega) (by omega) (fun cq b5 b6 b7 cr => ?_)))
   have b8 := a8.write b6 b7 ((yB a9))
   refine ⟨fun h => absurd rfl h, ?_⟩
   refine yT (by kernel_rfl) ?_
   refine yJ ?_
   refine zA (zC ?_)
   refine qD rfl (yR rfl rfl (by omega)) ?_
   refine qM (vJ ((c : Int) + 1)) ?_
   refine qe ?_
   refine yK ?_
   refine ⟨_, ?_, _, rfl, _, c + 1, bmax j g ((ns.getD j default).r.getD c 0), (pS 44 (pS 43 (pS 42 (pS 15 (pS 14 (pS 13 (pS 4 (pS 3 (pU 2))))))))), rfl, b8, (by omega), ((bmax_length _ _ _).trans a6), (am.max hk.1 hk.2), (a7.trans (brow_next (by omega))), b5⟩
   omega
  refine wp_exit ?_
  refine yA ?_
  refine yN ?_
  refine yL ?_
  refine yJ ?_
  refine zA (zC ?_)
  refine qD rfl (yR rfl rfl (by omega)) ?_
  refine qM (vJ ((j : Int) + 1)) ?_
  refine qe ?_
  refine yK ?_
  refine ⟨_, ?_, _, rfl, _, j + 1, g, t, (pS 15 (pS 14 (pS 13 (pS 3 (pU 2))))), rfl, ad, (Pin.le_trans ag ah), (by omega), a6, am, (hr.trans ((bgo_next (by omega)).trans (by rw [a3, brow_end (by omega), a7, brow_end (by omega)]))), au⟩
  omega
 refine wp_exit ?_
 refine yA ?_
 refine yN ?_
 refine yL ?_
 refine zA (zB (zC ?_))
 refine qM a ?_
 refine qM a ?_
 refine qe (zA ?_)
 refine wp_ret ?_
 refine zR ?_
 refine zQ (v := a) rfl rfl rfl ?_
 exact ⟨_, _, rfl, (by rw [hr, bgo_end (by omega)]; exact ap), y⟩

theorem used_spec {w : World} {G : Pin} {v : Value} {ns : List Nd} {m : Int} (hP : Pins G w) (hv : RSl eNode G v ns) (ho : OptsOk ns) (hs : (0 ≤ m ∧ m < ns.length) ∧ ns.length ≤ 1048576) :
  Calls Tryz.prog 109 [v, (vJ m)].toArray w fun e w' => ∃ (u : Value) (G' : Pin), e = .returned u ∧ Own eBool 4 G' w' w.heap.size u (usedM ns m.toNat) ∧ Ext noS G w G' w' := by
 refine yD (n := 56) Tryz.func109 Tryz.ntmps109 rfl rfl ?_
 have ab : Ext noS G w G w := Ext.refl hP
 refine zB (zC ?_)
 refine qM (.slice none 0 0) ?_
 refine qe (zA (zB (zC ?_)))
 refine qM v ?_
 refine qD rfl (zN Tryz.underlying26 (v := v) rfl hv) ?_
 refine qI rfl (o_make (E := eBool) false 1 (.bool false) Tryz.underlying125 mk4 (fun _ => rfl) rfl rfl ab.pins (by omega) (by omega) (by omega) (fun a w2 am an ao a8 => ?_))
 have ag := ab.step an ao
 have ac : Own eBool 4 G w2 w.heap.size a (List.replicate ns.length false) := am.weaken ab.size
 have a9 : (List.replicate ns.length false).length = ns.length := List.length_replicate ..
 refine qM a ?_
 refine qe (zA (zB (zC ?_)))
 refine qM a ?_
 refine qM (vJ m) ?_
 refine qD rfl (zJ Tryz.underlying125 sz4 (v := a) rfl rfl ac.read (by omega) (by omega)) ?_
 refine q0 rfl rfl rfl (o_set (E := eBool) (v := a) (u := (.bool true)) (z := m) (true) sz4 rfl rfl rfl rfl ag.pins ac (by omega) (by omega) (fun ba ap aq ar bb => ?_))
 have au := ag.write aq ar ((yB ac))
 refine qe (zA (zB (zB (zC ?_))))
 refine qM (vJ m) ?_
 refine qM (vJ m) ?_
 refine qe (zA ?_)
 refine zX ?_
 refine yQ (fun (k : Nat) (en : Nat → Value) (W : World) => ∃ (d : Nat → Value) (z : Int) (b : List Bool), en = (upd (upd (upd (upd d 0 v) 4 (.slice none 0 0)) 5 a) 6 (vJ z)) ∧ k = (z + 1).toNat ∧ Ext noS G w G W ∧ (-1 ≤ z ∧ z ≤ m) ∧ (b.length = ns.length) ∧ (usedM ns m.toNat = ugo ns (z + 1).toNat b) ∧ (Own eBool 4 G W w.heap.size a (b))) _ ⟨_, m, (List.replicate ns.length false).set m.toNat true, (pS 6 (pS 5 (pS 4 (pU 0)))), rfl, au, (by omega), (by simp), (by rw [show (m + 1).toNat = m.toNat + 1 by omega]; rfl), ap⟩ ?_
 rintro bc _ bd ⟨d, z, b, rfl, be, h, hz, hnb, hr, o⟩
 refine zB (zB (zC ?_))
 refine qM (vJ z) ?_
 refine qD rfl (r_geq rfl rfl) ?_
 refine qe (zA ?_)
 refine yI (p := (0 : Int) ≤ z) rfl rfl (fun av => ?_) (fun av => ?_)
 ·skip
  refine wp_skip ?_
  refine zA (zB ?_)
  refine zX ?_
  refine zB (zB (zC ?_))
  refine qM a ?_
  refine qM (vJ z) ?_
  refine qD rfl (zJ Tryz.underlying125 sz4 (v := a) rfl rfl o.read (by omega) (by omega)) ?_
  refine qD rfl (run_load_bool (r := b.getD (z).toNat false) rfl ag4 (z := z) rfl o.read (Gadd.pins h.pins a) (by omega) (by omega)) ?_
  refine qD rfl (qC rfl) ?_
  refine qe (zA ?_)
  refine c_ifn rfl rfl (fun ad => ?_) (fun ad => ?_)
  ·skip
   refine wp_skip ?_
   refine zA (zB (zB (zC ?_)))
   refine qM v ?_
   refine qM (vJ z) ?_
   refine qD rfl (zJ Tryz.underlying26 sz68 (v := v) rfl rfl hv (by omega) (by omega)) ?_
   refine qD rfl (xD (off := 0) Tryz.underlying68 rfl rfl nz57 (z := z) (k := 0) rfl hv (by omega) (by omega)) ?_
   obtain ⟨ae, s, aw⟩ := nm_nl (hv.at (z := z) (by omega) (by omega)) (j := (z).toNat) rfl
   have bf := s.max
   refine qD rfl (aw ag57 rfl h.pins) ?_
   refine qD rfl (zN Tryz.underlying57 (v := ae) rfl s) ?_
   refine qM (vJ 0) ?_
   refine qe (zA ?_)
   refine zX ?_
   refine yQ (fun (k : Nat) (en : Nat → Value) (W : World) => ∃ (d : Nat → Value) (i : Nat) (f : List Bool), en = (upd (upd (upd (upd (upd (upd (upd d 0 v) 4 (.slice none 0 0)) 5 a) 6 (vJ z)) 31 ae) 32 (vJ (((ns.getD (z).toNat default).l).length : Int))) 33 (vJ (i : Int))) ∧ k = (ns.getD (z).toNat default).l.length - i ∧ Ext noS G w G W ∧ (i ≤ (ns.getD (z).toNat default).l.length) ∧ (f.length = ns.length) ∧ (setAll b (ns.getD (z).toNat default).l = setAll f ((ns.getD (z).toNat default).l.drop i)) ∧ (Own eBool 4 G W w.heap.size a (f))) _ ⟨_, 0, b, (pS 33 (pS 32 (pS 31 (pS 6 (pS 5 (pS 4 (pU 0))))))), rfl, h, Nat.zero_le _, hnb, rfl, o⟩ ?_
   rintro bg _ bh ⟨d, i, f, rfl, bi, q, hii, ah, ai, t⟩
   refine zB (zC ?_)
   refine qD rfl (yV rfl rfl) ?_
   refine qe (zA (zB ?_))
   refine yI (p := ((i : Int) : Int) < (((ns.getD (z).toNat default).l).length : Int)) rfl rfl (fun ax => ?_) (fun ax => ?_)
   ·skip
    have hk := ho.left (j := (z).toNat) (i := i) (by omega) (by omega)
    refine wp_skip ?_
    refine zA (zB ?_)
    refine zX ?_
    refine zB (zC ?_)
    refine qD rfl (zJ Tryz.underlying57 sz3 (v := ae) rfl rfl s (by omega) (by omega)) ?_
    refine qD rfl (zK (r := ((ns.getD (z).toNat default).l).getD i 0) rfl ag3 (z := (i : Int)) rfl s q.pins (by omega) (by omega)) ?_
    refine qM (vJ (((ns.getD (z).toNat default).l).getD i 0)) ?_
    refine qe (zA (zC ?_))
    refine qM a ?_
    refine qM (vJ (((ns.getD (z).toNat default).l).getD i 0)) ?_
    refine qD rfl (zJ Tryz.underlying125 sz4 (v := a) rfl rfl t.read (by omega) (by omega)) ?_
    refine q0 rfl rfl rfl (o_set (E := eBool) (v := a) (u := (.bool true)) (z := (((ns.getD (z).toNat default).l).getD i 0)) (true) sz4 rfl rfl rfl rfl q.pins t (by omega) (by omega) (fun bj ay az a0 bk => ?_))
    have a1 := q.write az a0 ((yB t))
    refine qe ?_
    refine yJ ?_
    refine zA (zC ?_)
    refine qD rfl (yR rfl rfl (by omega)) ?_
    refine qM (vJ ((i : Int) + 1)) ?_
    refine qe ?_
    refine yK ?_
    refine ⟨_, ?_, _, rfl, _, i + 1, f.set ((ns.getD (z).toNat default).l.getD i 0).toNat true, (pS 33 (pS 32 (pS 31 (pS 6 (pS 5 (pS 4 (pU 0))))))), rfl, a1, (by omega), ((List.length_set ..).trans ah), (ai.trans (setAll_next (by omega))), ay⟩
    omega
   refine wp_exit ?_
   refine yA ?_
   refine yN ?_
   refine yL ?_
   refine zA (zB (zC ?_))
   refine qM v ?_
   refine qM (vJ z) ?_
   refine qD rfl (zJ Tryz.underlying26 sz68 (v := v) rfl rfl hv (by omega) (by omega)) ?_
   refine qD rfl (xD (off := 1) Tryz.underlying68 rfl rfl nz57 (z := z) (k := 0) rfl hv (by omega) (by omega)) ?_
   obtain ⟨af, x, a2⟩ := nm_nr (hv.at (z := z) (by omega) (by omega)) (j := (z).toNat) rfl
   have bl := x.max
   refine qD rfl (a2 ag57 rfl q.pins) ?_
   refine qD rfl (zN Tryz.underlying57 (v := af) rfl x) ?_
   refine qM (vJ 0) ?_
   refine qe (zA ?_)
   refine zX ?_
   refine yQ (fun (k : Nat) (en : Nat → Value) (W : World) => ∃ (d : Nat → Value) (c : Nat) (g : List Bool), en = (upd (upd (upd (upd (upd (upd (upd d 0 v) 4 (.slice none 0 0)) 5 a) 6 (vJ z)) 45 af) 46 (vJ (((ns.getD (z).toNat default).r).length : Int))) 47 (vJ (c : Int))) ∧ k = (ns.getD (z).toNat default).r.length - c ∧ Ext noS G w G W ∧ (c ≤ (ns.getD (z).toNat default).r.length) ∧ (g.length = ns.length) ∧ (setAll f (ns.getD (z).toNat default).r = setAll g ((ns.getD (z).toNat default).r.drop c)) ∧ (Own eBool 4 G W w.heap.size a (g))) _ ⟨_, 0, f, (pS 47 (pS 46 (pS 45 (pS 6 (pS 5 (pS 4 (pU 0))))))), rfl, q, Nat.zero_le _, ah, rfl, t⟩ ?_
   rintro bm _ bn ⟨d, c, g, rfl, bo, y, bp, aj, ak, aa⟩
   refine zB (zC ?_)
   refine qD rfl (yV rfl rfl) ?_
   refine qe (zA (zB ?_))
   refine yI (p := ((c : Int) : Int) < (((ns.getD (z).toNat default).r).length : Int)) rfl rfl (fun a3 => ?_) (fun a3 => ?_)
   ·skip
    have hk := ho.right (j := (z).toNat) (i := c) (by omega) (by omega)
    refine wp_skip ?_
    refine zA (zB ?_)
    refine zX ?_
    refine zB (zC ?_)
    refine qD rfl (zJ Tryz.underlying57 sz3 (v := af) rfl rfl x (by omega) (by omega)) ?_
    refine qD rfl (zK (r := ((ns.getD (z).toNat default).r).getD c 0) rfl ag3 (z := (c : Int)) rfl x y.pins (by omega) (by omega)) ?_
    refine qM (vJ (((ns.getD (z).toNat default).r).getD c 0)) ?_
    refine qe (zA (zC ?_))
    refine qM a ?_
    refine qM (vJ (((ns.getD (z).toNat default).r).getD c 0)) ?_
    refine qD rfl (zJ Tryz.underlying125 sz4 (v := a) rfl rfl aa.read (by omega) (by omega)) ?_
    refine q0 rfl rfl rfl (o_set (E := eBool) (v := a) (u := (.bool true)) (z := (((ns.getD (z).toNat default).r).getD c 0)) (true) sz4 rfl rfl rfl rfl y.pins aa (by omega) (by omega) (fun bq a4 a5 a6 br => ?_))
    have a7 := y.write a5 a6 ((yB aa))
    refine qe ?_
    refine yJ ?_
    refine zA (zC ?_)
    refine qD rfl (yR rfl rfl (by omega)) ?_
    refine qM (vJ ((c : Int) + 1)) ?_
    refine qe ?_
    refine yK ?_
    refine ⟨_, ?_, _, rfl, _, c + 1, g.set ((ns.getD (z).toNat default).r.getD c 0).toNat true, (pS 47 (pS 46 (pS 45 (pS 6 (pS 5 (pS 4 (pU 0))))))), rfl, a7, (by omega), ((List.length_set ..).trans aj), (ak.trans (setAll_next (by omega))), a4⟩
    omega
   refine wp_exit ?_
   refine yA ?_
   refine yN ?_
   refine yL ?_
   refine yJ ?_
   refine zA (zC ?_)
   refine qM (vJ z) ?_
   refine qD rfl (qU rfl rfl (by omega)) ?_
   refine qM (vJ (z - 1)) ?_
   refine qe ?_
   refine yK ?_
   refine ⟨_, ?_, _, rfl, _, z - 1, g, (pS 6 (pS 5 (pS 4 (pU 0)))), rfl, y, (by omega), aj, (hr.trans ((ugo_step (by omega)).trans (by rw [ustep_yes ad, ai, setAll_end (by omega), ak, setAll_end (by omega)]))), aa⟩
   omega
  refine wp_exit ?_
  refine yA ?_
  refine yL ?_
  refine zA (zC ?_)
  refine qM (vJ z) ?_
  refine qD rfl (qU rfl rfl (by omega)) ?_
  refine qM (vJ (z - 1)) ?_
  refine qe ?_
  refine yK ?_
  refine ⟨_, ?_, _, rfl, _, z - 1, b, (pS 6 (pS 5 (pS 4 (pU 0)))), rfl, h, (by omega), hnb, (hr.trans ((ugo_step (by omega)).trans (by rw [ustep_no ad]))), o⟩
  omega
 refine wp_exit ?_
 refine yA ?_
 refine yN ?_
 refine yL ?_
 refine zA (zB (zC ?_))
 refine qM a ?_
 refine qM a ?_
 refine qe (zA ?_)
 refine wp_ret ?_
 refine zR ?_
 refine zQ (v := a) rfl rfl rfl ?_
 exact ⟨_, _, rfl, (by rw [hr, ugo_end (by omega)]; exact o), h⟩

theorem goodForm_spec {w : World} {G : Pin} {v : Value} {ns : List Nd} (hP : Pins G w) (hv : RSl eNode G v ns) :
  Calls Tryz.prog 57 [(.agg [v].toArray)].toArray w fun e w' => ∃ G', e = .returned (.bool (goodB ns)) ∧ Ext noS G w G' w' := by
 refine yD (n := 93) Tryz.func57 Tryz.ntmps57 rfl rfl ?_
 have a6 : Ext noS G w G w := Ext.refl hP
 have hm := hv.max
 refine zB (zC ?_)
 refine qI rfl (qA [v] (v := (.agg [v].toArray)) rfl rfl a6.pins (fun b1 w2 e4 ck cl cm => ?_))
 have cn := a6.step cl cm
 have co : w.heap.size ≤ b1 := by have := a6.size; omega
 obtain ⟨G9, s, aj, y, e5⟩ := ck.shut cn co
 refine qM (.bool false) ?_
 refine qe (zA (zB (zB (zC ?_))))
 refine qD rfl (zO (k := 0) rfl Tryz.underlying28 rfl nz26 rfl) ?_
 refine qD rfl (zP (u := v) ag26 rfl (aj.pins _ _ _ (y 0 _ rfl))) ?_
 refine qD rfl (zN Tryz.underlying26 (v := v) rfl hv) ?_
 refine qD rfl (yV rfl rfl) ?_
 refine qM (.bool (decide (((ns.length : Int) : Int) < 1))) ?_
 refine qbd (p := ((ns.length : Int) : Int) < 1) (t := 13) rfl (fun cp => ?_) (fun cp => ?_)
 ·skip
  refine qW ?_
  refine qW ?_
  refine qW ?_
  refine qW ?_
  refine qD rfl (xE (v := (.bool true)) rfl rfl) ?_
  refine qe (zA ?_)
  refine c_ifT rfl rfl ?_
  refine zB (zC ?_)
  refine qM (.bool false) ?_
  refine qe (zA ?_)
  refine wp_ret ?_
  refine zR ?_
  refine zQ (v := (.bool false)) rfl rfl rfl ?_
  exact ⟨_, congrArg (fun z => Ending.returned (Value.bool z)) (goodB_false.2 (fun g => by have := g.lo; omega)).symm, aj⟩
 refine qN (zO (k := 0) rfl Tryz.underlying28 rfl nz26 rfl) ?_
 refine qN (zP (u := v) ag26 rfl (aj.pins _ _ _ (y 0 _ rfl))) ?_
 refine qN (zN Tryz.underlying26 (v := v) rfl hv) ?_
 refine qN (r_gtr rfl rfl) ?_
 refine qD rfl (xA (v := (.bool (decide ((120 : Int) < (ns.length : Int))))) rfl rfl) ?_
 refine qe (zA ?_)
 refine yI (p := (120 : Int) < (ns.length : Int)) rfl rfl (fun cq => ?_) (fun cq => ?_)
 ·skip
  refine zB (zC ?_)
  refine qM (.bool false) ?_
  refine qe (zA ?_)
  refine wp_ret ?_
  refine zR ?_
  refine zQ (v := (.bool false)) rfl rfl rfl ?_
  exact ⟨_, congrArg (fun z => Ending.returned (Value.bool z)) (goodB_false.2 (fun g => by have := g.hi; omega)).symm, aj⟩
 refine wp_skip ?_
 refine zA (zB (zB (zC ?_)))
 refine qD rfl (zO (k := 0) rfl Tryz.underlying28 rfl nz26 rfl) ?_
 refine qD rfl (zP (u := v) ag26 rfl (aj.pins _ _ _ (y 0 _ rfl))) ?_
 refine qD rfl (zN Tryz.underlying26 (v := v) rfl hv) ?_
 refine qM (vJ 0) ?_
 refine qe (zA ?_)
 refine zX ?_
 refine yQ (fun (k : Nat) (en : Nat → Value) (W : World) => ∃ (aa : Nat → Value) (j : Nat) (a7 : Pin), en = (upd (upd (upd (upd aa 1 (.pointer (some ⟨b1, 0, none⟩))) 20 v) 21 (vJ (ns.length : Int))) 22 (vJ (j : Int))) ∧ k = ns.length - j ∧ Ext noS G w a7 W ∧ Pin.le G9 a7 ∧ (j ≤ ns.length) ∧ (∀ i, i < j → goodOpts (ns.getD i default).l i = true ∧ goodOpts (ns.getD i default).r i = true)) _ ⟨_, 0, G9, (pS 22 (pS 21 (pS 20 (pU 1)))), rfl, aj, Pin.le_refl _, Nat.zero_le _, (fun i hi => absurd hi (Nat.not_lt_zero i))⟩ ?_
 rintro e6 _ e7 ⟨aa, j, a7, rfl, e8, ab, d, hj, hg⟩
 refine zB (zC ?_)
 refine qD rfl (yV rfl rfl) ?_
 refine qe (zA (zB ?_))
 refine yI (p := ((j : Int) : Int) < (ns.length : Int)) rfl rfl (fun cr => ?_) (fun cr => ?_)
 ·skip
  refine wp_skip ?_
  refine zA (zB ?_)
  refine zX ?_
  refine zB (zC ?_)
  refine qM (vJ (j : Int)) ?_
  refine qD rfl (zJ Tryz.underlying26 sz68 (v := v) rfl rfl hv (by omega) (by omega)) ?_
  obtain ⟨ao, ap, a8, a9, cs⟩ := nm_node (hv.at (z := (j : Int)) (by omega) (by omega)) (j := j) rfl
  have e9 := a8.max
  have fa := a9.max
  refine qD rfl (cs ag68 sz68 rfl (Pins.of_le ab.pins (Pin.le_trans s d))) ?_
  refine qI rfl (yH [(.slice none 0 0), (.slice none 0 0)] zr68 rfl ab.pins (fun ct fb fc cu cv cw => ?_))
  have bt := ab.step cv cw
  have bu : w.heap.size ≤ ct := by have := ab.size; omega
  refine qM (vJ (j : Int)) ?_
  refine q0 rfl rfl rfl (yM (cs' := [ao, ap]) (us := [ao, ap]) (v := (.agg [ao, ap].toArray)) sz68 rfl rfl rfl (ones2 a8.one a9.one) bt.pins cu (Nat.le_of_ble_eq_true rfl) rfl (fun fd cx cy cz fe => ?_))
  have c0 := bt.write cy cz ((zV bu))
  obtain ⟨c1, ba, ai, bv, ff⟩ := cx.shut c0 bu
  refine qe (zA (zB (zC ?_)))
  refine qD rfl (zO (k := 0) rfl Tryz.underlying68 rfl nz57 rfl) ?_
  refine qD rfl (zP (u := ao) ag57 rfl (ai.pins _ _ _ (bv 0 _ rfl))) ?_
  refine qM (vJ (j : Int)) ?_
  refine qI rfl (zM (vs := [ao, (vJ (j : Int))]) Tryz.func105 nm105 rfl rfl rfl ?_)
  refine Calls.mono (goodOptions_spec ai.pins (a8.mono (Pin.le_trans (Pin.le_trans s d) ba))) ?_
  rintro _ _ ⟨rfl, rfl⟩
  refine ⟨_, rfl, ?_⟩
  refine qD rfl (qC rfl) ?_
  refine qM (.bool (!(goodOpts ((ns.getD j default).l) (j : Int)))) ?_
  refine qbn (t := 32) rfl (fun bb => ?_) (fun bb => ?_)
  ·skip
   refine qN (zO (k := 1) rfl Tryz.underlying68 rfl nz57 rfl) ?_
   refine qN (zP (u := ap) ag57 rfl (ai.pins _ _ _ (bv 1 _ rfl))) ?_
   refine qN (zU (v := (vJ (j : Int))) rfl) ?_
   refine q1g rfl rfl rfl rfl rfl rfl (zM (vs := [ap, (vJ (j : Int))]) Tryz.func105 nm105 rfl rfl rfl ?_)
   refine Calls.mono (goodOptions_spec ai.pins (a9.mono (Pin.le_trans (Pin.le_trans s d) ba))) ?_
   rintro _ _ ⟨rfl, rfl⟩
   refine ⟨_, rfl, ?_⟩
   refine qN (qC rfl) ?_
   refine qD rfl (xA (v := (.bool (!(goodOpts ((ns.getD j default).r) (j : Int))))) rfl rfl) ?_
   refine qe (zA ?_)
   refine c_ifn rfl rfl (fun bc => ?_) (fun bc => ?_)
   ·skip
    refine wp_skip ?_
    refine yJ ?_
    refine zA (zC ?_)
    refine qD rfl (yR rfl rfl (by omega)) ?_
    refine qM (vJ ((j : Int) + 1)) ?_
    refine qe ?_
    refine yK ?_
    refine ⟨_, ?_, _, rfl, _, j + 1, c1, (pS 22 (pS 21 (pS 20 (pU 1)))), rfl, ai, (Pin.le_trans d ba), (by omega), (fun k hk => if h3 : k = j then h3 ▸ ⟨bb, bc⟩ else hg k (by omega))⟩
    omega
   refine zB (zC ?_)
   refine qM (.bool false) ?_
   refine qe (zA ?_)
   refine wp_ret ?_
   refine zR ?_
   refine zQ (v := (.bool false)) rfl rfl rfl ?_
   exact ⟨_, congrArg (fun z => Ending.returned (Value.bool z)) (goodB_false.2 (fun g => by have := (g.opts j (by omega)).2; rw [bc] at this; cases this)).symm, ai⟩
  refine qW ?_
  refine qW ?_
  refine qW ?_
  refine qW ?_
  refine qW ?_
  refine qD rfl (xE (v := (.bool true)) rfl rfl) ?_
  refine qe (zA ?_)
  refine c_ifT rfl rfl ?_
  refine zB (zC ?_)
  refine qM (.bool false) ?_
  refine qe (zA ?_)
  refine wp_ret ?_
  refine zR ?_
  refine zQ (v := (.bool false)) rfl rfl rfl ?_
  exact ⟨_, congrArg (fun z => Ending.returned (Value.bool z)) (goodB_false.2 (fun g => by have := (g.opts j (by omega)).1; rw [bb] at this; cases this)).symm, ai⟩
 refine wp_exit ?_
 refine yA ?_
 refine yN ?_
 refine yL ?_
 refine zA (zB (zC ?_))
 refine qD rfl (zO (k := 0) rfl Tryz.underlying28 rfl nz26 rfl) ?_
 refine qD rfl (zP (u := v) ag26 rfl ((Pins.of_le ab.pins d) _ _ _ (y 0 _ rfl))) ?_
 have hopts : ∀ i, i < ns.length → goodOpts (ns.getD i default).l i = true ∧ goodOpts (ns.getD i default).r i = true := fun i hi => hg i (by omega)
 refine qI rfl (zM (vs := [v]) Tryz.func78 nm78 rfl rfl rfl ?_)
 refine Calls.mono (births_spec ab.pins (hv.mono (Pin.le_trans s d)) (opts_ok hopts) (by omega)) ?_
 rintro _ c2 ⟨ac, c3, rfl, c4, m⟩
 refine ⟨_, rfl, ?_⟩
 have c5 := ab.tr m
 have c6 : Own eInt 3 c3 c2 w.heap.size ac (births ns) := c4.weaken ab.size
 refine qM ac ?_
 refine qe (zA (zB (zB (zC ?_))))
 have hnb := births_length ns
 obtain ⟨bw, q, c7, a3, fg⟩ := c6.sealed c5
 refine qM (vJ 1) ?_
 refine qe (zA ?_)
 refine zX ?_
 refine yQ (fun (k : Nat) (en : Nat → Value) (W : World) => ∃ (aa : Nat → Value) (i : Nat) (aq : Pin), en = (upd (upd (upd aa 1 (.pointer (some ⟨b1, 0, none⟩))) 5 ac) 6 (vJ (i : Int))) ∧ k = ns.length - i ∧ Ext noS G w aq W ∧ Pin.le bw aq ∧ (1 ≤ i ∧ i ≤ ns.length) ∧ (∀ k, 1 ≤ k → k < i → pairC ns (births ns) k < 0)) _ ⟨_, 1, bw, (pS 6 (pS 5 (pU 1))), rfl, c7, Pin.le_refl _, (by omega), (fun k a b => absurd a (by omega))⟩ ?_
 rintro fh _ bd ⟨aa, i, aq, rfl, fi, ad, f, hi, hsr⟩
 refine zB (zB (zC ?_))
 refine qM (vJ (i : Int)) ?_
 refine qD rfl (zO (k := 0) rfl Tryz.underlying28 rfl nz26 rfl) ?_
 refine qD rfl (zP (u := v) ag26 rfl ((Pins.of_le ad.pins (Pin.le_trans (Pin.le_trans (Pin.le_trans d m.le) q) f)) _ _ _ (y 0 _ rfl))) ?_
 refine qD rfl (zN Tryz.underlying26 (v := v) rfl hv) ?_
 refine qD rfl (yV rfl rfl) ?_
 refine qe (zA ?_)
 refine yI (p := ((i : Int) : Int) < (ns.length : Int)) rfl rfl (fun c8 => ?_) (fun c8 => ?_)
 ·skip
  refine wp_skip ?_
  refine zA (zB ?_)
  refine zX ?_
  refine zB ?_
  refine c_cut (fun (en : Nat → Value) (W : World) => ∃ (aa : Nat → Value) (be : Nat) (ar : Value) (au : Value) (bf : Nat) (av : Value) (aw : Value) (x : Pin), en = (upd (upd (upd (upd (upd aa 1 (.pointer (some ⟨b1, 0, none⟩))) 5 ac) 6 (vJ (i : Int))) 7 (.pointer (some ⟨be, 0, none⟩))) 8 (.pointer (some ⟨bf, 0, none⟩))) ∧ Ext noS G w x W ∧ Pin.le aq x ∧ (RSl eInt x ar ((ns.getD ((i : Int) - 1).toNat default).l)) ∧ (RSl eInt x au ((ns.getD ((i : Int) - 1).toNat default).r)) ∧ (RSl eInt x av ((ns.getD i default).l)) ∧ (RSl eInt x aw ((ns.getD i default).r)) ∧ (BxP x be [ar, au]) ∧ (BxP x bf [av, aw])) ?_ ?_
  ·rintro _ bg ⟨aa, be, ar, au, bf, av, aw, x, rfl, bx, bh, c9, da, db, dc, bz, b0⟩
   refine zA (zB ?_)
   refine xG (S := fun wz => Pins x wz) (last := 23) (by kernel_rfl) rfl ?_
   have b2 : Below bg.heap.size bg bg.drew := (Below.refl _ _).drew
   have dd := bx.pins.below b2
   have c := bx.step dd b2
   refine dM 0 ac c.pins ?_
   refine dM 1 (vJ (i : Int)) c.pins ?_
   refine dT (i := 2) rfl rfl (by kernel_rfl) (fun _ _ => qU rfl rfl (by omega)) c.pins ?_
   refine dT (i := 3) rfl rfl (by kernel_rfl) (fun _ _ => zJ Tryz.underlying57 sz3 (v := ac) rfl rfl a3 (by omega) (by omega)) c.pins ?_
   refine dT (i := 4) rfl rfl (by kernel_rfl) (fun _ hS => zK (r := (births ns).getD ((i : Int) - 1).toNat 0) rfl ag3 (z := ((i : Int) - 1)) rfl a3 (Pins.of_le hS (Pin.le_trans f bh)) (by omega) (by omega)) c.pins ?_
   refine dM 5 ac c.pins ?_
   refine dM 6 (vJ (i : Int)) c.pins ?_
   refine dT (i := 7) rfl rfl (by kernel_rfl) (fun _ _ => zJ Tryz.underlying57 sz3 (v := ac) rfl rfl a3 (by omega) (by omega)) c.pins ?_
   refine dT (i := 8) rfl rfl (by kernel_rfl) (fun _ hS => zK (r := (births ns).getD i 0) rfl ag3 (z := (i : Int)) rfl a3 (Pins.of_le hS (Pin.le_trans f bh)) (by omega) (by omega)) c.pins ?_
   refine dT (i := 10) rfl rfl (by kernel_rfl) (fun _ _ => zO (k := 0) rfl Tryz.underlying68 rfl nz57 rfl) c.pins ?_
   refine dT (i := 11) rfl rfl (by kernel_rfl) (fun _ hS => zP (u := ar) ag57 rfl (hS _ _ _ (bz 0 _ rfl))) c.pins ?_
   refine dT (i := 12) rfl rfl (by kernel_rfl) (fun _ _ => zO (k := 0) rfl Tryz.underlying68 rfl nz57 rfl) c.pins ?_
   refine dT (i := 13) rfl rfl (by kernel_rfl) (fun _ hS => zP (u := av) ag57 rfl (hS _ _ _ (b0 0 _ rfl))) c.pins ?_
   refine dT (i := 15) rfl rfl (by kernel_rfl) (fun _ _ => zO (k := 1) rfl Tryz.underlying68 rfl nz57 rfl) c.pins ?_
   refine dT (i := 16) rfl rfl (by kernel_rfl) (fun _ hS => zP (u := au) ag57 rfl (hS _ _ _ (bz 1 _ rfl))) c.pins ?_
   refine dT (i := 17) rfl rfl (by kernel_rfl) (fun _ _ => zO (k := 1) rfl Tryz.underlying68 rfl nz57 rfl) c.pins ?_
   refine dT (i := 18) rfl rfl (by kernel_rfl) (fun _ hS => zP (u := aw) ag57 rfl (hS _ _ _ (b0 1 _ rfl))) c.pins ?_
   refine dO (i := 9) (zT (i := 9) rfl rfl rfl (zD rfl _) (zM (vs := [(vJ ((births ns).getD ((i : Int) - 1).toNat 0)), (vJ ((births ns).getD i 0))]) Tryz.func85 nm85 rfl rfl rfl ?_))
   refine Calls.mono (cmpCompare_spec c.pins) ?_
   rintro _ _ ⟨rfl, rfl⟩
   refine ⟨_, rfl, ?_⟩
   refine ⟨fun _ => c.pins, ?_⟩
   refine dO (i := 14) (zT (i := 14) rfl rfl rfl (zD rfl _) (zM (vs := [ar, av]) Tryz.func107 nm107 rfl rfl rfl ?_))
   refine Calls.mono (slCompare_spec c.pins c9 db) ?_
   rintro _ _ ⟨rfl, rfl⟩
   refine ⟨_, rfl, ?_⟩
   refine ⟨fun _ => c.pins, ?_⟩
   refine dO (i := 19) (zT (i := 19) rfl rfl rfl (zD rfl _) (zM (vs := [au, aw]) Tryz.func107 nm107 rfl rfl rfl ?_))
   refine Calls.mono (slCompare_spec c.pins da dc) ?_
   rintro _ _ ⟨rfl, rfl⟩
   refine ⟨_, rfl, ?_⟩
   refine ⟨fun _ => c.pins, ?_⟩
   refine dO (i := 20) (zT (i := 20) rfl rfl rfl (zD rfl _) (yU (E := eInt) (e := 3) [(vJ (cmpI ((births ns).getD ((i : Int) - 1).toNat 0) ((births ns).getD i 0))), (vJ (cmpL ((ns.getD ((i : Int) - 1).toNat default).l) ((ns.getD i default).l))), (vJ (cmpL ((ns.getD ((i : Int) - 1).toNat default).r) ((ns.getD i default).r)))] [cmpI ((births ns).getD ((i : Int) - 1).toNat 0) ((births ns).getD i 0), cmpL ((ns.getD ((i : Int) - 1).toNat default).l) ((ns.getD i default).l), cmpL ((ns.getD ((i : Int) - 1).toNat default).r) ((ns.getD i default).r)] Tryz.underlying57 sz3 zr3 (by exact reps3 (by rfl) (by rfl) (by rfl)) (ones3 (by rfl) (by rfl) (by rfl)) rfl rfl rfl rfl (by decide) c.pins (fun b3 de df dg dh fj => ?_)))
   have b4 := c.step dg dh
   have di : Own eInt 3 x de w.heap.size b3 ([cmpI ((births ns).getD ((i : Int) - 1).toNat 0) ((births ns).getD i 0), cmpL ((ns.getD ((i : Int) - 1).toNat default).l) ((ns.getD i default).l), cmpL ((ns.getD ((i : Int) - 1).toNat default).r) ((ns.getD i default).r)]) := df.weaken c.size
   refine ⟨fun _ => b4.pins, ?_⟩
   obtain ⟨dj, bi, ax, dk, fk⟩ := di.sealed b4
   refine dO (i := 21) (zT (i := 21) rfl rfl rfl (zD rfl _) (zM (vs := [b3]) Tryz.func106 nm106 rfl rfl rfl ?_))
   refine Calls.mono (cmpOr_spec ax.pins dk) ?_
   rintro _ _ ⟨rfl, rfl⟩
   refine ⟨_, rfl, ?_⟩
   refine ⟨fun _ => (Pins.of_le ax.pins bi), ?_⟩
   refine dT (i := 22) rfl rfl (by kernel_rfl) (fun _ _ => r_geq rfl rfl) (Pins.of_le ax.pins bi) ?_
   refine yT (by kernel_rfl) ?_
   refine zA ?_
   refine yI (p := (0 : Int) ≤ (orL ([cmpI ((births ns).getD ((i : Int) - 1).toNat 0) ((births ns).getD i 0), cmpL ((ns.getD ((i : Int) - 1).toNat default).l) ((ns.getD i default).l), cmpL ((ns.getD ((i : Int) - 1).toNat default).r) ((ns.getD i default).r)]))) rfl rfl (fun dl => ?_) (fun dl => ?_)
   ·skip
    refine zB (zC ?_)
    refine qM (.bool false) ?_
    refine qe (zA ?_)
    refine wp_ret ?_
    refine zR ?_
    refine zQ (v := (.bool false)) rfl rfl rfl ?_
    exact ⟨_, congrArg (fun z => Ending.returned (Value.bool z)) (goodB_false.2 (fun g => by have := g.sorted i (by omega) (by omega); unfold pairC at this; rw [show i - 1 = ((i : Int) - 1).toNat by omega] at this; omega)).symm, ax⟩
   refine wp_skip ?_
   refine yJ ?_
   refine zA (zC ?_)
   refine qM (vJ (i : Int)) ?_
   refine qD rfl (yR rfl rfl (by omega)) ?_
   refine qM (vJ ((i : Int) + 1)) ?_
   refine qe ?_
   refine yK ?_
   have hstep : pairC ns (births ns) i < 0 := by
    unfold pairC; rw [show i - 1 = ((i : Int) - 1).toNat by omega]; omega
   refine ⟨_, ?_, _, rfl, _, i + 1, dj, (pS 6 (pS 5 (pU 1))), rfl, ax, (Pin.le_trans (Pin.le_trans f bh) bi), (by omega), (fun k h1 h2 => if h3 : k = i then h3 ▸ hstep else hsr k h1 (by omega))⟩
   omega
  ·skip
   refine xG (S := fun wz => Pins aq wz) (last := 14) (by kernel_rfl) rfl ?_
   have b5 : Below bd.heap.size bd bd.drew := (Below.refl _ _).drew
   have dn := ad.pins.below b5
   have o := ad.step dn b5
   refine dT (i := 0) rfl rfl (by kernel_rfl) (fun _ _ => zO (k := 0) rfl Tryz.underlying28 rfl nz26 rfl) o.pins ?_
   refine dT (i := 1) rfl rfl (by kernel_rfl) (fun _ hS => zP (u := v) ag26 rfl ((Pins.of_le hS (Pin.le_trans (Pin.le_trans (Pin.le_trans d m.le) q) f)) _ _ _ (y 0 _ rfl))) o.pins ?_
   refine dM 2 (vJ (i : Int)) o.pins ?_
   refine dT (i := 3) rfl rfl (by kernel_rfl) (fun _ _ => qU rfl rfl (by omega)) o.pins ?_
   refine dT (i := 4) rfl rfl (by kernel_rfl) (fun _ _ => zJ Tryz.underlying26 sz68 (v := v) rfl rfl hv (by omega) (by omega)) o.pins ?_
   obtain ⟨ae, af, ay, az, dp⟩ := nm_node (hv.at (z := ((i : Int) - 1)) (by omega) (by omega)) (j := ((i : Int) - 1).toNat) rfl
   have fl := ay.max
   have fm := az.max
   refine dT (i := 5) rfl rfl (by kernel_rfl) (fun _ hS => dp ag68 sz68 rfl (Pins.of_le hS (Pin.le_trans (Pin.le_trans (Pin.le_trans (Pin.le_trans s d) m.le) q) f))) o.pins ?_
   refine dT (i := 6) rfl rfl (by kernel_rfl) (fun _ _ => zO (k := 0) rfl Tryz.underlying28 rfl nz26 rfl) o.pins ?_
   refine dT (i := 7) rfl rfl (by kernel_rfl) (fun _ hS => zP (u := v) ag26 rfl ((Pins.of_le hS (Pin.le_trans (Pin.le_trans (Pin.le_trans d m.le) q) f)) _ _ _ (y 0 _ rfl))) o.pins ?_
   refine dM 8 (vJ (i : Int)) o.pins ?_
   refine dT (i := 9) rfl rfl (by kernel_rfl) (fun _ _ => zJ Tryz.underlying26 sz68 (v := v) rfl rfl hv (by omega) (by omega)) o.pins ?_
   obtain ⟨ag, ah, a0, a1, dq⟩ := nm_node (hv.at (z := (i : Int)) (by omega) (by omega)) (j := i) rfl
   have fn := a0.max
   have fo := a1.max
   refine dT (i := 10) rfl rfl (by kernel_rfl) (fun _ hS => dq ag68 sz68 rfl (Pins.of_le hS (Pin.le_trans (Pin.le_trans (Pin.le_trans (Pin.le_trans s d) m.le) q) f))) o.pins ?_
   refine qK (i := 11) (j := 12) (by kernel_rfl) ?_ ?_
   ·skip
    refine (zT (i := 11) rfl rfl rfl (zD rfl _) (yH [(.slice none 0 0), (.slice none 0 0)] zr68 rfl o.pins (fun bk fp fq b6 dr ds => ?_)))
    have a4 := o.step dr ds
    have b7 : w.heap.size ≤ bk := by have := o.size; omega
    refine ⟨fun _ => a4.pins, ?_⟩
    refine dO (i := 12) (zT (i := 12) rfl rfl rfl (zD rfl _) (yH [(.slice none 0 0), (.slice none 0 0)] zr68 rfl a4.pins (fun bl fr dt du dv b8 => ?_)))
    have bm := a4.step dv b8
    have dw := b6.below b8
    have b9 : Apart (some bl) (some bk) := zH (congrArg some dt) b6.lt
    have ca : w.heap.size ≤ bl := by have := a4.size; omega
    refine ⟨fun _ => bm.pins, ?_⟩
    refine dO (i := 13) (xP (i := 13) rfl rfl rfl (zD rfl _) (yM (cs' := [ae, af]) (us := [ae, af]) (v := (.agg [ae, af].toArray)) sz68 rfl rfl rfl (ones2 ay.one az.one) bm.pins dw (Nat.le_of_ble_eq_true rfl) rfl (fun fs dx dy cb ft => ?_)))
    have dz := bm.write dy cb ((zV b7))
    have d0 := du.keptA cb b9
    obtain ⟨fu, ak, bn, d1, d2⟩ := dx.shut dz b7
    have d3 := d0.moreA d2 b9
    refine ⟨fun _ => (Pins.of_le bn.pins ak), ?_⟩
    refine dO (i := 14) (xP (i := 14) rfl rfl rfl (zD rfl _) (yM (cs' := [ag, ah]) (us := [ag, ah]) (v := (.agg [ag, ah].toArray)) sz68 rfl rfl rfl (ones2 a0.one a1.one) bn.pins d3 (Nat.le_of_ble_eq_true rfl) rfl (fun fv d4 d5 d6 fw => ?_)))
    have d7 := bn.write d5 d6 ((zV ca))
    obtain ⟨d8, al, d9, ea, fx⟩ := d4.shut d7 ca
    refine ⟨fun h => absurd rfl h, ?_⟩
    refine yT (by kernel_rfl) ?_
    exact xR ⟨_, bk, ae, af, bl, ag, ah, d8, (pS 8 (pS 7 (pS 6 (pS 5 (pU 1))))), d9, (Pin.le_trans ak al), (ay.mono (Pin.le_trans (Pin.le_trans (Pin.le_trans (Pin.le_trans (Pin.le_trans (Pin.le_trans s d) m.le) q) f) ak) al)), (az.mono (Pin.le_trans (Pin.le_trans (Pin.le_trans (Pin.le_trans (Pin.le_trans (Pin.le_trans s d) m.le) q) f) ak) al)), (a0.mono (Pin.le_trans (Pin.le_trans (Pin.le_trans (Pin.le_trans (Pin.le_trans (Pin.le_trans s d) m.le) q) f) ak) al)), (a1.mono (Pin.le_trans (Pin.le_trans (Pin.le_trans (Pin.le_trans (Pin.le_trans (Pin.le_trans s d) m.le) q) f) ak) al)), (d1.mono al), (ea.mono (Pin.le_refl _))⟩
   ·skip
    refine (zT (i := 12) rfl rfl rfl (zD rfl _) (yH [(.slice none 0 0), (.slice none 0 0)] zr68 rfl o.pins (fun bo fy fz cc eb ec => ?_)))
    have a5 := o.step eb ec
    have cd : w.heap.size ≤ bo := by have := o.size; omega
    refine ⟨fun _ => a5.pins, ?_⟩
    refine dO (i := 11) (zT (i := 11) rfl rfl rfl (zD rfl _) (yH [(.slice none 0 0), (.slice none 0 0)] zr68 rfl a5.pins (fun bp f0 ed ee ef ce => ?_)))
    have bq := a5.step ef ce
    have eg := cc.below ce
    have cf : Apart (some bp) (some bo) := zH (congrArg some ed) cc.lt
    have cg : w.heap.size ≤ bp := by have := a5.size; omega
    refine ⟨fun _ => bq.pins, ?_⟩
    refine dO (i := 13) (xP (i := 13) rfl rfl rfl (zD rfl _) (yM (cs' := [ae, af]) (us := [ae, af]) (v := (.agg [ae, af].toArray)) sz68 rfl rfl rfl (ones2 ay.one az.one) bq.pins ee (Nat.le_of_ble_eq_true rfl) rfl (fun f1 eh ei ch f2 => ?_)))
    have ej := bq.write ei ch ((zV cg))
    have ek := eg.keptA ch cf.symm
    obtain ⟨f3, am, br, el, em⟩ := eh.shut ej cg
    have eo := ek.moreA em cf.symm
    refine ⟨fun _ => (Pins.of_le br.pins am), ?_⟩
    refine dO (i := 14) (xP (i := 14) rfl rfl rfl (zD rfl _) (yM (cs' := [ag, ah]) (us := [ag, ah]) (v := (.agg [ag, ah].toArray)) sz68 rfl rfl rfl (ones2 a0.one a1.one) br.pins eo (Nat.le_of_ble_eq_true rfl) rfl (fun f4 ep eq er f5 => ?_)))
    have es := br.write eq er ((zV cd))
    obtain ⟨et, an, eu, ev, f6⟩ := ep.shut es cd
    refine ⟨fun h => absurd rfl h, ?_⟩
    refine yT (by kernel_rfl) ?_
    exact xR ⟨_, bp, ae, af, bo, ag, ah, et, (pS 8 (pS 7 (pS 6 (pS 5 (pU 1))))), eu, (Pin.le_trans am an), (ay.mono (Pin.le_trans (Pin.le_trans (Pin.le_trans (Pin.le_trans (Pin.le_trans (Pin.le_trans s d) m.le) q) f) am) an)), (az.mono (Pin.le_trans (Pin.le_trans (Pin.le_trans (Pin.le_trans (Pin.le_trans (Pin.le_trans s d) m.le) q) f) am) an)), (a0.mono (Pin.le_trans (Pin.le_trans (Pin.le_trans (Pin.le_trans (Pin.le_trans (Pin.le_trans s d) m.le) q) f) am) an)), (a1.mono (Pin.le_trans (Pin.le_trans (Pin.le_trans (Pin.le_trans (Pin.le_trans (Pin.le_trans s d) m.le) q) f) am) an)), (el.mono an), (ev.mono (Pin.le_refl _))⟩
 refine wp_exit ?_
 refine yA ?_
 refine yN ?_
 refine yL ?_
 refine zA (zB (zC ?_))
 refine qD rfl (zO (k := 0) rfl Tryz.underlying28 rfl nz26 rfl) ?_
 refine qD rfl (zP (u := v) ag26 rfl ((Pins.of_le ad.pins (Pin.le_trans (Pin.le_trans (Pin.le_trans d m.le) q) f)) _ _ _ (y 0 _ rfl))) ?_
 refine qD rfl (zO (k := 0) rfl Tryz.underlying28 rfl nz26 rfl) ?_
 refine qD rfl (zP (u := v) ag26 rfl ((Pins.of_le ad.pins (Pin.le_trans (Pin.le_trans (Pin.le_trans d m.le) q) f)) _ _ _ (y 0 _ rfl))) ?_
 refine qD rfl (zN Tryz.underlying26 (v := v) rfl hv) ?_
 refine qD rfl (qU rfl rfl (by omega)) ?_
 refine qI rfl (zM (vs := [v, (vJ ((ns.length : Int) - 1))]) Tryz.func109 nm109 rfl rfl rfl ?_)
 refine Calls.mono (used_spec ad.pins (hv.mono (Pin.le_trans (Pin.le_trans (Pin.le_trans (Pin.le_trans s d) m.le) q) f)) (opts_ok hopts) (by omega)) ?_
 rintro _ ew ⟨ci, ex, rfl, ey, ez⟩
 refine ⟨_, rfl, ?_⟩
 have e0 := ad.tr ez
 have e1 : Own eBool 4 ex ew w.heap.size ci (usedM ns ((ns.length : Int) - 1).toNat) := ey.weaken ad.size
 obtain ⟨f7, f8, cj, e2, f9⟩ := e1.sealed e0
 refine qI rfl (zM (vs := [ci, (.bool false)]) Tryz.func108 nm108 rfl rfl rfl ?_)
 refine Calls.mono (slContains_spec cj.pins e2) ?_
 rintro _ _ ⟨rfl, rfl⟩
 refine ⟨_, rfl, ?_⟩
 refine qD rfl (qC rfl) ?_
 refine qM (.bool (!(decide ((0 : Int) ≤ idxB (usedM ns ((ns.length : Int) - 1).toNat) false)))) ?_
 refine qe (zA ?_)
 refine wp_ret ?_
 refine zR ?_
 refine zQ (v := (.bool (!(decide ((0 : Int) ≤ idxB (usedM ns ((ns.length : Int) - 1).toNat) false))))) rfl rfl rfl ?_
 exact ⟨_, congrArg (fun z => Ending.returned (Value.bool z)) (goodB_used (by omega) (by omega) (by omega) hopts (fun k h1 h2 => hsr k h1 (by omega))).symm, cj⟩

end B1
end Go.Proofs.YtkfgdhanaijddaaGreatDoor

set_option maxRecDepth 20000
set_option maxHeartbeats 2000000
namespace Go.Proofs.YtkfgdhanaijddaaGreatDoor
namespace C1
open Go.RowKit Go.GL Go.Proofs
open Go.Proofs.YtkfgdhanaijddaaGreatDoor.B1











theorem l1In_spec {w : World} {G : Pin} {x a b : Int} (hP : Pins G w) :
  Calls Tryz.prog 60 [(.int .i64 x), (.int .i64 a), (.int .i64 b)].toArray w fun e w' => e = .returned (.bool (decide (a ≤ x ∧ x ≤ b))) ∧ w' = w := by
 refine yD (n := 15) Tryz.func60 Tryz.ntmps60 rfl rfl ?_
 have hX0 : Ext noS G w G w := Ext.refl hP
 refine zB (zC ?_)
 refine qM (.bool false) ?_
 refine qe (zA (zB (zC ?_)))
 refine qM (.int .i64 x) ?_
 refine qM (.int .i64 a) ?_
 refine qD rfl (r_geq rfl rfl) ?_
 refine qM (.bool (decide ((a : Int) ≤ x))) ?_
 refine qbd (p := (a : Int) ≤ x) (t := 10) rfl (fun h1 => ?_) (fun h1 => ?_)
 ·skip
  refine qN (zU (v := (.int .i64 x)) rfl) ?_
  refine qN (zU (v := (.int .i64 b)) rfl) ?_
  refine qN (r_leq rfl rfl) ?_
  refine qD rfl (xE (v := (.bool (decide ((x : Int) ≤ b)))) rfl rfl) ?_
  refine qM (.bool (decide ((x : Int) ≤ b))) ?_
  refine qe (zA ?_)
  refine wp_ret ?_
  refine zR ?_
  refine zQ (v := (.bool (decide ((x : Int) ≤ b)))) rfl rfl rfl ?_
  exact ⟨congrArg (fun z => Ending.returned (Value.bool z)) (decide_eq_decide.2 (by omega)), rfl⟩
 refine qW ?_
 refine qW ?_
 refine qW ?_
 refine qD rfl (xA (v := (.bool false)) rfl rfl) ?_
 refine qM (.bool false) ?_
 refine qe (zA ?_)
 refine wp_ret ?_
 refine zR ?_
 refine zQ (v := (.bool false)) rfl rfl rfl ?_
 exact ⟨congrArg (fun z => Ending.returned (Value.bool z)) ((decide_eq_false (by omega)).symm), rfl⟩

theorem l1Most_spec {w : World} {G : Pin} {x y : Int} (hP : Pins G w) :
  Calls Tryz.prog 153 [(.int .i64 x), (.int .i64 y)].toArray w fun e w' => e = .returned (.int .i64 (max x y)) ∧ w' = w := by
 refine yD (n := 10) Tryz.func153 Tryz.ntmps153 rfl rfl ?_
 have hX0 : Ext noS G w G w := Ext.refl hP
 refine zB (zC ?_)
 refine qM (.int .i64 0) ?_
 refine qe (zA (zB (zB (zC ?_))))
 refine qM (.int .i64 x) ?_
 refine qM (.int .i64 y) ?_
 refine qD rfl (r_gtr rfl rfl) ?_
 refine qe (zA ?_)
 refine yI (p := (y : Int) < x) rfl rfl (fun h1 => ?_) (fun h1 => ?_)
 ·skip
  refine zB (zC ?_)
  refine qM (.int .i64 x) ?_
  refine qM (.int .i64 x) ?_
  refine qe (zA ?_)
  refine wp_ret ?_
  refine zR ?_
  refine zQ (v := (.int .i64 x)) rfl rfl rfl ?_
  exact ⟨congrArg (fun z => Ending.returned (Value.int .i64 z)) (by omega), rfl⟩
 refine wp_skip ?_
 refine zA (zB (zC ?_))
 refine qM (.int .i64 y) ?_
 refine qM (.int .i64 y) ?_
 refine qe (zA ?_)
 refine wp_ret ?_
 refine zR ?_
 refine zQ (v := (.int .i64 y)) rfl rfl rfl ?_
 exact ⟨congrArg (fun z => Ending.returned (Value.int .i64 z)) (by omega), rfl⟩

theorem l1Rising_spec {w : World} {G : Pin} {v : Value} {xs : List Int} {lo hi : Int} (hP : Pins G w) (hv : RSl eInt G v xs) :
  Calls Tryz.prog 114 [v, (vJ lo), (vJ hi)].toArray w fun e w' => e = .returned (.bool (decP (Rise xs lo hi))) ∧ Ext noS G w G w' := by
 refine yD (n := 38) Tryz.func114 Tryz.ntmps114 rfl rfl ?_
 have h : Ext noS G w G w := Ext.refl hP
 have hm := hv.max
 refine zB (zC ?_)
 refine qM (.bool false) ?_
 refine qe (zA (zB (zB (zC ?_))))
 refine qM (vJ 0) ?_
 refine qe (zA ?_)
 refine zX ?_
 refine yQ (fun (k : Nat) (en : Nat → Value) (W : World) => ∃ (f : Nat → Value) (j : Nat), en = (upd (upd (upd (upd f 0 v) 1 (vJ lo)) 2 (vJ hi)) 7 (vJ (j : Int))) ∧ k = xs.length - j ∧ Ext noS G w G W ∧ (j ≤ xs.length) ∧ (∀ i, i < j → (lo ≤ xs.getD i 0 ∧ xs.getD i 0 ≤ hi) ∧ (0 < i → xs.getD (i - 1) 0 < xs.getD i 0))) _ ⟨_, 0, (pS 7 (pS 2 (pS 1 (pU 0)))), rfl, h, Nat.zero_le _, (fun i hi => absurd hi (Nat.not_lt_zero i))⟩ ?_
 rintro u _ c ⟨f, j, rfl, x, d, hj, hp⟩
 refine zB (zB (zC ?_))
 refine qM (vJ (j : Int)) ?_
 refine qM v ?_
 refine qD rfl (zN Tryz.underlying57 (v := v) rfl hv) ?_
 refine qD rfl (yV rfl rfl) ?_
 refine qe (zA ?_)
 refine yI (p := ((j : Int) : Int) < (xs.length : Int)) rfl rfl (fun l => ?_) (fun l => ?_)
 ·skip
  refine wp_skip ?_
  refine zA (zB ?_)
  refine zX ?_
  refine zB ?_
  refine xG (S := fun wz => Pins G wz) (last := 24) (by kernel_rfl) rfl ?_
  have g : Below c.heap.size c c.drew := (Below.refl _ _).drew
  have m := d.pins.below g
  have a := d.step m g
  refine dM 0 v a.pins ?_
  refine dM 1 (vJ (j : Int)) a.pins ?_
  refine dT (i := 2) rfl rfl (by kernel_rfl) (fun _ _ => zJ Tryz.underlying57 sz3 (v := v) rfl rfl hv (by omega) (by omega)) a.pins ?_
  refine dT (i := 3) rfl rfl (by kernel_rfl) (fun _ hS => zK (r := xs.getD j 0) rfl ag3 (z := (j : Int)) rfl hv hS (by omega) (by omega)) a.pins ?_
  refine dM 4 (vJ lo) a.pins ?_
  refine dM 5 (vJ hi) a.pins ?_
  refine dO (i := 6) (zT (i := 6) rfl rfl rfl (zD rfl _) (zM (vs := [(vJ (xs.getD j 0)), (vJ lo), (vJ hi)]) Tryz.func60 nm60 rfl rfl rfl ?_))
  refine Calls.mono (l1In_spec a.pins) ?_
  rintro _ _ ⟨rfl, rfl⟩
  refine ⟨_, rfl, ?_⟩
  refine ⟨fun _ => a.pins, ?_⟩
  refine dT (i := 7) rfl rfl (by kernel_rfl) (fun _ _ => qC rfl) a.pins ?_
  refine dM 8 (.bool (!(decide ((lo : Int) ≤ (xs.getD j 0) ∧ (xs.getD j 0 : Int) ≤ hi)))) a.pins ?_
  refine drbn (t := 22) rfl (fun b => ?_) (fun b => ?_)
  ·skip
   replace b := of_decide_eq_true b
   refine yG (i := 9) rfl rfl rfl (zW rfl rfl rfl rfl) (by kernel_rfl) (fun _ _ => zU (v := (vJ (j : Int))) rfl) a.pins ?_
   refine yG (i := 10) rfl rfl rfl (zW rfl rfl rfl rfl) (by kernel_rfl) (fun _ _ => r_gtr rfl rfl) a.pins ?_
   refine yG (i := 11) rfl rfl rfl (zW rfl rfl rfl rfl) (by kernel_rfl) (fun _ _ => zU (v := (.bool (decide ((0 : Int) < (j : Int))))) rfl) a.pins ?_
   refine drbd (p := (0 : Int) < (j : Int)) (t := 25) rfl (fun o => ?_) (fun o => ?_)
   ·skip
    refine yG (i := 12) rfl rfl rfl (zW rfl rfl rfl rfl) (by kernel_rfl) (fun _ _ => zU (v := v) rfl) a.pins ?_
    refine yG (i := 13) rfl rfl rfl (zW rfl rfl rfl rfl) (by kernel_rfl) (fun _ _ => zU (v := (vJ (j : Int))) rfl) a.pins ?_
    refine yG (i := 14) rfl rfl rfl (zW rfl rfl rfl rfl) (by kernel_rfl) (fun _ _ => qU rfl rfl (by omega)) a.pins ?_
    refine yG (i := 15) rfl rfl rfl (zW rfl rfl rfl rfl) (by kernel_rfl) (fun _ _ => zJ Tryz.underlying57 sz3 (v := v) rfl rfl hv (by omega) (by omega)) a.pins ?_
    refine yG (i := 16) rfl rfl rfl (zW rfl rfl rfl rfl) (by kernel_rfl) (fun _ hS => zK (r := xs.getD ((j : Int) - 1).toNat 0) rfl ag3 (z := ((j : Int) - 1)) rfl hv hS (by omega) (by omega)) a.pins ?_
    refine yG (i := 17) rfl rfl rfl (zW rfl rfl rfl rfl) (by kernel_rfl) (fun _ _ => zU (v := v) rfl) a.pins ?_
    refine yG (i := 18) rfl rfl rfl (zW rfl rfl rfl rfl) (by kernel_rfl) (fun _ _ => zU (v := (vJ (j : Int))) rfl) a.pins ?_
    refine yG (i := 19) rfl rfl rfl (zW rfl rfl rfl rfl) (by kernel_rfl) (fun _ _ => zJ Tryz.underlying57 sz3 (v := v) rfl rfl hv (by omega) (by omega)) a.pins ?_
    refine yG (i := 20) rfl rfl rfl (zW rfl rfl rfl rfl) (by kernel_rfl) (fun _ hS => zK (r := xs.getD j 0) rfl ag3 (z := (j : Int)) rfl hv hS (by omega) (by omega)) a.pins ?_
    refine yG (i := 21) rfl rfl rfl (zW rfl rfl rfl rfl) (by kernel_rfl) (fun _ _ => r_geq rfl rfl) a.pins ?_
    refine yG (i := 22) rfl rfl rfl (zW rfl rfl rfl rfl) (by kernel_rfl) (fun _ _ => xE (v := (.bool (decide ((xs.getD j 0 : Int) ≤ (xs.getD ((j : Int) - 1).toNat 0))))) rfl rfl) a.pins ?_
    refine dT (i := 23) rfl rfl (by kernel_rfl) (fun _ _ => xA (v := (.bool (decide ((xs.getD j 0 : Int) ≤ (xs.getD ((j : Int) - 1).toNat 0))))) rfl rfl) a.pins ?_
    refine yT (by kernel_rfl) ?_
    refine zA ?_
    refine yI (p := (xs.getD j 0 : Int) ≤ (xs.getD ((j : Int) - 1).toNat 0)) rfl rfl (fun q => ?_) (fun q => ?_)
    ·skip
     refine zB (zC ?_)
     refine qM (.bool false) ?_
     refine qe (zA ?_)
     refine wp_ret ?_
     refine zR ?_
     refine zQ (v := (.bool false)) rfl rfl rfl ?_
     exact ⟨congrArg (fun z => Ending.returned (Value.bool z)) (decP_false.2 (fun hR => by have := hR j (by omega); rw [show j - 1 = ((j : Int) - 1).toNat by omega] at this; omega)).symm, a⟩
    refine wp_skip ?_
    refine yJ ?_
    refine zA (zC ?_)
    refine qM (vJ (j : Int)) ?_
    refine qD rfl (yR rfl rfl (by omega)) ?_
    refine qM (vJ ((j : Int) + 1)) ?_
    refine qe ?_
    refine yK ?_
    refine ⟨_, ?_, _, rfl, _, j + 1, (pS 7 (pS 2 (pS 1 (pU 0)))), rfl, a, (by omega), (rise_step hp (by omega) (fun s => by rw [show j - 1 = ((j : Int) - 1).toNat by omega]; omega))⟩
    omega
   refine zY (i := 12) rfl rfl (yE rfl rfl rfl rfl rfl) (by kernel_rfl) a.pins ?_
   refine zY (i := 13) rfl rfl (yE rfl rfl rfl rfl rfl) (by kernel_rfl) a.pins ?_
   refine zY (i := 14) rfl rfl (yE rfl rfl rfl rfl rfl) (by kernel_rfl) a.pins ?_
   refine zY (i := 15) rfl rfl (yE rfl rfl rfl rfl rfl) (by kernel_rfl) a.pins ?_
   refine zY (i := 16) rfl rfl (yE rfl rfl rfl rfl rfl) (by kernel_rfl) a.pins ?_
   refine zY (i := 17) rfl rfl (yE rfl rfl rfl rfl rfl) (by kernel_rfl) a.pins ?_
   refine zY (i := 18) rfl rfl (yE rfl rfl rfl rfl rfl) (by kernel_rfl) a.pins ?_
   refine zY (i := 19) rfl rfl (yE rfl rfl rfl rfl rfl) (by kernel_rfl) a.pins ?_
   refine zY (i := 20) rfl rfl (yE rfl rfl rfl rfl rfl) (by kernel_rfl) a.pins ?_
   refine zY (i := 21) rfl rfl (yE rfl rfl rfl rfl rfl) (by kernel_rfl) a.pins ?_
   refine yG (i := 22) rfl rfl rfl (zW rfl rfl rfl rfl) (by kernel_rfl) (fun _ _ => xA (v := (.bool false)) rfl rfl) a.pins ?_
   refine dT (i := 23) rfl rfl (by kernel_rfl) (fun _ _ => xA (v := (.bool false)) rfl rfl) a.pins ?_
   refine yT (by kernel_rfl) ?_
   refine zA ?_
   refine c_ifF rfl rfl ?_
   refine wp_skip ?_
   refine yJ ?_
   refine zA (zC ?_)
   refine qM (vJ (j : Int)) ?_
   refine qD rfl (yR rfl rfl (by omega)) ?_
   refine qM (vJ ((j : Int) + 1)) ?_
   refine qe ?_
   refine yK ?_
   refine ⟨_, ?_, _, rfl, _, j + 1, (pS 7 (pS 2 (pS 1 (pU 0)))), rfl, a, (by omega), (rise_step hp (by omega) (fun s => by rw [show j - 1 = ((j : Int) - 1).toNat by omega]; omega))⟩
   omega
  replace b := of_decide_eq_false b
  refine zY (i := 9) rfl rfl (yE rfl rfl rfl rfl rfl) (by kernel_rfl) a.pins ?_
  refine zY (i := 10) rfl rfl (yE rfl rfl rfl rfl rfl) (by kernel_rfl) a.pins ?_
  refine zY (i := 11) rfl rfl (yE rfl rfl rfl rfl rfl) (by kernel_rfl) a.pins ?_
  refine zY (i := 12) rfl rfl (xY rfl rfl rfl rfl) (by kernel_rfl) a.pins ?_
  refine zY (i := 13) rfl rfl (xY rfl rfl rfl rfl) (by kernel_rfl) a.pins ?_
  refine zY (i := 14) rfl rfl (xY rfl rfl rfl rfl) (by kernel_rfl) a.pins ?_
  refine zY (i := 15) rfl rfl (xY rfl rfl rfl rfl) (by kernel_rfl) a.pins ?_
  refine zY (i := 16) rfl rfl (xY rfl rfl rfl rfl) (by kernel_rfl) a.pins ?_
  refine zY (i := 17) rfl rfl (xY rfl rfl rfl rfl) (by kernel_rfl) a.pins ?_
  refine zY (i := 18) rfl rfl (xY rfl rfl rfl rfl) (by kernel_rfl) a.pins ?_
  refine zY (i := 19) rfl rfl (xY rfl rfl rfl rfl) (by kernel_rfl) a.pins ?_
  refine zY (i := 20) rfl rfl (xY rfl rfl rfl rfl) (by kernel_rfl) a.pins ?_
  refine zY (i := 21) rfl rfl (xY rfl rfl rfl rfl) (by kernel_rfl) a.pins ?_
  refine zY (i := 22) rfl rfl (yE rfl rfl rfl rfl rfl) (by kernel_rfl) a.pins ?_
  refine dT (i := 23) rfl rfl (by kernel_rfl) (fun _ _ => xE (v := (.bool true)) rfl rfl) a.pins ?_
  refine yT (by kernel_rfl) ?_
  refine zA ?_
  refine c_ifT rfl rfl ?_
  refine zB (zC ?_)
  refine qM (.bool false) ?_
  refine qe (zA ?_)
  refine wp_ret ?_
  refine zR ?_
  refine zQ (v := (.bool false)) rfl rfl rfl ?_
  exact ⟨congrArg (fun z => Ending.returned (Value.bool z)) (decP_false.2 (fun hR => by have := hR j (by omega); rw [show j - 1 = ((j : Int) - 1).toNat by omega] at this; omega)).symm, a⟩
 refine wp_exit ?_
 refine yA ?_
 refine yN ?_
 refine yL ?_
 refine zA (zB (zC ?_))
 refine qM (.bool true) ?_
 refine qe (zA ?_)
 refine wp_ret ?_
 refine zR ?_
 refine zQ (v := (.bool true)) rfl rfl rfl ?_
 exact ⟨congrArg (fun z => Ending.returned (Value.bool z)) (decP_true.2 (Rise.done (by omega) hp)).symm, d⟩

theorem l3Fits_spec {w : World} {G : Pin} {v : Value} {ns : List Nd} (hP : Pins G w) (hv : RSl eNode G v ns) :
  Calls Tryz.prog 113 [(.agg [v].toArray)].toArray w fun e w' => ∃ G', e = .returned (.bool (decP (FitsP ns))) ∧ Ext noS G w G' w' := by
 refine yD (n := 37) Tryz.func113 Tryz.ntmps113 rfl rfl ?_
 have c : Ext noS G w G w := Ext.refl hP
 have hm := hv.max
 refine zB (zC ?_)
 refine qI rfl (qA [v] (v := (.agg [v].toArray)) rfl rfl c.pins (fun d w2 am q s x => ?_))
 have y := c.step s x
 have aa : w.heap.size ≤ d := by have := c.size; omega
 obtain ⟨G9, f, ac, b, an⟩ := q.shut y aa
 refine qM (.bool false) ?_
 refine qe (zA (zB (zB (zC ?_))))
 refine qM (vJ 0) ?_
 refine qe (zA ?_)
 refine zX ?_
 refine yQ (fun (k : Nat) (en : Nat → Value) (W : World) => ∃ (h : Nat → Value) (j : Nat), en = (upd (upd h 1 (.pointer (some ⟨d, 0, none⟩))) 3 (vJ (j : Int))) ∧ k = 121 - j ∧ Ext noS G w G9 W ∧ (j ≤ ns.length ∧ j ≤ 121) ∧ (∀ k, k < j → (ns.getD k default).l.length ≤ 24 ∧ (ns.getD k default).r.length ≤ 24)) _ ⟨_, 0, (pS 3 (pU 1)), rfl, ac, (by omega), (fun i hi => absurd hi (Nat.not_lt_zero i))⟩ ?_
 rintro ao _ ap ⟨h, j, rfl, aq, a, hj, hp⟩
 refine zB (zB (zC ?_))
 refine qM (vJ (j : Int)) ?_
 refine qD rfl (zO (k := 0) rfl Tryz.underlying28 rfl nz26 rfl) ?_
 refine qD rfl (zP (u := v) ag26 rfl (a.pins _ _ _ (b 0 _ rfl))) ?_
 refine qD rfl (zN Tryz.underlying26 (v := v) rfl hv) ?_
 refine qD rfl (yV rfl rfl) ?_
 refine qM (.bool (decide (((j : Int) : Int) < (ns.length : Int)))) ?_
 refine qbd (p := ((j : Int) : Int) < (ns.length : Int)) (t := 9) rfl (fun ad => ?_) (fun ad => ?_)
 ·skip
  refine qN (zU (v := (vJ (j : Int))) rfl) ?_
  refine qN (r_leq rfl rfl) ?_
  refine qD rfl (xE (v := (.bool (decide (((j : Int) : Int) ≤ 120)))) rfl rfl) ?_
  refine qe (zA ?_)
  refine yI (p := ((j : Int) : Int) ≤ 120) rfl rfl (fun ae => ?_) (fun ae => ?_)
  ·skip
   refine wp_skip ?_
   refine zA (zB ?_)
   refine zX ?_
   refine zB (zC ?_)
   refine qD rfl (zO (k := 0) rfl Tryz.underlying28 rfl nz26 rfl) ?_
   refine qD rfl (zP (u := v) ag26 rfl (a.pins _ _ _ (b 0 _ rfl))) ?_
   refine qM (vJ (j : Int)) ?_
   refine qD rfl (zJ Tryz.underlying26 sz68 (v := v) rfl rfl hv (by omega) (by omega)) ?_
   refine qD rfl (xD (off := 0) Tryz.underlying68 rfl rfl nz57 (z := (j : Int)) (k := 0) rfl hv (by omega) (by omega)) ?_
   obtain ⟨af, m, ag⟩ := nm_nl (hv.at (z := (j : Int)) (by omega) (by omega)) (j := j) rfl
   have ar := m.max
   refine qD rfl (ag ag57 rfl (Pins.of_le a.pins f)) ?_
   refine qD rfl (zN Tryz.underlying57 (v := af) rfl m) ?_
   refine qD rfl (r_gtr rfl rfl) ?_
   refine qM (.bool (decide ((24 : Int) < (((ns.getD j default).l).length : Int)))) ?_
   refine qbd (p := (24 : Int) < (((ns.getD j default).l).length : Int)) (t := 23) rfl (fun ah => ?_) (fun ah => ?_)
   ·skip
    refine qW ?_
    refine qW ?_
    refine qW ?_
    refine qW ?_
    refine qW ?_
    refine qW ?_
    refine qW ?_
    refine qW ?_
    refine qD rfl (xE (v := (.bool true)) rfl rfl) ?_
    refine qe (zA ?_)
    refine c_ifT rfl rfl ?_
    refine zB (zC ?_)
    refine qM (.bool false) ?_
    refine qe (zA ?_)
    refine wp_ret ?_
    refine zR ?_
    refine zQ (v := (.bool false)) rfl rfl rfl ?_
    exact ⟨_, congrArg (fun z => Ending.returned (Value.bool z)) (decP_false.2 (fun g => by have := g.opts j (by omega); omega)).symm, a⟩
   refine qN (zO (k := 0) rfl Tryz.underlying28 rfl nz26 rfl) ?_
   refine qN (zP (u := v) ag26 rfl (a.pins _ _ _ (b 0 _ rfl))) ?_
   refine qN (zU (v := (vJ (j : Int))) rfl) ?_
   refine qN (zJ Tryz.underlying26 sz68 (v := v) rfl rfl hv (by omega) (by omega)) ?_
   refine qN (xD (off := 1) Tryz.underlying68 rfl rfl nz57 (z := (j : Int)) (k := 0) rfl hv (by omega) (by omega)) ?_
   obtain ⟨ai, o, aj⟩ := nm_nr (hv.at (z := (j : Int)) (by omega) (by omega)) (j := j) rfl
   have au := o.max
   refine qN (aj ag57 rfl (Pins.of_le a.pins f)) ?_
   refine qN (zN Tryz.underlying57 (v := ai) rfl o) ?_
   refine qN (r_gtr rfl rfl) ?_
   refine qD rfl (xA (v := (.bool (decide ((24 : Int) < (((ns.getD j default).r).length : Int))))) rfl rfl) ?_
   refine qe (zA ?_)
   refine yI (p := (24 : Int) < (((ns.getD j default).r).length : Int)) rfl rfl (fun ak => ?_) (fun ak => ?_)
   ·skip
    refine zB (zC ?_)
    refine qM (.bool false) ?_
    refine qe (zA ?_)
    refine wp_ret ?_
    refine zR ?_
    refine zQ (v := (.bool false)) rfl rfl rfl ?_
    exact ⟨_, congrArg (fun z => Ending.returned (Value.bool z)) (decP_false.2 (fun g => by have := g.opts j (by omega); omega)).symm, a⟩
   refine wp_skip ?_
   refine yJ ?_
   refine zA (zC ?_)
   refine qM (vJ (j : Int)) ?_
   refine qD rfl (yR rfl rfl (by omega)) ?_
   refine qM (vJ ((j : Int) + 1)) ?_
   refine qe ?_
   refine yK ?_
   refine ⟨_, ?_, _, rfl, _, j + 1, (pS 3 (pU 1)), rfl, a, (by omega), (fun k hk => if h3 : k = j then h3 ▸ ⟨by omega, by omega⟩ else hp k (by omega))⟩
   omega
  refine wp_exit ?_
  refine yA ?_
  refine yN ?_
  refine yL ?_
  refine zA (zB (zC ?_))
  refine qD rfl (zO (k := 0) rfl Tryz.underlying28 rfl nz26 rfl) ?_
  refine qD rfl (zP (u := v) ag26 rfl (a.pins _ _ _ (b 0 _ rfl))) ?_
  refine qD rfl (zN Tryz.underlying26 (v := v) rfl hv) ?_
  refine qI rfl (zM (vs := [(vJ (ns.length : Int)), (vJ 1), (vJ 120)]) Tryz.func60 nm60 rfl rfl rfl ?_)
  refine Calls.mono (l1In_spec a.pins) ?_
  rintro _ _ ⟨rfl, rfl⟩
  refine ⟨_, rfl, ?_⟩
  refine qM (.bool (decide ((1 : Int) ≤ (ns.length : Int) ∧ ((ns.length : Int) : Int) ≤ 120))) ?_
  refine qe (zA ?_)
  refine wp_ret ?_
  refine zR ?_
  refine zQ (v := (.bool (decide ((1 : Int) ≤ (ns.length : Int) ∧ ((ns.length : Int) : Int) ≤ 120)))) rfl rfl rfl ?_
  exact ⟨_, congrArg (fun z => Ending.returned (Value.bool z)) (fits_end hp (by omega) (by omega)), a⟩
 refine qW ?_
 refine qW ?_
 refine qD rfl (xA (v := (.bool false)) rfl rfl) ?_
 refine qe (zA ?_)
 refine c_ifF rfl rfl ?_
 refine wp_exit ?_
 refine yA ?_
 refine yN ?_
 refine yL ?_
 refine zA (zB (zC ?_))
 refine qD rfl (zO (k := 0) rfl Tryz.underlying28 rfl nz26 rfl) ?_
 refine qD rfl (zP (u := v) ag26 rfl (a.pins _ _ _ (b 0 _ rfl))) ?_
 refine qD rfl (zN Tryz.underlying26 (v := v) rfl hv) ?_
 refine qI rfl (zM (vs := [(vJ (ns.length : Int)), (vJ 1), (vJ 120)]) Tryz.func60 nm60 rfl rfl rfl ?_)
 refine Calls.mono (l1In_spec a.pins) ?_
 rintro _ _ ⟨rfl, rfl⟩
 refine ⟨_, rfl, ?_⟩
 refine qM (.bool (decide ((1 : Int) ≤ (ns.length : Int) ∧ ((ns.length : Int) : Int) ≤ 120))) ?_
 refine qe (zA ?_)
 refine wp_ret ?_
 refine zR ?_
 refine zQ (v := (.bool (decide ((1 : Int) ≤ (ns.length : Int) ∧ ((ns.length : Int) : Int) ≤ 120)))) rfl rfl rfl ?_
 exact ⟨_, congrArg (fun z => Ending.returned (Value.bool z)) (fits_end hp (by omega) (by omega)), a⟩

theorem l1Put_spec {w : World} {G : Pin} {v : Value} {xs : List Int} {n : Int} (hP : Pins G w) (hv : RSl eInt G v xs) (hs : xs.length ≤ 2097152) :
  Calls Tryz.prog 152 [v, (vJ n)].toArray w fun e w' => ∃ (u : Value) (G' : Pin), e = .returned u ∧ RSl eInt G' u (putL xs n) ∧ Ext noS G w G' w' := by
 refine yD (n := 45) Tryz.func152 Tryz.ntmps152 rfl rfl ?_
 have cm : Ext noS G w G w := Ext.refl hP
 refine zB (zC ?_)
 refine qM (.slice none 0 0) ?_
 refine qe (zA (zB (zC ?_)))
 refine qM (vJ 0) ?_
 refine qe (zA (zB ?_))
 refine zX ?_
 refine yQ (fun (k : Nat) (en : Nat → Value) (W : World) => ∃ (c : Nat → Value) (j : Nat), en = (upd (upd (upd (upd c 0 v) 1 (vJ n)) 4 (.slice none 0 0)) 5 (vJ (j : Int))) ∧ k = xs.length - j ∧ Ext noS G w G W ∧ (j ≤ xs.length) ∧ (putL xs n = xs.take j ++ putL (xs.drop j) n)) _ ⟨_, 0, (pS 5 (pS 4 (pS 1 (pU 0)))), rfl, cm, Nat.zero_le _, rfl⟩ ?_
 rintro k1 _ l ⟨c, j, rfl, f3, d, hj, hr⟩
 refine zB (zB (zC ?_))
 refine qM (vJ (j : Int)) ?_
 refine qM v ?_
 refine qD rfl (zN Tryz.underlying57 (v := v) rfl hv) ?_
 refine qD rfl (yV rfl rfl) ?_
 refine qM (.bool (decide (((j : Int) : Int) < (xs.length : Int)))) ?_
 refine qbd (p := ((j : Int) : Int) < (xs.length : Int)) (t := 10) rfl (fun h5 => ?_) (fun h5 => ?_)
 ·skip
  refine qN (zU (v := v) rfl) ?_
  refine qN (zU (v := (vJ (j : Int))) rfl) ?_
  refine qN (zJ Tryz.underlying57 sz3 (v := v) rfl rfl hv (by omega) (by omega)) ?_
  refine qN (zK (r := xs.getD j 0) rfl ag3 (z := (j : Int)) rfl hv d.pins (by omega) (by omega)) ?_
  refine qN (zU (v := (vJ n)) rfl) ?_
  refine qN (yV rfl rfl) ?_
  refine qD rfl (xE (v := (.bool (decide ((xs.getD j 0 : Int) < n)))) rfl rfl) ?_
  refine qe (zA ?_)
  refine yI (p := (xs.getD j 0 : Int) < n) rfl rfl (fun h6 => ?_) (fun h6 => ?_)
  ·skip
   refine wp_skip ?_
   refine zA ?_
   refine zX ?_
   refine zC ?_
   refine qM (vJ (j : Int)) ?_
   refine qD rfl (yR rfl rfl (by omega)) ?_
   refine qM (vJ ((j : Int) + 1)) ?_
   refine qe ?_
   refine yJ ?_
   refine yK ?_
   refine ⟨_, ?_, _, rfl, _, j + 1, (pS 5 (pS 4 (pS 1 (pU 0)))), rfl, d, (by omega), (put_next (by omega) (by omega) hr)⟩
   omega
  refine wp_exit ?_
  refine yA ?_
  refine yN ?_
  refine yL ?_
  refine zA (zB (zB (zC ?_)))
  refine qM (vJ (j : Int)) ?_
  refine qM v ?_
  refine qD rfl (zN Tryz.underlying57 (v := v) rfl hv) ?_
  refine qD rfl (yV rfl rfl) ?_
  refine qM (.bool (decide (((j : Int) : Int) < (xs.length : Int)))) ?_
  refine qbd (p := ((j : Int) : Int) < (xs.length : Int)) (t := 24) rfl (fun _ => ?_) (fun h => absurd h5 h)
  refine qN (zU (v := v) rfl) ?_
  refine qN (zU (v := (vJ (j : Int))) rfl) ?_
  refine qN (zJ Tryz.underlying57 sz3 (v := v) rfl rfl hv (by omega) (by omega)) ?_
  refine qN (zK (r := xs.getD j 0) rfl ag3 (z := (j : Int)) rfl hv d.pins (by omega) (by omega)) ?_
  refine qN (zU (v := (vJ n)) rfl) ?_
  refine qN (r_eql rfl rfl) ?_
  refine qD rfl (xE (v := (.bool (decide ((xs.getD j 0 : Int) = n)))) rfl rfl) ?_
  refine qe (zA ?_)
  refine yI (p := (xs.getD j 0 : Int) = n) rfl rfl (fun h8 => ?_) (fun h8 => ?_)
  ·skip
   refine zB (zC ?_)
   refine qM v ?_
   refine qM v ?_
   refine qe (zA ?_)
   refine wp_ret ?_
   refine zR ?_
   refine zQ (v := v) rfl rfl rfl ?_
   exact ⟨_, _, rfl, (by rw [put_hit (by omega) (by omega) hr]; exact hv), d⟩
  refine wp_skip ?_
  refine zA (zB ?_)
  refine c_cut (fun (en : Nat → Value) (W : World) => ∃ (c : Nat → Value) (c9 : Value) (af : Pin), en = (upd c 4 c9) ∧ Ext noS G w af W ∧ Pin.le G af ∧ (Own eInt 3 af W w.heap.size c9 (((([]) ++ ((xs.take j).drop 0)) ++ ([n])) ++ ((xs.take xs.length).drop j)))) ?_ ?_
  ·rintro _ f4 ⟨c, c9, af, rfl, cp, f5, cq⟩
   refine zA ?_
   refine wp_ret ?_
   refine zR ?_
   refine zQ (v := c9) rfl rfl rfl ?_
   obtain ⟨f6, f7, cr, cs, f8⟩ := cq.sealed cp
   exact ⟨_, _, rfl, (by rw [← put_new (fun h => ⟨by omega, by omega⟩) hr]; exact cs), cr⟩
  ·skip
   refine xG (S := fun wz => Pins G wz) (last := 13) (by kernel_rfl) rfl ?_
   have bj : Below l.heap.size l l.drew := (Below.refl _ _).drew
   have ct := d.pins.below bj
   have a := d.step ct bj
   refine dM 1 v a.pins ?_
   refine dM 2 (vJ (j : Int)) a.pins ?_
   obtain ⟨az, a0, cu⟩ := qQ hv (lo := none) (hi := (some ((j : Int)))) (0) (j) (Or.inl ⟨rfl, rfl⟩) (Or.inr ⟨_, rfl, (by omega), rfl⟩) (by omega) (by omega)
   refine dT (i := 3) rfl rfl (by kernel_rfl) (fun _ _ => cu Tryz.underlying57 sz3 rfl rfl rfl) a.pins ?_
   refine dM 5 (vJ n) a.pins ?_
   refine dM 8 v a.pins ?_
   refine dM 9 (vJ (j : Int)) a.pins ?_
   obtain ⟨a1, a2, cv⟩ := qQ hv (lo := (some ((j : Int)))) (hi := none) (j) (xs.length) (Or.inr ⟨_, rfl, (by omega), rfl⟩) (Or.inl ⟨rfl, rfl⟩) (by omega) (by omega)
   refine dT (i := 10) rfl rfl (by kernel_rfl) (fun _ _ => cv Tryz.underlying57 sz3 rfl rfl rfl) a.pins ?_
   refine qK (i := 0) (j := 6) (by kernel_rfl) ?_ ?_
   ·skip
    refine (zT (i := 0) rfl rfl rfl (zD rfl _) (yZ (E := eInt) (e := 3) Tryz.underlying57 sz3 a.pins (fun ag cw cx cy cz f9 => ?_)))
    have f := a.step cy cz
    have ah : Own eInt 3 G cw w.heap.size ag ([]) := cx.weaken a.size
    refine ⟨fun _ => f.pins, ?_⟩
    refine qK (i := 4) (j := 6) (by kernel_rfl) ?_ ?_
    ·skip
     refine (zT (i := 4) rfl rfl rfl (zD rfl _) (oA (E := eInt) (v := ag) (u := az) 8 Tryz.underlying57 ap3 (by decide) rfl rfl f.pins ah ((a0.mono (Pin.le_refl _)).src f.pins (by decide)) (f.size) (fun c0 ga c1 c2 c3 gb => ?_)))
     have ai := f.write c2 c3 ((yB ah))
     have gc : (([]) ++ ((xs.take j).drop 0)).length = ([]).length + ((xs.take j).drop 0).length := List.length_append
     refine ⟨fun _ => ai.pins, ?_⟩
     refine dO (i := 6) (zT (i := 6) rfl rfl rfl (zD rfl _) (yU (E := eInt) (e := 3) [(vJ n)] [n] Tryz.underlying57 sz3 zr3 (by exact xQ (by rfl)) (yC (by rfl)) rfl rfl rfl rfl (by decide) ai.pins (fun bk c4 c5 c6 bl gd => ?_)))
     have aj := ai.step c6 bl
     have bm := c1.below bl
     have c7 : Own eInt 3 G c4 w.heap.size bk ([n]) := c5.weaken ai.size
     refine ⟨fun _ => aj.pins, ?_⟩
     refine dO (i := 7) (zT (i := 7) rfl rfl rfl (zD rfl _) (oA (E := eInt) (v := c0) (u := bk) 8 Tryz.underlying57 ap3 (by decide) rfl rfl aj.pins bm c7.src (aj.size) (fun c8 ge bn da db gf => ?_)))
     have m := aj.write da db ((yB bm))
     have gg : ((([]) ++ ((xs.take j).drop 0)) ++ ([n])).length = (([]) ++ ((xs.take j).drop 0)).length + 1 := List.length_append
     refine ⟨fun _ => m.pins, ?_⟩
     refine dO (i := 11) (zT (i := 11) rfl rfl rfl (zD rfl _) (oA (E := eInt) (v := c8) (u := a1) 8 Tryz.underlying57 ap3 (by decide) rfl rfl m.pins bn ((a2.mono (Pin.le_refl _)).src m.pins (by decide)) (m.size) (fun bo gh dc dd de gi => ?_)))
     have a3 := m.write dd de ((yB bn))
     have gj : (((([]) ++ ((xs.take j).drop 0)) ++ ([n])) ++ ((xs.take xs.length).drop j)).length = ((([]) ++ ((xs.take j).drop 0)) ++ ([n])).length + ((xs.take xs.length).drop j).length := List.length_append
     refine ⟨fun _ => a3.pins, ?_⟩
     refine dM 12 bo a3.pins ?_
     refine yT (by kernel_rfl) ?_
     exact xR ⟨_, bo, G, (pU 4), a3, (Pin.le_refl _), dc⟩
    ·skip
     refine (zT (i := 6) rfl rfl rfl (zD rfl _) (yU (E := eInt) (e := 3) [(vJ n)] [n] Tryz.underlying57 sz3 zr3 (by exact xQ (by rfl)) (yC (by rfl)) rfl rfl rfl rfl (by decide) f.pins (fun a4 df dg dh bp di => ?_)))
     have o := f.step dh bp
     have bq := ah.below bp
     have dj : Apart a4.ownBlock ag.ownBlock := zI di ah.lt
     have dk : Own eInt 3 G df w.heap.size a4 ([n]) := dg.weaken f.size
     refine ⟨fun _ => o.pins, ?_⟩
     refine dO (i := 4) (zT (i := 4) rfl rfl rfl (zD rfl _) (oA (E := eInt) (v := ag) (u := az) 8 Tryz.underlying57 ap3 (by decide) rfl rfl o.pins bq ((a0.mono (Pin.le_refl _)).src o.pins (by decide)) (o.size) (fun dl gk br dm bs gl => ?_)))
     have ak := o.write dm bs ((yB bq))
     have dn := dk.keptA bs dj
     have gm : (([]) ++ ((xs.take j).drop 0)).length = ([]).length + ((xs.take j).drop 0).length := List.length_append
     refine ⟨fun _ => ak.pins, ?_⟩
     refine dO (i := 7) (zT (i := 7) rfl rfl rfl (zD rfl _) (oA (E := eInt) (v := dl) (u := a4) 8 Tryz.underlying57 ap3 (by decide) rfl rfl ak.pins br dn.src (ak.size) (fun dp gn bt dq dr gp => ?_)))
     have q := ak.write dq dr ((yB br))
     have gq : ((([]) ++ ((xs.take j).drop 0)) ++ ([n])).length = (([]) ++ ((xs.take j).drop 0)).length + 1 := List.length_append
     refine ⟨fun _ => q.pins, ?_⟩
     refine dO (i := 11) (zT (i := 11) rfl rfl rfl (zD rfl _) (oA (E := eInt) (v := dp) (u := a1) 8 Tryz.underlying57 ap3 (by decide) rfl rfl q.pins bt ((a2.mono (Pin.le_refl _)).src q.pins (by decide)) (q.size) (fun bu gr ds dt du gs => ?_)))
     have a5 := q.write dt du ((yB bt))
     have gt : (((([]) ++ ((xs.take j).drop 0)) ++ ([n])) ++ ((xs.take xs.length).drop j)).length = ((([]) ++ ((xs.take j).drop 0)) ++ ([n])).length + ((xs.take xs.length).drop j).length := List.length_append
     refine ⟨fun _ => a5.pins, ?_⟩
     refine dM 12 bu a5.pins ?_
     refine yT (by kernel_rfl) ?_
     exact xR ⟨_, bu, G, (pU 4), a5, (Pin.le_refl _), ds⟩
   ·skip
    refine (zT (i := 6) rfl rfl rfl (zD rfl _) (yU (E := eInt) (e := 3) [(vJ n)] [n] Tryz.underlying57 sz3 zr3 (by exact xQ (by rfl)) (yC (by rfl)) rfl rfl rfl rfl (by decide) a.pins (fun a6 dv dw dx dy gu => ?_)))
    have al := a.step dx dy
    have bv : Own eInt 3 G dv w.heap.size a6 ([n]) := dw.weaken a.size
    refine ⟨fun _ => al.pins, ?_⟩
    refine dO (i := 0) (zT (i := 0) rfl rfl rfl (zD rfl _) (yZ (E := eInt) (e := 3) Tryz.underlying57 sz3 al.pins (fun a7 dz d0 d1 bw d2 => ?_)))
    have s := al.step d1 bw
    have d3 := bv.below bw
    have d4 : Apart a7.ownBlock a6.ownBlock := zI d2 bv.lt
    have bx : Own eInt 3 G dz w.heap.size a7 ([]) := d0.weaken al.size
    refine ⟨fun _ => s.pins, ?_⟩
    refine dO (i := 4) (zT (i := 4) rfl rfl rfl (zD rfl _) (oA (E := eInt) (v := a7) (u := az) 8 Tryz.underlying57 ap3 (by decide) rfl rfl s.pins bx ((a0.mono (Pin.le_refl _)).src s.pins (by decide)) (s.size) (fun d5 gv bz d6 b0 gw => ?_)))
    have am := s.write d6 b0 ((yB bx))
    have d7 := d3.keptA b0 d4.symm
    have gx : (([]) ++ ((xs.take j).drop 0)).length = ([]).length + ((xs.take j).drop 0).length := List.length_append
    refine ⟨fun _ => am.pins, ?_⟩
    refine dO (i := 7) (zT (i := 7) rfl rfl rfl (zD rfl _) (oA (E := eInt) (v := d5) (u := a6) 8 Tryz.underlying57 ap3 (by decide) rfl rfl am.pins bz d7.src (am.size) (fun d8 gy b1 d9 ea gz => ?_)))
    have x := am.write d9 ea ((yB bz))
    have g0 : ((([]) ++ ((xs.take j).drop 0)) ++ ([n])).length = (([]) ++ ((xs.take j).drop 0)).length + 1 := List.length_append
    refine ⟨fun _ => x.pins, ?_⟩
    refine dO (i := 11) (zT (i := 11) rfl rfl rfl (zD rfl _) (oA (E := eInt) (v := d8) (u := a1) 8 Tryz.underlying57 ap3 (by decide) rfl rfl x.pins b1 ((a2.mono (Pin.le_refl _)).src x.pins (by decide)) (x.size) (fun b2 g1 eb ec ed g2 => ?_)))
    have a8 := x.write ec ed ((yB b1))
    have g3 : (((([]) ++ ((xs.take j).drop 0)) ++ ([n])) ++ ((xs.take xs.length).drop j)).length = ((([]) ++ ((xs.take j).drop 0)) ++ ([n])).length + ((xs.take xs.length).drop j).length := List.length_append
    refine ⟨fun _ => a8.pins, ?_⟩
    refine dM 12 b2 a8.pins ?_
    refine yT (by kernel_rfl) ?_
    exact xR ⟨_, b2, G, (pU 4), a8, (Pin.le_refl _), eb⟩
 refine qW ?_
 refine qW ?_
 refine qW ?_
 refine qW ?_
 refine qW ?_
 refine qW ?_
 refine qD rfl (xA (v := (.bool false)) rfl rfl) ?_
 refine qe (zA ?_)
 refine c_ifF rfl rfl ?_
 refine wp_exit ?_
 refine yA ?_
 refine yN ?_
 refine yL ?_
 refine zA (zB (zB (zC ?_)))
 refine qM (vJ (j : Int)) ?_
 refine qM v ?_
 refine qD rfl (zN Tryz.underlying57 (v := v) rfl hv) ?_
 refine qD rfl (yV rfl rfl) ?_
 refine qM (.bool (decide (((j : Int) : Int) < (xs.length : Int)))) ?_
 refine qbd (p := ((j : Int) : Int) < (xs.length : Int)) (t := 24) rfl (fun h => absurd h h5) (fun _ => ?_)
 refine qW ?_
 refine qW ?_
 refine qW ?_
 refine qW ?_
 refine qW ?_
 refine qW ?_
 refine qD rfl (xA (v := (.bool false)) rfl rfl) ?_
 refine qe (zA ?_)
 refine c_ifF rfl rfl ?_
 refine wp_skip ?_
 refine zA (zB ?_)
 refine c_cut (fun (en : Nat → Value) (W : World) => ∃ (c : Nat → Value) (an : Value) (ao : Pin), en = (upd c 4 an) ∧ Ext noS G w ao W ∧ Pin.le G ao ∧ (Own eInt 3 ao W w.heap.size an (((([]) ++ ((xs.take j).drop 0)) ++ ([n])) ++ ((xs.take xs.length).drop j)))) ?_ ?_
 ·rintro _ g4 ⟨c, an, ao, rfl, ee, g5, ef⟩
  refine zA ?_
  refine wp_ret ?_
  refine zR ?_
  refine zQ (v := an) rfl rfl rfl ?_
  obtain ⟨g6, g7, eg, eh, g8⟩ := ef.sealed ee
  exact ⟨_, _, rfl, (by rw [← put_new (fun h => ⟨by omega, by omega⟩) hr]; exact eh), eg⟩
 ·skip
  refine xG (S := fun wz => Pins G wz) (last := 13) (by kernel_rfl) rfl ?_
  have b3 : Below l.heap.size l l.drew := (Below.refl _ _).drew
  have ei := d.pins.below b3
  have b := d.step ei b3
  refine dM 1 v b.pins ?_
  refine dM 2 (vJ (j : Int)) b.pins ?_
  obtain ⟨a9, ba, ej⟩ := qQ hv (lo := none) (hi := (some ((j : Int)))) (0) (j) (Or.inl ⟨rfl, rfl⟩) (Or.inr ⟨_, rfl, (by omega), rfl⟩) (by omega) (by omega)
  refine dT (i := 3) rfl rfl (by kernel_rfl) (fun _ _ => ej Tryz.underlying57 sz3 rfl rfl rfl) b.pins ?_
  refine dM 5 (vJ n) b.pins ?_
  refine dM 8 v b.pins ?_
  refine dM 9 (vJ (j : Int)) b.pins ?_
  obtain ⟨bb, bc, ek⟩ := qQ hv (lo := (some ((j : Int)))) (hi := none) (j) (xs.length) (Or.inr ⟨_, rfl, (by omega), rfl⟩) (Or.inl ⟨rfl, rfl⟩) (by omega) (by omega)
  refine dT (i := 10) rfl rfl (by kernel_rfl) (fun _ _ => ek Tryz.underlying57 sz3 rfl rfl rfl) b.pins ?_
  refine qK (i := 0) (j := 6) (by kernel_rfl) ?_ ?_
  ·skip
   refine (zT (i := 0) rfl rfl rfl (zD rfl _) (yZ (E := eInt) (e := 3) Tryz.underlying57 sz3 b.pins (fun ap el em eo ep g9 => ?_)))
   have g := b.step eo ep
   have aq : Own eInt 3 G el w.heap.size ap ([]) := em.weaken b.size
   refine ⟨fun _ => g.pins, ?_⟩
   refine qK (i := 4) (j := 6) (by kernel_rfl) ?_ ?_
   ·skip
    refine (zT (i := 4) rfl rfl rfl (zD rfl _) (oA (E := eInt) (v := ap) (u := a9) 8 Tryz.underlying57 ap3 (by decide) rfl rfl g.pins aq ((ba.mono (Pin.le_refl _)).src g.pins (by decide)) (g.size) (fun eq ha er es et hb => ?_)))
    have ar := g.write es et ((yB aq))
    have hc : (([]) ++ ((xs.take j).drop 0)).length = ([]).length + ((xs.take j).drop 0).length := List.length_append
    refine ⟨fun _ => ar.pins, ?_⟩
    refine dO (i := 6) (zT (i := 6) rfl rfl rfl (zD rfl _) (yU (E := eInt) (e := 3) [(vJ n)] [n] Tryz.underlying57 sz3 zr3 (by exact xQ (by rfl)) (yC (by rfl)) rfl rfl rfl rfl (by decide) ar.pins (fun b4 eu ev ew b5 hd => ?_)))
    have au := ar.step ew b5
    have b6 := er.below b5
    have ex : Own eInt 3 G eu w.heap.size b4 ([n]) := ev.weaken ar.size
    refine ⟨fun _ => au.pins, ?_⟩
    refine dO (i := 7) (zT (i := 7) rfl rfl rfl (zD rfl _) (oA (E := eInt) (v := eq) (u := b4) 8 Tryz.underlying57 ap3 (by decide) rfl rfl au.pins b6 ex.src (au.size) (fun ey he b7 ez e0 hf => ?_)))
    have y := au.write ez e0 ((yB b6))
    have hg : ((([]) ++ ((xs.take j).drop 0)) ++ ([n])).length = (([]) ++ ((xs.take j).drop 0)).length + 1 := List.length_append
    refine ⟨fun _ => y.pins, ?_⟩
    refine dO (i := 11) (zT (i := 11) rfl rfl rfl (zD rfl _) (oA (E := eInt) (v := ey) (u := bb) 8 Tryz.underlying57 ap3 (by decide) rfl rfl y.pins b7 ((bc.mono (Pin.le_refl _)).src y.pins (by decide)) (y.size) (fun b8 hh e1 e2 e3 hk => ?_)))
    have bd := y.write e2 e3 ((yB b7))
    have hl : (((([]) ++ ((xs.take j).drop 0)) ++ ([n])) ++ ((xs.take xs.length).drop j)).length = ((([]) ++ ((xs.take j).drop 0)) ++ ([n])).length + ((xs.take xs.length).drop j).length := List.length_append
    refine ⟨fun _ => bd.pins, ?_⟩
    refine dM 12 b8 bd.pins ?_
    refine yT (by kernel_rfl) ?_
    exact xR ⟨_, b8, G, (pU 4), bd, (Pin.le_refl _), e1⟩
   ·skip
    refine (zT (i := 6) rfl rfl rfl (zD rfl _) (yU (E := eInt) (e := 3) [(vJ n)] [n] Tryz.underlying57 sz3 zr3 (by exact xQ (by rfl)) (yC (by rfl)) rfl rfl rfl rfl (by decide) g.pins (fun be e4 e5 e6 b9 e7 => ?_)))
    have aa := g.step e6 b9
    have ca := aq.below b9
    have e8 : Apart be.ownBlock ap.ownBlock := zI e7 aq.lt
    have e9 : Own eInt 3 G e4 w.heap.size be ([n]) := e5.weaken g.size
    refine ⟨fun _ => aa.pins, ?_⟩
    refine dO (i := 4) (zT (i := 4) rfl rfl rfl (zD rfl _) (oA (E := eInt) (v := ap) (u := a9) 8 Tryz.underlying57 ap3 (by decide) rfl rfl aa.pins ca ((ba.mono (Pin.le_refl _)).src aa.pins (by decide)) (aa.size) (fun fa hm cb fb cc hn => ?_)))
    have av := aa.write fb cc ((yB ca))
    have fc := e9.keptA cc e8
    have ho : (([]) ++ ((xs.take j).drop 0)).length = ([]).length + ((xs.take j).drop 0).length := List.length_append
    refine ⟨fun _ => av.pins, ?_⟩
    refine dO (i := 7) (zT (i := 7) rfl rfl rfl (zD rfl _) (oA (E := eInt) (v := fa) (u := be) 8 Tryz.underlying57 ap3 (by decide) rfl rfl av.pins cb fc.src (av.size) (fun fd hp cd fe ff hq => ?_)))
    have ab := av.write fe ff ((yB cb))
    have ht : ((([]) ++ ((xs.take j).drop 0)) ++ ([n])).length = (([]) ++ ((xs.take j).drop 0)).length + 1 := List.length_append
    refine ⟨fun _ => ab.pins, ?_⟩
    refine dO (i := 11) (zT (i := 11) rfl rfl rfl (zD rfl _) (oA (E := eInt) (v := fd) (u := bb) 8 Tryz.underlying57 ap3 (by decide) rfl rfl ab.pins cd ((bc.mono (Pin.le_refl _)).src ab.pins (by decide)) (ab.size) (fun ce hu fg fh fi hw => ?_)))
    have bf := ab.write fh fi ((yB cd))
    have hx : (((([]) ++ ((xs.take j).drop 0)) ++ ([n])) ++ ((xs.take xs.length).drop j)).length = ((([]) ++ ((xs.take j).drop 0)) ++ ([n])).length + ((xs.take xs.length).drop j).length := List.length_append
    refine ⟨fun _ => bf.pins, ?_⟩
    refine dM 12 ce bf.pins ?_
    refine yT (by kernel_rfl) ?_
    exact xR ⟨_, ce, G, (pU 4), bf, (Pin.le_refl _), fg⟩
  ·skip
   refine (zT (i := 6) rfl rfl rfl (zD rfl _) (yU (E := eInt) (e := 3) [(vJ n)] [n] Tryz.underlying57 sz3 zr3 (by exact xQ (by rfl)) (yC (by rfl)) rfl rfl rfl rfl (by decide) b.pins (fun bg fj fk fl fm hy => ?_)))
   have aw := b.step fl fm
   have cf : Own eInt 3 G fj w.heap.size bg ([n]) := fk.weaken b.size
   refine ⟨fun _ => aw.pins, ?_⟩
   refine dO (i := 0) (zT (i := 0) rfl rfl rfl (zD rfl _) (yZ (E := eInt) (e := 3) Tryz.underlying57 sz3 aw.pins (fun bh fn fo fp cg fq => ?_)))
   have ac := aw.step fp cg
   have fr := cf.below cg
   have fs : Apart bh.ownBlock bg.ownBlock := zI fq cf.lt
   have ch : Own eInt 3 G fn w.heap.size bh ([]) := fo.weaken aw.size
   refine ⟨fun _ => ac.pins, ?_⟩
   refine dO (i := 4) (zT (i := 4) rfl rfl rfl (zD rfl _) (oA (E := eInt) (v := bh) (u := a9) 8 Tryz.underlying57 ap3 (by decide) rfl rfl ac.pins ch ((ba.mono (Pin.le_refl _)).src ac.pins (by decide)) (ac.size) (fun ft hz ci fu cj h0 => ?_)))
   have ax := ac.write fu cj ((yB ch))
   have fv := fr.keptA cj fs.symm
   have h1 : (([]) ++ ((xs.take j).drop 0)).length = ([]).length + ((xs.take j).drop 0).length := List.length_append
   refine ⟨fun _ => ax.pins, ?_⟩
   refine dO (i := 7) (zT (i := 7) rfl rfl rfl (zD rfl _) (oA (E := eInt) (v := ft) (u := bg) 8 Tryz.underlying57 ap3 (by decide) rfl rfl ax.pins ci fv.src (ax.size) (fun fw h2 ck fx fy h3 => ?_)))
   have ad := ax.write fx fy ((yB ci))
   have h4 : ((([]) ++ ((xs.take j).drop 0)) ++ ([n])).length = (([]) ++ ((xs.take j).drop 0)).length + 1 := List.length_append
   refine ⟨fun _ => ad.pins, ?_⟩
   refine dO (i := 11) (zT (i := 11) rfl rfl rfl (zD rfl _) (oA (E := eInt) (v := fw) (u := bb) 8 Tryz.underlying57 ap3 (by decide) rfl rfl ad.pins ck ((bc.mono (Pin.le_refl _)).src ad.pins (by decide)) (ad.size) (fun cl h7 fz f0 f1 h9 => ?_)))
   have bi := ad.write f0 f1 ((yB ck))
   have ia : (((([]) ++ ((xs.take j).drop 0)) ++ ([n])) ++ ((xs.take xs.length).drop j)).length = ((([]) ++ ((xs.take j).drop 0)) ++ ([n])).length + ((xs.take xs.length).drop j).length := List.length_append
   refine ⟨fun _ => bi.pins, ?_⟩
   refine dM 12 cl bi.pins ?_
   refine yT (by kernel_rfl) ?_
   exact xR ⟨_, cl, G, (pU 4), bi, (Pin.le_refl _), fz⟩

theorem l1Same_spec {w : World} {G : Pin} {u v : Value} {xs ys : List Int} (hP : Pins G w) (hu : RSl eInt G u xs) (hv : RSl eInt G v ys) :
  Calls Tryz.prog 126 [u, v].toArray w fun e w' => e = .returned (.bool (decide (xs = ys))) ∧ Ext noS G w G w' := by
 refine yD (n := 26) Tryz.func126 Tryz.ntmps126 rfl rfl ?_
 have f : Ext noS G w G w := Ext.refl hP
 have hm := hu.max
 refine zB (zC ?_)
 refine qM (.bool false) ?_
 refine qe (zA (zB (zB (zC ?_))))
 refine qM u ?_
 refine qD rfl (zN Tryz.underlying57 (v := u) rfl hu) ?_
 refine qM v ?_
 refine qD rfl (zN Tryz.underlying57 (v := v) rfl hv) ?_
 refine qD rfl (r_neq rfl rfl) ?_
 refine qe (zA ?_)
 refine yI (p := ((xs.length : Int) : Int) ≠ (ys.length : Int)) rfl rfl (fun g => ?_) (fun g => ?_)
 ·skip
  refine zB (zC ?_)
  refine qM (.bool false) ?_
  refine qe (zA ?_)
  refine wp_ret ?_
  refine zR ?_
  refine zQ (v := (.bool false)) rfl rfl rfl ?_
  exact ⟨congrArg (fun z => Ending.returned (Value.bool z)) (decide_eq_false (fun e => g (by rw [e]))).symm, f⟩
 refine wp_skip ?_
 refine zA (zB (zB (zC ?_)))
 refine qM (vJ 0) ?_
 refine qe (zA ?_)
 refine zX ?_
 refine yQ (fun (k : Nat) (en : Nat → Value) (W : World) => ∃ (h : Nat → Value) (j : Nat), en = (upd (upd (upd h 0 u) 1 v) 5 (vJ (j : Int))) ∧ k = xs.length - j ∧ Ext noS G w G W ∧ (j ≤ xs.length) ∧ (xs.length = ys.length) ∧ (∀ i, i < j → xs.getD i 0 = ys.getD i 0)) _ ⟨_, 0, (pS 5 (pS 1 (pU 0))), rfl, f, Nat.zero_le _, (by omega), (fun i hi => absurd hi (Nat.not_lt_zero i))⟩ ?_
 rintro q _ b ⟨h, j, rfl, s, c, hj, heq, hp⟩
 refine zB (zB (zC ?_))
 refine qM (vJ (j : Int)) ?_
 refine qM u ?_
 refine qD rfl (zN Tryz.underlying57 (v := u) rfl hu) ?_
 refine qD rfl (yV rfl rfl) ?_
 refine qe (zA ?_)
 refine yI (p := ((j : Int) : Int) < (xs.length : Int)) rfl rfl (fun m => ?_) (fun m => ?_)
 ·skip
  refine wp_skip ?_
  refine zA (zB ?_)
  refine zX ?_
  refine zB ?_
  refine xG (S := fun wz => Pins G wz) (last := 9) (by kernel_rfl) rfl ?_
  have l : Below b.heap.size b b.drew := (Below.refl _ _).drew
  have o := c.pins.below l
  have a := c.step o l
  refine dM 0 u a.pins ?_
  refine dM 1 (vJ (j : Int)) a.pins ?_
  refine dT (i := 2) rfl rfl (by kernel_rfl) (fun _ _ => zJ Tryz.underlying57 sz3 (v := u) rfl rfl hu (by omega) (by omega)) a.pins ?_
  refine dT (i := 3) rfl rfl (by kernel_rfl) (fun _ hS => zK (r := xs.getD j 0) rfl ag3 (z := (j : Int)) rfl hu hS (by omega) (by omega)) a.pins ?_
  refine dM 4 v a.pins ?_
  refine dM 5 (vJ (j : Int)) a.pins ?_
  refine dT (i := 6) rfl rfl (by kernel_rfl) (fun _ _ => zJ Tryz.underlying57 sz3 (v := v) rfl rfl hv (by omega) (by omega)) a.pins ?_
  refine dT (i := 7) rfl rfl (by kernel_rfl) (fun _ hS => zK (r := ys.getD j 0) rfl ag3 (z := (j : Int)) rfl hv hS (by omega) (by omega)) a.pins ?_
  refine dT (i := 8) rfl rfl (by kernel_rfl) (fun _ _ => r_neq rfl rfl) a.pins ?_
  refine yT (by kernel_rfl) ?_
  refine zA ?_
  refine yI (p := (xs.getD j 0 : Int) ≠ (ys.getD j 0)) rfl rfl (fun d => ?_) (fun d => ?_)
  ·skip
   refine zB (zC ?_)
   refine qM (.bool false) ?_
   refine qe (zA ?_)
   refine wp_ret ?_
   refine zR ?_
   refine zQ (v := (.bool false)) rfl rfl rfl ?_
   exact ⟨congrArg (fun z => Ending.returned (Value.bool z)) (decide_eq_false (fun e => d (by rw [e]))).symm, a⟩
  refine wp_skip ?_
  refine yJ ?_
  refine zA (zC ?_)
  refine qM (vJ (j : Int)) ?_
  refine qD rfl (yR rfl rfl (by omega)) ?_
  refine qM (vJ ((j : Int) + 1)) ?_
  refine qe ?_
  refine yK ?_
  refine ⟨_, ?_, _, rfl, _, j + 1, (pS 5 (pS 1 (pU 0))), rfl, a, (by omega), heq, (eqstep hp d)⟩
  omega
 refine wp_exit ?_
 refine yA ?_
 refine yN ?_
 refine yL ?_
 refine zA (zB (zC ?_))
 refine qM (.bool true) ?_
 refine qe (zA ?_)
 refine wp_ret ?_
 refine zR ?_
 refine zQ (v := (.bool true)) rfl rfl rfl ?_
 exact ⟨congrArg (fun z => Ending.returned (Value.bool z)) (decide_eq_true (eqdone heq (by omega) hp)).symm, c⟩

theorem jA {w : World} {G Gr : Pin} {u v : Value} {a xs : List Int} (hP : Pins G w) (hPr : Pins Gr w) (hu : RSl eInt Gr u a) (hv : RSl eInt G v xs) (hs : xs.length ≤ 1048576) (hk : ∀ i, i < xs.length → 0 ≤ xs.getD i 0 ∧ xs.getD i 0 < a.length) :
  Calls Tryz.prog 137 [u, v].toArray w fun e w' => ∃ (u : Value) (G' : Pin), e = .returned u ∧ Own eInt 3 G' w' w.heap.size u (atL a xs) ∧ Ext noS G w G' w' := by
 refine yD (n := 25) Tryz.func137 Tryz.ntmps137 rfl rfl ?_
 have c : Ext noS G w G w := Ext.refl hP
 refine zB (zC ?_)
 refine qM (.slice none 0 0) ?_
 refine qe (zA (zB (zC ?_)))
 refine qI rfl (yZ (E := eInt) (e := 3) Tryz.underlying57 sz3 c.pins (fun d t x y aa am => ?_))
 have ab := c.step y aa
 have ac : Own eInt 3 G t w.heap.size d ([]) := x.weaken c.size
 refine qM d ?_
 refine qe (zA (zB (zB (zC ?_))))
 refine qM (vJ 0) ?_
 refine qe (zA ?_)
 refine zX ?_
 refine yQ (fun (k : Nat) (en : Nat → Value) (W : World) => ∃ (g : Nat → Value) (j : Nat) (o : Value) (os : List Int), en = (upd (upd (upd (upd (upd g 0 u) 1 v) 4 (.slice none 0 0)) 5 o) 6 (vJ (j : Int))) ∧ k = xs.length - j ∧ Ext noS G w G W ∧ (j ≤ xs.length) ∧ (os = atL a (xs.take j)) ∧ (os.length = j) ∧ (Own eInt 3 G W w.heap.size o (os))) _ ⟨_, 0, d, [], (pS 6 (pS 5 (pS 4 (pS 1 (pU 0))))), rfl, ab, Nat.zero_le _, rfl, rfl, ac⟩ ?_
 rintro k9 _ ao ⟨g, j, o, os, rfl, ap, b, hj, hr, hol, h⟩
 refine zB (zB (zC ?_))
 refine qM (vJ (j : Int)) ?_
 refine qM v ?_
 refine qD rfl (zN Tryz.underlying57 (v := v) rfl hv) ?_
 refine qD rfl (yV rfl rfl) ?_
 refine qe (zA ?_)
 refine yI (p := ((j : Int) : Int) < (xs.length : Int)) rfl rfl (fun ad => ?_) (fun ad => ?_)
 ·skip
  have hkj := hk j (by omega)
  refine wp_skip ?_
  refine zA (zB ?_)
  refine zX ?_
  refine zC ?_
  refine qM o ?_
  refine qM u ?_
  refine qM v ?_
  refine qM (vJ (j : Int)) ?_
  refine qD rfl (zJ Tryz.underlying57 sz3 (v := v) rfl rfl hv (by omega) (by omega)) ?_
  refine qD rfl (zK (r := xs.getD j 0) rfl ag3 (z := (j : Int)) rfl hv b.pins (by omega) (by omega)) ?_
  refine qD rfl (zJ Tryz.underlying57 sz3 (v := u) rfl rfl hu (by omega) (by omega)) ?_
  refine qD rfl (zK (r := a.getD (xs.getD j 0).toNat 0) rfl ag3 (z := (xs.getD j 0)) rfl hu (hPr.ext0 b) (by omega) (by omega)) ?_
  refine qI rfl (yU (E := eInt) (e := 3) [(vJ (a.getD (xs.getD j 0).toNat 0))] [a.getD (xs.getD j 0).toNat 0] Tryz.underlying57 sz3 zr3 (by exact xQ (by rfl)) (yC (by rfl)) rfl rfl rfl rfl (by decide) b.pins (fun l ae af ag m aq => ?_))
  have f := b.step ag m
  have q := h.below m
  have ah : Own eInt 3 G ae w.heap.size l ([a.getD (xs.getD j 0).toNat 0]) := af.weaken b.size
  refine qI rfl (oA (E := eInt) (v := o) (u := l) 8 Tryz.underlying57 ap3 (by decide) rfl rfl f.pins q ah.src (f.size) (fun s ar ai aj ak au => ?_))
  have al := f.write aj ak ((yB q))
  have av : (os ++ ([a.getD (xs.getD j 0).toNat 0])).length = os.length + 1 := List.length_append
  refine qM s ?_
  refine qe ?_
  refine yJ ?_
  refine zA (zC ?_)
  refine qM (vJ (j : Int)) ?_
  refine qD rfl (yR rfl rfl (by omega)) ?_
  refine qM (vJ ((j : Int) + 1)) ?_
  refine qe ?_
  refine yK ?_
  refine ⟨_, ?_, _, rfl, _, j + 1, s, os ++ [a.getD (xs.getD j 0).toNat 0], (pS 6 (pS 5 (pS 4 (pS 1 (pU 0))))), rfl, al, (by omega), (by rw [hr, at_next (by omega)]), (by rw [List.length_append, hol]; rfl), ai⟩
  omega
 refine wp_exit ?_
 refine yA ?_
 refine yN ?_
 refine yL ?_
 refine zA (zB (zC ?_))
 refine qM o ?_
 refine qM o ?_
 refine qe (zA ?_)
 refine wp_ret ?_
 refine zR ?_
 refine zQ (v := o) rfl rfl rfl ?_
 exact ⟨_, _, rfl, (by rw [qF (by omega)] at hr; rw [← hr]; exact h), b⟩

theorem xW {w : World} {G : Pin} {v : Value} {xs : List Int} (hP : Pins G w) (hv : RSl eInt G v xs) (hs : xs.length ≤ 1048576) :
  Calls Tryz.prog 145 [v].toArray w fun e w' => ∃ (u : Value) (G' : Pin), e = .returned u ∧ RSl eInt G' u (sortL xs) ∧ Ext noS G w G' w' := by
 refine yD (n := 19) Tryz.func145 Tryz.ntmps145 rfl rfl ?_
 have c : Ext noS G w G w := Ext.refl hP
 refine zB (zC ?_)
 refine qM (.slice none 0 0) ?_
 refine qe (zA (zB (zC ?_)))
 refine qI rfl (yZ (E := eInt) (e := 3) Tryz.underlying57 sz3 c.pins (fun d q s t x ai => ?_))
 have y := c.step t x
 have aa : Own eInt 3 G q w.heap.size d ([]) := s.weaken c.size
 refine qM d ?_
 refine qe (zA (zB (zB (zC ?_))))
 refine qM (vJ 0) ?_
 refine qe (zA ?_)
 refine zX ?_
 obtain ⟨f, ab, ac, ad, aj⟩ := aa.sealed y
 refine yQ (fun (k : Nat) (en : Nat → Value) (W : World) => ∃ (g : Nat → Value) (j : Nat) (o : Value) (os : List Int) (a : Pin), en = (upd (upd (upd (upd g 0 v) 2 (.slice none 0 0)) 3 o) 4 (vJ (j : Int))) ∧ k = xs.length - j ∧ Ext noS G w a W ∧ Pin.le f a ∧ (j ≤ xs.length) ∧ (os = sortL (xs.take j)) ∧ (os.length ≤ j) ∧ (RSl eInt a o (os))) _ ⟨_, 0, d, [], f, (pS 4 (pS 3 (pS 2 (pU 0)))), rfl, ac, Pin.le_refl _, Nat.zero_le _, rfl, Nat.le_refl 0, ad⟩ ?_
 rintro k9 _ al ⟨g, j, o, os, a, rfl, am, b, h, hj, hr, hol, i⟩
 refine zB (zB (zC ?_))
 refine qM (vJ (j : Int)) ?_
 refine qM v ?_
 refine qD rfl (zN Tryz.underlying57 (v := v) rfl hv) ?_
 refine qD rfl (yV rfl rfl) ?_
 refine qe (zA ?_)
 refine yI (p := ((j : Int) : Int) < (xs.length : Int)) rfl rfl (fun ae => ?_) (fun ae => ?_)
 ·skip
  refine wp_skip ?_
  refine zA (zB ?_)
  refine zX ?_
  refine zC ?_
  refine qM o ?_
  refine qM v ?_
  refine qM (vJ (j : Int)) ?_
  refine qD rfl (zJ Tryz.underlying57 sz3 (v := v) rfl rfl hv (by omega) (by omega)) ?_
  refine qD rfl (zK (r := xs.getD j 0) rfl ag3 (z := (j : Int)) rfl hv (Pins.of_le b.pins (Pin.le_trans ab h)) (by omega) (by omega)) ?_
  refine qI rfl (zM (vs := [o, (vJ (xs.getD j 0))]) Tryz.func152 nm152 rfl rfl rfl ?_)
  refine Calls.mono (l1Put_spec b.pins i (by omega)) ?_
  rintro _ an ⟨l, af, rfl, ag, m⟩
  refine ⟨_, rfl, ?_⟩
  have ah := b.tr m
  refine qM l ?_
  refine qe ?_
  refine yJ ?_
  refine zA (zC ?_)
  refine qM (vJ (j : Int)) ?_
  refine qD rfl (yR rfl rfl (by omega)) ?_
  refine qM (vJ ((j : Int) + 1)) ?_
  refine qe ?_
  refine yK ?_
  refine ⟨_, ?_, _, rfl, _, j + 1, l, putL os (xs.getD j 0), af, (pS 4 (pS 3 (pS 2 (pU 0)))), rfl, ah, (Pin.le_trans h m.le), (by omega), (by rw [hr, sort_next (by omega)]), (Nat.le_trans putL_length (by omega)), ag⟩
  omega
 refine wp_exit ?_
 refine yA ?_
 refine yN ?_
 refine yL ?_
 refine zA (zB (zC ?_))
 refine qM o ?_
 refine qM o ?_
 refine qe (zA ?_)
 refine wp_ret ?_
 refine zR ?_
 refine zQ (v := o) rfl rfl rfl ?_
 exact ⟨_, _, rfl, (by rw [qF (by omega)] at hr; rw [← hr]; exact i), b⟩

end C1
end Go.Proofs.YtkfgdhanaijddaaGreatDoor

set_option maxRecDepth 20000
set_option maxHeartbeats 2000000
namespace Go.Proofs.YtkfgdhanaijddaaGreatDoor
namespace D1
open Go.RowKit Go.GL Go.Proofs
open Go.Proofs.YtkfgdhanaijddaaGreatDoor.C1











theorem pl68 : (Tryz.prog.underlying 68).bind (placesD Tryz.prog) = some [(0, 1), (1, 1)] := by kernel_rfl






theorem l3List_spec {w : World} {G : Pin} {u v : Value} {xs ys : List Int} (hP : Pins G w) (hu : RSl eInt G u xs) (hv : RSl eInt G v ys) :
  Calls Tryz.prog 166 [u, v].toArray w fun e w' => e = .returned (vJ (cmpL xs ys)) ∧ Ext noS G w G w' := by
 refine yD (n := 48) Tryz.func166 Tryz.ntmps166 rfl rfl ?_
 have m : Ext noS G w G w := Ext.refl hP
 have hm := hu.max
 refine zB (zC ?_)
 refine qM (vJ 0) ?_
 refine qe (zA (zB (zB (zC ?_))))
 refine qM (vJ 0) ?_
 refine qe (zA ?_)
 refine zX ?_
 refine yQ (fun (k : Nat) (en : Nat → Value) (W : World) => ∃ (g : Nat → Value) (j : Nat), en = (upd (upd (upd g 0 u) 1 v) 5 (vJ (j : Int))) ∧ k = xs.length - j ∧ Ext noS G w G W ∧ (j ≤ xs.length ∧ j ≤ ys.length) ∧ (cmpL xs ys = cmpL (xs.drop j) (ys.drop j))) _ ⟨_, 0, (pS 5 (pS 1 (pU 0))), rfl, m, ⟨Nat.zero_le _, Nat.zero_le _⟩, rfl⟩ ?_
 rintro k1 _ d ⟨g, j, rfl, af, c, hj, hr⟩
 refine zB (zB (zC ?_))
 refine qM (vJ (j : Int)) ?_
 refine qM u ?_
 refine qD rfl (zN Tryz.underlying57 (v := u) rfl hu) ?_
 refine qD rfl (yV rfl rfl) ?_
 refine qM (.bool (decide (((j : Int) : Int) < (xs.length : Int)))) ?_
 refine qbd (p := ((j : Int) : Int) < (xs.length : Int)) (t := 10) rfl (fun o => ?_) (fun o => ?_)
 ·skip
  refine qN (zU (v := (vJ (j : Int))) rfl) ?_
  refine qN (zU (v := v) rfl) ?_
  refine qN (zN Tryz.underlying57 (v := v) rfl hv) ?_
  refine qN (yV rfl rfl) ?_
  refine qD rfl (xE (v := (.bool (decide (((j : Int) : Int) < (ys.length : Int))))) rfl rfl) ?_
  refine qe (zA ?_)
  refine yI (p := ((j : Int) : Int) < (ys.length : Int)) rfl rfl (fun q => ?_) (fun q => ?_)
  ·skip
   refine wp_skip ?_
   refine zA (zB ?_)
   refine zX ?_
   refine zB ?_
   refine xG (S := fun wz => Pins G wz) (last := 9) (by kernel_rfl) rfl ?_
   have h : Below d.heap.size d d.drew := (Below.refl _ _).drew
   have s := c.pins.below h
   have a := c.step s h
   refine dM 0 u a.pins ?_
   refine dM 1 (vJ (j : Int)) a.pins ?_
   refine dT (i := 2) rfl rfl (by kernel_rfl) (fun _ _ => zJ Tryz.underlying57 sz3 (v := u) rfl rfl hu (by omega) (by omega)) a.pins ?_
   refine dT (i := 3) rfl rfl (by kernel_rfl) (fun _ hS => zK (r := xs.getD j 0) rfl ag3 (z := (j : Int)) rfl hu hS (by omega) (by omega)) a.pins ?_
   refine dM 4 v a.pins ?_
   refine dM 5 (vJ (j : Int)) a.pins ?_
   refine dT (i := 6) rfl rfl (by kernel_rfl) (fun _ _ => zJ Tryz.underlying57 sz3 (v := v) rfl rfl hv (by omega) (by omega)) a.pins ?_
   refine dT (i := 7) rfl rfl (by kernel_rfl) (fun _ hS => zK (r := ys.getD j 0) rfl ag3 (z := (j : Int)) rfl hv hS (by omega) (by omega)) a.pins ?_
   refine dT (i := 8) rfl rfl (by kernel_rfl) (fun _ _ => r_neq rfl rfl) a.pins ?_
   refine yT (by kernel_rfl) ?_
   refine zA ?_
   refine yI (p := (xs.getD j 0 : Int) ≠ (ys.getD j 0)) rfl rfl (fun x => ?_) (fun x => ?_)
   ·skip
    refine zB (zB ?_)
    refine xG (S := fun wz => Pins G wz) (last := 9) (by kernel_rfl) rfl ?_
    have l : Below d.drew.heap.size d.drew d.drew.drew := (Below.refl _ _).drew
    have y := a.pins.below l
    have b := a.step y l
    refine dM 0 u b.pins ?_
    refine dM 1 (vJ (j : Int)) b.pins ?_
    refine dT (i := 2) rfl rfl (by kernel_rfl) (fun _ _ => zJ Tryz.underlying57 sz3 (v := u) rfl rfl hu (by omega) (by omega)) b.pins ?_
    refine dT (i := 3) rfl rfl (by kernel_rfl) (fun _ hS => zK (r := xs.getD j 0) rfl ag3 (z := (j : Int)) rfl hu hS (by omega) (by omega)) b.pins ?_
    refine dM 4 v b.pins ?_
    refine dM 5 (vJ (j : Int)) b.pins ?_
    refine dT (i := 6) rfl rfl (by kernel_rfl) (fun _ _ => zJ Tryz.underlying57 sz3 (v := v) rfl rfl hv (by omega) (by omega)) b.pins ?_
    refine dT (i := 7) rfl rfl (by kernel_rfl) (fun _ hS => zK (r := ys.getD j 0) rfl ag3 (z := (j : Int)) rfl hv hS (by omega) (by omega)) b.pins ?_
    refine dT (i := 8) rfl rfl (by kernel_rfl) (fun _ _ => yV rfl rfl) b.pins ?_
    refine yT (by kernel_rfl) ?_
    refine zA ?_
    refine yI (p := (xs.getD j 0 : Int) < (ys.getD j 0)) rfl rfl (fun f => ?_) (fun f => ?_)
    ·skip
     refine zB (zC ?_)
     refine qM (vJ (-1)) ?_
     refine qe (zA ?_)
     refine wp_ret ?_
     refine zR ?_
     refine zQ (v := (vJ (-1))) rfl rfl rfl ?_
     exact ⟨congrArg (fun z => Ending.returned (Value.int .i64 z)) ((hr.trans ((cmpL_ne (by omega) (by omega) (by unfold cmpI; split <;> omega)).trans (by unfold cmpI; rw [if_pos f]))).symm), b⟩
    refine wp_skip ?_
    refine zA (zB (zC ?_))
    refine qM (vJ 1) ?_
    refine qe (zA ?_)
    refine wp_ret ?_
    refine zR ?_
    refine zQ (v := (vJ 1)) rfl rfl rfl ?_
    exact ⟨congrArg (fun z => Ending.returned (Value.int .i64 z)) ((hr.trans ((cmpL_ne (by omega) (by omega) (by unfold cmpI; split <;> omega)).trans (by unfold cmpI; rw [if_neg f, if_pos (by omega)]))).symm), b⟩
   refine wp_skip ?_
   refine yJ ?_
   refine zA (zC ?_)
   refine qM (vJ (j : Int)) ?_
   refine qD rfl (yR rfl rfl (by omega)) ?_
   refine qM (vJ ((j : Int) + 1)) ?_
   refine qe ?_
   refine yK ?_
   refine ⟨_, ?_, _, rfl, _, j + 1, (pS 5 (pS 1 (pU 0))), rfl, a, (by omega), (hr.trans (cmpL_eq (by omega) (by omega) (by unfold cmpI; rw [if_neg (by omega), if_neg (by omega)]; omega)))⟩
   omega
  refine wp_exit ?_
  refine yA ?_
  refine yN ?_
  refine yL ?_
  refine zA (zB ?_)
  refine zX ?_
  refine zB (zC ?_)
  refine qM u ?_
  refine qD rfl (zN Tryz.underlying57 (v := u) rfl hu) ?_
  refine qM v ?_
  refine qD rfl (zN Tryz.underlying57 (v := v) rfl hv) ?_
  refine qD rfl (yV rfl rfl) ?_
  refine qM (.bool (decide (((xs.length : Int) : Int) < (ys.length : Int)))) ?_
  refine qe (zA ?_)
  refine yI (p := ((xs.length : Int) : Int) < (ys.length : Int)) rfl rfl (fun aa => ?_) (fun aa => ?_)
  ·skip
   refine zB (zC ?_)
   refine qM (vJ (-1)) ?_
   refine qe (zA ?_)
   refine wp_ret ?_
   refine zR ?_
   refine zQ (v := (vJ (-1))) rfl rfl rfl ?_
   exact ⟨congrArg (fun z => Ending.returned (Value.int .i64 z)) ((hr.trans (cmpL_less (by omega) (by omega))).symm), c⟩
  refine zB (zC ?_)
  refine qM u ?_
  refine qD rfl (zN Tryz.underlying57 (v := u) rfl hu) ?_
  refine qM v ?_
  refine qD rfl (zN Tryz.underlying57 (v := v) rfl hv) ?_
  refine qD rfl (r_gtr rfl rfl) ?_
  refine qM (.bool (decide (((ys.length : Int) : Int) < (xs.length : Int)))) ?_
  refine qe (zA ?_)
  refine yI (p := ((ys.length : Int) : Int) < (xs.length : Int)) rfl rfl (fun ab => ?_) (fun ab => ?_)
  ·skip
   refine zB (zC ?_)
   refine qM (vJ 1) ?_
   refine qe (zA ?_)
   refine wp_ret ?_
   refine zR ?_
   refine zQ (v := (vJ 1)) rfl rfl rfl ?_
   exact ⟨congrArg (fun z => Ending.returned (Value.int .i64 z)) ((hr.trans (cmpL_more (by omega) (by omega))).symm), c⟩
  refine wp_skip ?_
  refine yJ ?_
  refine zA (zB (zC ?_))
  refine qM (vJ 0) ?_
  refine qe (zA ?_)
  refine wp_ret ?_
  refine zR ?_
  refine zQ (v := (vJ 0)) rfl rfl rfl ?_
  exact ⟨congrArg (fun z => Ending.returned (Value.int .i64 z)) ((hr.trans (cmpL_same (by omega) (by omega))).symm), c⟩
 refine qW ?_
 refine qW ?_
 refine qW ?_
 refine qW ?_
 refine qD rfl (xA (v := (.bool false)) rfl rfl) ?_
 refine qe (zA ?_)
 refine c_ifF rfl rfl ?_
 refine wp_exit ?_
 refine yA ?_
 refine yN ?_
 refine yL ?_
 refine zA (zB ?_)
 refine zX ?_
 refine zB (zC ?_)
 refine qM u ?_
 refine qD rfl (zN Tryz.underlying57 (v := u) rfl hu) ?_
 refine qM v ?_
 refine qD rfl (zN Tryz.underlying57 (v := v) rfl hv) ?_
 refine qD rfl (yV rfl rfl) ?_
 refine qM (.bool (decide (((xs.length : Int) : Int) < (ys.length : Int)))) ?_
 refine qe (zA ?_)
 refine yI (p := ((xs.length : Int) : Int) < (ys.length : Int)) rfl rfl (fun ac => ?_) (fun ac => ?_)
 ·skip
  refine zB (zC ?_)
  refine qM (vJ (-1)) ?_
  refine qe (zA ?_)
  refine wp_ret ?_
  refine zR ?_
  refine zQ (v := (vJ (-1))) rfl rfl rfl ?_
  exact ⟨congrArg (fun z => Ending.returned (Value.int .i64 z)) ((hr.trans (cmpL_less (by omega) (by omega))).symm), c⟩
 refine zB (zC ?_)
 refine qM u ?_
 refine qD rfl (zN Tryz.underlying57 (v := u) rfl hu) ?_
 refine qM v ?_
 refine qD rfl (zN Tryz.underlying57 (v := v) rfl hv) ?_
 refine qD rfl (r_gtr rfl rfl) ?_
 refine qM (.bool (decide (((ys.length : Int) : Int) < (xs.length : Int)))) ?_
 refine qe (zA ?_)
 refine yI (p := ((ys.length : Int) : Int) < (xs.length : Int)) rfl rfl (fun ad => ?_) (fun ad => ?_)
 ·skip
  refine zB (zC ?_)
  refine qM (vJ 1) ?_
  refine qe (zA ?_)
  refine wp_ret ?_
  refine zR ?_
  refine zQ (v := (vJ 1)) rfl rfl rfl ?_
  exact ⟨congrArg (fun z => Ending.returned (Value.int .i64 z)) ((hr.trans (cmpL_more (by omega) (by omega))).symm), c⟩
 refine wp_skip ?_
 refine yJ ?_
 refine zA (zB (zC ?_))
 refine qM (vJ 0) ?_
 refine qe (zA ?_)
 refine wp_ret ?_
 refine zR ?_
 refine zQ (v := (vJ 0)) rfl rfl rfl ?_
 exact ⟨congrArg (fun z => Ending.returned (Value.int .i64 z)) ((hr.trans (cmpL_same (by omega) (by omega))).symm), c⟩

theorem l3NodeAhead_spec {w : World} {G : Pin} {al ar bl br : Value} {a b : Nd} (hP : Pins G w) (hal : RSl eInt G al a.l) (har : RSl eInt G ar a.r) (hbl : RSl eInt G bl b.l) (hbr : RSl eInt G br b.r) :
  Calls Tryz.prog 146 [(.agg [al, ar].toArray), (.agg [bl, br].toArray)].toArray w fun e w' => ∃ G', e = .returned (.bool (decide (aheadI a b < 0))) ∧ Ext noS G w G' w' := by
 refine yD (n := 21) Tryz.func146 Tryz.ntmps146 rfl rfl ?_
 have h : Ext noS G w G w := Ext.refl hP
 refine zB (zC ?_)
 refine qI rfl (qA [al, ar] (v := (.agg [al, ar].toArray)) rfl rfl h.pins (fun t w2 am x y aa => ?_))
 have ab := h.step y aa
 have ac : w.heap.size ≤ t := by have := h.size; omega
 obtain ⟨G9, f, i, j, ao⟩ := x.shut ab ac
 refine qI rfl (qA [bl, br] (v := (.agg [bl, br].toArray)) rfl rfl i.pins (fun ad ap aq ae af ag => ?_))
 have ah := i.step af ag
 have ai : w.heap.size ≤ ad := by have := i.size; omega
 obtain ⟨au, c, g, m, av⟩ := ae.shut ah ai
 refine qM (.bool false) ?_
 refine qe (zA (zB (zB (zC ?_))))
 refine qD rfl (zO (k := 0) rfl Tryz.underlying68 rfl nz57 rfl) ?_
 refine qD rfl (zP (u := al) ag57 rfl ((Pins.of_le g.pins c) _ _ _ (j 0 _ rfl))) ?_
 refine qD rfl (zO (k := 0) rfl Tryz.underlying68 rfl nz57 rfl) ?_
 refine qD rfl (zP (u := bl) ag57 rfl (g.pins _ _ _ (m 0 _ rfl))) ?_
 refine qI rfl (zM (vs := [al, bl]) Tryz.func166 nm166 rfl rfl rfl ?_)
 refine Calls.mono (l3List_spec g.pins (hal.mono (Pin.le_trans f c)) (hbl.mono (Pin.le_trans f c))) ?_
 rintro _ aw ⟨rfl, o⟩
 refine ⟨_, rfl, ?_⟩
 have d := g.step o.pins o.below
 refine qM (vJ (cmpL a.l b.l)) ?_
 refine qe (zA (zB (zC ?_)))
 refine qM (vJ (cmpL a.l b.l)) ?_
 refine qD rfl (r_neq rfl rfl) ?_
 refine qe (zA ?_)
 refine yI (p := (cmpL a.l b.l : Int) ≠ 0) rfl rfl (fun q => ?_) (fun q => ?_)
 ·skip
  refine zB (zC ?_)
  refine qM (vJ (cmpL a.l b.l)) ?_
  refine qD rfl (yV rfl rfl) ?_
  refine qM (.bool (decide ((cmpL a.l b.l : Int) < 0))) ?_
  refine qe (zA ?_)
  refine wp_ret ?_
  refine zR ?_
  refine zQ (v := (.bool (decide ((cmpL a.l b.l : Int) < 0)))) rfl rfl rfl ?_
  exact ⟨_, congrArg (fun z => Ending.returned (Value.bool z)) (by rw [ahead_left q]), d⟩
 refine wp_skip ?_
 refine zA (zB (zC ?_))
 refine qD rfl (zO (k := 1) rfl Tryz.underlying68 rfl nz57 rfl) ?_
 refine qD rfl (zP (u := ar) ag57 rfl ((Pins.of_le d.pins c) _ _ _ (j 1 _ rfl))) ?_
 refine qD rfl (zO (k := 1) rfl Tryz.underlying68 rfl nz57 rfl) ?_
 refine qD rfl (zP (u := br) ag57 rfl (d.pins _ _ _ (m 1 _ rfl))) ?_
 refine qI rfl (zM (vs := [ar, br]) Tryz.func166 nm166 rfl rfl rfl ?_)
 refine Calls.mono (l3List_spec d.pins (har.mono (Pin.le_trans f c)) (hbr.mono (Pin.le_trans f c))) ?_
 rintro _ ax ⟨rfl, s⟩
 refine ⟨_, rfl, ?_⟩
 have aj := d.step s.pins s.below
 refine qD rfl (yV rfl rfl) ?_
 refine qM (.bool (decide ((cmpL a.r b.r : Int) < 0))) ?_
 refine qe (zA ?_)
 refine wp_ret ?_
 refine zR ?_
 refine zQ (v := (.bool (decide ((cmpL a.r b.r : Int) < 0)))) rfl rfl rfl ?_
 exact ⟨_, congrArg (fun z => Ending.returned (Value.bool z)) (by rw [ahead_right (by omega)]), aj⟩

theorem l3Same_spec {w : World} {G : Pin} {u v : Value} {xs ys : List Nd} (hP : Pins G w) (hu : RSl eNode G u xs) (hv : RSl eNode G v ys) :
  Calls Tryz.prog 69 [(.agg [u].toArray), (.agg [v].toArray)].toArray w fun e w' => ∃ G', e = .returned (.bool (decide (xs = ys))) ∧ Ext noS G w G' w' := by
 refine yD (n := 50) Tryz.func69 Tryz.ntmps69 rfl rfl ?_
 have s : Ext noS G w G w := Ext.refl hP
 have hm := hu.max
 refine zB (zC ?_)
 refine qI rfl (qA [u] (v := (.agg [u].toArray)) rfl rfl s.pins (fun b1 w2 ba an ao ap => ?_))
 have aq := s.step ao ap
 have ar : w.heap.size ≤ b1 := by have := s.size; omega
 obtain ⟨G9, d, x, m, bc⟩ := an.shut aq ar
 refine qI rfl (qA [v] (v := (.agg [v].toArray)) rfl rfl x.pins (fun ac bd be au av aw => ?_))
 have ax := x.step av aw
 have ay : w.heap.size ≤ ac := by have := x.size; omega
 obtain ⟨ad, c, o, y, bf⟩ := au.shut ax ay
 refine qM (.bool false) ?_
 refine qe (zA (zB (zB (zC ?_))))
 refine qD rfl (zO (k := 0) rfl Tryz.underlying28 rfl nz26 rfl) ?_
 refine qD rfl (zP (u := u) ag26 rfl ((Pins.of_le o.pins c) _ _ _ (m 0 _ rfl))) ?_
 refine qD rfl (zN Tryz.underlying26 (v := u) rfl hu) ?_
 refine qD rfl (zO (k := 0) rfl Tryz.underlying28 rfl nz26 rfl) ?_
 refine qD rfl (zP (u := v) ag26 rfl (o.pins _ _ _ (y 0 _ rfl))) ?_
 refine qD rfl (zN Tryz.underlying26 (v := v) rfl hv) ?_
 refine qD rfl (r_neq rfl rfl) ?_
 refine qe (zA ?_)
 refine yI (p := ((xs.length : Int) : Int) ≠ (ys.length : Int)) rfl rfl (fun ae => ?_) (fun ae => ?_)
 ·skip
  refine zB (zC ?_)
  refine qM (.bool false) ?_
  refine qe (zA ?_)
  refine wp_ret ?_
  refine zR ?_
  refine zQ (v := (.bool false)) rfl rfl rfl ?_
  exact ⟨_, congrArg (fun z => Ending.returned (Value.bool z)) (decide_eq_false (fun e => ae (by rw [e]))).symm, o⟩
 refine wp_skip ?_
 refine zA (zB (zB (zC ?_)))
 refine qM (vJ 0) ?_
 refine qe (zA ?_)
 refine zX ?_
 refine yQ (fun (k : Nat) (en : Nat → Value) (W : World) => ∃ (af : Nat → Value) (j : Nat), en = (upd (upd (upd af 2 (.pointer (some ⟨b1, 0, none⟩))) 3 (.pointer (some ⟨ac, 0, none⟩))) 5 (vJ (j : Int))) ∧ k = xs.length - j ∧ Ext noS G w ad W ∧ (j ≤ xs.length) ∧ (xs.length = ys.length) ∧ (∀ i, i < j → xs.getD i default = ys.getD i default)) _ ⟨_, 0, (pS 5 (pS 3 (pU 2))), rfl, o, Nat.zero_le _, (by omega), (fun i hi => absurd hi (Nat.not_lt_zero i))⟩ ?_
 rintro bg _ aa ⟨af, j, rfl, bh, q, hj, heq, hp⟩
 refine zB (zB (zC ?_))
 refine qM (vJ (j : Int)) ?_
 refine qD rfl (zO (k := 0) rfl Tryz.underlying28 rfl nz26 rfl) ?_
 refine qD rfl (zP (u := u) ag26 rfl ((Pins.of_le q.pins c) _ _ _ (m 0 _ rfl))) ?_
 refine qD rfl (zN Tryz.underlying26 (v := u) rfl hu) ?_
 refine qD rfl (yV rfl rfl) ?_
 refine qe (zA ?_)
 refine yI (p := ((j : Int) : Int) < (xs.length : Int)) rfl rfl (fun az => ?_) (fun az => ?_)
 ·skip
  refine wp_skip ?_
  refine zA (zB ?_)
  refine zX ?_
  refine zB ?_
  refine xG (S := fun wz => Pins ad wz) (last := 30) (by kernel_rfl) rfl ?_
  have ag : Below aa.heap.size aa aa.drew := (Below.refl _ _).drew
  have a0 := q.pins.below ag
  have b := q.step a0 ag
  refine dT (i := 0) rfl rfl (by kernel_rfl) (fun _ _ => zO (k := 0) rfl Tryz.underlying28 rfl nz26 rfl) b.pins ?_
  refine dT (i := 1) rfl rfl (by kernel_rfl) (fun _ hS => zP (u := u) ag26 rfl ((Pins.of_le hS c) _ _ _ (m 0 _ rfl))) b.pins ?_
  refine dM 2 (vJ (j : Int)) b.pins ?_
  refine dT (i := 3) rfl rfl (by kernel_rfl) (fun _ _ => zJ Tryz.underlying26 sz68 (v := u) rfl rfl hu (by omega) (by omega)) b.pins ?_
  refine dT (i := 4) rfl rfl (by kernel_rfl) (fun _ _ => xD (off := 0) Tryz.underlying68 rfl rfl nz57 (z := (j : Int)) (k := 0) rfl hu (by omega) (by omega)) b.pins ?_
  obtain ⟨a1, ah, a2⟩ := nm_nl (hu.at (z := (j : Int)) (by omega) (by omega)) (j := j) rfl
  have bi := ah.max
  refine dT (i := 5) rfl rfl (by kernel_rfl) (fun _ hS => a2 ag57 rfl (Pins.of_le hS (Pin.le_trans d c))) b.pins ?_
  refine dT (i := 6) rfl rfl (by kernel_rfl) (fun _ _ => zO (k := 0) rfl Tryz.underlying28 rfl nz26 rfl) b.pins ?_
  refine dT (i := 7) rfl rfl (by kernel_rfl) (fun _ hS => zP (u := v) ag26 rfl (hS _ _ _ (y 0 _ rfl))) b.pins ?_
  refine dM 8 (vJ (j : Int)) b.pins ?_
  refine dT (i := 9) rfl rfl (by kernel_rfl) (fun _ _ => zJ Tryz.underlying26 sz68 (v := v) rfl rfl hv (by omega) (by omega)) b.pins ?_
  refine dT (i := 10) rfl rfl (by kernel_rfl) (fun _ _ => xD (off := 0) Tryz.underlying68 rfl rfl nz57 (z := (j : Int)) (k := 0) rfl hv (by omega) (by omega)) b.pins ?_
  obtain ⟨a3, ai, a4⟩ := nm_nl (hv.at (z := (j : Int)) (by omega) (by omega)) (j := j) rfl
  have bj := ai.max
  refine dT (i := 11) rfl rfl (by kernel_rfl) (fun _ hS => a4 ag57 rfl (Pins.of_le hS (Pin.le_trans d c))) b.pins ?_
  refine dO (i := 12) (zT (i := 12) rfl rfl rfl (zD rfl _) (zM (vs := [a1, a3]) Tryz.func126 nm126 rfl rfl rfl ?_))
  refine Calls.mono (l1Same_spec b.pins (ah.mono (Pin.le_trans d c)) (ai.mono (Pin.le_trans d c))) ?_
  rintro _ bk ⟨rfl, aj⟩
  refine ⟨_, rfl, ?_⟩
  have a := b.step aj.pins aj.below
  refine ⟨fun _ => a.pins, ?_⟩
  refine dT (i := 13) rfl rfl (by kernel_rfl) (fun _ _ => qC rfl) a.pins ?_
  refine dM 14 (.bool (!(decide (((xs.getD j default).l) = ((ys.getD j default).l))))) a.pins ?_
  refine drbn (t := 34) rfl (fun f => ?_) (fun f => ?_)
  ·skip
   replace f := of_decide_eq_true f
   refine yG (i := 15) rfl rfl rfl (zW rfl rfl rfl rfl) (by kernel_rfl) (fun _ _ => zO (k := 0) rfl Tryz.underlying28 rfl nz26 rfl) a.pins ?_
   refine yG (i := 16) rfl rfl rfl (zW rfl rfl rfl rfl) (by kernel_rfl) (fun _ hS => zP (u := u) ag26 rfl ((Pins.of_le hS c) _ _ _ (m 0 _ rfl))) a.pins ?_
   refine yG (i := 17) rfl rfl rfl (zW rfl rfl rfl rfl) (by kernel_rfl) (fun _ _ => zU (v := (vJ (j : Int))) rfl) a.pins ?_
   refine yG (i := 18) rfl rfl rfl (zW rfl rfl rfl rfl) (by kernel_rfl) (fun _ _ => zJ Tryz.underlying26 sz68 (v := u) rfl rfl hu (by omega) (by omega)) a.pins ?_
   refine yG (i := 19) rfl rfl rfl (zW rfl rfl rfl rfl) (by kernel_rfl) (fun _ _ => xD (off := 1) Tryz.underlying68 rfl rfl nz57 (z := (j : Int)) (k := 0) rfl hu (by omega) (by omega)) a.pins ?_
   obtain ⟨a5, ak, a6⟩ := nm_nr (hu.at (z := (j : Int)) (by omega) (by omega)) (j := j) rfl
   have bl := ak.max
   refine yG (i := 20) rfl rfl rfl (zW rfl rfl rfl rfl) (by kernel_rfl) (fun _ hS => a6 ag57 rfl (Pins.of_le hS (Pin.le_trans d c))) a.pins ?_
   refine yG (i := 21) rfl rfl rfl (zW rfl rfl rfl rfl) (by kernel_rfl) (fun _ _ => zO (k := 0) rfl Tryz.underlying28 rfl nz26 rfl) a.pins ?_
   refine yG (i := 22) rfl rfl rfl (zW rfl rfl rfl rfl) (by kernel_rfl) (fun _ hS => zP (u := v) ag26 rfl (hS _ _ _ (y 0 _ rfl))) a.pins ?_
   refine yG (i := 23) rfl rfl rfl (zW rfl rfl rfl rfl) (by kernel_rfl) (fun _ _ => zU (v := (vJ (j : Int))) rfl) a.pins ?_
   refine yG (i := 24) rfl rfl rfl (zW rfl rfl rfl rfl) (by kernel_rfl) (fun _ _ => zJ Tryz.underlying26 sz68 (v := v) rfl rfl hv (by omega) (by omega)) a.pins ?_
   refine yG (i := 25) rfl rfl rfl (zW rfl rfl rfl rfl) (by kernel_rfl) (fun _ _ => xD (off := 1) Tryz.underlying68 rfl rfl nz57 (z := (j : Int)) (k := 0) rfl hv (by omega) (by omega)) a.pins ?_
   obtain ⟨a7, al, a8⟩ := nm_nr (hv.at (z := (j : Int)) (by omega) (by omega)) (j := j) rfl
   have bm := al.max
   refine yG (i := 26) rfl rfl rfl (zW rfl rfl rfl rfl) (by kernel_rfl) (fun _ hS => a8 ag57 rfl (Pins.of_le hS (Pin.le_trans d c))) a.pins ?_
   refine dO (i := 27) (zT (i := 27) rfl rfl rfl (zW rfl rfl rfl rfl) (zM (vs := [a5, a7]) Tryz.func126 nm126 rfl rfl rfl ?_))
   refine Calls.mono (l1Same_spec a.pins (ak.mono (Pin.le_trans d c)) (al.mono (Pin.le_trans d c))) ?_
   rintro _ bn ⟨rfl, am⟩
   refine ⟨_, rfl, ?_⟩
   have h := a.step am.pins am.below
   refine ⟨fun _ => h.pins, ?_⟩
   refine yG (i := 28) rfl rfl rfl (zW rfl rfl rfl rfl) (by kernel_rfl) (fun _ _ => qC rfl) h.pins ?_
   refine dT (i := 29) rfl rfl (by kernel_rfl) (fun _ _ => xA (v := (.bool (!(decide (((xs.getD j default).r) = ((ys.getD j default).r)))))) rfl rfl) h.pins ?_
   refine yT (by kernel_rfl) ?_
   refine zA ?_
   refine c_ifn rfl rfl (fun g => ?_) (fun g => ?_)
   ·skip
    replace g := of_decide_eq_true g
    refine wp_skip ?_
    refine yJ ?_
    refine zA (zC ?_)
    refine qM (vJ (j : Int)) ?_
    refine qD rfl (yR rfl rfl (by omega)) ?_
    refine qM (vJ ((j : Int) + 1)) ?_
    refine qe ?_
    refine yK ?_
    refine ⟨_, ?_, _, rfl, _, j + 1, (pS 5 (pS 3 (pU 2))), rfl, h, (by omega), heq, (eqstepN hp f g)⟩
    omega
   replace g := of_decide_eq_false g
   refine zB (zC ?_)
   refine qM (.bool false) ?_
   refine qe (zA ?_)
   refine wp_ret ?_
   refine zR ?_
   refine zQ (v := (.bool false)) rfl rfl rfl ?_
   exact ⟨_, congrArg (fun z => Ending.returned (Value.bool z)) (decide_eq_false (fun e => g (by rw [e]))).symm, h⟩
  replace f := of_decide_eq_false f
  refine zY (i := 15) rfl rfl (yE rfl rfl rfl rfl rfl) (by kernel_rfl) a.pins ?_
  refine zY (i := 16) rfl rfl (yE rfl rfl rfl rfl rfl) (by kernel_rfl) a.pins ?_
  refine zY (i := 17) rfl rfl (yE rfl rfl rfl rfl rfl) (by kernel_rfl) a.pins ?_
  refine zY (i := 18) rfl rfl (yE rfl rfl rfl rfl rfl) (by kernel_rfl) a.pins ?_
  refine zY (i := 19) rfl rfl (yE rfl rfl rfl rfl rfl) (by kernel_rfl) a.pins ?_
  refine zY (i := 20) rfl rfl (yE rfl rfl rfl rfl rfl) (by kernel_rfl) a.pins ?_
  refine zY (i := 21) rfl rfl (yE rfl rfl rfl rfl rfl) (by kernel_rfl) a.pins ?_
  refine zY (i := 22) rfl rfl (yE rfl rfl rfl rfl rfl) (by kernel_rfl) a.pins ?_
  refine zY (i := 23) rfl rfl (yE rfl rfl rfl rfl rfl) (by kernel_rfl) a.pins ?_
  refine zY (i := 24) rfl rfl (yE rfl rfl rfl rfl rfl) (by kernel_rfl) a.pins ?_
  refine zY (i := 25) rfl rfl (yE rfl rfl rfl rfl rfl) (by kernel_rfl) a.pins ?_
  refine zY (i := 26) rfl rfl (yE rfl rfl rfl rfl rfl) (by kernel_rfl) a.pins ?_
  refine zY (i := 27) rfl rfl (yE rfl rfl rfl rfl rfl) (by kernel_rfl) a.pins ?_
  refine zY (i := 28) rfl rfl (yE rfl rfl rfl rfl rfl) (by kernel_rfl) a.pins ?_
  refine dT (i := 29) rfl rfl (by kernel_rfl) (fun _ _ => xE (v := (.bool true)) rfl rfl) a.pins ?_
  refine yT (by kernel_rfl) ?_
  refine zA ?_
  refine c_ifT rfl rfl ?_
  refine zB (zC ?_)
  refine qM (.bool false) ?_
  refine qe (zA ?_)
  refine wp_ret ?_
  refine zR ?_
  refine zQ (v := (.bool false)) rfl rfl rfl ?_
  exact ⟨_, congrArg (fun z => Ending.returned (Value.bool z)) (decide_eq_false (fun e => f (by rw [e]))).symm, a⟩
 refine wp_exit ?_
 refine yA ?_
 refine yN ?_
 refine yL ?_
 refine zA (zB (zC ?_))
 refine qM (.bool true) ?_
 refine qe (zA ?_)
 refine wp_ret ?_
 refine zR ?_
 refine zQ (v := (.bool true)) rfl rfl rfl ?_
 exact ⟨_, congrArg (fun z => Ending.returned (Value.bool z)) (decide_eq_true (eqdoneN heq (by omega) hp)).symm, q⟩

theorem put_spec {w : World} {G : Pin} {b : Nat} {bu bv : Value} {ns : List Nd} {bs : List Int} (hP : Pins G w) (hB : Bk 68 3 G w b bu bv ns bs) (hok : BookOk ns bs) {x y : Value} {xs ys : List Int} (hx : RSl eInt G x xs) (hy : RSl eInt G y ys) (hls : xs.length ≤ 1048576 ∧ ys.length ≤ 1048576) (hk1 : ∀ i, i < xs.length → 0 ≤ xs.getD i 0 ∧ xs.getD i 0 < ns.length) (hk2 : ∀ i, i < ys.length → 0 ≤ ys.getD i 0 ∧ ys.getD i 0 < ns.length) :
  Calls Tryz.prog 124 [(.pointer (some ⟨b, 0, none⟩)), x, y].toArray w fun e w' => ∃ (u' v' : Value) (G' : Pin), e = .returned (vJ (putK ns bs xs ys)) ∧ Bk 68 3 G' w' b u' v' (putN ns bs xs ys) (putB ns bs xs ys) ∧ Ext (inS b bu bv) G w G' w' ∧ Lo w (inS b bu bv) u'.ownBlock ∧ Lo w (inS b bu bv) v'.ownBlock := by
 refine yD (n := 136) Tryz.func124 Tryz.ntmps124 rfl rfl ?_
 have bb : Ext (inS b bu bv) G w G w := Ext.refl hP
 have hbx := hB.bx
 have hou := hB.ou
 have hov := hB.ov
 have habu := hB.abu
 have habv := hB.abv
 have hauv := hB.auv
 have hlob : Lo w (inS b bu bv) (some b) := lo_b
 have hlou : Lo w (inS b bu bv) bu.ownBlock := lo_u
 have hlov : Lo w (inS b bu bv) bv.ownBlock := lo_v
 have hlen := hok.len
 have hlim := hok.lim
 refine zB (zC ?_)
 refine qM (vJ 0) ?_
 refine qe (zA (zB (zC ?_)))
 refine qI rfl (yZ (E := eInt) (e := 3) Tryz.underlying57 sz3 bb.pins (fun u1 w2 dc dd az bc => ?_))
 have bd := bb.step dd az
 have b8 := hou.below az
 have b9 := hov.below az
 have ca := hbx.below az
 have de : Apart u1.ownBlock bu.ownBlock := zI bc hou.lt
 have df : Apart u1.ownBlock bv.ownBlock := zI bc hov.lt
 have dg : Apart u1.ownBlock (some b) := zH bc hbx.lt
 have cb : Own eInt 3 G w2 w.heap.size u1 ([]) := dc.weaken bb.size
 refine qI rfl (yZ (E := eInt) (e := 3) Tryz.underlying57 sz3 bd.pins (fun ad dh di dj aq a0 => ?_))
 have dk := bd.step dj aq
 have dl := b8.below aq
 have dm := b9.below aq
 have dn := cb.below aq
 have dp := ca.below aq
 have dq : Apart ad.ownBlock bu.ownBlock := zI a0 b8.lt
 have dr : Apart ad.ownBlock bv.ownBlock := zI a0 b9.lt
 have ds : Apart ad.ownBlock u1.ownBlock := zI a0 cb.lt
 have dt : Apart ad.ownBlock (some b) := zH a0 ca.lt
 have du : Own eInt 3 G dh w.heap.size ad ([]) := di.weaken bd.size
 refine qM u1 ?_
 refine qM ad ?_
 refine qe (zA (zB (zC ?_)))
 refine qM (vJ 0) ?_
 refine qe (zA (zB (zB (zC ?_))))
 refine qM (vJ 0) ?_
 refine qe (zA ?_)
 refine zX ?_
 obtain ⟨cc, ah, dv, dw, a1⟩ := dn.sealed dk
 have dx := dl.moreO ah a1 de.symm
 have dy := dm.moreO ah a1 df.symm
 have dz := du.moreO ah a1 ds
 have d0 := dp.moreO a1 dg.symm
 refine yQ (fun (k : Nat) (en : Nat → Value) (W : World) => ∃ (ae : Nat → Value) (i : Nat) (lo : Value) (ls : List Int) (bn : Int) (GLi : Pin), en = (upd (upd (upd (upd (upd (upd (upd (upd ae 0 (.pointer (some ⟨b, 0, none⟩))) 1 x) 2 y) 6 (vJ 0)) 7 lo) 8 ad) 9 (vJ bn)) 10 (vJ (i : Int))) ∧ k = xs.length - i ∧ Ext (inS b bu bv) G w GLi W ∧ Pin.le cc GLi ∧ (i ≤ xs.length) ∧ (ls = sortL (xs.take i)) ∧ (ls.length ≤ i) ∧ (bn = bornOf bs (xs.take i) 0) ∧ (0 ≤ bn ∧ bn ≤ ns.length) ∧ (Own eNode 68 GLi W 0 bu (ns)) ∧ (Own eInt 3 GLi W 0 bv (bs)) ∧ (Own eInt 3 GLi W w.heap.size ad ([])) ∧ (Bx GLi W b [bu, bv]) ∧ (RSl eInt GLi lo (ls))) _ ⟨_, 0, u1, [], 0, cc, (pS 10 (pS 9 (pS 8 (pS 7 (pS 6 (pS 2 (pS 1 (pU 0)))))))), rfl, dv, Pin.le_refl _, Nat.zero_le _, rfl, Nat.le_refl 0, rfl, (by omega), dx, dy, dz, d0, dw⟩ ?_
 rintro fm _ fn ⟨ae, i, lo, ls, bn, GLi, rfl, fo, a2, ar, hji, hrls, holls, hbbn, hlbn, cd, ce, cf, cg, a3⟩
 refine zB (zB (zC ?_))
 refine qM (vJ (i : Int)) ?_
 refine qM x ?_
 refine qD rfl (zN Tryz.underlying57 (v := x) rfl hx) ?_
 refine qD rfl (yV rfl rfl) ?_
 refine qe (zA ?_)
 refine yI (p := ((i : Int) : Int) < (xs.length : Int)) rfl rfl (fun d1 => ?_) (fun d1 => ?_)
 ·skip
  have hki := hk1 i (by omega)
  have hbk := hok.born (xs.getD i 0).toNat (by omega)
  refine wp_skip ?_
  refine zA (zB ?_)
  refine zX ?_
  refine zB (zC ?_)
  refine qM lo ?_
  refine qM x ?_
  refine qM (vJ (i : Int)) ?_
  refine qD rfl (zJ Tryz.underlying57 sz3 (v := x) rfl rfl hx (by omega) (by omega)) ?_
  refine qD rfl (zK (r := xs.getD i 0) rfl ag3 (z := (i : Int)) rfl hx (Pins.of_le a2.pins (Pin.le_trans ah ar)) (by omega) (by omega)) ?_
  refine qI rfl (zM (vs := [lo, (vJ (xs.getD i 0))]) Tryz.func152 nm152 rfl rfl rfl ?_)
  refine Calls.mono (l1Put_spec a2.pins a3 (by omega)) ?_
  rintro _ a4 ⟨ch, be, rfl, d2, ai⟩
  refine ⟨_, rfl, ?_⟩
  have bf := a2.tr ai
  have d3 := cd.ext ai
  have ci := ce.ext ai
  have d4 := cf.ext ai
  have d5 := cg.ext ai
  refine qM ch ?_
  refine qe (zA ?_)
  have d6 := Gadd.pins bf.pins bv
  have cj := ci.read
  refine xG (S := fun wz => BxR wz b [bu, bv] ∧ Pins be wz ∧ Pins (Gadd be a4 bv) wz) (last := 14) (by kernel_rfl) rfl ?_
  have aj : Below a4.heap.size a4 a4.drew := (Below.refl _ _).drew
  have d7 := bf.pins.below aj
  have c := bf.step d7 aj
  have d8 := d3.below aj
  have d9 := ci.below aj
  have ea := d4.below aj
  have f := d5.below aj
  have s := d6.below aj
  refine dT (i := 0) rfl rfl (by kernel_rfl) (fun _ _ => zU (v := (vJ bn)) rfl) ⟨f.reads, c.pins, s⟩ ?_
  refine dT (i := 1) rfl rfl (by kernel_rfl) (fun _ _ => zU (v := (.pointer (some ⟨b, 0, none⟩))) rfl) ⟨f.reads, c.pins, s⟩ ?_
  refine dT (i := 2) rfl rfl (by kernel_rfl) (fun _ _ => xB rfl) ⟨f.reads, c.pins, s⟩ ?_
  refine dT (i := 3) rfl rfl (by kernel_rfl) (fun _ _ => zO (k := 1) rfl Tryz.underlying133 rfl nz57 rfl) ⟨f.reads, c.pins, s⟩ ?_
  refine dT (i := 4) rfl rfl (by kernel_rfl) (fun _ hS => zP (u := bv) ag57 rfl (hS.1 1 _ rfl)) ⟨f.reads, c.pins, s⟩ ?_
  refine dT (i := 5) rfl rfl (by kernel_rfl) (fun _ _ => zU (v := x) rfl) ⟨f.reads, c.pins, s⟩ ?_
  refine dT (i := 6) rfl rfl (by kernel_rfl) (fun _ _ => zU (v := (vJ (i : Int))) rfl) ⟨f.reads, c.pins, s⟩ ?_
  refine dT (i := 7) rfl rfl (by kernel_rfl) (fun _ _ => zJ Tryz.underlying57 sz3 (v := x) rfl rfl hx (by omega) (by omega)) ⟨f.reads, c.pins, s⟩ ?_
  refine dT (i := 8) rfl rfl (by kernel_rfl) (fun _ hS => zK (r := xs.getD i 0) rfl ag3 (z := (i : Int)) rfl hx (Pins.of_le hS.2.1 (Pin.le_trans (Pin.le_trans ah ar) ai.le)) (by omega) (by omega)) ⟨f.reads, c.pins, s⟩ ?_
  refine dT (i := 9) rfl rfl (by kernel_rfl) (fun _ _ => zJ Tryz.underlying57 sz3 (v := bv) rfl rfl cj (by omega) (by omega)) ⟨f.reads, c.pins, s⟩ ?_
  refine dT (i := 10) rfl rfl (by kernel_rfl) (fun _ hS => zK (r := bs.getD (xs.getD i 0).toNat 0) rfl ag3 (z := (xs.getD i 0)) rfl cj hS.2.2 (by omega) (by omega)) ⟨f.reads, c.pins, s⟩ ?_
  refine dT (i := 11) rfl rfl (by kernel_rfl) (fun _ _ => yR rfl rfl (by omega)) ⟨f.reads, c.pins, s⟩ ?_
  refine dO (i := 12) (zT (i := 12) rfl rfl rfl (zD rfl _) (zM (vs := [(vJ bn), (vJ ((bs.getD (xs.getD i 0).toNat 0) + 1))]) Tryz.func153 nm153 rfl rfl rfl ?_))
  refine Calls.mono (l1Most_spec c.pins) ?_
  rintro _ _ ⟨rfl, rfl⟩
  refine ⟨_, rfl, ?_⟩
  refine ⟨fun _ => ⟨f.reads, c.pins, s⟩, ?_⟩
  refine dT (i := 13) rfl rfl (by kernel_rfl) (fun _ _ => qG (v := (vJ (max bn ((bs.getD (xs.getD i 0).toNat 0) + 1)))) rfl) ⟨f.reads, c.pins, s⟩ ?_
  refine yT (by kernel_rfl) ?_
  refine yJ ?_
  refine zA (zC ?_)
  refine qM (vJ (i : Int)) ?_
  refine qD rfl (yR rfl rfl (by omega)) ?_
  refine qM (vJ ((i : Int) + 1)) ?_
  refine qe ?_
  refine yK ?_
  refine ⟨_, ?_, _, rfl, _, i + 1, ch, putL ls (xs.getD i 0), max bn ((bs.getD (xs.getD i 0).toNat 0) + 1), be, (pS 10 (pS 9 (pS 8 (pS 7 (pS 6 (pS 2 (pS 1 (pU 0)))))))), rfl, c, (Pin.le_trans ar ai.le), (by omega), (by rw [hrls, sort_next (by omega)]), (Nat.le_trans putL_length (by omega)), (by rw [hbbn, born_next (by omega)]), (by omega), d8, d9, ea, f, d2⟩
  omega
 refine wp_exit ?_
 refine yA ?_
 refine yN ?_
 refine yL ?_
 refine zA (zB (zB (zC ?_)))
 refine qM (vJ 0) ?_
 refine qe (zA ?_)
 refine zX ?_
 obtain ⟨ck, an, eb, ec, bg⟩ := cf.sealed a2
 have ed := cd.moreO an bg dq.symm
 have ee := ce.moreO an bg dr.symm
 have ef := cg.moreO bg dt.symm
 refine yQ (fun (k : Nat) (en : Nat → Value) (W : World) => ∃ (ae : Nat → Value) (a : Nat) (ro : Value) (rs : List Int) (bm : Int) (ab : Pin), en = (upd (upd (upd (upd (upd (upd (upd ae 0 (.pointer (some ⟨b, 0, none⟩))) 2 y) 6 (vJ 0)) 7 lo) 8 ro) 9 (vJ bm)) 11 (vJ (a : Int))) ∧ k = ys.length - a ∧ Ext (inS b bu bv) G w ab W ∧ Pin.le ck ab ∧ (a ≤ ys.length) ∧ (rs = sortL (ys.take a)) ∧ (rs.length ≤ a) ∧ (bm = bornOf bs (ys.take a) bn) ∧ (0 ≤ bm ∧ bm ≤ ns.length) ∧ (Own eNode 68 ab W 0 bu (ns)) ∧ (Own eInt 3 ab W 0 bv (bs)) ∧ (Bx ab W b [bu, bv]) ∧ (RSl eInt ab ro (rs))) _ ⟨_, 0, ad, [], bn, ck, (pS 11 (pS 9 (pS 8 (pS 7 (pS 6 (pS 2 (pU 0))))))), rfl, eb, Pin.le_refl _, Nat.zero_le _, rfl, Nat.le_refl 0, rfl, (by omega), ed, ee, ef, ec⟩ ?_
 rintro fp _ fq ⟨ae, a, ro, rs, bm, ab, rfl, fr, a5, au, fs, hrrs, holrs, hbbm, hlbm, cl, cm, cn, a6⟩
 refine zB (zB (zC ?_))
 refine qM (vJ (a : Int)) ?_
 refine qM y ?_
 refine qD rfl (zN Tryz.underlying57 (v := y) rfl hy) ?_
 refine qD rfl (yV rfl rfl) ?_
 refine qe (zA ?_)
 refine yI (p := ((a : Int) : Int) < (ys.length : Int)) rfl rfl (fun eg => ?_) (fun eg => ?_)
 ·skip
  have hki := hk2 a (by omega)
  have hbk := hok.born (ys.getD a 0).toNat (by omega)
  refine wp_skip ?_
  refine zA (zB ?_)
  refine zX ?_
  refine zB (zC ?_)
  refine qM ro ?_
  refine qM y ?_
  refine qM (vJ (a : Int)) ?_
  refine qD rfl (zJ Tryz.underlying57 sz3 (v := y) rfl rfl hy (by omega) (by omega)) ?_
  refine qD rfl (zK (r := ys.getD a 0) rfl ag3 (z := (a : Int)) rfl hy (Pins.of_le a5.pins (Pin.le_trans (Pin.le_trans (Pin.le_trans ah ar) an) au)) (by omega) (by omega)) ?_
  refine qI rfl (zM (vs := [ro, (vJ (ys.getD a 0))]) Tryz.func152 nm152 rfl rfl rfl ?_)
  refine Calls.mono (l1Put_spec a5.pins a6 (by omega)) ?_
  rintro _ a7 ⟨co, bh, rfl, eh, ao⟩
  refine ⟨_, rfl, ?_⟩
  have bi := a5.tr ao
  have ei := cl.ext ao
  have cp := cm.ext ao
  have ej := cn.ext ao
  refine qM co ?_
  refine qe (zA ?_)
  have ek := Gadd.pins bi.pins bv
  have cq := cp.read
  refine xG (S := fun wz => BxR wz b [bu, bv] ∧ Pins bh wz ∧ Pins (Gadd bh a7 bv) wz) (last := 14) (by kernel_rfl) rfl ?_
  have ap : Below a7.heap.size a7 a7.drew := (Below.refl _ _).drew
  have el := bi.pins.below ap
  have d := bi.step el ap
  have em := ei.below ap
  have eo := cp.below ap
  have m := ej.below ap
  have aa := ek.below ap
  refine dT (i := 0) rfl rfl (by kernel_rfl) (fun _ _ => zU (v := (vJ bm)) rfl) ⟨m.reads, d.pins, aa⟩ ?_
  refine dT (i := 1) rfl rfl (by kernel_rfl) (fun _ _ => zU (v := (.pointer (some ⟨b, 0, none⟩))) rfl) ⟨m.reads, d.pins, aa⟩ ?_
  refine dT (i := 2) rfl rfl (by kernel_rfl) (fun _ _ => xB rfl) ⟨m.reads, d.pins, aa⟩ ?_
  refine dT (i := 3) rfl rfl (by kernel_rfl) (fun _ _ => zO (k := 1) rfl Tryz.underlying133 rfl nz57 rfl) ⟨m.reads, d.pins, aa⟩ ?_
  refine dT (i := 4) rfl rfl (by kernel_rfl) (fun _ hS => zP (u := bv) ag57 rfl (hS.1 1 _ rfl)) ⟨m.reads, d.pins, aa⟩ ?_
  refine dT (i := 5) rfl rfl (by kernel_rfl) (fun _ _ => zU (v := y) rfl) ⟨m.reads, d.pins, aa⟩ ?_
  refine dT (i := 6) rfl rfl (by kernel_rfl) (fun _ _ => zU (v := (vJ (a : Int))) rfl) ⟨m.reads, d.pins, aa⟩ ?_
  refine dT (i := 7) rfl rfl (by kernel_rfl) (fun _ _ => zJ Tryz.underlying57 sz3 (v := y) rfl rfl hy (by omega) (by omega)) ⟨m.reads, d.pins, aa⟩ ?_
  refine dT (i := 8) rfl rfl (by kernel_rfl) (fun _ hS => zK (r := ys.getD a 0) rfl ag3 (z := (a : Int)) rfl hy (Pins.of_le hS.2.1 (Pin.le_trans (Pin.le_trans (Pin.le_trans (Pin.le_trans ah ar) an) au) ao.le)) (by omega) (by omega)) ⟨m.reads, d.pins, aa⟩ ?_
  refine dT (i := 9) rfl rfl (by kernel_rfl) (fun _ _ => zJ Tryz.underlying57 sz3 (v := bv) rfl rfl cq (by omega) (by omega)) ⟨m.reads, d.pins, aa⟩ ?_
  refine dT (i := 10) rfl rfl (by kernel_rfl) (fun _ hS => zK (r := bs.getD (ys.getD a 0).toNat 0) rfl ag3 (z := (ys.getD a 0)) rfl cq hS.2.2 (by omega) (by omega)) ⟨m.reads, d.pins, aa⟩ ?_
  refine dT (i := 11) rfl rfl (by kernel_rfl) (fun _ _ => yR rfl rfl (by omega)) ⟨m.reads, d.pins, aa⟩ ?_
  refine dO (i := 12) (zT (i := 12) rfl rfl rfl (zD rfl _) (zM (vs := [(vJ bm), (vJ ((bs.getD (ys.getD a 0).toNat 0) + 1))]) Tryz.func153 nm153 rfl rfl rfl ?_))
  refine Calls.mono (l1Most_spec d.pins) ?_
  rintro _ _ ⟨rfl, rfl⟩
  refine ⟨_, rfl, ?_⟩
  refine ⟨fun _ => ⟨m.reads, d.pins, aa⟩, ?_⟩
  refine dT (i := 13) rfl rfl (by kernel_rfl) (fun _ _ => qG (v := (vJ (max bm ((bs.getD (ys.getD a 0).toNat 0) + 1)))) rfl) ⟨m.reads, d.pins, aa⟩ ?_
  refine yT (by kernel_rfl) ?_
  refine yJ ?_
  refine zA (zC ?_)
  refine qM (vJ (a : Int)) ?_
  refine qD rfl (yR rfl rfl (by omega)) ?_
  refine qM (vJ ((a : Int) + 1)) ?_
  refine qe ?_
  refine yK ?_
  refine ⟨_, ?_, _, rfl, _, a + 1, co, putL rs (ys.getD a 0), max bm ((bs.getD (ys.getD a 0).toNat 0) + 1), bh, (pS 11 (pS 9 (pS 8 (pS 7 (pS 6 (pS 2 (pU 0))))))), rfl, d, (Pin.le_trans au ao.le), (by omega), (by rw [hrrs, sort_next (by omega)]), (Nat.le_trans putL_length (by omega)), (by rw [hbbm, born_next (by omega)]), (by omega), em, eo, m, eh⟩
  omega
 refine wp_exit ?_
 refine yA ?_
 refine yN ?_
 refine yL ?_
 refine zA (zB (zB (zC ?_)))
 rw [qF (by omega)] at hrls hrrs hbbn hbbm
 have e1 : putNd xs ys = ⟨ls, rs⟩ := by unfold putNd; rw [hrls, hrrs]
 have e2 : putBorn bs xs ys = bm := by unfold putBorn; rw [← hbbn, ← hbbm]
 refine qM (vJ 0) ?_
 refine qe (zA ?_)
 refine zX ?_
 have e0 : True := trivial
 refine yQ (fun (k : Nat) (en : Nat → Value) (W : World) => ∃ (ae : Nat → Value) (q : Nat), en = (upd (upd (upd (upd (upd ae 0 (.pointer (some ⟨b, 0, none⟩))) 7 lo) 8 ro) 9 (vJ bm)) 12 (vJ (q : Int))) ∧ k = ns.length - q ∧ Ext (inS b bu bv) G w ab W ∧ (q ≤ ns.length) ∧ (∀ i, i < q → NotAt ns bs ⟨ls, rs⟩ bm i) ∧ (Own eNode 68 ab W 0 bu (ns)) ∧ (Own eInt 3 ab W 0 bv (bs)) ∧ (Bx ab W b [bu, bv])) _ ⟨_, 0, (pS 12 (pS 9 (pS 8 (pS 7 (pU 0))))), rfl, a5, Nat.zero_le _, (fun i hi => absurd hi (Nat.not_lt_zero i)), cl, cm, cn⟩ ?_
 rintro fu _ fv ⟨ae, q, rfl, fw, af, fx, hp, ak, av, al⟩
 refine zB (zB (zC ?_))
 refine qM (vJ (q : Int)) ?_
 refine qM (.pointer (some ⟨b, 0, none⟩)) ?_
 refine qD rfl (xB rfl) ?_
 refine qD rfl (zO (k := 0) rfl Tryz.underlying133 rfl nz26 rfl) ?_
 refine qD rfl (zP (u := bu) ag26 rfl (al.cell (o := 0) rfl)) ?_
 refine qD rfl (zN Tryz.underlying26 (v := bu) rfl ak.read) ?_
 refine qD rfl (yV rfl rfl) ?_
 refine qe (zA ?_)
 refine yI (p := ((q : Int) : Int) < (ns.length : Int)) rfl rfl (fun ep => ?_) (fun ep => ?_)
 ·skip
  refine wp_skip ?_
  refine zA (zB ?_)
  refine zX ?_
  refine zB (zC ?_)
  refine qM (.pointer (some ⟨b, 0, none⟩)) ?_
  refine qD rfl (xB rfl) ?_
  refine qD rfl (zO (k := 1) rfl Tryz.underlying133 rfl nz57 rfl) ?_
  refine qD rfl (zP (u := bv) ag57 rfl (al.cell (o := 1) rfl)) ?_
  refine qM (vJ (q : Int)) ?_
  refine qD rfl (zJ Tryz.underlying57 sz3 (v := bv) rfl rfl av.read (by omega) (by omega)) ?_
  refine qD rfl (zK (r := bs.getD q 0) rfl ag3 (z := (q : Int)) rfl av.read (Gadd.pins af.pins bv) (by omega) (by omega)) ?_
  refine qM (vJ bm) ?_
  refine qD rfl (r_eql rfl rfl) ?_
  refine qM (.bool (decide ((bs.getD q 0 : Int) = bm))) ?_
  refine qbd (p := (bs.getD q 0 : Int) = bm) (t := 83) rfl (fun bl => ?_) (fun bl => ?_)
  ·skip
   refine qN (zU (v := (.pointer (some ⟨b, 0, none⟩))) rfl) ?_
   refine qN (xB rfl) ?_
   refine qN (zO (k := 0) rfl Tryz.underlying133 rfl nz26 rfl) ?_
   refine qN (zP (u := bu) ag26 rfl (al.cell (o := 0) rfl)) ?_
   refine qN (zU (v := (vJ (q : Int))) rfl) ?_
   refine qN (zJ Tryz.underlying26 sz68 (v := bu) rfl rfl ak.read (by omega) (by omega)) ?_
   refine qN (xD (off := 0) Tryz.underlying68 rfl rfl nz57 (z := (q : Int)) (k := 0) rfl ak.read (by omega) (by omega)) ?_
   obtain ⟨eq, cr, er⟩ := nm_nl (ak.at (z := (q : Int)) (by omega) (by omega)) (j := q) rfl
   have fy := cr.max
   refine qN (er ag57 rfl (Gadd.pins af.pins bu)) ?_
   refine qN (zU (v := lo) rfl) ?_
   refine q1g rfl rfl rfl rfl rfl rfl (zM (vs := [eq, lo]) Tryz.func126 nm126 rfl rfl rfl ?_)
   refine Calls.mono (l1Same_spec af.pins cr (a3.mono (Pin.le_trans an au))) ?_
   rintro _ fz ⟨rfl, aw⟩
   refine ⟨_, rfl, ?_⟩
   have a8 := af.step aw.pins aw.below
   have ax := ak.below aw.below
   have cs := av.below aw.below
   have bo := al.below aw.below
   refine qD rfl (xE (v := (.bool (decide (((ns.getD q default).l) = ls)))) rfl rfl) ?_
   refine qM (.bool (decide (((ns.getD q default).l) = ls))) ?_
   refine qbd (p := (((ns.getD q default).l) = ls)) (t := 95) rfl (fun bp => ?_) (fun bp => ?_)
   ·skip
    refine qN (zU (v := (.pointer (some ⟨b, 0, none⟩))) rfl) ?_
    refine qN (xB rfl) ?_
    refine qN (zO (k := 0) rfl Tryz.underlying133 rfl nz26 rfl) ?_
    refine qN (zP (u := bu) ag26 rfl (bo.cell (o := 0) rfl)) ?_
    refine qN (zU (v := (vJ (q : Int))) rfl) ?_
    refine qN (zJ Tryz.underlying26 sz68 (v := bu) rfl rfl ax.read (by omega) (by omega)) ?_
    refine qN (xD (off := 1) Tryz.underlying68 rfl rfl nz57 (z := (q : Int)) (k := 0) rfl ax.read (by omega) (by omega)) ?_
    obtain ⟨es, ct, et⟩ := nm_nr (ax.at (z := (q : Int)) (by omega) (by omega)) (j := q) rfl
    have f0 := ct.max
    refine qN (et ag57 rfl (Gadd.pins a8.pins bu)) ?_
    refine qN (zU (v := ro) rfl) ?_
    refine q1g rfl rfl rfl rfl rfl rfl (zM (vs := [es, ro]) Tryz.func126 nm126 rfl rfl rfl ?_)
    refine Calls.mono (l1Same_spec a8.pins ct a6) ?_
    rintro _ f1 ⟨rfl, ay⟩
    refine ⟨_, rfl, ?_⟩
    have cu := a8.step ay.pins ay.below
    have cv := ax.below ay.below
    have cw := cs.below ay.below
    have cx := bo.below ay.below
    refine qD rfl (xE (v := (.bool (decide (((ns.getD q default).r) = rs)))) rfl rfl) ?_
    refine qe (zA ?_)
    refine yI (p := (((ns.getD q default).r) = rs)) rfl rfl (fun bq => ?_) (fun bq => ?_)
    ·skip
     refine zB (zC ?_)
     refine qM (vJ (q : Int)) ?_
     refine qM (vJ (q : Int)) ?_
     refine qe (zA ?_)
     refine wp_ret ?_
     refine zR ?_
     refine zQ (v := (vJ (q : Int))) rfl rfl rfl ?_
     have hf : findK ns bs (putNd xs ys) (putBorn bs xs ys) = some q := by rw [e1, e2]; exact find_some (by omega) hp ⟨bl, bp, bq⟩
     have eN : putN ns bs xs ys = ns := by unfold putN; rw [hf]
     have eB : putB ns bs xs ys = bs := by unfold putB; rw [hf]
     refine ⟨bu, bv, _, congrArg (fun z => Ending.returned (Value.int .i64 z)) (by unfold putK; rw [hf]), ?_, cu, hlou, hlov⟩
     rw [eN, eB]
     exact ⟨cx, cv, cw, habu, habv, hauv⟩
    refine wp_skip ?_
    refine yJ ?_
    refine zA (zC ?_)
    refine qM (vJ (q : Int)) ?_
    refine qD rfl (yR rfl rfl (by omega)) ?_
    refine qM (vJ ((q : Int) + 1)) ?_
    refine qe ?_
    refine yK ?_
    refine ⟨_, ?_, _, rfl, _, q + 1, (pS 12 (pS 9 (pS 8 (pS 7 (pU 0))))), rfl, cu, (by omega), (fun i hi => if h3 : i = q then h3 ▸ (fun g => absurd g.2.2 bq) else hp i (by omega)), cv, cw, cx⟩
    omega
   refine qW ?_
   refine qW ?_
   refine qW ?_
   refine qW ?_
   refine qW ?_
   refine qW ?_
   refine qW ?_
   refine qW ?_
   refine qW ?_
   refine qW ?_
   refine qD rfl (xA (v := (.bool false)) rfl rfl) ?_
   refine qe (zA ?_)
   refine c_ifF rfl rfl ?_
   refine wp_skip ?_
   refine yJ ?_
   refine zA (zC ?_)
   refine qM (vJ (q : Int)) ?_
   refine qD rfl (yR rfl rfl (by omega)) ?_
   refine qM (vJ ((q : Int) + 1)) ?_
   refine qe ?_
   refine yK ?_
   refine ⟨_, ?_, _, rfl, _, q + 1, (pS 12 (pS 9 (pS 8 (pS 7 (pU 0))))), rfl, a8, (by omega), (fun i hi => if h3 : i = q then h3 ▸ (fun g => absurd g.2.1 bp) else hp i (by omega)), ax, cs, bo⟩
   omega
  refine qW ?_
  refine qW ?_
  refine qW ?_
  refine qW ?_
  refine qW ?_
  refine qW ?_
  refine qW ?_
  refine qW ?_
  refine qW ?_
  refine qW ?_
  refine qD rfl (xA (v := (.bool false)) rfl rfl) ?_
  refine qM (.bool false) ?_
  refine qW ?_
  refine qW ?_
  refine qW ?_
  refine qW ?_
  refine qW ?_
  refine qW ?_
  refine qW ?_
  refine qW ?_
  refine qW ?_
  refine qW ?_
  refine qD rfl (xA (v := (.bool false)) rfl rfl) ?_
  refine qe (zA ?_)
  refine c_ifF rfl rfl ?_
  refine wp_skip ?_
  refine yJ ?_
  refine zA (zC ?_)
  refine qM (vJ (q : Int)) ?_
  refine qD rfl (yR rfl rfl (by omega)) ?_
  refine qM (vJ ((q : Int) + 1)) ?_
  refine qe ?_
  refine yK ?_
  refine ⟨_, ?_, _, rfl, _, q + 1, (pS 12 (pS 9 (pS 8 (pS 7 (pU 0))))), rfl, af, (by omega), (fun i hi => if h3 : i = q then h3 ▸ (fun g => absurd g.1 bl) else hp i (by omega)), ak, av, al⟩
  omega
 refine wp_exit ?_
 refine yA ?_
 refine yN ?_
 refine yL ?_
 refine zA (zB (zC ?_))
 refine qM (.pointer (some ⟨b, 0, none⟩)) ?_
 refine qM (.pointer (some ⟨b, 0, none⟩)) ?_
 refine qD rfl (xB rfl) ?_
 refine qD rfl (zO (k := 0) rfl Tryz.underlying133 rfl nz26 rfl) ?_
 refine qD rfl (zP (u := bu) ag26 rfl (al.cell (o := 0) rfl)) ?_
 refine qM lo ?_
 refine qM ro ?_
 refine qD rfl (xF [(.slice none 0 0), (.slice none 0 0)] [lo, ro] [(0, lo, [lo]), (1, ro, [ro])] Tryz.underlying68 zr68 rfl pl68 rfl (List.forall_mem_cons.2 ⟨(yY a3.one), (List.forall_mem_cons.2 ⟨(yY a6.one), (fun _ h => by cases h)⟩)⟩) rfl) ?_
 refine qI rfl (xC (E := eNode) (e := 68) [lo, ro] (⟨ls, rs⟩ : Nd) Tryz.underlying26 sz68 zr68 ⟨_, _, rfl, (a3.mono (Pin.le_trans an au)), a6⟩ rfl (by decide) af.pins (fun cy eu ev ew a9 f2 => ?_))
 have br := af.step ew a9
 have ex := ak.below a9
 have cz := av.below a9
 have c0 := al.below a9
 have ey : Own eNode 68 ab eu w.heap.size cy ([(⟨ls, rs⟩ : Nd)]) := ev.weaken af.size
 refine qI rfl (oA (E := eNode) (v := bu) (u := cy) 48 Tryz.underlying26 ap68 (by decide) rfl rfl br.pins ex ey.src (Nat.zero_le _) (fun ac f3 bt ez bw bz => ?_))
 have c1 := br.write ez bw (hlou)
 have e3 := cz.keptA bw hauv.symm
 have e4 := c0.keptA bw habu
 have c2 : Apart bv.ownBlock ac.ownBlock := zG hauv.symm bz cz.lt
 have b0 : Apart (some b) ac.ownBlock := zL habu bz c0.lt
 have e5 : Lo w (inS b bu bv) ac.ownBlock := lo_app hlou bz br.size
 have f4 : (ns ++ ([(⟨ls, rs⟩ : Nd)])).length = ns.length + 1 := List.length_append
 refine qD rfl (xB rfl) ?_
 refine qD rfl (zO (k := 0) rfl Tryz.underlying133 rfl nz26 rfl) ?_
 refine q0 rfl rfl rfl (yM (cs' := [ac, bv]) (us := [ac]) (v := ac) sz26 rfl rfl (cells1 bt.one) (yC bt.one) c1.pins e4 (Nat.le_of_ble_eq_true rfl) rfl (fun f5 c3 e6 b1 f6 => ?_))
 have b2 := c1.write e6 b1 (hlob)
 have e7 := e3.keptA b1 habv.symm
 have e8 := bt.keptA b1 b0.symm
 refine qe (zA (zB (zC ?_)))
 refine qM (.pointer (some ⟨b, 0, none⟩)) ?_
 refine qM (.pointer (some ⟨b, 0, none⟩)) ?_
 refine qD rfl (xB rfl) ?_
 refine qD rfl (zO (k := 1) rfl Tryz.underlying133 rfl nz57 rfl) ?_
 refine qD rfl (zP (u := bv) ag57 rfl (c3.cell (o := 1) rfl)) ?_
 refine qM (vJ bm) ?_
 refine qI rfl (yU (E := eInt) (e := 3) [(vJ bm)] [bm] Tryz.underlying57 sz3 zr3 (by exact xQ (by rfl)) (yC (by rfl)) rfl rfl rfl rfl (by decide) b2.pins (fun c4 e9 fa fb ba f7 => ?_))
 have b3 := b2.step fb ba
 have fc := e7.below ba
 have c5 := e8.below ba
 have c6 := c3.below ba
 have fd : Own eInt 3 ab e9 w.heap.size c4 ([bm]) := fa.weaken b2.size
 refine qI rfl (oA (E := eInt) (v := bv) (u := c4) 8 Tryz.underlying57 ap3 (by decide) rfl rfl b3.pins fc fd.src (Nat.zero_le _) (fun am f8 b4 fe b5 b6 => ?_))
 have c7 := b3.write fe b5 (hlov)
 have ff := c5.keptA b5 c2.symm
 have fg := c6.keptA b5 habv
 have fh : Apart ac.ownBlock am.ownBlock := zG c2.symm b6 c5.lt
 have c8 : Apart (some b) am.ownBlock := zL habv b6 c6.lt
 have fi : Lo w (inS b bu bv) am.ownBlock := lo_app hlov b6 b3.size
 have f9 : (bs ++ ([bm])).length = bs.length + 1 := List.length_append
 refine qD rfl (xB rfl) ?_
 refine qD rfl (zO (k := 1) rfl Tryz.underlying133 rfl nz57 rfl) ?_
 refine q0 rfl rfl rfl (yM (cs' := [ac, am]) (us := [am]) (v := am) sz57 rfl rfl (cells1 b4.one) (yC b4.one) c7.pins fg (Nat.le_of_ble_eq_true rfl) rfl (fun ga c9 fj b7 gb => ?_))
 have fk := c7.write fj b7 (hlob)
 have da := ff.keptA b7 b0.symm
 have fl := b4.keptA b7 c8.symm
 refine qe (zA (zB (zC ?_)))
 refine qM (.pointer (some ⟨b, 0, none⟩)) ?_
 refine qD rfl (xB rfl) ?_
 refine qD rfl (zO (k := 0) rfl Tryz.underlying133 rfl nz26 rfl) ?_
 refine qD rfl (zP (u := ac) ag26 rfl (c9.cell (o := 0) rfl)) ?_
 refine qD rfl (zN Tryz.underlying26 (v := ac) rfl da.read) ?_
 refine qD rfl (qU rfl rfl (by omega)) ?_
 refine qM (vJ (((ns ++ ([(⟨ls, rs⟩ : Nd)])).length : Int) - 1)) ?_
 refine qe (zA ?_)
 refine wp_ret ?_
 refine zR ?_
 refine zQ (v := (vJ (((ns ++ ([(⟨ls, rs⟩ : Nd)])).length : Int) - 1))) rfl rfl rfl ?_
 have hf : findK ns bs (putNd xs ys) (putBorn bs xs ys) = none := by rw [e1, e2]; exact find_none (by omega) hp
 have eN : putN ns bs xs ys = ns ++ [⟨ls, rs⟩] := by unfold putN; rw [hf, e1]
 have eB : putB ns bs xs ys = bs ++ [bm] := by unfold putB; rw [hf, e2]
 refine ⟨ac, am, _, congrArg (fun z => Ending.returned (Value.int .i64 z)) (by unfold putK; rw [hf]; simp), ?_, fk, e5, fi⟩
 rw [eN, eB]
 exact ⟨c9, da, fl, b0, c8, fh⟩

end D1
end Go.Proofs.YtkfgdhanaijddaaGreatDoor
