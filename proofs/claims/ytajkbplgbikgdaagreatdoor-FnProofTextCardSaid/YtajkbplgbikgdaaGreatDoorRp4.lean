/- Texts of this claim in one file: Shelf, B1, C1, D1. -/
import Derived.Test.YtajkbplgbikgdaaGreatDoorRp3
import Derived.Shelf.Strings.OnBuilder
import Derived.Shelf.LaysM
import Derived.Shelf.Strconv.Itoa3
import Derived.Shelf.LaysC
import Derived.Shelf.Strconv.AtoiAll
import Derived.Shelf.Strings.Cut
import Derived.Shelf.Strings.Count
import Derived.Shelf.Sort.Plain
import Derived.Shelf.Strings.Split
import Derived.Ground.Names2Prog
import Derived.Shelf.Slices.CompactI
import Derived.Shelf.Slices.In.SortNone
import Derived.Ground.SlsfProg
import Derived.Shelf.SlSortCmp.Whole1
import Derived.Shelf.SlSortCmp.NoneTotal
import Derived.Shelf.SlSortCmp.WholeK
import Derived.Test.YtajkbplgbikgdaaGreatDoorProg
import Derived.Test.YtajkbplgbikgdaaGreatDoorChecked
namespace Go.Proofs
open Go.Shelf
def Tryz.lays156_ren : Go.Shelf.Ren := ⟨fun | 156 => 48 | 165 => 91 | 166 => 92 | 169 => 93 | 240 => 136 | 241 => 137 | 276 => 187 | 277 => 188 | n => n, fun | 31 => 46 | 9 => 9 | 3 => 3 | 4 => 4 | 0 => 0 | 20 => 20 | 72 => 132 | 76 => 136 | 70 => 130 | 37 => 22 | 75 => 135 | 127 => 170 | 164 => 210 | 5 => 5 | 80 => 100 | n => n, fun | n => n⟩
theorem Tryz.lays156 : Go.Proofs.Lays.n156 Tryz.prog Tryz.lays156_ren := {
 mixed := by kernel_rfl
 f156 := Tryz.func48.trans (congrArg some (by kernel_rfl))
 f165 := Tryz.func91.trans (congrArg some (by kernel_rfl))
 f166 := Tryz.func92.trans (congrArg some (by kernel_rfl))
 f169 := Tryz.func93.trans (congrArg some (by kernel_rfl))
 f240 := Tryz.func136.trans (congrArg some (by kernel_rfl))
 f241 := Tryz.func137.trans (congrArg some (by kernel_rfl))
 f276 := Tryz.func187.trans (congrArg some (by kernel_rfl))
 f277 := Tryz.func188.trans (congrArg some (by kernel_rfl))
 t0 := Tryz.underlying0
 a0 := Tryz.isAgg0
 z0 := Tryz.sizeOf0
 v0 := Tryz.zeroValue0
 t3 := Tryz.underlying3
 a3 := Tryz.isAgg3
 z3 := Tryz.sizeOf3
 v3 := Tryz.zeroValue3
 t4 := Tryz.underlying4
 a4 := Tryz.isAgg4
 z4 := Tryz.sizeOf4
 v4 := Tryz.zeroValue4
 t9 := Tryz.underlying9
 a9 := Tryz.isAgg9
 z9 := Tryz.sizeOf9
 v9 := Tryz.zeroValue9
 t20 := Tryz.underlying20
 a20 := Tryz.isAgg20
 z20 := Tryz.sizeOf20
 v20 := Tryz.zeroValue20
 t31 := Tryz.underlying46
 a31 := Tryz.isAgg46
 z31 := Tryz.sizeOf46
 v31 := Tryz.zeroValue46
 t37 := Tryz.underlying22
 a37 := Tryz.isAgg22
 z37 := Tryz.sizeOf22
 v37 := Tryz.zeroValue22
 t70 := Tryz.underlying130
 a70 := Tryz.isAgg130
 z70 := Tryz.sizeOf130
 v70 := Tryz.zeroValue130
 t72 := Tryz.underlying132
 a72 := Tryz.isAgg132
 z72 := Tryz.sizeOf132
 v72 := Tryz.zeroValue132
 t75 := Tryz.underlying135
 a75 := Tryz.isAgg135
 z75 := Tryz.sizeOf135
 v75 := Tryz.zeroValue135
 t76 := Tryz.underlying136
 a76 := Tryz.isAgg136
 z76 := Tryz.sizeOf136
 v76 := Tryz.zeroValue136
 t127 := Tryz.underlying170
 a127 := Tryz.isAgg170
 z127 := Tryz.sizeOf170
 v127 := Tryz.zeroValue170
 t164 := Tryz.underlying210
 a164 := Tryz.isAgg210
 z164 := Tryz.sizeOf210
 v164 := Tryz.zeroValue210 }
theorem Tryz.Builder_Extra_156 : Builder.Extra Tryz.prog Tryz.lays156_ren := {
 sizeBuilder := by kernel_rfl
 liesBuilder := by kernel_rfl
 t5 := Tryz.underlying5
 a5 := Tryz.isAgg5
 z5 := Tryz.sizeOf5
 v5 := Tryz.zeroValue5
 infoByte := by kernel_rfl
 cellsByte := by kernel_rfl
 sizeByte := by kernel_rfl
 neB5 := by decide }
open Go.RowKit in
theorem Tryz.strings_Join_none (a : Option Addr) (c : Nat) (sep : ByteArray) (w : World) :
  Calls Tryz.prog 48 #[.slice a 0 c, .string sep] w fun e w' => e = .returned (.string ⟨#[]⟩) ∧ w' = w := Any.strings_Join_none Tryz.lays156 Tryz.Builder_Extra_156 a c sep w
open Go.RowKit in
theorem Tryz.strings_Join (bk o c : Nat) (xs : List ByteArray) (sep : ByteArray) (w : World) (hcells : ∀ (j : Nat) x, xs[j]? = some x → w.cell? ⟨bk, o + j, none⟩ = some (.string x)) (hbk : bk < w.heap.size) (hN : xs.length ≤ 140737488355328) (hcap : xs.length ≤ c) (hlen : (Lib.join (xs.map (·.data.toList)) sep.data.toList).length ≤ 140737488355328) :
  Calls Tryz.prog 48 #[.slice (some ⟨bk, o, none⟩) xs.length c, .string sep] w fun e w' => e = .returned (.string ⟨(Lib.join (xs.map (·.data.toList)) sep.data.toList).toArray⟩) ∧ Below w.heap.size w w' := Any.strings_Join Tryz.lays156 Tryz.Builder_Extra_156 bk o c xs sep w hcells hbk hN hcap hlen
def Tryz.laysM171_ren : Go.Shelf.Ren := ⟨fun | 171 => 46 | 243 => 90 | 246 => 135 | 283 => 183 | 284 => 184 | 285 => 185 | 286 => 186 | 129 => 231 | 317 => 242 | 318 => 243 | 319 => 244 | 320 => 245 | 337 => 285 | 338 => 286 | n => n, fun | 3 => 3 | 9 => 9 | 2 => 2 | 4 => 4 | 171 => 205 | 0 => 0 | 53 => 79 | 37 => 22 | 5 => 5 | 173 => 208 | 212 => 254 | 51 => 245 | 20 => 20 | 213 => 255 | 46 => 202 | 232 => 304 | 233 => 305 | n => n, fun | 17 => 0 | 18 => 6 | 19 => 7 | n => n⟩
theorem Tryz.laysM171 : Go.Proofs.LaysM.n171 Tryz.prog Tryz.laysM171_ren := {
 mixed := by kernel_rfl
 f129 := Tryz.func231.trans (congrArg some (by kernel_rfl))
 f171 := Tryz.func46.trans (congrArg some (by kernel_rfl))
 f243 := Tryz.func90.trans (congrArg some (by kernel_rfl))
 f246 := Tryz.func135.trans (congrArg some (by kernel_rfl))
 f283 := Tryz.func183.trans (congrArg some (by kernel_rfl))
 f284 := Tryz.func184.trans (congrArg some (by kernel_rfl))
 f285 := Tryz.func185.trans (congrArg some (by kernel_rfl))
 f286 := Tryz.func186.trans (congrArg some (by kernel_rfl))
 f317 := Tryz.func242.trans (congrArg some (by kernel_rfl))
 f318 := Tryz.func243.trans (congrArg some (by kernel_rfl))
 f319 := Tryz.func244.trans (congrArg some (by kernel_rfl))
 f320 := Tryz.func245.trans (congrArg some (by kernel_rfl))
 f337 := Tryz.func285.trans (congrArg some (by kernel_rfl))
 f338 := Tryz.func286.trans (congrArg some (by kernel_rfl))
 t0 := Tryz.underlying0
 a0 := Tryz.isAgg0
 z0 := Tryz.sizeOf0
 v0 := Tryz.zeroValue0
 t2 := Tryz.underlying2
 a2 := Tryz.isAgg2
 z2 := Tryz.sizeOf2
 v2 := Tryz.zeroValue2
 t3 := Tryz.underlying3
 a3 := Tryz.isAgg3
 z3 := Tryz.sizeOf3
 v3 := Tryz.zeroValue3
 t4 := Tryz.underlying4
 a4 := Tryz.isAgg4
 z4 := Tryz.sizeOf4
 v4 := Tryz.zeroValue4
 t5 := Tryz.underlying5
 a5 := Tryz.isAgg5
 z5 := Tryz.sizeOf5
 v5 := Tryz.zeroValue5
 t9 := Tryz.underlying9
 a9 := Tryz.isAgg9
 z9 := Tryz.sizeOf9
 v9 := Tryz.zeroValue9
 t20 := Tryz.underlying20
 a20 := Tryz.isAgg20
 z20 := Tryz.sizeOf20
 v20 := Tryz.zeroValue20
 t37 := Tryz.underlying22
 a37 := Tryz.isAgg22
 z37 := Tryz.sizeOf22
 v37 := Tryz.zeroValue22
 t46 := Tryz.underlying202
 a46 := Tryz.isAgg202
 z46 := Tryz.sizeOf202
 v46 := Tryz.zeroValue202
 t51 := Tryz.underlying245
 a51 := Tryz.isAgg245
 z51 := Tryz.sizeOf245
 v51 := Tryz.zeroValue245
 t53 := Tryz.underlying79
 a53 := Tryz.isAgg79
 z53 := Tryz.sizeOf79
 v53 := Tryz.zeroValue79
 t171 := Tryz.underlying205
 a171 := Tryz.isAgg205
 z171 := Tryz.sizeOf205
 v171 := Tryz.zeroValue205
 t173 := Tryz.underlying208
 a173 := Tryz.isAgg208
 z173 := Tryz.sizeOf208
 v173 := Tryz.zeroValue208
 t212 := Tryz.underlying254
 a212 := Tryz.isAgg254
 z212 := Tryz.sizeOf254
 v212 := Tryz.zeroValue254
 t213 := Tryz.underlying255
 a213 := Tryz.isAgg255
 z213 := Tryz.sizeOf255
 t232 := Tryz.underlying304
 a232 := Tryz.isAgg304
 z232 := Tryz.sizeOf304
 v232 := Tryz.zeroValue304
 t233 := Tryz.underlying305
 a233 := Tryz.isAgg305
 z233 := Tryz.sizeOf305
 v233 := Tryz.zeroValue305
 g17 := by kernel_rfl
 g18 := by kernel_rfl
 g19 := by kernel_rfl
 i0 := by kernel_rfl
 i2 := by kernel_rfl
 i3 := by kernel_rfl
 i4 := by kernel_rfl
 i5 := by kernel_rfl
 i9 := by kernel_rfl
 i20 := by kernel_rfl
 i37 := by kernel_rfl
 i46 := by kernel_rfl
 i51 := by kernel_rfl
 i53 := by kernel_rfl
 i171 := by kernel_rfl
 i173 := by kernel_rfl
 i212 := by kernel_rfl
 i232 := by kernel_rfl
 i233 := by kernel_rfl
 m17 := by kernel_rfl
 m18 := by kernel_rfl
 m19 := by kernel_rfl }
open Go.RowKit Go.Sort Go.Lib in
theorem Tryz.strconv_Itoa (n : Int) (h0 : -9223372036854775808 ≤ n) (h1 : n ≤ 9223372036854775807) (w : World) (htab : Lib.TabIs Tryz.prog w "internal/strconv.uint64pow10" .u64 Lib.pow10Tab) :
  Calls Tryz.prog 46 #[.int .i64 n] w fun e w' => e = .returned (.string ⟨(Lib.itoa n).toArray⟩) ∧ ∃ k os, w' = grow (w.drewN k) os := Any.strconv_Itoa Tryz.laysM171 n h0 h1 w htab
def Tryz.laysC172_ren : Go.Shelf.Ren := ⟨fun | 172 => 149 | 244 => 195 | 245 => 196 | 247 => 253 | 279 => 254 | 280 => 255 | 281 => 256 | 282 => 257 | 287 => 290 | 316 => 291 | 171 => 46 | 205 => 292 | 321 => 301 | 322 => 302 | 243 => 90 | 246 => 135 | 283 => 183 | 284 => 184 | 285 => 185 | 286 => 186 | 129 => 231 | 317 => 242 | 318 => 243 | 319 => 244 | 320 => 245 | 337 => 285 | 338 => 286 | n => n, fun | 9 => 9 | 3 => 3 | 75 => 135 | 76 => 136 | 4 => 4 | 5 => 5 | 167 => 257 | 37 => 22 | 0 => 0 | 85 => 258 | 2 => 2 | 168 => 260 | 53 => 79 | 175 => 290 | 46 => 202 | 210 => 294 | 127 => 170 | 145 => 309 | 143 => 307 | 21 => 21 | 171 => 205 | 173 => 208 | 212 => 254 | 51 => 245 | 20 => 20 | 213 => 255 | 232 => 304 | 233 => 305 | 80 => 100 | n => n, fun | 15 => 4 | 16 => 5 | 17 => 0 | 18 => 6 | 19 => 7 | n => n⟩
theorem Tryz.laysC172 : Go.Proofs.LaysC.n172 Tryz.prog Tryz.laysC172_ren := {
 mixed := by kernel_rfl
 f129 := Tryz.func231.trans (congrArg some (by kernel_rfl))
 f171 := Tryz.func46.trans (congrArg some (by kernel_rfl))
 f172 := Tryz.func149.trans (congrArg some (by kernel_rfl))
 f205 := Tryz.func292.trans (congrArg some (by kernel_rfl))
 f243 := Tryz.func90.trans (congrArg some (by kernel_rfl))
 f244 := Tryz.func195.trans (congrArg some (by kernel_rfl))
 f245 := Tryz.func196.trans (congrArg some (by kernel_rfl))
 f246 := Tryz.func135.trans (congrArg some (by kernel_rfl))
 f247 := Tryz.func253.trans (congrArg some (by kernel_rfl))
 f279 := Tryz.func254.trans (congrArg some (by kernel_rfl))
 f280 := Tryz.func255.trans (congrArg some (by kernel_rfl))
 f281 := Tryz.func256.trans (congrArg some (by kernel_rfl))
 f282 := Tryz.func257.trans (congrArg some (by kernel_rfl))
 f283 := Tryz.func183.trans (congrArg some (by kernel_rfl))
 f284 := Tryz.func184.trans (congrArg some (by kernel_rfl))
 f285 := Tryz.func185.trans (congrArg some (by kernel_rfl))
 f286 := Tryz.func186.trans (congrArg some (by kernel_rfl))
 f287 := Tryz.func290.trans (congrArg some (by kernel_rfl))
 f316 := Tryz.func291.trans (congrArg some (by kernel_rfl))
 f317 := Tryz.func242.trans (congrArg some (by kernel_rfl))
 f318 := Tryz.func243.trans (congrArg some (by kernel_rfl))
 f319 := Tryz.func244.trans (congrArg some (by kernel_rfl))
 f320 := Tryz.func245.trans (congrArg some (by kernel_rfl))
 f321 := Tryz.func301.trans (congrArg some (by kernel_rfl))
 f322 := Tryz.func302.trans (congrArg some (by kernel_rfl))
 f337 := Tryz.func285.trans (congrArg some (by kernel_rfl))
 f338 := Tryz.func286.trans (congrArg some (by kernel_rfl))
 t0 := Tryz.underlying0
 a0 := Tryz.isAgg0
 z0 := Tryz.sizeOf0
 v0 := Tryz.zeroValue0
 t2 := Tryz.underlying2
 a2 := Tryz.isAgg2
 z2 := Tryz.sizeOf2
 v2 := Tryz.zeroValue2
 t3 := Tryz.underlying3
 a3 := Tryz.isAgg3
 z3 := Tryz.sizeOf3
 v3 := Tryz.zeroValue3
 t4 := Tryz.underlying4
 a4 := Tryz.isAgg4
 z4 := Tryz.sizeOf4
 v4 := Tryz.zeroValue4
 t5 := Tryz.underlying5
 a5 := Tryz.isAgg5
 z5 := Tryz.sizeOf5
 v5 := Tryz.zeroValue5
 t9 := Tryz.underlying9
 a9 := Tryz.isAgg9
 z9 := Tryz.sizeOf9
 v9 := Tryz.zeroValue9
 t20 := Tryz.underlying20
 a20 := Tryz.isAgg20
 z20 := Tryz.sizeOf20
 v20 := Tryz.zeroValue20
 t21 := Tryz.underlying21
 a21 := Tryz.isAgg21
 z21 := Tryz.sizeOf21
 v21 := Tryz.zeroValue21
 t37 := Tryz.underlying22
 a37 := Tryz.isAgg22
 z37 := Tryz.sizeOf22
 v37 := Tryz.zeroValue22
 t46 := Tryz.underlying202
 a46 := Tryz.isAgg202
 z46 := Tryz.sizeOf202
 v46 := Tryz.zeroValue202
 t51 := Tryz.underlying245
 a51 := Tryz.isAgg245
 z51 := Tryz.sizeOf245
 v51 := Tryz.zeroValue245
 t53 := Tryz.underlying79
 a53 := Tryz.isAgg79
 z53 := Tryz.sizeOf79
 v53 := Tryz.zeroValue79
 t75 := Tryz.underlying135
 a75 := Tryz.isAgg135
 z75 := Tryz.sizeOf135
 v75 := Tryz.zeroValue135
 t76 := Tryz.underlying136
 a76 := Tryz.isAgg136
 z76 := Tryz.sizeOf136
 v76 := Tryz.zeroValue136
 t85 := Tryz.underlying258
 a85 := Tryz.isAgg258
 z85 := Tryz.sizeOf258
 v85 := Tryz.zeroValue258
 t127 := Tryz.underlying170
 a127 := Tryz.isAgg170
 z127 := Tryz.sizeOf170
 v127 := Tryz.zeroValue170
 t143 := Tryz.underlying307
 a143 := Tryz.isAgg307
 z143 := Tryz.sizeOf307
 v143 := Tryz.zeroValue307
 t145 := Tryz.underlying309
 a145 := Tryz.isAgg309
 z145 := Tryz.sizeOf309
 v145 := Tryz.zeroValue309
 t167 := Tryz.underlying257
 a167 := Tryz.isAgg257
 z167 := Tryz.sizeOf257
 v167 := Tryz.zeroValue257
 t168 := Tryz.underlying260
 a168 := Tryz.isAgg260
 z168 := Tryz.sizeOf260
 v168 := Tryz.zeroValue260
 t171 := Tryz.underlying205
 a171 := Tryz.isAgg205
 z171 := Tryz.sizeOf205
 v171 := Tryz.zeroValue205
 t173 := Tryz.underlying208
 a173 := Tryz.isAgg208
 z173 := Tryz.sizeOf208
 v173 := Tryz.zeroValue208
 t175 := Tryz.underlying290
 a175 := Tryz.isAgg290
 z175 := Tryz.sizeOf290
 v175 := Tryz.zeroValue290
 t210 := Tryz.underlying294
 a210 := Tryz.isAgg294
 z210 := Tryz.sizeOf294
 v210 := Tryz.zeroValue294
 t212 := Tryz.underlying254
 a212 := Tryz.isAgg254
 z212 := Tryz.sizeOf254
 v212 := Tryz.zeroValue254
 t213 := Tryz.underlying255
 a213 := Tryz.isAgg255
 z213 := Tryz.sizeOf255
 t232 := Tryz.underlying304
 a232 := Tryz.isAgg304
 z232 := Tryz.sizeOf304
 v232 := Tryz.zeroValue304
 t233 := Tryz.underlying305
 a233 := Tryz.isAgg305
 z233 := Tryz.sizeOf305
 v233 := Tryz.zeroValue305
 g15 := by kernel_rfl
 g16 := by kernel_rfl
 g17 := by kernel_rfl
 g18 := by kernel_rfl
 g19 := by kernel_rfl
 t80 := Tryz.underlying100
 a80 := Tryz.isAgg100
 z80 := Tryz.sizeOf100
 v80 := Tryz.zeroValue100
 i0 := by kernel_rfl
 i2 := by kernel_rfl
 i3 := by kernel_rfl
 i4 := by kernel_rfl
 i5 := by kernel_rfl
 i9 := by kernel_rfl
 i20 := by kernel_rfl
 i21 := by kernel_rfl
 i37 := by kernel_rfl
 i46 := by kernel_rfl
 i51 := by kernel_rfl
 i53 := by kernel_rfl
 i75 := by kernel_rfl
 i76 := by kernel_rfl
 i80 := by kernel_rfl
 i85 := by kernel_rfl
 i127 := by kernel_rfl
 i143 := by kernel_rfl
 i145 := by kernel_rfl
 i167 := by kernel_rfl
 i168 := by kernel_rfl
 i171 := by kernel_rfl
 i173 := by kernel_rfl
 i175 := by kernel_rfl
 i210 := by kernel_rfl
 i212 := by kernel_rfl
 i232 := by kernel_rfl
 i233 := by kernel_rfl
 m15 := by kernel_rfl
 m16 := by kernel_rfl
 m17 := by kernel_rfl
 m18 := by kernel_rfl
 m19 := by kernel_rfl
 c0 := by kernel_rfl
 c2 := by kernel_rfl
 c3 := by kernel_rfl
 c4 := by kernel_rfl
 c5 := by kernel_rfl
 c9 := by kernel_rfl
 c20 := by kernel_rfl
 c21 := by kernel_rfl
 c37 := by kernel_rfl
 c46 := by kernel_rfl
 c51 := by kernel_rfl
 c53 := by kernel_rfl
 c75 := by kernel_rfl
 c76 := by kernel_rfl
 c80 := by kernel_rfl
 c85 := by kernel_rfl
 c127 := by kernel_rfl
 c143 := by kernel_rfl
 c145 := by kernel_rfl
 c167 := by kernel_rfl
 c168 := by kernel_rfl
 c171 := by kernel_rfl
 c173 := by kernel_rfl
 c175 := by kernel_rfl
 c210 := by kernel_rfl
 c212 := by kernel_rfl
 c213 := by kernel_rfl
 c232 := by kernel_rfl
 c233 := by kernel_rfl }
open Go.RowKit in
theorem Tryz.strconv_Atoi_ok (s : ByteArray) (hmax : s.size ≤ 9223372036854775806) (v : Int) (h : Lib.atoiAll s.data.toList = .ok v) (w : World) :
  Calls Tryz.prog 149 #[.string s] w fun e w' => e = .returned (.tuple #[.int .i64 v, .nilIface]) ∧ (w' = w ∨ ∃ t, w' = Lib.bytesWorld w 5 t) := Any.strconv_Atoi_ok Tryz.laysC172 s hmax v h w
open Go.RowKit in
theorem Tryz.strconv_Atoi_syntax (s : ByteArray) (hlim : s.size ≤ 281474976710656) (h : Lib.atoiAll s.data.toList = .«syntax») (ev : Value) (w : World) (hv : w.cell? ⟨4, 0, none⟩ = some ev) (hev : ev = .nilIface ∨ ∃ te pe, ev = .iface te pe) :
  Calls Tryz.prog 149 #[.string s] w fun e w' => ∃ N, e = .returned (.tuple #[.int .i64 (0), .iface 260 (.pointer (some ⟨N, 0, none⟩))]) ∧ w.heap.size ≤ N ∧ w'.heap[N]? = some (.cells #[.string ⟨#[65, 116, 111, 105]⟩, .string s, ev] 294 (0, 0)) ∧ Below w.heap.size w w' := Any.strconv_Atoi_syntax Tryz.laysC172 s hlim h ev w hv hev
def Tryz.lays145_ren : Go.Shelf.Ren := ⟨fun | 145 => 103 | 220 => 148 | 219 => 194 | 217 => 249 | 225 => 250 | 224 => 251 | 267 => 252 | 266 => 288 | 314 => 289 | n => n, fun | 9 => 9 | 4 => 4 | 59 => 142 | 3 => 3 | 5 => 5 | 46 => 202 | 146 => 288 | 51 => 245 | n => n, fun | 1 => 1 | n => n⟩
theorem Tryz.lays145 : Go.Proofs.Lays.n145 Tryz.prog Tryz.lays145_ren := {
 mixed := by kernel_rfl
 f145 := Tryz.func103.trans (congrArg some (by kernel_rfl))
 f217 := Tryz.func249.trans (congrArg some (by kernel_rfl))
 f219 := Tryz.func194.trans (congrArg some (by kernel_rfl))
 f220 := Tryz.func148.trans (congrArg some (by kernel_rfl))
 f224 := Tryz.func251.trans (congrArg some (by kernel_rfl))
 f225 := Tryz.func250.trans (congrArg some (by kernel_rfl))
 f266 := Tryz.func288.trans (congrArg some (by kernel_rfl))
 f267 := Tryz.func252.trans (congrArg some (by kernel_rfl))
 f314 := Tryz.func289.trans (congrArg some (by kernel_rfl))
 t3 := Tryz.underlying3
 a3 := Tryz.isAgg3
 z3 := Tryz.sizeOf3
 v3 := Tryz.zeroValue3
 t4 := Tryz.underlying4
 a4 := Tryz.isAgg4
 z4 := Tryz.sizeOf4
 v4 := Tryz.zeroValue4
 t5 := Tryz.underlying5
 a5 := Tryz.isAgg5
 z5 := Tryz.sizeOf5
 v5 := Tryz.zeroValue5
 t9 := Tryz.underlying9
 a9 := Tryz.isAgg9
 z9 := Tryz.sizeOf9
 v9 := Tryz.zeroValue9
 t46 := Tryz.underlying202
 a46 := Tryz.isAgg202
 z46 := Tryz.sizeOf202
 v46 := Tryz.zeroValue202
 t51 := Tryz.underlying245
 a51 := Tryz.isAgg245
 z51 := Tryz.sizeOf245
 v51 := Tryz.zeroValue245
 t59 := Tryz.underlying142
 a59 := Tryz.isAgg142
 z59 := Tryz.sizeOf142
 v59 := Tryz.zeroValue142
 t146 := Tryz.underlying288
 a146 := Tryz.isAgg288
 z146 := Tryz.sizeOf288
 v146 := Tryz.zeroValue288
 g1 := by kernel_rfl }
open Go.RowKit Go.Lib in
theorem Tryz.strings_Cut (s sep : ByteArray) (m : Int) (w : World) (hs : s.size < 4294967281) (hm : w.cell? ⟨1, 0, none⟩ = some (.int .i64 m)) :
  Calls Tryz.prog 103 #[.string s, .string sep] w fun e w' => e = .returned (.tuple #[.string ⟨(Lib.cut s.data.toList sep.data.toList).1.toArray⟩, .string ⟨(Lib.cut s.data.toList sep.data.toList).2.1.toArray⟩, .bool (Lib.cut s.data.toList sep.data.toList).2.2]) ∧ ∃ n, w' = w.drewN n := Any.strings_Cut Tryz.lays145 s sep m w hs hm
def Tryz.lays146_ren : Go.Shelf.Ren := ⟨fun | 146 => 54 | 221 => 102 | 268 => 145 | 138 => 146 | 143 => 147 | 195 => 191 | 197 => 192 | 218 => 193 | 219 => 194 | 260 => 248 | 217 => 249 | 225 => 250 | 224 => 251 | 267 => 252 | 266 => 288 | 314 => 289 | n => n, fun | 9 => 9 | 31 => 46 | 3 => 3 | 4 => 4 | 0 => 0 | 105 => 217 | 21 => 21 | 5 => 5 | 46 => 202 | 119 => 284 | 139 => 287 | 138 => 286 | 146 => 288 | 51 => 245 | n => n, fun | 1 => 1 | 3 => 2 | 4 => 3 | n => n⟩
theorem Tryz.lays146 : Go.Proofs.Lays.n146 Tryz.prog Tryz.lays146_ren := {
 mixed := by kernel_rfl
 f138 := Tryz.func146.trans (congrArg some (by kernel_rfl))
 f143 := Tryz.func147.trans (congrArg some (by kernel_rfl))
 f146 := Tryz.func54.trans (congrArg some (by kernel_rfl))
 f195 := Tryz.func191.trans (congrArg some (by kernel_rfl))
 f197 := Tryz.func192.trans (congrArg some (by kernel_rfl))
 f217 := Tryz.func249.trans (congrArg some (by kernel_rfl))
 f218 := Tryz.func193.trans (congrArg some (by kernel_rfl))
 f219 := Tryz.func194.trans (congrArg some (by kernel_rfl))
 f221 := Tryz.func102.trans (congrArg some (by kernel_rfl))
 f224 := Tryz.func251.trans (congrArg some (by kernel_rfl))
 f225 := Tryz.func250.trans (congrArg some (by kernel_rfl))
 f260 := Tryz.func248.trans (congrArg some (by kernel_rfl))
 f266 := Tryz.func288.trans (congrArg some (by kernel_rfl))
 f267 := Tryz.func252.trans (congrArg some (by kernel_rfl))
 f268 := Tryz.func145.trans (congrArg some (by kernel_rfl))
 f314 := Tryz.func289.trans (congrArg some (by kernel_rfl))
 t0 := Tryz.underlying0
 a0 := Tryz.isAgg0
 z0 := Tryz.sizeOf0
 v0 := Tryz.zeroValue0
 t3 := Tryz.underlying3
 a3 := Tryz.isAgg3
 z3 := Tryz.sizeOf3
 v3 := Tryz.zeroValue3
 t4 := Tryz.underlying4
 a4 := Tryz.isAgg4
 z4 := Tryz.sizeOf4
 v4 := Tryz.zeroValue4
 t5 := Tryz.underlying5
 a5 := Tryz.isAgg5
 z5 := Tryz.sizeOf5
 v5 := Tryz.zeroValue5
 t9 := Tryz.underlying9
 a9 := Tryz.isAgg9
 z9 := Tryz.sizeOf9
 v9 := Tryz.zeroValue9
 t21 := Tryz.underlying21
 a21 := Tryz.isAgg21
 z21 := Tryz.sizeOf21
 v21 := Tryz.zeroValue21
 t31 := Tryz.underlying46
 a31 := Tryz.isAgg46
 z31 := Tryz.sizeOf46
 v31 := Tryz.zeroValue46
 t46 := Tryz.underlying202
 a46 := Tryz.isAgg202
 z46 := Tryz.sizeOf202
 v46 := Tryz.zeroValue202
 t51 := Tryz.underlying245
 a51 := Tryz.isAgg245
 z51 := Tryz.sizeOf245
 v51 := Tryz.zeroValue245
 t105 := Tryz.underlying217
 a105 := Tryz.isAgg217
 z105 := Tryz.sizeOf217
 v105 := Tryz.zeroValue217
 t119 := Tryz.underlying284
 a119 := Tryz.isAgg284
 z119 := Tryz.sizeOf284
 t138 := Tryz.underlying286
 a138 := Tryz.isAgg286
 z138 := Tryz.sizeOf286
 v138 := Tryz.zeroValue286
 t139 := Tryz.underlying287
 a139 := Tryz.isAgg287
 z139 := Tryz.sizeOf287
 v139 := Tryz.zeroValue287
 t146 := Tryz.underlying288
 a146 := Tryz.isAgg288
 z146 := Tryz.sizeOf288
 v146 := Tryz.zeroValue288
 g1 := by kernel_rfl
 g3 := by kernel_rfl
 g4 := by kernel_rfl }
open Go.RowKit Go.Lib in
theorem Tryz.strings_Split (s sep : ByteArray) (m : Int) (w : World) (hs : s.size < 4294967281) (hm : w.cell? ⟨1, 0, none⟩ = some (.int .i64 m)) (h1 : 1 ≤ sep.size) :
  Calls Tryz.prog 54 #[.string s, .string sep] w fun e w' =>
   e = .returned (.slice (some ⟨w.heap.size, 0, none⟩) (Lib.countB s sep + 1) (Lib.countB s sep + 1)) ∧ w' = w.alloc (.cells ((Lib.splitB sep 0 (Lib.countB s sep) s).map Value.string).toArray 9) := Any.strings_Split Tryz.lays146 (by kernel_rfl) s sep m w hs hm h1
end Go.Proofs
set_option maxRecDepth 20000
set_option maxHeartbeats 2000000
namespace Go.Proofs.YtajkbplgbikgdaaGreatDoor
namespace B1
open Go.RowKit Go.GL Go.Proofs
end B1
end Go.Proofs.YtajkbplgbikgdaaGreatDoor
namespace Go.Proofs.YtajkbplgbikgdaaGreatDoor
namespace C1
open Go.RowKit Go.GL Go.Proofs
open B1
end C1
section
open Go.RowKit Go.GL Go.Proofs
abbrev nGo := "runtime.NumGoroutine"
theorem ag117 : (Tryz.prog.underlying 117).map aggD = some false := by kernel_rfl
theorem ag22 : (Tryz.prog.underlying 22).map aggD = some false := by kernel_rfl
theorem ag24 : (Tryz.prog.underlying 24).map aggD = some false := by kernel_rfl
theorem ag26 : (Tryz.prog.underlying 26).map aggD = some true := by kernel_rfl
theorem ag3 : (Tryz.prog.underlying 3).map aggD = some false := by kernel_rfl
theorem ag36 : (Tryz.prog.underlying 36).map aggD = some false := by kernel_rfl
theorem ag38 : (Tryz.prog.underlying 38).map aggD = some true := by kernel_rfl
theorem ag4 : (Tryz.prog.underlying 4).map aggD = some false := by kernel_rfl
theorem ag5 : (Tryz.prog.underlying 5).map aggD = some false := by kernel_rfl
theorem ag59 : (Tryz.prog.underlying 59).map aggD = some false := by kernel_rfl
theorem ag65 : (Tryz.prog.underlying 65).map aggD = some true := by kernel_rfl
theorem ag72 : (Tryz.prog.underlying 72).map aggD = some true := by kernel_rfl
theorem ag79 : (Tryz.prog.underlying 79).map aggD = some false := by kernel_rfl
theorem ag9 : (Tryz.prog.underlying 9).map aggD = some false := by kernel_rfl
theorem ap26 : (Tryz.prog.info? 26).map (fun i => (i.size, i.bytes, (i.zero.map (·.cells.size)))) = some (1, 24, some 1) := by kernel_rfl
theorem ap3 : (Tryz.prog.info? 3).map (fun i => (i.size, i.bytes, (i.zero.map (·.cells.size)))) = some (1, 8, some 1) := by kernel_rfl
theorem ap65 : (Tryz.prog.info? 65).map (fun i => (i.size, i.bytes, (i.zero.map (·.cells.size)))) = some (2, 48, some 2) := by kernel_rfl
theorem ap72 : (Tryz.prog.info? 72).map (fun i => (i.size, i.bytes, (i.zero.map (·.cells.size)))) = some (4, 64, some 4) := by kernel_rfl
theorem ap9 : (Tryz.prog.info? 9).map (fun i => (i.size, i.bytes, (i.zero.map (·.cells.size)))) = some (1, 16, some 1) := by kernel_rfl
theorem sS : (Tryz.f100.name == nGo) = false := by kernel_rfl
theorem kC : (Tryz.f101.name == nGo) = false := by kernel_rfl
theorem nm103 : (Tryz.f103.name == nGo) = false := by kernel_rfl
theorem nm104 : (Tryz.f104.name == nGo) = false := by kernel_rfl
theorem nm105 : (Tryz.f105.name == nGo) = false := by kernel_rfl
theorem nm114 : (Tryz.f114.name == nGo) = false := by kernel_rfl
theorem nm122 : (Tryz.f122.name == nGo) = false := by kernel_rfl
theorem nm123 : (Tryz.f123.name == nGo) = false := by kernel_rfl
theorem nm124 : (Tryz.f124.name == nGo) = false := by kernel_rfl
theorem nm125 : (Tryz.f125.name == nGo) = false := by kernel_rfl
theorem nm126 : (Tryz.f126.name == nGo) = false := by kernel_rfl
theorem nm127 : (Tryz.f127.name == nGo) = false := by kernel_rfl
theorem nm128 : (Tryz.f128.name == nGo) = false := by kernel_rfl
theorem rW : (Tryz.f129.name == nGo) = false := by kernel_rfl
theorem nm130 : (Tryz.f130.name == nGo) = false := by kernel_rfl
theorem gL : (Tryz.f131.name == nGo) = false := by kernel_rfl
theorem nm134 : (Tryz.f134.name == nGo) = false := by kernel_rfl
theorem nm138 : (Tryz.f138.name == nGo) = false := by kernel_rfl
theorem nm139 : (Tryz.f139.name == nGo) = false := by kernel_rfl
theorem nm140 : (Tryz.f140.name == nGo) = false := by kernel_rfl
theorem nm141 : (Tryz.f141.name == nGo) = false := by kernel_rfl
theorem nm142 : (Tryz.f142.name == nGo) = false := by kernel_rfl
theorem nm143 : (Tryz.f143.name == nGo) = false := by kernel_rfl
theorem nm144 : (Tryz.f144.name == nGo) = false := by kernel_rfl
theorem nm149 : (Tryz.f149.name == nGo) = false := by kernel_rfl
theorem nm15 : (Tryz.f15.name == nGo) = false := by kernel_rfl
theorem nm150 : (Tryz.f150.name == nGo) = false := by kernel_rfl
theorem nm16 : (Tryz.f16.name == nGo) = false := by kernel_rfl
theorem nm17 : (Tryz.f17.name == nGo) = false := by kernel_rfl
theorem nm18 : (Tryz.f18.name == nGo) = false := by kernel_rfl
theorem nm182 : (Tryz.f182.name == nGo) = false := by kernel_rfl
theorem nm189 : (Tryz.f189.name == nGo) = false := by kernel_rfl
theorem nm19 : (Tryz.f19.name == nGo) = false := by kernel_rfl
theorem nm190 : (Tryz.f190.name == nGo) = false := by kernel_rfl
theorem nm20 : (Tryz.f20.name == nGo) = false := by kernel_rfl
theorem nm21 : (Tryz.f21.name == nGo) = false := by kernel_rfl
theorem nm246 : (Tryz.f246.name == nGo) = false := by kernel_rfl
theorem nm247 : (Tryz.f247.name == nGo) = false := by kernel_rfl
theorem sR : (Tryz.f287.name == nGo) = false := by kernel_rfl
theorem nm39 : (Tryz.f39.name == nGo) = false := by kernel_rfl
theorem nm44 : (Tryz.f44.name == nGo) = false := by kernel_rfl
theorem nm45 : (Tryz.f45.name == nGo) = false := by kernel_rfl
theorem nm46 : (Tryz.f46.name == nGo) = false := by kernel_rfl
theorem nm47 : (Tryz.f47.name == nGo) = false := by kernel_rfl
theorem nm48 : (Tryz.f48.name == nGo) = false := by kernel_rfl
theorem nm49 : (Tryz.f49.name == nGo) = false := by kernel_rfl
theorem nm50 : (Tryz.f50.name == nGo) = false := by kernel_rfl
theorem nm51 : (Tryz.f51.name == nGo) = false := by kernel_rfl
theorem nm52 : (Tryz.f52.name == nGo) = false := by kernel_rfl
theorem nm53 : (Tryz.f53.name == nGo) = false := by kernel_rfl
theorem nm54 : (Tryz.f54.name == nGo) = false := by kernel_rfl
theorem nm55 : (Tryz.f55.name == nGo) = false := by kernel_rfl
theorem nm56 : (Tryz.f56.name == nGo) = false := by kernel_rfl
theorem nm57 : (Tryz.f57.name == nGo) = false := by kernel_rfl
theorem nm58 : (Tryz.f58.name == nGo) = false := by kernel_rfl
theorem nm68 : (Tryz.f68.name == nGo) = false := by kernel_rfl
theorem nm69 : (Tryz.f69.name == nGo) = false := by kernel_rfl
theorem nm7 : (Tryz.f7.name == nGo) = false := by kernel_rfl
theorem nm74 : (Tryz.f74.name == nGo) = false := by kernel_rfl
theorem nm75 : (Tryz.f75.name == nGo) = false := by kernel_rfl
theorem nm76 : (Tryz.f76.name == nGo) = false := by kernel_rfl
theorem nm77 : (Tryz.f77.name == nGo) = false := by kernel_rfl
theorem nm78 : (Tryz.f78.name == nGo) = false := by kernel_rfl
theorem nm79 : (Tryz.f79.name == nGo) = false := by kernel_rfl
theorem nm89 : (Tryz.f89.name == nGo) = false := by kernel_rfl
theorem nm94 : (Tryz.f94.name == nGo) = false := by kernel_rfl
theorem nm95 : (Tryz.f95.name == nGo) = false := by kernel_rfl
theorem nm96 : (Tryz.f96.name == nGo) = false := by kernel_rfl
theorem nm97 : (Tryz.f97.name == nGo) = false := by kernel_rfl
theorem nm98 : (Tryz.f98.name == nGo) = false := by kernel_rfl
theorem nm99 : (Tryz.f99.name == nGo) = false := by kernel_rfl
theorem nz117 : (Tryz.prog.info? 117).map (·.size == 0) = some false := by kernel_rfl
theorem nz22 : (Tryz.prog.info? 22).map (·.size == 0) = some false := by kernel_rfl
theorem nz24 : (Tryz.prog.info? 24).map (·.size == 0) = some false := by kernel_rfl
theorem nz3 : (Tryz.prog.info? 3).map (·.size == 0) = some false := by kernel_rfl
theorem nz36 : (Tryz.prog.info? 36).map (·.size == 0) = some false := by kernel_rfl
theorem nz59 : (Tryz.prog.info? 59).map (·.size == 0) = some false := by kernel_rfl
theorem nz79 : (Tryz.prog.info? 79).map (·.size == 0) = some false := by kernel_rfl
theorem sz24 : (Tryz.prog.info? 24).map (·.size) = some 1 := by kernel_rfl
theorem sz26 : (Tryz.prog.info? 26).map (·.size) = some 1 := by kernel_rfl
theorem sz3 : (Tryz.prog.info? 3).map (·.size) = some 1 := by kernel_rfl
theorem sz36 : (Tryz.prog.info? 36).map (·.size) = some 1 := by kernel_rfl
theorem sz38 : (Tryz.prog.info? 38).map (·.size) = some 1 := by kernel_rfl
theorem sz4 : (Tryz.prog.info? 4).map (·.size) = some 1 := by kernel_rfl
theorem sz5 : (Tryz.prog.info? 5).map (·.size) = some 1 := by kernel_rfl
theorem sz59 : (Tryz.prog.info? 59).map (·.size) = some 1 := by kernel_rfl
theorem sz65 : (Tryz.prog.info? 65).map (·.size) = some 2 := by kernel_rfl
theorem sz72 : (Tryz.prog.info? 72).map (·.size) = some 4 := by kernel_rfl
theorem sz79 : (Tryz.prog.info? 79).map (·.size) = some 1 := by kernel_rfl
theorem sz9 : (Tryz.prog.info? 9).map (·.size) = some 1 := by kernel_rfl
theorem zr119 : (Tryz.prog.info? 119).bind (·.zero) = some (.agg #[(.slice none 0 0), (.slice none 0 0)]) := by kernel_rfl
theorem zr129 : (Tryz.prog.info? 129).bind (·.zero) = some (.agg #[(.slice none 0 0), (.slice none 0 0)]) := by kernel_rfl
theorem zr214 : (Tryz.prog.info? 214).bind (·.zero) = some (.agg #[(.pointer none), (.slice none 0 0)]) := by kernel_rfl
theorem zr26 : (Tryz.prog.info? 26).bind (·.zero) = some (.agg #[(.slice none 0 0)]) := by kernel_rfl
theorem zr3 : (Tryz.prog.info? 3).bind (·.zero) = some (.int .i64 0) := by kernel_rfl
theorem zr38 : (Tryz.prog.info? 38).bind (·.zero) = some (.agg #[(.slice none 0 0)]) := by kernel_rfl
theorem zr65 : (Tryz.prog.info? 65).bind (·.zero) = some (.agg #[(.slice none 0 0), (.slice none 0 0)]) := by kernel_rfl
theorem zr72 : (Tryz.prog.info? 72).bind (·.zero) = some (.agg #[(.int .i64 0), (.int .i64 0), (.slice none 0 0), (.slice none 0 0)]) := by kernel_rfl
theorem zr81 : (Tryz.prog.info? 81).bind (·.zero) = some (.agg #[(.slice none 0 0), (.int .i64 0), (.int .u64 0)]) := by kernel_rfl
theorem zr9 : (Tryz.prog.info? 9).bind (·.zero) = some (.string ByteArray.empty) := by kernel_rfl
theorem eR : type_of% @Tryz.underlying59 := @Tryz.underlying59
theorem eS : type_of% @Tryz.underlying72 := @Tryz.underlying72
theorem eT : type_of% @Tryz.underlying24 := @Tryz.underlying24
theorem eU : type_of% @Tryz.underlying36 := @Tryz.underlying36
theorem eV : type_of% @Tryz.underlying38 := @Tryz.underlying38
theorem eW : type_of% @Tryz.underlying9 := @Tryz.underlying9
theorem eX : type_of% @Tryz.underlying65 := @Tryz.underlying65
theorem eY : type_of% @Tryz.underlying26 := @Tryz.underlying26
theorem eZ : type_of% @Tryz.underlying46 := @Tryz.underlying46
theorem dA : type_of% @Tryz.underlying119 := @Tryz.underlying119
theorem dB : type_of% @Tryz.underlying166 := @Tryz.underlying166
theorem dC : type_of% @Tryz.underlying81 := @Tryz.underlying81
theorem dD : type_of% @Tryz.underlying125 := @Tryz.underlying125
theorem dE : type_of% @Tryz.underlying214 := @Tryz.underlying214
theorem dF : type_of% @Tryz.underlying3 := @Tryz.underlying3
theorem dG : type_of% @Tryz.underlying22 := @Tryz.underlying22
end
namespace C1
open Go.RowKit Go.GL Go.Proofs
variable {G : Pin} {x : Int} {v u : Value} {xs : List Int}
theorem jH {w : World} {a b : Int} (hP : Pins G w) :
  Calls Tryz.prog 95 [(.int .i64 x), (.int .i64 a), (.int .i64 b)].toArray w fun e w' => e = .returned (.bool (decide (a ≤ x ∧ x ≤ b))) ∧ w' = w := by
 refine yM (n := 15) Tryz.func95 Tryz.ntmps95 rfl rfl ?_
 have hX0 := exr noS hP
 refine zD (zE ?_)
 refine qD rfl (zC (v := (.bool false)) rfl) (qe (zA (zD (zE ?_))))
 refine qD rfl (zB (v := (.int .i64 x)) rfl) (qD rfl (zB (v := (.int .i64 a)) rfl) (qD rfl (rT rfl rfl) (qD rfl (zB (v := (.bool (decide ((a : Int) ≤ x)))) rfl) (qbd (p := (a : Int) ≤ x) (t := 10) rfl (fun h1 => ?_) (fun h1 => ?_)))))
 refine qdg rfl rfl rfl rfl rfl rfl (zB (v := (.int .i64 x)) rfl) (qdg rfl rfl rfl rfl rfl rfl (zB (v := (.int .i64 b)) rfl) (qdg rfl rfl rfl rfl rfl rfl (kL rfl rfl) (qD rfl (yG (v := (.bool (decide ((x : Int) ≤ b)))) rfl rfl) (qD rfl (zC (v := (.bool (decide ((x : Int) ≤ b)))) rfl) (qe (zA ?_))))))
 exact wp_ret (zQ (yA (v := (.bool (decide ((x : Int) ≤ b)))) rfl rfl rfl (⟨congrArg (fun z => Ending.returned (Value.bool z)) (decide_eq_decide.2 (by omega)), rfl⟩)))
 refine qs rfl rfl rfl rfl rfl rfl (qs rfl rfl rfl rfl rfl rfl (qs rfl rfl rfl rfl rfl rfl (qD rfl (yN (v := (.bool false)) rfl rfl) (qD rfl (zC (v := (.bool false)) rfl) (qe (zA ?_))))))
 exact wp_ret (zQ (yA (v := (.bool false)) rfl rfl rfl (⟨congrArg (fun z => Ending.returned (Value.bool z)) ((decide_eq_false (by omega)).symm), rfl⟩)))
theorem rZ {w : World} {y : Int} (hP : Pins G w) :
  Calls Tryz.prog 126 [(.int .i64 x), (.int .i64 y)].toArray w fun e w' => e = .returned (.int .i64 (max x y)) ∧ w' = w := by
 refine yM (n := 10) Tryz.func126 Tryz.ntmps126 rfl rfl ?_
 have hX0 := exr noS hP
 refine zD (zE ?_)
 refine qD rfl (zC (v := (.int .i64 0)) rfl) (qe (zA (zD (zD (zE ?_)))))
 refine qD rfl (zB (v := (.int .i64 x)) rfl) (qD rfl (zB (v := (.int .i64 y)) rfl) (qD rfl (qV rfl rfl) (qe (zA ?_))))
 refine yJ (p := (y : Int) < x) rfl rfl (fun h1 => ?_) (fun h1 => ?_)
 refine zD (zE ?_)
 refine qD rfl (zB (v := (.int .i64 x)) rfl) (qD rfl (zC (v := (.int .i64 x)) rfl) (qe (zA ?_)))
 exact wp_ret (zQ (yA (v := (.int .i64 x)) rfl rfl rfl (⟨congrArg (fun z => Ending.returned (Value.int .i64 z)) (by omega), rfl⟩)))
 refine wp_skip (zA (zD (zE ?_)))
 refine qD rfl (zB (v := (.int .i64 y)) rfl) (qD rfl (zC (v := (.int .i64 y)) rfl) (qe (zA ?_)))
 exact wp_ret (zQ (yA (v := (.int .i64 y)) rfl rfl rfl (⟨congrArg (fun z => Ending.returned (Value.int .i64 z)) (by omega), rfl⟩)))
theorem gM {w : World} {lo hi : Int} (hP : Pins G w) (hv : RSl eInt G v xs) :
  Calls Tryz.prog 122 [v, (.int .i64 lo), (.int .i64 hi)].toArray w fun e w' => e = .returned (.bool (decP (Rise xs lo hi))) ∧ Ext noS G w G w' := by
 refine yM (n := 38) Tryz.func122 Tryz.ntmps122 rfl rfl ?_
 have hX0 := exr noS hP
 have hm := hv.max
 refine zD (zE ?_)
 refine qD rfl (zC (v := (.bool false)) rfl) (qe (zA (zD (zD (zE ?_)))))
 refine qD rfl (zC (v := (.int .i64 0)) rfl) (qe (zA ?_))
 refine yI (yZ (fun (k : Nat) (en : Nat → Value) (W : World) => ∃ (env1 : Nat → Value) (j : Nat), en = (upd (upd (upd (upd env1 0 v) 1 (.int .i64 lo)) 2 (.int .i64 hi)) 7 (.int .i64 (j : Int))) ∧ k = xs.length - j ∧ Ext noS G w G W ∧ (j ≤ xs.length) ∧ (∀ i, i < j → (lo ≤ xs.getD i 0 ∧ xs.getD i 0 ≤ hi) ∧ (0 < i → xs.getD (i - 1) 0 < xs.getD i 0))) _ ⟨_, 0, (zF (x := 7) (zF (x := 2) (zF (x := 1) (yF (x := 0) rfl) rfl) rfl) rfl), rfl, hX0, Nat.zero_le _, (fun i hi => absurd hi (Nat.not_lt_zero i))⟩ ?_)
 rintro k1 _ w2 ⟨env1, j, rfl, hk3, hX4, hj, hp⟩
 refine zD (zD (zE ?_))
 refine qD rfl (zB (v := (.int .i64 (j : Int))) rfl) (qD rfl (zB (v := v) rfl) (qD rfl (run_len Tryz.underlying59 (v := v) rfl hv) (qD rfl (xB rfl rfl) (qe (zA ?_)))))
 refine yJ (p := ((j : Int) : Int) < (xs.length : Int)) rfl rfl (fun h5 => ?_) (fun h5 => ?_)
 refine wp_skip (zA (zD ?_))
 refine yI (zD (xD (S := fun wz => Pins G wz) (last := 24) (by kernel_rfl) rfl ?_))
 have hl6 := bdr w2
 have hX8 := hX4.step (hX4.pins.below hl6) hl6
 refine dT (i := 0) rfl rfl (by kernel_rfl) (fun _ _ => zB (v := v) rfl) hX8.pins ?_
 refine dT (i := 1) rfl rfl (by kernel_rfl) (fun _ _ => zB (v := (.int .i64 (j : Int))) rfl) hX8.pins ?_
 refine dT (i := 2) rfl rfl (by kernel_rfl) (fun _ _ => zL Tryz.underlying59 sz3 (v := v) rfl rfl hv (by omega) (by omega)) hX8.pins ?_
 refine dT (i := 3) rfl rfl (by kernel_rfl) (fun _ hS => zZ (r := xs.getD j 0) rfl ag3 (z := (j : Int)) rfl hv hS (by omega) (by omega)) hX8.pins ?_
 refine dT (i := 4) rfl rfl (by kernel_rfl) (fun _ _ => zB (v := (.int .i64 lo)) rfl) hX8.pins ?_
 refine dT (i := 5) rfl rfl (by kernel_rfl) (fun _ _ => zB (v := (.int .i64 hi)) rfl) hX8.pins ?_
 refine zR (i := 6) (by kernel_rfl) (yC (i := 6) rfl rfl rfl (zH rfl _) (zK (vs := [(.int .i64 (xs.getD j 0)), (.int .i64 lo), (.int .i64 hi)]) Tryz.func95 nm95 rfl rfl rfl ?_))
 refine dJ (jH hX8.pins) ?_
 rintro _ _ ⟨rfl, rfl⟩
 refine ⟨_, rfl, ?_⟩
 refine ⟨fun _ => hX8.pins, ?_⟩
 refine dT (i := 7) rfl rfl (by kernel_rfl) (fun _ _ => xT rfl) hX8.pins ?_
 refine dT (i := 8) rfl rfl (by kernel_rfl) (fun _ _ => zB (v := (.bool (!(decide ((lo : Int) ≤ (xs.getD j 0) ∧ (xs.getD j 0 : Int) ≤ hi))))) rfl) hX8.pins ?_
 refine drbn (t := 22) rfl (fun h9 => ?_) (fun h9 => ?_)
 replace h9 := of_decide_eq_true h9
 refine zW (i := 9) rfl rfl rfl (zO rfl rfl rfl rfl) (by kernel_rfl) (fun _ _ => zB (v := (.int .i64 (j : Int))) rfl) hX8.pins (zW (i := 10) rfl rfl rfl (zO rfl rfl rfl rfl) (by kernel_rfl) (fun _ _ => qV rfl rfl) hX8.pins (zW (i := 11) rfl rfl rfl (zO rfl rfl rfl rfl) (by kernel_rfl) (fun _ _ => zB (v := (.bool (decide ((0 : Int) < (j : Int))))) rfl) hX8.pins (drbd (p := (0 : Int) < (j : Int)) (t := 25) rfl (fun h10 => ?_) (fun h10 => ?_))))
 refine zW (i := 12) rfl rfl rfl (zO rfl rfl rfl rfl) (by kernel_rfl) (fun _ _ => zB (v := v) rfl) hX8.pins (zW (i := 13) rfl rfl rfl (zO rfl rfl rfl rfl) (by kernel_rfl) (fun _ _ => zB (v := (.int .i64 (j : Int))) rfl) hX8.pins (zW (i := 14) rfl rfl rfl (zO rfl rfl rfl rfl) (by kernel_rfl) (fun _ _ => vN rfl rfl (by omega)) hX8.pins (zW (i := 15) rfl rfl rfl (zO rfl rfl rfl rfl) (by kernel_rfl) (fun _ _ => zL Tryz.underlying59 sz3 (v := v) rfl rfl hv (by omega) (by omega)) hX8.pins (zW (i := 16) rfl rfl rfl (zO rfl rfl rfl rfl) (by kernel_rfl) (fun _ hS => zZ (r := xs.getD ((j : Int) - 1).toNat 0) rfl ag3 (z := ((j : Int) - 1)) rfl hv hS (by omega) (by omega)) hX8.pins (zW (i := 17) rfl rfl rfl (zO rfl rfl rfl rfl) (by kernel_rfl) (fun _ _ => zB (v := v) rfl) hX8.pins (zW (i := 18) rfl rfl rfl (zO rfl rfl rfl rfl) (by kernel_rfl) (fun _ _ => zB (v := (.int .i64 (j : Int))) rfl) hX8.pins (zW (i := 19) rfl rfl rfl (zO rfl rfl rfl rfl) (by kernel_rfl) (fun _ _ => zL Tryz.underlying59 sz3 (v := v) rfl rfl hv (by omega) (by omega)) hX8.pins (zW (i := 20) rfl rfl rfl (zO rfl rfl rfl rfl) (by kernel_rfl) (fun _ hS => zZ (r := xs.getD j 0) rfl ag3 (z := (j : Int)) rfl hv hS (by omega) (by omega)) hX8.pins (zW (i := 21) rfl rfl rfl (zO rfl rfl rfl rfl) (by kernel_rfl) (fun _ _ => rT rfl rfl) hX8.pins (zW (i := 22) rfl rfl rfl (zO rfl rfl rfl rfl) (by kernel_rfl) (fun _ _ => yG (v := (.bool (decide ((xs.getD j 0 : Int) ≤ (xs.getD ((j : Int) - 1).toNat 0))))) rfl rfl) hX8.pins (dT (i := 23) rfl rfl (by kernel_rfl) (fun _ _ => yN (v := (.bool (decide ((xs.getD j 0 : Int) ≤ (xs.getD ((j : Int) - 1).toNat 0))))) rfl rfl) hX8.pins ?_)))))))))))
 refine yP (by kernel_rfl) (zA (yJ (p := (xs.getD j 0 : Int) ≤ (xs.getD ((j : Int) - 1).toNat 0)) rfl rfl (fun h11 => ?_) (fun h11 => ?_)))
 refine zD (zE ?_)
 refine qD rfl (zC (v := (.bool false)) rfl) (qe (zA ?_))
 exact wp_ret (zQ (yA (v := (.bool false)) rfl rfl rfl (⟨congrArg (fun z => Ending.returned (Value.bool z)) (decP_false.2 (fun hR => by have := hR j (by omega); rw [show j - 1 = ((j : Int) - 1).toNat by omega] at this; omega)).symm, hX8⟩)))
 refine wp_skip (yO (zA (zE ?_)))
 refine qD rfl (zB (v := (.int .i64 (j : Int))) rfl) (qD rfl (yT rfl rfl (by omega)) (qD rfl (zC (v := (.int .i64 ((j : Int) + 1))) rfl) (qe (yR (⟨_, ?_, _, rfl, _, j + 1, (zF (x := 7) (zF (x := 2) (zF (x := 1) (yF (x := 0) rfl) rfl) rfl) rfl), rfl, hX8, (by omega), (sJ hp (by omega) (fun h0 => by rw [show j - 1 = ((j : Int) - 1).toNat by omega]; omega))⟩)))))
 omega
 refine zT (i := 12) rfl rfl (zY rfl rfl rfl rfl rfl) (by kernel_rfl) hX8.pins (zT (i := 13) rfl rfl (zY rfl rfl rfl rfl rfl) (by kernel_rfl) hX8.pins (zT (i := 14) rfl rfl (zY rfl rfl rfl rfl rfl) (by kernel_rfl) hX8.pins (zT (i := 15) rfl rfl (zY rfl rfl rfl rfl rfl) (by kernel_rfl) hX8.pins (zT (i := 16) rfl rfl (zY rfl rfl rfl rfl rfl) (by kernel_rfl) hX8.pins (zT (i := 17) rfl rfl (zY rfl rfl rfl rfl rfl) (by kernel_rfl) hX8.pins (zT (i := 18) rfl rfl (zY rfl rfl rfl rfl rfl) (by kernel_rfl) hX8.pins (zT (i := 19) rfl rfl (zY rfl rfl rfl rfl rfl) (by kernel_rfl) hX8.pins (zT (i := 20) rfl rfl (zY rfl rfl rfl rfl rfl) (by kernel_rfl) hX8.pins (zT (i := 21) rfl rfl (zY rfl rfl rfl rfl rfl) (by kernel_rfl) hX8.pins (zW (i := 22) rfl rfl rfl (zO rfl rfl rfl rfl) (by kernel_rfl) (fun _ _ => yN (v := (.bool false)) rfl rfl) hX8.pins (dT (i := 23) rfl rfl (by kernel_rfl) (fun _ _ => yN (v := (.bool false)) rfl rfl) hX8.pins ?_)))))))))))
 refine yP (by kernel_rfl) (zA (vP rfl rfl (wp_skip (yO (zA (zE ?_))))))
 refine qD rfl (zB (v := (.int .i64 (j : Int))) rfl) (qD rfl (yT rfl rfl (by omega)) (qD rfl (zC (v := (.int .i64 ((j : Int) + 1))) rfl) (qe (yR (⟨_, ?_, _, rfl, _, j + 1, (zF (x := 7) (zF (x := 2) (zF (x := 1) (yF (x := 0) rfl) rfl) rfl) rfl), rfl, hX8, (by omega), (sJ hp (by omega) (fun h0 => by rw [show j - 1 = ((j : Int) - 1).toNat by omega]; omega))⟩)))))
 omega
 replace h9 := of_decide_eq_false h9
 refine zT (i := 9) rfl rfl (zY rfl rfl rfl rfl rfl) (by kernel_rfl) hX8.pins (zT (i := 10) rfl rfl (zY rfl rfl rfl rfl rfl) (by kernel_rfl) hX8.pins (zT (i := 11) rfl rfl (zY rfl rfl rfl rfl rfl) (by kernel_rfl) hX8.pins (zT (i := 12) rfl rfl (xA rfl rfl rfl rfl) (by kernel_rfl) hX8.pins (zT (i := 13) rfl rfl (xA rfl rfl rfl rfl) (by kernel_rfl) hX8.pins (zT (i := 14) rfl rfl (xA rfl rfl rfl rfl) (by kernel_rfl) hX8.pins (zT (i := 15) rfl rfl (xA rfl rfl rfl rfl) (by kernel_rfl) hX8.pins (zT (i := 16) rfl rfl (xA rfl rfl rfl rfl) (by kernel_rfl) hX8.pins (zT (i := 17) rfl rfl (xA rfl rfl rfl rfl) (by kernel_rfl) hX8.pins (zT (i := 18) rfl rfl (xA rfl rfl rfl rfl) (by kernel_rfl) hX8.pins (zT (i := 19) rfl rfl (xA rfl rfl rfl rfl) (by kernel_rfl) hX8.pins (zT (i := 20) rfl rfl (xA rfl rfl rfl rfl) (by kernel_rfl) hX8.pins (zT (i := 21) rfl rfl (xA rfl rfl rfl rfl) (by kernel_rfl) hX8.pins (zT (i := 22) rfl rfl (zY rfl rfl rfl rfl rfl) (by kernel_rfl) hX8.pins (dT (i := 23) rfl rfl (by kernel_rfl) (fun _ _ => yG (v := (.bool true)) rfl rfl) hX8.pins ?_))))))))))))))
 refine yP (by kernel_rfl) (zA (qC rfl rfl (zD (zE ?_))))
 refine qD rfl (zC (v := (.bool false)) rfl) (qe (zA ?_))
 exact wp_ret (zQ (yA (v := (.bool false)) rfl rfl rfl (⟨congrArg (fun z => Ending.returned (Value.bool z)) (decP_false.2 (fun hR => by have := hR j (by omega); rw [show j - 1 = ((j : Int) - 1).toNat by omega] at this; omega)).symm, hX8⟩)))
 refine wp_exit (yK (yU (yV (zA (zD (zE ?_))))))
 refine qD rfl (zC (v := (.bool true)) rfl) (qe (zA ?_))
 exact wp_ret (zQ (yA (v := (.bool true)) rfl rfl rfl (⟨congrArg (fun z => Ending.returned (Value.bool z)) (decP_true.2 (Rise.done (by omega) hp)).symm, hX4⟩)))
theorem l3Fits_spec {w : World} {ns : List Nd} (hP : Pins G w) (hv : RSl eNode G v ns) :
  Calls Tryz.prog 75 [(.agg [v].toArray)].toArray w fun e w' => ∃ G', e = .returned (.bool (decP (FitsP ns))) ∧ Ext noS G w G' w' := by
 refine yM (n := 37) Tryz.func75 Tryz.ntmps75 rfl rfl ?_
 have hX0 := exr noS hP
 have hm := hv.max
 refine zD (zE ?_)
 refine qI rfl (xX [v] (v := (.agg [v].toArray)) rfl rfl hX0.pins (fun b1 w2 hk3 hb4 hp5 hl6 => ?_))
 have hlo8 : w.heap.size ≤ b1 := by have := hX0.size; omega
 obtain ⟨G9, hle10, hX11, hbp12, hf13⟩ := hb4.shut (hX0.step hp5 hl6) hlo8
 refine qD rfl (zC (v := (.bool false)) rfl) (qe (zA (zD (zD (zE ?_)))))
 refine qD rfl (zC (v := (.int .i64 0)) rfl) (qe (zA ?_))
 refine yI (yZ (fun (k : Nat) (en : Nat → Value) (W : World) => ∃ (env1 : Nat → Value) (j : Nat), en = (upd (upd env1 1 (.pointer (some ⟨b1, 0, none⟩))) 3 (.int .i64 (j : Int))) ∧ k = 121 - j ∧ Ext noS G w G9 W ∧ (j ≤ ns.length ∧ j ≤ 121) ∧ (∀ k, k < j → (ns.getD k default).l.length ≤ 24 ∧ (ns.getD k default).r.length ≤ 24)) _ ⟨_, 0, (zF (x := 3) (yF (x := 1) rfl) rfl), rfl, hX11, (by omega), (fun i hi => absurd hi (Nat.not_lt_zero i))⟩ ?_)
 rintro k14 _ w15 ⟨env1, j, rfl, hk16, hX17, hj, hp⟩
 refine zD (zD (zE ?_))
 refine qD rfl (zB (v := (.int .i64 (j : Int))) rfl) (qD rfl (zM (k := 0) rfl Tryz.underlying26 rfl nz24 rfl) (qD rfl (zP (u := v) ag24 rfl (hX17.pins _ _ _ (hbp12 0 _ rfl))) (qD rfl (run_len Tryz.underlying24 (v := v) rfl hv) (qD rfl (xB rfl rfl) (qD rfl (zB (v := (.bool (decide (((j : Int) : Int) < (ns.length : Int))))) rfl) (qbd (p := ((j : Int) : Int) < (ns.length : Int)) (t := 9) rfl (fun h18 => ?_) (fun h18 => ?_)))))))
 refine qdg rfl rfl rfl rfl rfl rfl (zB (v := (.int .i64 (j : Int))) rfl) (qdg rfl rfl rfl rfl rfl rfl (kL rfl rfl) (qD rfl (yG (v := (.bool (decide (((j : Int) : Int) ≤ 120)))) rfl rfl) (qe (zA ?_))))
 refine yJ (p := ((j : Int) : Int) ≤ 120) rfl rfl (fun h19 => ?_) (fun h19 => ?_)
 refine wp_skip (zA (zD ?_))
 refine yI (zD (zE ?_))
 refine qD rfl (zM (k := 0) rfl Tryz.underlying26 rfl nz24 rfl) (qD rfl (zP (u := v) ag24 rfl (hX17.pins _ _ _ (hbp12 0 _ rfl))) (qD rfl (zB (v := (.int .i64 (j : Int))) rfl) (qD rfl (zL Tryz.underlying24 sz65 (v := v) rfl rfl hv (by omega) (by omega)) (qD rfl (yS (off := 0) Tryz.underlying65 rfl rfl nz59 (z := (j : Int)) (k := 0) rfl hv (by omega) (by omega)) ?_))))
 obtain ⟨u20, hr21, hl22⟩ := vO (hv.at (z := (j : Int)) (by omega) (by omega)) (j := j) rfl
 have hm23 := hr21.max
 refine qD rfl (hl22 ag59 rfl (dI hX17.pins hle10)) (qD rfl (run_len Tryz.underlying59 (v := u20) rfl hr21) (qD rfl (qV rfl rfl) (qD rfl (zB (v := (.bool (decide ((24 : Int) < (((ns.getD j default).l).length : Int))))) rfl) (qbd (p := (24 : Int) < (((ns.getD j default).l).length : Int)) (t := 23) rfl (fun h24 => ?_) (fun h24 => ?_)))))
 refine qs rfl rfl rfl rfl rfl rfl (qs rfl rfl rfl rfl rfl rfl (qs rfl rfl rfl rfl rfl rfl (qs rfl rfl rfl rfl rfl rfl (qs rfl rfl rfl rfl rfl rfl (qs rfl rfl rfl rfl rfl rfl (qs rfl rfl rfl rfl rfl rfl (qs rfl rfl rfl rfl rfl rfl (qD rfl (yG (v := (.bool true)) rfl rfl) (qe (zA ?_))))))))))
 refine qC rfl rfl (zD (zE ?_))
 refine qD rfl (zC (v := (.bool false)) rfl) (qe (zA ?_))
 exact wp_ret (zQ (yA (v := (.bool false)) rfl rfl rfl (⟨_, congrArg (fun z => Ending.returned (Value.bool z)) (decP_false.2 (fun g => by have := g.opts j (by omega); omega)).symm, hX17⟩)))
 refine qdg rfl rfl rfl rfl rfl rfl (zM (k := 0) rfl Tryz.underlying26 rfl nz24 rfl) (qdg rfl rfl rfl rfl rfl rfl (zP (u := v) ag24 rfl (hX17.pins _ _ _ (hbp12 0 _ rfl))) (qdg rfl rfl rfl rfl rfl rfl (zB (v := (.int .i64 (j : Int))) rfl) (qdg rfl rfl rfl rfl rfl rfl (zL Tryz.underlying24 sz65 (v := v) rfl rfl hv (by omega) (by omega)) (qdg rfl rfl rfl rfl rfl rfl (yS (off := 1) Tryz.underlying65 rfl rfl nz59 (z := (j : Int)) (k := 0) rfl hv (by omega) (by omega)) ?_))))
 obtain ⟨u25, hr26, hl27⟩ := vH (hv.at (z := (j : Int)) (by omega) (by omega)) (j := j) rfl
 have hm28 := hr26.max
 refine qdg rfl rfl rfl rfl rfl rfl (hl27 ag59 rfl (dI hX17.pins hle10)) (qdg rfl rfl rfl rfl rfl rfl (run_len Tryz.underlying59 (v := u25) rfl hr26) (qdg rfl rfl rfl rfl rfl rfl (qV rfl rfl) (qD rfl (yN (v := (.bool (decide ((24 : Int) < (((ns.getD j default).r).length : Int))))) rfl rfl) (qe (zA ?_)))))
 refine yJ (p := (24 : Int) < (((ns.getD j default).r).length : Int)) rfl rfl (fun h29 => ?_) (fun h29 => ?_)
 refine zD (zE ?_)
 refine qD rfl (zC (v := (.bool false)) rfl) (qe (zA ?_))
 exact wp_ret (zQ (yA (v := (.bool false)) rfl rfl rfl (⟨_, congrArg (fun z => Ending.returned (Value.bool z)) (decP_false.2 (fun g => by have := g.opts j (by omega); omega)).symm, hX17⟩)))
 refine wp_skip (yO (zA (zE ?_)))
 refine qD rfl (zB (v := (.int .i64 (j : Int))) rfl) (qD rfl (yT rfl rfl (by omega)) (qD rfl (zC (v := (.int .i64 ((j : Int) + 1))) rfl) (qe (yR (⟨_, ?_, _, rfl, _, j + 1, (zF (x := 3) (yF (x := 1) rfl) rfl), rfl, hX17, (by omega), (fun k hk => if h3 : k = j then h3 ▸ ⟨by omega, by omega⟩ else hp k (by omega))⟩)))))
 omega
 refine wp_exit (yK (yU (yV (zA (zD (zE ?_))))))
 refine qD rfl (zM (k := 0) rfl Tryz.underlying26 rfl nz24 rfl) (qD rfl (zP (u := v) ag24 rfl (hX17.pins _ _ _ (hbp12 0 _ rfl))) (qD rfl (run_len Tryz.underlying24 (v := v) rfl hv) (qI rfl (zK (vs := [(.int .i64 (ns.length : Int)), (.int .i64 1), (.int .i64 120)]) Tryz.func95 nm95 rfl rfl rfl ?_))))
 refine dJ (jH hX17.pins) ?_
 rintro _ _ ⟨rfl, rfl⟩
 refine ⟨_, rfl, ?_⟩
 refine qD rfl (zC (v := (.bool (decide ((1 : Int) ≤ (ns.length : Int) ∧ ((ns.length : Int) : Int) ≤ 120)))) rfl) (qe (zA ?_))
 exact wp_ret (zQ (yA (v := (.bool (decide ((1 : Int) ≤ (ns.length : Int) ∧ ((ns.length : Int) : Int) ≤ 120)))) rfl rfl rfl (⟨_, congrArg (fun z => Ending.returned (Value.bool z)) (fits_end hp (by omega) (by omega)), hX17⟩)))
 refine qs rfl rfl rfl rfl rfl rfl (qs rfl rfl rfl rfl rfl rfl (qD rfl (yN (v := (.bool false)) rfl rfl) (qe (zA ?_))))
 refine vP rfl rfl (wp_exit (yK (yU (yV (zA (zD (zE ?_)))))))
 refine qD rfl (zM (k := 0) rfl Tryz.underlying26 rfl nz24 rfl) (qD rfl (zP (u := v) ag24 rfl (hX17.pins _ _ _ (hbp12 0 _ rfl))) (qD rfl (run_len Tryz.underlying24 (v := v) rfl hv) (qI rfl (zK (vs := [(.int .i64 (ns.length : Int)), (.int .i64 1), (.int .i64 120)]) Tryz.func95 nm95 rfl rfl rfl ?_))))
 refine dJ (jH hX17.pins) ?_
 rintro _ _ ⟨rfl, rfl⟩
 refine ⟨_, rfl, ?_⟩
 refine qD rfl (zC (v := (.bool (decide ((1 : Int) ≤ (ns.length : Int) ∧ ((ns.length : Int) : Int) ≤ 120)))) rfl) (qe (zA ?_))
 exact wp_ret (zQ (yA (v := (.bool (decide ((1 : Int) ≤ (ns.length : Int) ∧ ((ns.length : Int) : Int) ≤ 120)))) rfl rfl rfl (⟨_, congrArg (fun z => Ending.returned (Value.bool z)) (fits_end hp (by omega) (by omega)), hX17⟩)))
theorem gS {w : World} {n : Int} (hP : Pins G w) (hv : RSl eInt G v xs) (hs : xs.length ≤ 2097152) :
  Calls Tryz.prog 125 [v, (.int .i64 n)].toArray w fun e w' => ∃ (u : Value) (G' : Pin), e = .returned u ∧ RSl eInt G' u (putL xs n) ∧ Ext noS G w G' w' := by
 refine yM (n := 45) Tryz.func125 Tryz.ntmps125 rfl rfl ?_
 have hX0 := exr noS hP
 refine zD (zE ?_)
 refine qD rfl (zC (v := (.slice none 0 0)) rfl) (qe (zA (zD (zE ?_))))
 refine qD rfl (zC (v := (.int .i64 0)) rfl) (qe (zA (zD ?_)))
 refine yI (yZ (fun (k : Nat) (en : Nat → Value) (W : World) => ∃ (env1 : Nat → Value) (j : Nat), en = (upd (upd (upd (upd env1 0 v) 1 (.int .i64 n)) 4 (.slice none 0 0)) 5 (.int .i64 (j : Int))) ∧ k = xs.length - j ∧ Ext noS G w G W ∧ (j ≤ xs.length) ∧ (putL xs n = xs.take j ++ putL (xs.drop j) n)) _ ⟨_, 0, (zF (x := 5) (zF (x := 4) (zF (x := 1) (yF (x := 0) rfl) rfl) rfl) rfl), rfl, hX0, Nat.zero_le _, rfl⟩ ?_)
 rintro k1 _ w2 ⟨env1, j, rfl, hk3, hX4, hj, hr⟩
 refine zD (zD (zE ?_))
 refine qD rfl (zB (v := (.int .i64 (j : Int))) rfl) (qD rfl (zB (v := v) rfl) (qD rfl (run_len Tryz.underlying59 (v := v) rfl hv) (qD rfl (xB rfl rfl) (qD rfl (zB (v := (.bool (decide (((j : Int) : Int) < (xs.length : Int))))) rfl) (qbd (p := ((j : Int) : Int) < (xs.length : Int)) (t := 10) rfl (fun h5 => ?_) (fun h5 => ?_))))))
 refine qdg rfl rfl rfl rfl rfl rfl (zB (v := v) rfl) (qdg rfl rfl rfl rfl rfl rfl (zB (v := (.int .i64 (j : Int))) rfl) (qdg rfl rfl rfl rfl rfl rfl (zL Tryz.underlying59 sz3 (v := v) rfl rfl hv (by omega) (by omega)) (qdg rfl rfl rfl rfl rfl rfl (zZ (r := xs.getD j 0) rfl ag3 (z := (j : Int)) rfl hv hX4.pins (by omega) (by omega)) (qdg rfl rfl rfl rfl rfl rfl (zB (v := (.int .i64 n)) rfl) (qdg rfl rfl rfl rfl rfl rfl (xB rfl rfl) (qD rfl (yG (v := (.bool (decide ((xs.getD j 0 : Int) < n)))) rfl rfl) (qe (zA ?_))))))))
 refine yJ (p := (xs.getD j 0 : Int) < n) rfl rfl (fun h6 => ?_) (fun h6 => ?_)
 refine wp_skip (zA (yI (zE (qD rfl (zB (v := (.int .i64 (j : Int))) rfl) (qD rfl (yT rfl rfl (by omega)) (qD rfl (zC (v := (.int .i64 ((j : Int) + 1))) rfl) (qe (yO (yR (⟨_, ?_, _, rfl, _, j + 1, (zF (x := 5) (zF (x := 4) (zF (x := 1) (yF (x := 0) rfl) rfl) rfl) rfl), rfl, hX4, (by omega), (put_next (by omega) (by omega) hr)⟩))))))))))
 omega
 refine wp_exit (yK (yU (yV (zA (zD (zD (zE ?_)))))))
 refine qD rfl (zB (v := (.int .i64 (j : Int))) rfl) (qD rfl (zB (v := v) rfl) (qD rfl (run_len Tryz.underlying59 (v := v) rfl hv) (qD rfl (xB rfl rfl) (qD rfl (zB (v := (.bool (decide (((j : Int) : Int) < (xs.length : Int))))) rfl) (qbd (p := ((j : Int) : Int) < (xs.length : Int)) (t := 24) rfl (fun _ => ?_) (fun h => absurd h5 h))))))
 refine qdg rfl rfl rfl rfl rfl rfl (zB (v := v) rfl) (qdg rfl rfl rfl rfl rfl rfl (zB (v := (.int .i64 (j : Int))) rfl) (qdg rfl rfl rfl rfl rfl rfl (zL Tryz.underlying59 sz3 (v := v) rfl rfl hv (by omega) (by omega)) (qdg rfl rfl rfl rfl rfl rfl (zZ (r := xs.getD j 0) rfl ag3 (z := (j : Int)) rfl hv hX4.pins (by omega) (by omega)) (qdg rfl rfl rfl rfl rfl rfl (zB (v := (.int .i64 n)) rfl) (qdg rfl rfl rfl rfl rfl rfl (qN rfl rfl) (qD rfl (yG (v := (.bool (decide ((xs.getD j 0 : Int) = n)))) rfl rfl) (qe (zA ?_))))))))
 refine yJ (p := (xs.getD j 0 : Int) = n) rfl rfl (fun h8 => ?_) (fun h8 => ?_)
 refine zD (zE ?_)
 refine qD rfl (zB (v := v) rfl) (qD rfl (zC (v := v) rfl) (qe (zA ?_)))
 exact wp_ret (zQ (yA (v := v) rfl rfl rfl (⟨_, _, rfl, (by rw [put_hit (by omega) (by omega) hr]; exact hv), hX4⟩)))
 refine wp_skip (zA (zD ?_))
 refine eH (fun (en : Nat → Value) (W : World) => ∃ (env1 : Nat → Value) (c9 : Value) (G10 : Pin), en = (upd env1 4 c9) ∧ Ext noS G w G10 W ∧ Pin.le G G10 ∧ (Own eInt 3 G10 W w.heap.size c9 (((([]) ++ ((xs.take j).drop 0)) ++ ([n])) ++ ((xs.take xs.length).drop j)))) ?_ ?_
 ·rintro _ w11 ⟨env1, c9, G10, rfl, hX13, hle14, ho12⟩
  refine zA (wp_ret (zQ (yA (v := c9) rfl rfl rfl ?_)))
  obtain ⟨G15, hle18, hX17, hr16, hf19⟩ := ho12.sealed hX13
  exact ⟨_, _, rfl, (by rw [← put_new (fun h => ⟨by omega, by omega⟩) hr]; exact hr16), hX17⟩
 refine xD (S := fun wz => Pins G wz) (last := 13) (by kernel_rfl) rfl ?_
 have hl20 := bdr w2
 have hX22 := hX4.step (hX4.pins.below hl20) hl20
 refine dT (i := 1) rfl rfl (by kernel_rfl) (fun _ _ => zB (v := v) rfl) hX22.pins ?_
 refine dT (i := 2) rfl rfl (by kernel_rfl) (fun _ _ => zB (v := (.int .i64 (j : Int))) rfl) hX22.pins ?_
 obtain ⟨u23, hr24, hl25⟩ := qR hv (lo := none) (hi := (some ((j : Int)))) (0) (j) (Or.inl ⟨rfl, rfl⟩) (Or.inr ⟨_, rfl, (by omega), rfl⟩) (by omega) (by omega)
 refine dT (i := 3) rfl rfl (by kernel_rfl) (fun _ _ => hl25 Tryz.underlying59 sz3 rfl rfl rfl) hX22.pins ?_
 refine dT (i := 5) rfl rfl (by kernel_rfl) (fun _ _ => zB (v := (.int .i64 n)) rfl) hX22.pins ?_
 refine dT (i := 8) rfl rfl (by kernel_rfl) (fun _ _ => zB (v := v) rfl) hX22.pins ?_
 refine dT (i := 9) rfl rfl (by kernel_rfl) (fun _ _ => zB (v := (.int .i64 (j : Int))) rfl) hX22.pins ?_
 obtain ⟨u26, hr27, hl28⟩ := qR hv (lo := (some ((j : Int)))) (hi := none) (j) (xs.length) (Or.inr ⟨_, rfl, (by omega), rfl⟩) (Or.inl ⟨rfl, rfl⟩) (by omega) (by omega)
 refine dT (i := 10) rfl rfl (by kernel_rfl) (fun _ _ => hl28 Tryz.underlying59 sz3 rfl rfl rfl) hX22.pins ?_
 refine jI (i := 0) (j := 6) (by kernel_rfl) ?_ ?_
 refine (yC (i := 0) rfl rfl rfl (zH rfl _) (xF (E := eInt) (e := 3) Tryz.underlying59 sz3 hX22.pins (fun u29 w30 ho31 hp32 hl33 hk34 => ?_)))
 have hX35 := hX22.step hp32 hl33
 have ho36 := ho31.weaken hX22.size
 refine ⟨fun _ => hX35.pins, ?_⟩
 refine jI (i := 4) (j := 6) (by kernel_rfl) ?_ ?_
 refine (yC (i := 4) rfl rfl rfl (zH rfl _) (yH (E := eInt) (v := u29) (u := u23) 8 Tryz.underlying59 ap3 (by decide) rfl rfl hX35.pins ho36 ((hr24.mono (Pin.le_refl _)).src hX35.pins (by decide)) (by first | omega | (rw [List.nil_append]; omega) | (rw [List.length_nil]; omega) | (rw [List.length_append]; omega) | (simp; done) | (simp; omega) | (simp only [List.length_append, List.length_cons, List.length_nil]; omega)) (by first | omega | (rw [List.nil_append]; omega) | (rw [List.length_nil]; omega) | (rw [List.length_append]; omega) | (simp; done) | (simp; omega) | (simp only [List.length_append, List.length_cons, List.length_nil]; omega)) (hX35.size) (fun u37 w38 ho39 hp40 hg41 hw42 => ?_)))
 have hX43 := hX35.write hp40 hg41 ((yQ ho36))
 have hm44 := la2 ([]) ((xs.take j).drop 0)
 refine ⟨fun _ => hX43.pins, ?_⟩
 refine zR (i := 6) (by kernel_rfl) (yC (i := 6) rfl rfl rfl (zH rfl _) (xI (E := eInt) (e := 3) [(.int .i64 n)] [n] Tryz.underlying59 sz3 zr3 (by exact qQ (by rfl)) (yE (by rfl)) rfl rfl rfl rfl (by decide) hX43.pins (fun u45 w46 ho47 hp48 hl49 hk50 => ?_)))
 have hX51 := hX43.step hp48 hl49
 have ho52 := ho39.below hl49
 have ho54 := ho47.weaken hX43.size
 refine ⟨fun _ => hX51.pins, ?_⟩
 refine zR (i := 7) (by kernel_rfl) (yC (i := 7) rfl rfl rfl (zH rfl _) (yH (E := eInt) (v := u37) (u := u45) 8 Tryz.underlying59 ap3 (by decide) rfl rfl hX51.pins ho52 ho54.src (by first | omega | (rw [List.nil_append]; omega) | (rw [List.length_nil]; omega) | (rw [List.length_append]; omega) | (simp; done) | (simp; omega) | (simp only [List.length_append, List.length_cons, List.length_nil]; omega)) (by first | omega | (rw [List.nil_append]; omega) | (rw [List.length_nil]; omega) | (rw [List.length_append]; omega) | (simp; done) | (simp; omega) | (simp only [List.length_append, List.length_cons, List.length_nil]; omega)) (hX51.size) (fun u55 w56 ho57 hp58 hg59 hw60 => ?_)))
 have hX61 := hX51.write hp58 hg59 ((yQ ho52))
 have hm64 := la1 (([]) ++ ((xs.take j).drop 0)) n
 refine ⟨fun _ => hX61.pins, ?_⟩
 refine zR (i := 11) (by kernel_rfl) (yC (i := 11) rfl rfl rfl (zH rfl _) (yH (E := eInt) (v := u55) (u := u26) 8 Tryz.underlying59 ap3 (by decide) rfl rfl hX61.pins ho57 ((hr27.mono (Pin.le_refl _)).src hX61.pins (by decide)) (by first | omega | (rw [List.nil_append]; omega) | (rw [List.length_nil]; omega) | (rw [List.length_append]; omega) | (simp; done) | (simp; omega) | (simp only [List.length_append, List.length_cons, List.length_nil]; omega)) (by first | omega | (rw [List.nil_append]; omega) | (rw [List.length_nil]; omega) | (rw [List.length_append]; omega) | (simp; done) | (simp; omega) | (simp only [List.length_append, List.length_cons, List.length_nil]; omega)) (hX61.size) (fun u65 w66 ho67 hp68 hg69 hw70 => ?_)))
 have hX71 := hX61.write hp68 hg69 ((yQ ho57))
 have hm72 := la2 ((([]) ++ ((xs.take j).drop 0)) ++ ([n])) ((xs.take xs.length).drop j)
 refine ⟨fun _ => hX71.pins, ?_⟩
 refine dT (i := 12) rfl rfl (by kernel_rfl) (fun _ _ => zC (v := u65) rfl) hX71.pins ?_
 exact yP (by kernel_rfl) (qS ⟨_, u65, G, (yF (x := 4) rfl), hX71, (Pin.le_refl _), ho67⟩)
 refine (yC (i := 6) rfl rfl rfl (zH rfl _) (xI (E := eInt) (e := 3) [(.int .i64 n)] [n] Tryz.underlying59 sz3 zr3 (by exact qQ (by rfl)) (yE (by rfl)) rfl rfl rfl rfl (by decide) hX35.pins (fun u73 w74 ho75 hp76 hl77 hk78 => ?_)))
 have hX79 := hX35.step hp76 hl77
 have ho80 := ho36.below hl77
 have ho82 := ho75.weaken hX35.size
 refine ⟨fun _ => hX79.pins, ?_⟩
 refine zR (i := 4) (by kernel_rfl) (yC (i := 4) rfl rfl rfl (zH rfl _) (yH (E := eInt) (v := u29) (u := u23) 8 Tryz.underlying59 ap3 (by decide) rfl rfl hX79.pins ho80 ((hr24.mono (Pin.le_refl _)).src hX79.pins (by decide)) (by first | omega | (rw [List.nil_append]; omega) | (rw [List.length_nil]; omega) | (rw [List.length_append]; omega) | (simp; done) | (simp; omega) | (simp only [List.length_append, List.length_cons, List.length_nil]; omega)) (by first | omega | (rw [List.nil_append]; omega) | (rw [List.length_nil]; omega) | (rw [List.length_append]; omega) | (simp; done) | (simp; omega) | (simp only [List.length_append, List.length_cons, List.length_nil]; omega)) (hX79.size) (fun u83 w84 ho85 hp86 hg87 hw88 => ?_)))
 have hX89 := hX79.write hp86 hg87 ((yQ ho80))
 have hm92 := la2 ([]) ((xs.take j).drop 0)
 refine ⟨fun _ => hX89.pins, ?_⟩
 refine zR (i := 7) (by kernel_rfl) (yC (i := 7) rfl rfl rfl (zH rfl _) (yH (E := eInt) (v := u83) (u := u73) 8 Tryz.underlying59 ap3 (by decide) rfl rfl hX89.pins ho85 (ho82.keptA hg87 (zI hk78 ho36.lt)).src (by first | omega | (rw [List.nil_append]; omega) | (rw [List.length_nil]; omega) | (rw [List.length_append]; omega) | (simp; done) | (simp; omega) | (simp only [List.length_append, List.length_cons, List.length_nil]; omega)) (by first | omega | (rw [List.nil_append]; omega) | (rw [List.length_nil]; omega) | (rw [List.length_append]; omega) | (simp; done) | (simp; omega) | (simp only [List.length_append, List.length_cons, List.length_nil]; omega)) (hX89.size) (fun u93 w94 ho95 hp96 hg97 hw98 => ?_)))
 have hX99 := hX89.write hp96 hg97 ((yQ ho85))
 have hm102 := la1 (([]) ++ ((xs.take j).drop 0)) n
 refine ⟨fun _ => hX99.pins, ?_⟩
 refine zR (i := 11) (by kernel_rfl) (yC (i := 11) rfl rfl rfl (zH rfl _) (yH (E := eInt) (v := u93) (u := u26) 8 Tryz.underlying59 ap3 (by decide) rfl rfl hX99.pins ho95 ((hr27.mono (Pin.le_refl _)).src hX99.pins (by decide)) (by first | omega | (rw [List.nil_append]; omega) | (rw [List.length_nil]; omega) | (rw [List.length_append]; omega) | (simp; done) | (simp; omega) | (simp only [List.length_append, List.length_cons, List.length_nil]; omega)) (by first | omega | (rw [List.nil_append]; omega) | (rw [List.length_nil]; omega) | (rw [List.length_append]; omega) | (simp; done) | (simp; omega) | (simp only [List.length_append, List.length_cons, List.length_nil]; omega)) (hX99.size) (fun u103 w104 ho105 hp106 hg107 hw108 => ?_)))
 have hX109 := hX99.write hp106 hg107 ((yQ ho95))
 have hm110 := la2 ((([]) ++ ((xs.take j).drop 0)) ++ ([n])) ((xs.take xs.length).drop j)
 refine ⟨fun _ => hX109.pins, ?_⟩
 refine dT (i := 12) rfl rfl (by kernel_rfl) (fun _ _ => zC (v := u103) rfl) hX109.pins ?_
 exact yP (by kernel_rfl) (qS ⟨_, u103, G, (yF (x := 4) rfl), hX109, (Pin.le_refl _), ho105⟩)
 refine (yC (i := 6) rfl rfl rfl (zH rfl _) (xI (E := eInt) (e := 3) [(.int .i64 n)] [n] Tryz.underlying59 sz3 zr3 (by exact qQ (by rfl)) (yE (by rfl)) rfl rfl rfl rfl (by decide) hX22.pins (fun u111 w112 ho113 hp114 hl115 hk116 => ?_)))
 have hX117 := hX22.step hp114 hl115
 have ho118 := ho113.weaken hX22.size
 refine ⟨fun _ => hX117.pins, ?_⟩
 refine zR (i := 0) (by kernel_rfl) (yC (i := 0) rfl rfl rfl (zH rfl _) (xF (E := eInt) (e := 3) Tryz.underlying59 sz3 hX117.pins (fun u119 w120 ho121 hp122 hl123 hk124 => ?_)))
 have hX125 := hX117.step hp122 hl123
 have ho128 := ho121.weaken hX117.size
 refine ⟨fun _ => hX125.pins, ?_⟩
 refine zR (i := 4) (by kernel_rfl) (yC (i := 4) rfl rfl rfl (zH rfl _) (yH (E := eInt) (v := u119) (u := u23) 8 Tryz.underlying59 ap3 (by decide) rfl rfl hX125.pins ho128 ((hr24.mono (Pin.le_refl _)).src hX125.pins (by decide)) (by first | omega | (rw [List.nil_append]; omega) | (rw [List.length_nil]; omega) | (rw [List.length_append]; omega) | (simp; done) | (simp; omega) | (simp only [List.length_append, List.length_cons, List.length_nil]; omega)) (by first | omega | (rw [List.nil_append]; omega) | (rw [List.length_nil]; omega) | (rw [List.length_append]; omega) | (simp; done) | (simp; omega) | (simp only [List.length_append, List.length_cons, List.length_nil]; omega)) (hX125.size) (fun u129 w130 ho131 hp132 hg133 hw134 => ?_)))
 have hX135 := hX125.write hp132 hg133 ((yQ ho128))
 have hm138 := la2 ([]) ((xs.take j).drop 0)
 refine ⟨fun _ => hX135.pins, ?_⟩
 refine zR (i := 7) (by kernel_rfl) (yC (i := 7) rfl rfl rfl (zH rfl _) (yH (E := eInt) (v := u129) (u := u111) 8 Tryz.underlying59 ap3 (by decide) rfl rfl hX135.pins ho131 ((ho118.below hl123).keptA hg133 (zI hk124 ho118.lt).symm).src (by first | omega | (rw [List.nil_append]; omega) | (rw [List.length_nil]; omega) | (rw [List.length_append]; omega) | (simp; done) | (simp; omega) | (simp only [List.length_append, List.length_cons, List.length_nil]; omega)) (by first | omega | (rw [List.nil_append]; omega) | (rw [List.length_nil]; omega) | (rw [List.length_append]; omega) | (simp; done) | (simp; omega) | (simp only [List.length_append, List.length_cons, List.length_nil]; omega)) (hX135.size) (fun u139 w140 ho141 hp142 hg143 hw144 => ?_)))
 have hX145 := hX135.write hp142 hg143 ((yQ ho131))
 have hm148 := la1 (([]) ++ ((xs.take j).drop 0)) n
 refine ⟨fun _ => hX145.pins, ?_⟩
 refine zR (i := 11) (by kernel_rfl) (yC (i := 11) rfl rfl rfl (zH rfl _) (yH (E := eInt) (v := u139) (u := u26) 8 Tryz.underlying59 ap3 (by decide) rfl rfl hX145.pins ho141 ((hr27.mono (Pin.le_refl _)).src hX145.pins (by decide)) (by first | omega | (rw [List.nil_append]; omega) | (rw [List.length_nil]; omega) | (rw [List.length_append]; omega) | (simp; done) | (simp; omega) | (simp only [List.length_append, List.length_cons, List.length_nil]; omega)) (by first | omega | (rw [List.nil_append]; omega) | (rw [List.length_nil]; omega) | (rw [List.length_append]; omega) | (simp; done) | (simp; omega) | (simp only [List.length_append, List.length_cons, List.length_nil]; omega)) (hX145.size) (fun u149 w150 ho151 hp152 hg153 hw154 => ?_)))
 have hX155 := hX145.write hp152 hg153 ((yQ ho141))
 have hm156 := la2 ((([]) ++ ((xs.take j).drop 0)) ++ ([n])) ((xs.take xs.length).drop j)
 refine ⟨fun _ => hX155.pins, ?_⟩
 refine dT (i := 12) rfl rfl (by kernel_rfl) (fun _ _ => zC (v := u149) rfl) hX155.pins ?_
 exact yP (by kernel_rfl) (qS ⟨_, u149, G, (yF (x := 4) rfl), hX155, (Pin.le_refl _), ho151⟩)
 refine qs rfl rfl rfl rfl rfl rfl (qs rfl rfl rfl rfl rfl rfl (qs rfl rfl rfl rfl rfl rfl (qs rfl rfl rfl rfl rfl rfl (qs rfl rfl rfl rfl rfl rfl (qs rfl rfl rfl rfl rfl rfl (qD rfl (yN (v := (.bool false)) rfl rfl) (qe (zA ?_))))))))
 refine vP rfl rfl (wp_exit (yK (yU (yV (zA (zD (zD (zE ?_))))))))
 refine qD rfl (zB (v := (.int .i64 (j : Int))) rfl) (qD rfl (zB (v := v) rfl) (qD rfl (run_len Tryz.underlying59 (v := v) rfl hv) (qD rfl (xB rfl rfl) (qD rfl (zB (v := (.bool (decide (((j : Int) : Int) < (xs.length : Int))))) rfl) (qbd (p := ((j : Int) : Int) < (xs.length : Int)) (t := 24) rfl (fun h => absurd h h5) (fun _ => ?_))))))
 refine qs rfl rfl rfl rfl rfl rfl (qs rfl rfl rfl rfl rfl rfl (qs rfl rfl rfl rfl rfl rfl (qs rfl rfl rfl rfl rfl rfl (qs rfl rfl rfl rfl rfl rfl (qs rfl rfl rfl rfl rfl rfl (qD rfl (yN (v := (.bool false)) rfl rfl) (qe (zA ?_))))))))
 refine vP rfl rfl (wp_skip (zA (zD ?_)))
 refine eH (fun (en : Nat → Value) (W : World) => ∃ (env1 : Nat → Value) (c158 : Value) (G159 : Pin), en = (upd env1 4 c158) ∧ Ext noS G w G159 W ∧ Pin.le G G159 ∧ (Own eInt 3 G159 W w.heap.size c158 (((([]) ++ ((xs.take j).drop 0)) ++ ([n])) ++ ((xs.take xs.length).drop j)))) ?_ ?_
 ·rintro _ w160 ⟨env1, c158, G159, rfl, hX162, hle163, ho161⟩
  refine zA (wp_ret (zQ (yA (v := c158) rfl rfl rfl ?_)))
  obtain ⟨G164, hle167, hX166, hr165, hf168⟩ := ho161.sealed hX162
  exact ⟨_, _, rfl, (by rw [← put_new (fun h => ⟨by omega, by omega⟩) hr]; exact hr165), hX166⟩
 refine xD (S := fun wz => Pins G wz) (last := 13) (by kernel_rfl) rfl ?_
 have hl169 := bdr w2
 have hX171 := hX4.step (hX4.pins.below hl169) hl169
 refine dT (i := 1) rfl rfl (by kernel_rfl) (fun _ _ => zB (v := v) rfl) hX171.pins ?_
 refine dT (i := 2) rfl rfl (by kernel_rfl) (fun _ _ => zB (v := (.int .i64 (j : Int))) rfl) hX171.pins ?_
 obtain ⟨u172, hr173, hl174⟩ := qR hv (lo := none) (hi := (some ((j : Int)))) (0) (j) (Or.inl ⟨rfl, rfl⟩) (Or.inr ⟨_, rfl, (by omega), rfl⟩) (by omega) (by omega)
 refine dT (i := 3) rfl rfl (by kernel_rfl) (fun _ _ => hl174 Tryz.underlying59 sz3 rfl rfl rfl) hX171.pins ?_
 refine dT (i := 5) rfl rfl (by kernel_rfl) (fun _ _ => zB (v := (.int .i64 n)) rfl) hX171.pins ?_
 refine dT (i := 8) rfl rfl (by kernel_rfl) (fun _ _ => zB (v := v) rfl) hX171.pins ?_
 refine dT (i := 9) rfl rfl (by kernel_rfl) (fun _ _ => zB (v := (.int .i64 (j : Int))) rfl) hX171.pins ?_
 obtain ⟨u175, hr176, hl177⟩ := qR hv (lo := (some ((j : Int)))) (hi := none) (j) (xs.length) (Or.inr ⟨_, rfl, (by omega), rfl⟩) (Or.inl ⟨rfl, rfl⟩) (by omega) (by omega)
 refine dT (i := 10) rfl rfl (by kernel_rfl) (fun _ _ => hl177 Tryz.underlying59 sz3 rfl rfl rfl) hX171.pins ?_
 refine jI (i := 0) (j := 6) (by kernel_rfl) ?_ ?_
 refine (yC (i := 0) rfl rfl rfl (zH rfl _) (xF (E := eInt) (e := 3) Tryz.underlying59 sz3 hX171.pins (fun u178 w179 ho180 hp181 hl182 hk183 => ?_)))
 have hX184 := hX171.step hp181 hl182
 have ho185 := ho180.weaken hX171.size
 refine ⟨fun _ => hX184.pins, ?_⟩
 refine jI (i := 4) (j := 6) (by kernel_rfl) ?_ ?_
 refine (yC (i := 4) rfl rfl rfl (zH rfl _) (yH (E := eInt) (v := u178) (u := u172) 8 Tryz.underlying59 ap3 (by decide) rfl rfl hX184.pins ho185 ((hr173.mono (Pin.le_refl _)).src hX184.pins (by decide)) (by first | omega | (rw [List.nil_append]; omega) | (rw [List.length_nil]; omega) | (rw [List.length_append]; omega) | (simp; done) | (simp; omega) | (simp only [List.length_append, List.length_cons, List.length_nil]; omega)) (by first | omega | (rw [List.nil_append]; omega) | (rw [List.length_nil]; omega) | (rw [List.length_append]; omega) | (simp; done) | (simp; omega) | (simp only [List.length_append, List.length_cons, List.length_nil]; omega)) (hX184.size) (fun u186 w187 ho188 hp189 hg190 hw191 => ?_)))
 have hX192 := hX184.write hp189 hg190 ((yQ ho185))
 have hm193 := la2 ([]) ((xs.take j).drop 0)
 refine ⟨fun _ => hX192.pins, ?_⟩
 refine zR (i := 6) (by kernel_rfl) (yC (i := 6) rfl rfl rfl (zH rfl _) (xI (E := eInt) (e := 3) [(.int .i64 n)] [n] Tryz.underlying59 sz3 zr3 (by exact qQ (by rfl)) (yE (by rfl)) rfl rfl rfl rfl (by decide) hX192.pins (fun u194 w195 ho196 hp197 hl198 hk199 => ?_)))
 have hX200 := hX192.step hp197 hl198
 have ho201 := ho188.below hl198
 have ho203 := ho196.weaken hX192.size
 refine ⟨fun _ => hX200.pins, ?_⟩
 refine zR (i := 7) (by kernel_rfl) (yC (i := 7) rfl rfl rfl (zH rfl _) (yH (E := eInt) (v := u186) (u := u194) 8 Tryz.underlying59 ap3 (by decide) rfl rfl hX200.pins ho201 ho203.src (by first | omega | (rw [List.nil_append]; omega) | (rw [List.length_nil]; omega) | (rw [List.length_append]; omega) | (simp; done) | (simp; omega) | (simp only [List.length_append, List.length_cons, List.length_nil]; omega)) (by first | omega | (rw [List.nil_append]; omega) | (rw [List.length_nil]; omega) | (rw [List.length_append]; omega) | (simp; done) | (simp; omega) | (simp only [List.length_append, List.length_cons, List.length_nil]; omega)) (hX200.size) (fun u204 w205 ho206 hp207 hg208 hw209 => ?_)))
 have hX210 := hX200.write hp207 hg208 ((yQ ho201))
 have hm213 := la1 (([]) ++ ((xs.take j).drop 0)) n
 refine ⟨fun _ => hX210.pins, ?_⟩
 refine zR (i := 11) (by kernel_rfl) (yC (i := 11) rfl rfl rfl (zH rfl _) (yH (E := eInt) (v := u204) (u := u175) 8 Tryz.underlying59 ap3 (by decide) rfl rfl hX210.pins ho206 ((hr176.mono (Pin.le_refl _)).src hX210.pins (by decide)) (by first | omega | (rw [List.nil_append]; omega) | (rw [List.length_nil]; omega) | (rw [List.length_append]; omega) | (simp; done) | (simp; omega) | (simp only [List.length_append, List.length_cons, List.length_nil]; omega)) (by first | omega | (rw [List.nil_append]; omega) | (rw [List.length_nil]; omega) | (rw [List.length_append]; omega) | (simp; done) | (simp; omega) | (simp only [List.length_append, List.length_cons, List.length_nil]; omega)) (hX210.size) (fun u214 w215 ho216 hp217 hg218 hw219 => ?_)))
 have hX220 := hX210.write hp217 hg218 ((yQ ho206))
 have hm221 := la2 ((([]) ++ ((xs.take j).drop 0)) ++ ([n])) ((xs.take xs.length).drop j)
 refine ⟨fun _ => hX220.pins, ?_⟩
 refine dT (i := 12) rfl rfl (by kernel_rfl) (fun _ _ => zC (v := u214) rfl) hX220.pins ?_
 exact yP (by kernel_rfl) (qS ⟨_, u214, G, (yF (x := 4) rfl), hX220, (Pin.le_refl _), ho216⟩)
 refine (yC (i := 6) rfl rfl rfl (zH rfl _) (xI (E := eInt) (e := 3) [(.int .i64 n)] [n] Tryz.underlying59 sz3 zr3 (by exact qQ (by rfl)) (yE (by rfl)) rfl rfl rfl rfl (by decide) hX184.pins (fun u222 w223 ho224 hp225 hl226 hk227 => ?_)))
 have hX228 := hX184.step hp225 hl226
 have ho229 := ho185.below hl226
 have ho231 := ho224.weaken hX184.size
 refine ⟨fun _ => hX228.pins, ?_⟩
 refine zR (i := 4) (by kernel_rfl) (yC (i := 4) rfl rfl rfl (zH rfl _) (yH (E := eInt) (v := u178) (u := u172) 8 Tryz.underlying59 ap3 (by decide) rfl rfl hX228.pins ho229 ((hr173.mono (Pin.le_refl _)).src hX228.pins (by decide)) (by first | omega | (rw [List.nil_append]; omega) | (rw [List.length_nil]; omega) | (rw [List.length_append]; omega) | (simp; done) | (simp; omega) | (simp only [List.length_append, List.length_cons, List.length_nil]; omega)) (by first | omega | (rw [List.nil_append]; omega) | (rw [List.length_nil]; omega) | (rw [List.length_append]; omega) | (simp; done) | (simp; omega) | (simp only [List.length_append, List.length_cons, List.length_nil]; omega)) (hX228.size) (fun u232 w233 ho234 hp235 hg236 hw237 => ?_)))
 have hX238 := hX228.write hp235 hg236 ((yQ ho229))
 have hm241 := la2 ([]) ((xs.take j).drop 0)
 refine ⟨fun _ => hX238.pins, ?_⟩
 refine zR (i := 7) (by kernel_rfl) (yC (i := 7) rfl rfl rfl (zH rfl _) (yH (E := eInt) (v := u232) (u := u222) 8 Tryz.underlying59 ap3 (by decide) rfl rfl hX238.pins ho234 (ho231.keptA hg236 (zI hk227 ho185.lt)).src (by first | omega | (rw [List.nil_append]; omega) | (rw [List.length_nil]; omega) | (rw [List.length_append]; omega) | (simp; done) | (simp; omega) | (simp only [List.length_append, List.length_cons, List.length_nil]; omega)) (by first | omega | (rw [List.nil_append]; omega) | (rw [List.length_nil]; omega) | (rw [List.length_append]; omega) | (simp; done) | (simp; omega) | (simp only [List.length_append, List.length_cons, List.length_nil]; omega)) (hX238.size) (fun u242 w243 ho244 hp245 hg246 hw247 => ?_)))
 have hX248 := hX238.write hp245 hg246 ((yQ ho234))
 have hm251 := la1 (([]) ++ ((xs.take j).drop 0)) n
 refine ⟨fun _ => hX248.pins, ?_⟩
 refine zR (i := 11) (by kernel_rfl) (yC (i := 11) rfl rfl rfl (zH rfl _) (yH (E := eInt) (v := u242) (u := u175) 8 Tryz.underlying59 ap3 (by decide) rfl rfl hX248.pins ho244 ((hr176.mono (Pin.le_refl _)).src hX248.pins (by decide)) (by first | omega | (rw [List.nil_append]; omega) | (rw [List.length_nil]; omega) | (rw [List.length_append]; omega) | (simp; done) | (simp; omega) | (simp only [List.length_append, List.length_cons, List.length_nil]; omega)) (by first | omega | (rw [List.nil_append]; omega) | (rw [List.length_nil]; omega) | (rw [List.length_append]; omega) | (simp; done) | (simp; omega) | (simp only [List.length_append, List.length_cons, List.length_nil]; omega)) (hX248.size) (fun u252 w253 ho254 hp255 hg256 hw257 => ?_)))
 have hX258 := hX248.write hp255 hg256 ((yQ ho244))
 have hm259 := la2 ((([]) ++ ((xs.take j).drop 0)) ++ ([n])) ((xs.take xs.length).drop j)
 refine ⟨fun _ => hX258.pins, ?_⟩
 refine dT (i := 12) rfl rfl (by kernel_rfl) (fun _ _ => zC (v := u252) rfl) hX258.pins ?_
 exact yP (by kernel_rfl) (qS ⟨_, u252, G, (yF (x := 4) rfl), hX258, (Pin.le_refl _), ho254⟩)
 refine (yC (i := 6) rfl rfl rfl (zH rfl _) (xI (E := eInt) (e := 3) [(.int .i64 n)] [n] Tryz.underlying59 sz3 zr3 (by exact qQ (by rfl)) (yE (by rfl)) rfl rfl rfl rfl (by decide) hX171.pins (fun u260 w261 ho262 hp263 hl264 hk265 => ?_)))
 have hX266 := hX171.step hp263 hl264
 have ho267 := ho262.weaken hX171.size
 refine ⟨fun _ => hX266.pins, ?_⟩
 refine zR (i := 0) (by kernel_rfl) (yC (i := 0) rfl rfl rfl (zH rfl _) (xF (E := eInt) (e := 3) Tryz.underlying59 sz3 hX266.pins (fun u268 w269 ho270 hp271 hl272 hk273 => ?_)))
 have hX274 := hX266.step hp271 hl272
 have ho277 := ho270.weaken hX266.size
 refine ⟨fun _ => hX274.pins, ?_⟩
 refine zR (i := 4) (by kernel_rfl) (yC (i := 4) rfl rfl rfl (zH rfl _) (yH (E := eInt) (v := u268) (u := u172) 8 Tryz.underlying59 ap3 (by decide) rfl rfl hX274.pins ho277 ((hr173.mono (Pin.le_refl _)).src hX274.pins (by decide)) (by first | omega | (rw [List.nil_append]; omega) | (rw [List.length_nil]; omega) | (rw [List.length_append]; omega) | (simp; done) | (simp; omega) | (simp only [List.length_append, List.length_cons, List.length_nil]; omega)) (by first | omega | (rw [List.nil_append]; omega) | (rw [List.length_nil]; omega) | (rw [List.length_append]; omega) | (simp; done) | (simp; omega) | (simp only [List.length_append, List.length_cons, List.length_nil]; omega)) (hX274.size) (fun u278 w279 ho280 hp281 hg282 hw283 => ?_)))
 have hX284 := hX274.write hp281 hg282 ((yQ ho277))
 have hm287 := la2 ([]) ((xs.take j).drop 0)
 refine ⟨fun _ => hX284.pins, ?_⟩
 refine zR (i := 7) (by kernel_rfl) (yC (i := 7) rfl rfl rfl (zH rfl _) (yH (E := eInt) (v := u278) (u := u260) 8 Tryz.underlying59 ap3 (by decide) rfl rfl hX284.pins ho280 ((ho267.below hl272).keptA hg282 (zI hk273 ho267.lt).symm).src (by first | omega | (rw [List.nil_append]; omega) | (rw [List.length_nil]; omega) | (rw [List.length_append]; omega) | (simp; done) | (simp; omega) | (simp only [List.length_append, List.length_cons, List.length_nil]; omega)) (by first | omega | (rw [List.nil_append]; omega) | (rw [List.length_nil]; omega) | (rw [List.length_append]; omega) | (simp; done) | (simp; omega) | (simp only [List.length_append, List.length_cons, List.length_nil]; omega)) (hX284.size) (fun u288 w289 ho290 hp291 hg292 hw293 => ?_)))
 have hX294 := hX284.write hp291 hg292 ((yQ ho280))
 have hm297 := la1 (([]) ++ ((xs.take j).drop 0)) n
 refine ⟨fun _ => hX294.pins, ?_⟩
 refine zR (i := 11) (by kernel_rfl) (yC (i := 11) rfl rfl rfl (zH rfl _) (yH (E := eInt) (v := u288) (u := u175) 8 Tryz.underlying59 ap3 (by decide) rfl rfl hX294.pins ho290 ((hr176.mono (Pin.le_refl _)).src hX294.pins (by decide)) (by first | omega | (rw [List.nil_append]; omega) | (rw [List.length_nil]; omega) | (rw [List.length_append]; omega) | (simp; done) | (simp; omega) | (simp only [List.length_append, List.length_cons, List.length_nil]; omega)) (by first | omega | (rw [List.nil_append]; omega) | (rw [List.length_nil]; omega) | (rw [List.length_append]; omega) | (simp; done) | (simp; omega) | (simp only [List.length_append, List.length_cons, List.length_nil]; omega)) (hX294.size) (fun u298 w299 ho300 hp301 hg302 hw303 => ?_)))
 have hX304 := hX294.write hp301 hg302 ((yQ ho290))
 have hm305 := la2 ((([]) ++ ((xs.take j).drop 0)) ++ ([n])) ((xs.take xs.length).drop j)
 refine ⟨fun _ => hX304.pins, ?_⟩
 refine dT (i := 12) rfl rfl (by kernel_rfl) (fun _ _ => zC (v := u298) rfl) hX304.pins ?_
 exact yP (by kernel_rfl) (qS ⟨_, u298, G, (yF (x := 4) rfl), hX304, (Pin.le_refl _), ho300⟩)
theorem kR {w : World} {ys : List Int} (hP : Pins G w) (hu : RSl eInt G u xs) (hv : RSl eInt G v ys) :
  Calls Tryz.prog 127 [u, v].toArray w fun e w' => e = .returned (.bool (decide (xs = ys))) ∧ Ext noS G w G w' := by
 refine yM (n := 26) Tryz.func127 Tryz.ntmps127 rfl rfl ?_
 have hX0 := exr noS hP
 have hm := hu.max
 refine zD (zE ?_)
 refine qD rfl (zC (v := (.bool false)) rfl) (qe (zA (zD (zD (zE ?_)))))
 refine qD rfl (zB (v := u) rfl) (qD rfl (run_len Tryz.underlying59 (v := u) rfl hu) (qD rfl (zB (v := v) rfl) (qD rfl (run_len Tryz.underlying59 (v := v) rfl hv) (qD rfl (kK rfl rfl) (qe (zA ?_))))))
 refine yJ (p := ((xs.length : Int) : Int) ≠ (ys.length : Int)) rfl rfl (fun h1 => ?_) (fun h1 => ?_)
 refine zD (zE ?_)
 refine qD rfl (zC (v := (.bool false)) rfl) (qe (zA ?_))
 exact wp_ret (zQ (yA (v := (.bool false)) rfl rfl rfl (⟨congrArg (fun z => Ending.returned (Value.bool z)) (decide_eq_false (fun e => h1 (by rw [e]))).symm, hX0⟩)))
 refine wp_skip (zA (zD (zD (zE ?_))))
 refine qD rfl (zC (v := (.int .i64 0)) rfl) (qe (zA ?_))
 refine yI (yZ (fun (k : Nat) (en : Nat → Value) (W : World) => ∃ (env1 : Nat → Value) (j : Nat), en = (upd (upd (upd env1 0 u) 1 v) 5 (.int .i64 (j : Int))) ∧ k = xs.length - j ∧ Ext noS G w G W ∧ (j ≤ xs.length) ∧ (xs.length = ys.length) ∧ (∀ i, i < j → xs.getD i 0 = ys.getD i 0)) _ ⟨_, 0, (zF (x := 5) (zF (x := 1) (yF (x := 0) rfl) rfl) rfl), rfl, hX0, Nat.zero_le _, (by omega), (fun i hi => absurd hi (Nat.not_lt_zero i))⟩ ?_)
 rintro k2 _ w3 ⟨env1, j, rfl, hk4, hX5, hj, heq, hp⟩
 refine zD (zD (zE ?_))
 refine qD rfl (zB (v := (.int .i64 (j : Int))) rfl) (qD rfl (zB (v := u) rfl) (qD rfl (run_len Tryz.underlying59 (v := u) rfl hu) (qD rfl (xB rfl rfl) (qe (zA ?_)))))
 refine yJ (p := ((j : Int) : Int) < (xs.length : Int)) rfl rfl (fun h6 => ?_) (fun h6 => ?_)
 refine wp_skip (zA (zD ?_))
 refine yI (zD (xD (S := fun wz => Pins G wz) (last := 9) (by kernel_rfl) rfl ?_))
 have hl7 := bdr w3
 have hX9 := hX5.step (hX5.pins.below hl7) hl7
 refine dT (i := 0) rfl rfl (by kernel_rfl) (fun _ _ => zB (v := u) rfl) hX9.pins ?_
 refine dT (i := 1) rfl rfl (by kernel_rfl) (fun _ _ => zB (v := (.int .i64 (j : Int))) rfl) hX9.pins ?_
 refine dT (i := 2) rfl rfl (by kernel_rfl) (fun _ _ => zL Tryz.underlying59 sz3 (v := u) rfl rfl hu (by omega) (by omega)) hX9.pins ?_
 refine dT (i := 3) rfl rfl (by kernel_rfl) (fun _ hS => zZ (r := xs.getD j 0) rfl ag3 (z := (j : Int)) rfl hu hS (by omega) (by omega)) hX9.pins ?_
 refine dT (i := 4) rfl rfl (by kernel_rfl) (fun _ _ => zB (v := v) rfl) hX9.pins ?_
 refine dT (i := 5) rfl rfl (by kernel_rfl) (fun _ _ => zB (v := (.int .i64 (j : Int))) rfl) hX9.pins ?_
 refine dT (i := 6) rfl rfl (by kernel_rfl) (fun _ _ => zL Tryz.underlying59 sz3 (v := v) rfl rfl hv (by omega) (by omega)) hX9.pins ?_
 refine dT (i := 7) rfl rfl (by kernel_rfl) (fun _ hS => zZ (r := ys.getD j 0) rfl ag3 (z := (j : Int)) rfl hv hS (by omega) (by omega)) hX9.pins ?_
 refine dT (i := 8) rfl rfl (by kernel_rfl) (fun _ _ => kK rfl rfl) hX9.pins ?_
 refine yP (by kernel_rfl) (zA (yJ (p := (xs.getD j 0 : Int) ≠ (ys.getD j 0)) rfl rfl (fun h10 => ?_) (fun h10 => ?_)))
 refine zD (zE ?_)
 refine qD rfl (zC (v := (.bool false)) rfl) (qe (zA ?_))
 exact wp_ret (zQ (yA (v := (.bool false)) rfl rfl rfl (⟨congrArg (fun z => Ending.returned (Value.bool z)) (decide_eq_false (fun e => h10 (by rw [e]))).symm, hX9⟩)))
 refine wp_skip (yO (zA (zE ?_)))
 refine qD rfl (zB (v := (.int .i64 (j : Int))) rfl) (qD rfl (yT rfl rfl (by omega)) (qD rfl (zC (v := (.int .i64 ((j : Int) + 1))) rfl) (qe (yR (⟨_, ?_, _, rfl, _, j + 1, (zF (x := 5) (zF (x := 1) (yF (x := 0) rfl) rfl) rfl), rfl, hX9, (by omega), heq, (eqstep hp h10)⟩)))))
 omega
 refine wp_exit (yK (yU (yV (zA (zD (zE ?_))))))
 refine qD rfl (zC (v := (.bool true)) rfl) (qe (zA ?_))
 exact wp_ret (zQ (yA (v := (.bool true)) rfl rfl rfl (⟨congrArg (fun z => Ending.returned (Value.bool z)) (decide_eq_true (eqdone heq (by omega) hp)).symm, hX5⟩)))
theorem qX {w : World} {Gr : Pin} {a : List Int} (hP : Pins G w) (hPr : Pins Gr w) (hu : RSl eInt Gr u a) (hv : RSl eInt G v xs) (hs : xs.length ≤ 1048576) (hk : ∀ i, i < xs.length → 0 ≤ xs.getD i 0 ∧ xs.getD i 0 < a.length) :
  Calls Tryz.prog 77 [u, v].toArray w fun e w' => ∃ (u : Value) (G' : Pin), e = .returned u ∧ Own eInt 3 G' w' w.heap.size u (atL a xs) ∧ Ext noS G w G' w' := by
 refine yM (n := 25) Tryz.func77 Tryz.ntmps77 rfl rfl ?_
 have hX0 := exr noS hP
 refine zD (zE ?_)
 refine qD rfl (zC (v := (.slice none 0 0)) rfl) (qe (zA (zD (zE ?_))))
 refine qI rfl (xF (E := eInt) (e := 3) Tryz.underlying59 sz3 hX0.pins (fun u1 w2 ho3 hp4 hl5 hk6 => ?_))
 have ho8 := ho3.weaken hX0.size
 refine qD rfl (zC (v := u1) rfl) (qe (zA (zD (zD (zE ?_)))))
 refine qD rfl (zC (v := (.int .i64 0)) rfl) (qe (zA ?_))
 refine yI (yZ (fun (k : Nat) (en : Nat → Value) (W : World) => ∃ (env1 : Nat → Value) (j : Nat) (o : Value) (os : List Int), en = (upd (upd (upd (upd (upd env1 0 u) 1 v) 4 (.slice none 0 0)) 5 o) 6 (.int .i64 (j : Int))) ∧ k = xs.length - j ∧ Ext noS G w G W ∧ (j ≤ xs.length) ∧ (os = atL a (xs.take j)) ∧ (os.length = j) ∧ (Own eInt 3 G W w.heap.size o (os))) _ ⟨_, 0, u1, [], (zF (x := 6) (zF (x := 5) (zF (x := 4) (zF (x := 1) (yF (x := 0) rfl) rfl) rfl) rfl) rfl), rfl, (hX0.step hp4 hl5), Nat.zero_le _, rfl, rfl, ho8⟩ ?_)
 rintro k9 _ w10 ⟨env1, j, o, os, rfl, hk11, hX12, hj, hr, hol, hw13⟩
 refine zD (zD (zE ?_))
 refine qD rfl (zB (v := (.int .i64 (j : Int))) rfl) (qD rfl (zB (v := v) rfl) (qD rfl (run_len Tryz.underlying59 (v := v) rfl hv) (qD rfl (xB rfl rfl) (qe (zA ?_)))))
 refine yJ (p := ((j : Int) : Int) < (xs.length : Int)) rfl rfl (fun h14 => ?_) (fun h14 => ?_)
 have hkj := hk j (by omega)
 refine wp_skip (zA (zD ?_))
 refine yI (zE (qD rfl (zB (v := o) rfl) (qD rfl (zB (v := u) rfl) (qD rfl (zB (v := v) rfl) (qD rfl (zB (v := (.int .i64 (j : Int))) rfl) (qD rfl (zL Tryz.underlying59 sz3 (v := v) rfl rfl hv (by omega) (by omega)) (qD rfl (zZ (r := xs.getD j 0) rfl ag3 (z := (j : Int)) rfl hv hX12.pins (by omega) (by omega)) (qD rfl (zL Tryz.underlying59 sz3 (v := u) rfl rfl hu (by omega) (by omega)) (qD rfl (zZ (r := a.getD (xs.getD j 0).toNat 0) rfl ag3 (z := (xs.getD j 0)) rfl hu (hPr.ext0 hX12) (by omega) (by omega)) (qI rfl (xI (E := eInt) (e := 3) [(.int .i64 (a.getD (xs.getD j 0).toNat 0))] [a.getD (xs.getD j 0).toNat 0] Tryz.underlying59 sz3 zr3 (by exact qQ (by rfl)) (yE (by rfl)) rfl rfl rfl rfl (by decide) hX12.pins (fun u15 w16 ho17 hp18 hl19 hk20 => ?_))))))))))))
 have hX21 := hX12.step hp18 hl19
 have ho22 := hw13.below hl19
 have ho24 := ho17.weaken hX12.size
 refine qI rfl (yH (E := eInt) (v := o) (u := u15) 8 Tryz.underlying59 ap3 (by decide) rfl rfl hX21.pins ho22 ho24.src (by first | omega | (rw [List.nil_append]; omega) | (rw [List.length_nil]; omega) | (rw [List.length_append]; omega) | (simp; done) | (simp; omega) | (simp only [List.length_append, List.length_cons, List.length_nil]; omega)) (by first | omega | (rw [List.nil_append]; omega) | (rw [List.length_nil]; omega) | (rw [List.length_append]; omega) | (simp; done) | (simp; omega) | (simp only [List.length_append, List.length_cons, List.length_nil]; omega)) (hX21.size) (fun u25 w26 ho27 hp28 hg29 hw30 => ?_))
 have hm34 := la1 os (a.getD (xs.getD j 0).toNat 0)
 refine qD rfl (zC (v := u25) rfl) (qe (yO (zA (zE ?_))))
 refine qD rfl (zB (v := (.int .i64 (j : Int))) rfl) (qD rfl (yT rfl rfl (by omega)) (qD rfl (zC (v := (.int .i64 ((j : Int) + 1))) rfl) (qe (yR (⟨_, ?_, _, rfl, _, j + 1, u25, os ++ [a.getD (xs.getD j 0).toNat 0], (zF (x := 6) (zF (x := 5) (zF (x := 4) (zF (x := 1) (yF (x := 0) rfl) rfl) rfl) rfl) rfl), rfl, (hX21.write hp28 hg29 ((yQ ho22))), (by omega), (by rw [hr, at_next (by omega)]), (by rw [List.length_append, hol]; rfl), ho27⟩)))))
 omega
 refine wp_exit (yK (yU (yV (zA (zD (zE ?_))))))
 refine qD rfl (zB (v := o) rfl) (qD rfl (zC (v := o) rfl) (qe (zA ?_)))
 exact wp_ret (zQ (yA (v := o) rfl rfl rfl (⟨_, _, rfl, (by rw [fQ (by omega)] at hr; rw [← hr]; exact hw13), hX12⟩)))
theorem qE {w : World} (hP : Pins G w) (hv : RSl eInt G v xs) (hs : xs.length ≤ 1048576) :
  Calls Tryz.prog 129 [v].toArray w fun e w' => ∃ (u : Value) (G' : Pin), e = .returned u ∧ RSl eInt G' u (sortL xs) ∧ Ext noS G w G' w' := by
 refine yM (n := 19) Tryz.func129 Tryz.ntmps129 rfl rfl ?_
 have hX0 := exr noS hP
 refine zD (zE ?_)
 refine qD rfl (zC (v := (.slice none 0 0)) rfl) (qe (zA (zD (zE ?_))))
 refine qI rfl (xF (E := eInt) (e := 3) Tryz.underlying59 sz3 hX0.pins (fun u1 w2 ho3 hp4 hl5 hk6 => ?_))
 have ho8 := ho3.weaken hX0.size
 refine qD rfl (zC (v := u1) rfl) (qe (zA (zD (zD (zE ?_)))))
 refine qD rfl (zC (v := (.int .i64 0)) rfl) (qe (zA ?_))
 refine yI ?_
 obtain ⟨G13, hle16, hX15, hr14, hf17⟩ := ho8.sealed (hX0.step hp4 hl5)
 refine yZ (fun (k : Nat) (en : Nat → Value) (W : World) => ∃ (env1 : Nat → Value) (j : Nat) (o : Value) (os : List Int) (GL1 : Pin), en = (upd (upd (upd (upd env1 0 v) 2 (.slice none 0 0)) 3 o) 4 (.int .i64 (j : Int))) ∧ k = xs.length - j ∧ Ext noS G w GL1 W ∧ Pin.le G13 GL1 ∧ (j ≤ xs.length) ∧ (os = sortL (xs.take j)) ∧ (os.length ≤ j) ∧ (RSl eInt GL1 o (os))) _ ⟨_, 0, u1, [], G13, (zF (x := 4) (zF (x := 3) (zF (x := 2) (yF (x := 0) rfl) rfl) rfl) rfl), rfl, hX15, Pin.le_refl _, Nat.zero_le _, rfl, Nat.le_refl 0, hr14⟩ ?_
 rintro k9 _ w10 ⟨env1, j, o, os, GL1, rfl, hk11, hX12, hlek9, hj, hr, hol, hr18⟩
 refine zD (zD (zE ?_))
 refine qD rfl (zB (v := (.int .i64 (j : Int))) rfl) (qD rfl (zB (v := v) rfl) (qD rfl (run_len Tryz.underlying59 (v := v) rfl hv) (qD rfl (xB rfl rfl) (qe (zA ?_)))))
 refine yJ (p := ((j : Int) : Int) < (xs.length : Int)) rfl rfl (fun h19 => ?_) (fun h19 => ?_)
 refine wp_skip (zA (zD ?_))
 refine yI (zE (qD rfl (zB (v := o) rfl) (qD rfl (zB (v := v) rfl) (qD rfl (zB (v := (.int .i64 (j : Int))) rfl) (qD rfl (zL Tryz.underlying59 sz3 (v := v) rfl rfl hv (by omega) (by omega)) (qD rfl (zZ (r := xs.getD j 0) rfl ag3 (z := (j : Int)) rfl hv (dI hX12.pins (dH hle16 hlek9)) (by omega) (by omega)) (qI rfl (zK (vs := [o, (.int .i64 (xs.getD j 0))]) Tryz.func125 nm125 rfl rfl rfl ?_))))))))
 refine dJ (gS hX12.pins hr18 (by omega)) ?_
 rintro _ w22 ⟨u20, G21, rfl, hr23, hx24⟩
 refine ⟨_, rfl, ?_⟩
 refine qD rfl (zC (v := u20) rfl) (qe (yO (zA (zE ?_))))
 refine qD rfl (zB (v := (.int .i64 (j : Int))) rfl) (qD rfl (yT rfl rfl (by omega)) (qD rfl (zC (v := (.int .i64 ((j : Int) + 1))) rfl) (qe (yR (⟨_, ?_, _, rfl, _, j + 1, u20, putL os (xs.getD j 0), G21, (zF (x := 4) (zF (x := 3) (zF (x := 2) (yF (x := 0) rfl) rfl) rfl) rfl), rfl, (hX12.tr hx24), (dH hlek9 hx24.le), (by omega), (by rw [hr, tV (by omega)]), (Nat.le_trans vF (by omega)), hr23⟩)))))
 omega
 refine wp_exit (yK (yU (yV (zA (zD (zE ?_))))))
 refine qD rfl (zB (v := o) rfl) (qD rfl (zC (v := o) rfl) (qe (zA ?_)))
 exact wp_ret (zQ (yA (v := o) rfl rfl rfl (⟨_, _, rfl, (by rw [fQ (by omega)] at hr; rw [← hr]; exact hr18), hX12⟩)))
end C1
end Go.Proofs.YtajkbplgbikgdaaGreatDoor
namespace Go.Proofs.YtajkbplgbikgdaaGreatDoor
namespace D1
open Go.RowKit Go.GL Go.Proofs
open C1
theorem pl65 : (Tryz.prog.underlying 65).bind (placesD Tryz.prog) = some [(0, 1), (1, 1)] := by kernel_rfl
variable {G : Pin} {u v : Value} {xs ys : List Int}
theorem rX {w : World} (hP : Pins G w) (hu : RSl eInt G u xs) (hv : RSl eInt G v ys) :
  Calls Tryz.prog 182 [u, v].toArray w fun e w' => e = .returned (.int .i64 (cmpL xs ys)) ∧ Ext noS G w G w' := by
 refine yM (n := 48) Tryz.func182 Tryz.ntmps182 rfl rfl ?_
 have hX0 := exr noS hP
 have hm := hu.max
 refine zD (zE ?_)
 refine qD rfl (zC (v := (.int .i64 0)) rfl) (qe (zA (zD (zD (zE ?_)))))
 refine qD rfl (zC (v := (.int .i64 0)) rfl) (qe (zA ?_))
 refine yI (yZ (fun (k : Nat) (en : Nat → Value) (W : World) => ∃ (env1 : Nat → Value) (j : Nat), en = (upd (upd (upd env1 0 u) 1 v) 5 (.int .i64 (j : Int))) ∧ k = xs.length - j ∧ Ext noS G w G W ∧ (j ≤ xs.length ∧ j ≤ ys.length) ∧ (cmpL xs ys = cmpL (xs.drop j) (ys.drop j))) _ ⟨_, 0, (zF (x := 5) (zF (x := 1) (yF (x := 0) rfl) rfl) rfl), rfl, hX0, ⟨Nat.zero_le _, Nat.zero_le _⟩, rfl⟩ ?_)
 rintro k1 _ w2 ⟨env1, j, rfl, hk3, hX4, hj, hr⟩
 refine zD (zD (zE ?_))
 refine qD rfl (zB (v := (.int .i64 (j : Int))) rfl) (qD rfl (zB (v := u) rfl) (qD rfl (run_len eR (v := u) rfl hu) (qD rfl (xB rfl rfl) (qD rfl (zB (v := (.bool (decide (((j : Int) : Int) < (xs.length : Int))))) rfl) (qbd (p := ((j : Int) : Int) < (xs.length : Int)) (t := 10) rfl (fun h5 => ?_) (fun h5 => ?_))))))
 refine qdg rfl rfl rfl rfl rfl rfl (zB (v := (.int .i64 (j : Int))) rfl) (qdg rfl rfl rfl rfl rfl rfl (zB (v := v) rfl) (qdg rfl rfl rfl rfl rfl rfl (run_len eR (v := v) rfl hv) (qdg rfl rfl rfl rfl rfl rfl (xB rfl rfl) (qD rfl (yG (v := (.bool (decide (((j : Int) : Int) < (ys.length : Int))))) rfl rfl) (qe (zA ?_))))))
 refine yJ (p := ((j : Int) : Int) < (ys.length : Int)) rfl rfl (fun h6 => ?_) (fun h6 => ?_)
 refine wp_skip (zA (zD ?_))
 refine yI (zD (xD (S := fun wz => Pins G wz) (last := 9) (by kernel_rfl) rfl ?_))
 have hl7 := bdr w2
 have hX9 := hX4.step (hX4.pins.below hl7) hl7
 refine dT (i := 0) rfl rfl (by kernel_rfl) (fun _ _ => zB (v := u) rfl) hX9.pins ?_
 refine dT (i := 1) rfl rfl (by kernel_rfl) (fun _ _ => zB (v := (.int .i64 (j : Int))) rfl) hX9.pins ?_
 refine dT (i := 2) rfl rfl (by kernel_rfl) (fun _ _ => zL eR sz3 (v := u) rfl rfl hu (by omega) (by omega)) hX9.pins ?_
 refine dT (i := 3) rfl rfl (by kernel_rfl) (fun _ hS => zZ (r := xs.getD j 0) rfl ag3 (z := (j : Int)) rfl hu hS (by omega) (by omega)) hX9.pins ?_
 refine dT (i := 4) rfl rfl (by kernel_rfl) (fun _ _ => zB (v := v) rfl) hX9.pins ?_
 refine dT (i := 5) rfl rfl (by kernel_rfl) (fun _ _ => zB (v := (.int .i64 (j : Int))) rfl) hX9.pins ?_
 refine dT (i := 6) rfl rfl (by kernel_rfl) (fun _ _ => zL eR sz3 (v := v) rfl rfl hv (by omega) (by omega)) hX9.pins ?_
 refine dT (i := 7) rfl rfl (by kernel_rfl) (fun _ hS => zZ (r := ys.getD j 0) rfl ag3 (z := (j : Int)) rfl hv hS (by omega) (by omega)) hX9.pins ?_
 refine dT (i := 8) rfl rfl (by kernel_rfl) (fun _ _ => kK rfl rfl) hX9.pins ?_
 refine yP (by kernel_rfl) (zA (yJ (p := (xs.getD j 0 : Int) ≠ (ys.getD j 0)) rfl rfl (fun h10 => ?_) (fun h10 => ?_)))
 refine zD (zD ?_)
 refine xD (S := fun wz => Pins G wz) (last := 9) (by kernel_rfl) rfl ?_
 have hl11 : Below w2.drew.heap.size w2.drew w2.drew.drew := (Below.refl _ _).drew
 have hX13 := hX9.step (hX9.pins.below hl11) hl11
 refine dT (i := 0) rfl rfl (by kernel_rfl) (fun _ _ => zB (v := u) rfl) hX13.pins ?_
 refine dT (i := 1) rfl rfl (by kernel_rfl) (fun _ _ => zB (v := (.int .i64 (j : Int))) rfl) hX13.pins ?_
 refine dT (i := 2) rfl rfl (by kernel_rfl) (fun _ _ => zL eR sz3 (v := u) rfl rfl hu (by omega) (by omega)) hX13.pins ?_
 refine dT (i := 3) rfl rfl (by kernel_rfl) (fun _ hS => zZ (r := xs.getD j 0) rfl ag3 (z := (j : Int)) rfl hu hS (by omega) (by omega)) hX13.pins ?_
 refine dT (i := 4) rfl rfl (by kernel_rfl) (fun _ _ => zB (v := v) rfl) hX13.pins ?_
 refine dT (i := 5) rfl rfl (by kernel_rfl) (fun _ _ => zB (v := (.int .i64 (j : Int))) rfl) hX13.pins ?_
 refine dT (i := 6) rfl rfl (by kernel_rfl) (fun _ _ => zL eR sz3 (v := v) rfl rfl hv (by omega) (by omega)) hX13.pins ?_
 refine dT (i := 7) rfl rfl (by kernel_rfl) (fun _ hS => zZ (r := ys.getD j 0) rfl ag3 (z := (j : Int)) rfl hv hS (by omega) (by omega)) hX13.pins ?_
 refine dT (i := 8) rfl rfl (by kernel_rfl) (fun _ _ => xB rfl rfl) hX13.pins ?_
 refine yP (by kernel_rfl) (zA (yJ (p := (xs.getD j 0 : Int) < (ys.getD j 0)) rfl rfl (fun h14 => ?_) (fun h14 => ?_)))
 refine zD (zE ?_)
 refine qD rfl (zC (v := (.int .i64 (-1))) rfl) (qe (zA ?_))
 exact wp_ret (zQ (yA (v := (.int .i64 (-1))) rfl rfl rfl (⟨congrArg (fun z => Ending.returned (Value.int .i64 z)) ((hr.trans ((cmpL_ne (by omega) (by omega) (by unfold cmpI; split <;> omega)).trans (by unfold cmpI; rw [if_pos h14]))).symm), hX13⟩)))
 refine wp_skip (zA (zD (zE ?_)))
 refine qD rfl (zC (v := (.int .i64 1)) rfl) (qe (zA ?_))
 exact wp_ret (zQ (yA (v := (.int .i64 1)) rfl rfl rfl (⟨congrArg (fun z => Ending.returned (Value.int .i64 z)) ((hr.trans ((cmpL_ne (by omega) (by omega) (by unfold cmpI; split <;> omega)).trans (by unfold cmpI; rw [if_neg h14, if_pos (by omega)]))).symm), hX13⟩)))
 refine wp_skip (yO (zA (zE ?_)))
 refine qD rfl (zB (v := (.int .i64 (j : Int))) rfl) (qD rfl (yT rfl rfl (by omega)) (qD rfl (zC (v := (.int .i64 ((j : Int) + 1))) rfl) (qe (yR (⟨_, ?_, _, rfl, _, j + 1, (zF (x := 5) (zF (x := 1) (yF (x := 0) rfl) rfl) rfl), rfl, hX9, (by omega), (hr.trans (cmpL_eq (by omega) (by omega) (by unfold cmpI; rw [if_neg (by omega), if_neg (by omega)]; omega)))⟩)))))
 omega
 refine wp_exit (yK (yU (yV (zA (zD ?_)))))
 refine yI (zD (zE ?_))
 refine qD rfl (zB (v := u) rfl) (qD rfl (run_len eR (v := u) rfl hu) (qD rfl (zB (v := v) rfl) (qD rfl (run_len eR (v := v) rfl hv) (qD rfl (xB rfl rfl) (qD rfl (zC (v := (.bool (decide (((xs.length : Int) : Int) < (ys.length : Int))))) rfl) (qe (zA ?_)))))))
 refine yJ (p := ((xs.length : Int) : Int) < (ys.length : Int)) rfl rfl (fun h15 => ?_) (fun h15 => ?_)
 refine zD (zE ?_)
 refine qD rfl (zC (v := (.int .i64 (-1))) rfl) (qe (zA ?_))
 exact wp_ret (zQ (yA (v := (.int .i64 (-1))) rfl rfl rfl (⟨congrArg (fun z => Ending.returned (Value.int .i64 z)) ((hr.trans (eG (by omega) (by omega))).symm), hX4⟩)))
 refine zD (zE ?_)
 refine qD rfl (zB (v := u) rfl) (qD rfl (run_len eR (v := u) rfl hu) (qD rfl (zB (v := v) rfl) (qD rfl (run_len eR (v := v) rfl hv) (qD rfl (qV rfl rfl) (qD rfl (zC (v := (.bool (decide (((ys.length : Int) : Int) < (xs.length : Int))))) rfl) (qe (zA ?_)))))))
 refine yJ (p := ((ys.length : Int) : Int) < (xs.length : Int)) rfl rfl (fun h16 => ?_) (fun h16 => ?_)
 refine zD (zE ?_)
 refine qD rfl (zC (v := (.int .i64 1)) rfl) (qe (zA ?_))
 exact wp_ret (zQ (yA (v := (.int .i64 1)) rfl rfl rfl (⟨congrArg (fun z => Ending.returned (Value.int .i64 z)) ((hr.trans (eF (by omega) (by omega))).symm), hX4⟩)))
 refine wp_skip (yO (zA (zD (zE ?_))))
 refine qD rfl (zC (v := (.int .i64 0)) rfl) (qe (zA ?_))
 exact wp_ret (zQ (yA (v := (.int .i64 0)) rfl rfl rfl (⟨congrArg (fun z => Ending.returned (Value.int .i64 z)) ((hr.trans (eE (by omega) (by omega))).symm), hX4⟩)))
 refine qs rfl rfl rfl rfl rfl rfl (qs rfl rfl rfl rfl rfl rfl (qs rfl rfl rfl rfl rfl rfl (qs rfl rfl rfl rfl rfl rfl (qD rfl (yN (v := (.bool false)) rfl rfl) (qe (zA ?_))))))
 refine vP rfl rfl (wp_exit (yK (yU (yV (zA (zD ?_))))))
 refine yI (zD (zE ?_))
 refine qD rfl (zB (v := u) rfl) (qD rfl (run_len eR (v := u) rfl hu) (qD rfl (zB (v := v) rfl) (qD rfl (run_len eR (v := v) rfl hv) (qD rfl (xB rfl rfl) (qD rfl (zC (v := (.bool (decide (((xs.length : Int) : Int) < (ys.length : Int))))) rfl) (qe (zA ?_)))))))
 refine yJ (p := ((xs.length : Int) : Int) < (ys.length : Int)) rfl rfl (fun h17 => ?_) (fun h17 => ?_)
 refine zD (zE ?_)
 refine qD rfl (zC (v := (.int .i64 (-1))) rfl) (qe (zA ?_))
 exact wp_ret (zQ (yA (v := (.int .i64 (-1))) rfl rfl rfl (⟨congrArg (fun z => Ending.returned (Value.int .i64 z)) ((hr.trans (eG (by omega) (by omega))).symm), hX4⟩)))
 refine zD (zE ?_)
 refine qD rfl (zB (v := u) rfl) (qD rfl (run_len eR (v := u) rfl hu) (qD rfl (zB (v := v) rfl) (qD rfl (run_len eR (v := v) rfl hv) (qD rfl (qV rfl rfl) (qD rfl (zC (v := (.bool (decide (((ys.length : Int) : Int) < (xs.length : Int))))) rfl) (qe (zA ?_)))))))
 refine yJ (p := ((ys.length : Int) : Int) < (xs.length : Int)) rfl rfl (fun h18 => ?_) (fun h18 => ?_)
 refine zD (zE ?_)
 refine qD rfl (zC (v := (.int .i64 1)) rfl) (qe (zA ?_))
 exact wp_ret (zQ (yA (v := (.int .i64 1)) rfl rfl rfl (⟨congrArg (fun z => Ending.returned (Value.int .i64 z)) ((hr.trans (eF (by omega) (by omega))).symm), hX4⟩)))
 refine wp_skip (yO (zA (zD (zE ?_))))
 refine qD rfl (zC (v := (.int .i64 0)) rfl) (qe (zA ?_))
 exact wp_ret (zQ (yA (v := (.int .i64 0)) rfl rfl rfl (⟨congrArg (fun z => Ending.returned (Value.int .i64 z)) ((hr.trans (eE (by omega) (by omega))).symm), hX4⟩)))
theorem rB {w : World} {al ar bl br : Value} {a b : Nd} (hP : Pins G w) (hal : RSl eInt G al a.l) (har : RSl eInt G ar a.r) (hbl : RSl eInt G bl b.l) (hbr : RSl eInt G br b.r) :
  Calls Tryz.prog 130 [(.agg [al, ar].toArray), (.agg [bl, br].toArray)].toArray w fun e w' => ∃ G', e = .returned (.bool (decide (aheadI a b < 0))) ∧ Ext noS G w G' w' := by
 refine yM (n := 21) Tryz.func130 Tryz.ntmps130 rfl rfl ?_
 have hX0 := exr noS hP
 refine zD (zE ?_)
 refine qI rfl (xX [al, ar] (v := (.agg [al, ar].toArray)) rfl rfl hX0.pins (fun b1 w2 hk3 hb4 hp5 hl6 => ?_))
 have hlo8 : w.heap.size ≤ b1 := by have := hX0.size; omega
 obtain ⟨G9, hle10, hX11, hbp12, hf13⟩ := hb4.shut (hX0.step hp5 hl6) hlo8
 refine qI rfl (xX [bl, br] (v := (.agg [bl, br].toArray)) rfl rfl hX11.pins (fun b14 w15 hk16 hb17 hp18 hl19 => ?_))
 have hlo21 : w.heap.size ≤ b14 := by have := hX11.size; omega
 obtain ⟨G22, hle23, hX24, hbp25, hf26⟩ := hb17.shut (hX11.step hp18 hl19) hlo21
 refine qD rfl (zC (v := (.bool false)) rfl) (qe (zA (zD (zD (zE ?_)))))
 refine qD rfl (zM (k := 0) rfl eX rfl nz59 rfl) (qD rfl (zP (u := al) ag59 rfl ((dI hX24.pins hle23) _ _ _ (hbp12 0 _ rfl))) (qD rfl (zM (k := 0) rfl eX rfl nz59 rfl) (qD rfl (zP (u := bl) ag59 rfl (hX24.pins _ _ _ (hbp25 0 _ rfl))) (qI rfl (zK (vs := [al, bl]) Tryz.func182 nm182 rfl rfl rfl ?_)))))
 refine dJ (rX hX24.pins (hal.mono (dH hle10 hle23)) (hbl.mono (dH hle10 hle23))) ?_
 rintro _ w27 ⟨rfl, hx28⟩
 refine ⟨_, rfl, ?_⟩
 have hX29 := hX24.step hx28.pins hx28.below
 refine qD rfl (zC (v := (.int .i64 (cmpL a.l b.l))) rfl) (qe (zA (zD (zE ?_))))
 refine qD rfl (zB (v := (.int .i64 (cmpL a.l b.l))) rfl) (qD rfl (kK rfl rfl) (qe (zA ?_)))
 refine yJ (p := (cmpL a.l b.l : Int) ≠ 0) rfl rfl (fun h30 => ?_) (fun h30 => ?_)
 refine zD (zE ?_)
 refine qD rfl (zB (v := (.int .i64 (cmpL a.l b.l))) rfl) (qD rfl (xB rfl rfl) (qD rfl (zC (v := (.bool (decide ((cmpL a.l b.l : Int) < 0)))) rfl) (qe (zA ?_))))
 exact wp_ret (zQ (yA (v := (.bool (decide ((cmpL a.l b.l : Int) < 0)))) rfl rfl rfl (⟨_, congrArg (fun z => Ending.returned (Value.bool z)) (by rw [kF h30]), hX29⟩)))
 refine wp_skip (zA (zD (zE ?_)))
 refine qD rfl (zM (k := 1) rfl eX rfl nz59 rfl) (qD rfl (zP (u := ar) ag59 rfl ((dI hX29.pins hle23) _ _ _ (hbp12 1 _ rfl))) (qD rfl (zM (k := 1) rfl eX rfl nz59 rfl) (qD rfl (zP (u := br) ag59 rfl (hX29.pins _ _ _ (hbp25 1 _ rfl))) (qI rfl (zK (vs := [ar, br]) Tryz.func182 nm182 rfl rfl rfl ?_)))))
 refine dJ (rX hX29.pins (har.mono (dH hle10 hle23)) (hbr.mono (dH hle10 hle23))) ?_
 rintro _ w31 ⟨rfl, hx32⟩
 refine ⟨_, rfl, ?_⟩
 refine qD rfl (xB rfl rfl) (qD rfl (zC (v := (.bool (decide ((cmpL a.r b.r : Int) < 0)))) rfl) (qe (zA ?_)))
 exact wp_ret (zQ (yA (v := (.bool (decide ((cmpL a.r b.r : Int) < 0)))) rfl rfl rfl (⟨_, congrArg (fun z => Ending.returned (Value.bool z)) (by rw [vJ (by omega)]), (hX29.step hx32.pins hx32.below)⟩)))
theorem l3Same_spec {w : World} {xs ys : List Nd} (hP : Pins G w) (hu : RSl eNode G u xs) (hv : RSl eNode G v ys) :
  Calls Tryz.prog 123 [(.agg [u].toArray), (.agg [v].toArray)].toArray w fun e w' => ∃ G', e = .returned (.bool (decide (xs = ys))) ∧ Ext noS G w G' w' := by
 refine yM (n := 50) Tryz.func123 Tryz.ntmps123 rfl rfl ?_
 have hX0 := exr noS hP
 have hm := hu.max
 refine zD (zE ?_)
 refine qI rfl (xX [u] (v := (.agg [u].toArray)) rfl rfl hX0.pins (fun b1 w2 hk3 hb4 hp5 hl6 => ?_))
 have hlo8 : w.heap.size ≤ b1 := by have := hX0.size; omega
 obtain ⟨G9, hle10, hX11, hbp12, hf13⟩ := hb4.shut (hX0.step hp5 hl6) hlo8
 refine qI rfl (xX [v] (v := (.agg [v].toArray)) rfl rfl hX11.pins (fun b14 w15 hk16 hb17 hp18 hl19 => ?_))
 have hlo21 : w.heap.size ≤ b14 := by have := hX11.size; omega
 obtain ⟨G22, hle23, hX24, hbp25, hf26⟩ := hb17.shut (hX11.step hp18 hl19) hlo21
 refine qD rfl (zC (v := (.bool false)) rfl) (qe (zA (zD (zD (zE ?_)))))
 refine qD rfl (zM (k := 0) rfl eY rfl nz24 rfl) (qD rfl (zP (u := u) ag24 rfl ((dI hX24.pins hle23) _ _ _ (hbp12 0 _ rfl))) (qD rfl (run_len eT (v := u) rfl hu) (qD rfl (zM (k := 0) rfl eY rfl nz24 rfl) (qD rfl (zP (u := v) ag24 rfl (hX24.pins _ _ _ (hbp25 0 _ rfl))) (qD rfl (run_len eT (v := v) rfl hv) (qD rfl (kK rfl rfl) (qe (zA ?_))))))))
 refine yJ (p := ((xs.length : Int) : Int) ≠ (ys.length : Int)) rfl rfl (fun h27 => ?_) (fun h27 => ?_)
 refine zD (zE ?_)
 refine qD rfl (zC (v := (.bool false)) rfl) (qe (zA ?_))
 exact wp_ret (zQ (yA (v := (.bool false)) rfl rfl rfl (⟨_, congrArg (fun z => Ending.returned (Value.bool z)) (decide_eq_false (fun e => h27 (by rw [e]))).symm, hX24⟩)))
 refine wp_skip (zA (zD (zD (zE ?_))))
 refine qD rfl (zC (v := (.int .i64 0)) rfl) (qe (zA ?_))
 refine yI (yZ (fun (k : Nat) (en : Nat → Value) (W : World) => ∃ (env1 : Nat → Value) (j : Nat), en = (upd (upd (upd env1 2 (.pointer (some ⟨b1, 0, none⟩))) 3 (.pointer (some ⟨b14, 0, none⟩))) 5 (.int .i64 (j : Int))) ∧ k = xs.length - j ∧ Ext noS G w G22 W ∧ (j ≤ xs.length) ∧ (xs.length = ys.length) ∧ (∀ i, i < j → xs.getD i default = ys.getD i default)) _ ⟨_, 0, (zF (x := 5) (zF (x := 3) (yF (x := 2) rfl) rfl) rfl), rfl, hX24, Nat.zero_le _, (by omega), (fun i hi => absurd hi (Nat.not_lt_zero i))⟩ ?_)
 rintro k28 _ w29 ⟨env1, j, rfl, hk30, hX31, hj, heq, hp⟩
 refine zD (zD (zE ?_))
 refine qD rfl (zB (v := (.int .i64 (j : Int))) rfl) (qD rfl (zM (k := 0) rfl eY rfl nz24 rfl) (qD rfl (zP (u := u) ag24 rfl ((dI hX31.pins hle23) _ _ _ (hbp12 0 _ rfl))) (qD rfl (run_len eT (v := u) rfl hu) (qD rfl (xB rfl rfl) (qe (zA ?_))))))
 refine yJ (p := ((j : Int) : Int) < (xs.length : Int)) rfl rfl (fun h32 => ?_) (fun h32 => ?_)
 refine wp_skip (zA (zD ?_))
 refine yI (zD (xD (S := fun wz => Pins G22 wz) (last := 30) (by kernel_rfl) rfl ?_))
 have hl33 := bdr w29
 have hX35 := hX31.step (hX31.pins.below hl33) hl33
 refine dT (i := 0) rfl rfl (by kernel_rfl) (fun _ _ => zM (k := 0) rfl eY rfl nz24 rfl) hX35.pins ?_
 refine dT (i := 1) rfl rfl (by kernel_rfl) (fun _ hS => zP (u := u) ag24 rfl ((dI hS hle23) _ _ _ (hbp12 0 _ rfl))) hX35.pins ?_
 refine dT (i := 2) rfl rfl (by kernel_rfl) (fun _ _ => zB (v := (.int .i64 (j : Int))) rfl) hX35.pins ?_
 refine dT (i := 3) rfl rfl (by kernel_rfl) (fun _ _ => zL eT sz65 (v := u) rfl rfl hu (by omega) (by omega)) hX35.pins ?_
 refine dT (i := 4) rfl rfl (by kernel_rfl) (fun _ _ => yS (off := 0) eX rfl rfl nz59 (z := (j : Int)) (k := 0) rfl hu (by omega) (by omega)) hX35.pins ?_
 obtain ⟨u36, hr37, hl38⟩ := vO (hu.at (z := (j : Int)) (by omega) (by omega)) (j := j) rfl
 have hm39 := hr37.max
 refine dT (i := 5) rfl rfl (by kernel_rfl) (fun _ hS => hl38 ag59 rfl (dI hS (dH hle10 hle23))) hX35.pins ?_
 refine dT (i := 6) rfl rfl (by kernel_rfl) (fun _ _ => zM (k := 0) rfl eY rfl nz24 rfl) hX35.pins ?_
 refine dT (i := 7) rfl rfl (by kernel_rfl) (fun _ hS => zP (u := v) ag24 rfl (hS _ _ _ (hbp25 0 _ rfl))) hX35.pins ?_
 refine dT (i := 8) rfl rfl (by kernel_rfl) (fun _ _ => zB (v := (.int .i64 (j : Int))) rfl) hX35.pins ?_
 refine dT (i := 9) rfl rfl (by kernel_rfl) (fun _ _ => zL eT sz65 (v := v) rfl rfl hv (by omega) (by omega)) hX35.pins ?_
 refine dT (i := 10) rfl rfl (by kernel_rfl) (fun _ _ => yS (off := 0) eX rfl rfl nz59 (z := (j : Int)) (k := 0) rfl hv (by omega) (by omega)) hX35.pins ?_
 obtain ⟨u40, hr41, hl42⟩ := vO (hv.at (z := (j : Int)) (by omega) (by omega)) (j := j) rfl
 have hm43 := hr41.max
 refine dT (i := 11) rfl rfl (by kernel_rfl) (fun _ hS => hl42 ag59 rfl (dI hS (dH hle10 hle23))) hX35.pins ?_
 refine zR (i := 12) (by kernel_rfl) (yC (i := 12) rfl rfl rfl (zH rfl _) (zK (vs := [u36, u40]) Tryz.func127 nm127 rfl rfl rfl ?_))
 refine dJ (kR hX35.pins (hr37.mono (dH hle10 hle23)) (hr41.mono (dH hle10 hle23))) ?_
 rintro _ w44 ⟨rfl, hx45⟩
 refine ⟨_, rfl, ?_⟩
 have hX46 := hX35.step hx45.pins hx45.below
 refine ⟨fun _ => hX46.pins, ?_⟩
 refine dT (i := 13) rfl rfl (by kernel_rfl) (fun _ _ => xT rfl) hX46.pins ?_
 refine dT (i := 14) rfl rfl (by kernel_rfl) (fun _ _ => zB (v := (.bool (!(decide (((xs.getD j default).l) = ((ys.getD j default).l)))))) rfl) hX46.pins ?_
 refine drbn (t := 34) rfl (fun h47 => ?_) (fun h47 => ?_)
 replace h47 := of_decide_eq_true h47
 refine zW (i := 15) rfl rfl rfl (zO rfl rfl rfl rfl) (by kernel_rfl) (fun _ _ => zM (k := 0) rfl eY rfl nz24 rfl) hX46.pins (zW (i := 16) rfl rfl rfl (zO rfl rfl rfl rfl) (by kernel_rfl) (fun _ hS => zP (u := u) ag24 rfl ((dI hS hle23) _ _ _ (hbp12 0 _ rfl))) hX46.pins (zW (i := 17) rfl rfl rfl (zO rfl rfl rfl rfl) (by kernel_rfl) (fun _ _ => zB (v := (.int .i64 (j : Int))) rfl) hX46.pins (zW (i := 18) rfl rfl rfl (zO rfl rfl rfl rfl) (by kernel_rfl) (fun _ _ => zL eT sz65 (v := u) rfl rfl hu (by omega) (by omega)) hX46.pins (zW (i := 19) rfl rfl rfl (zO rfl rfl rfl rfl) (by kernel_rfl) (fun _ _ => yS (off := 1) eX rfl rfl nz59 (z := (j : Int)) (k := 0) rfl hu (by omega) (by omega)) hX46.pins ?_))))
 obtain ⟨u48, hr49, hl50⟩ := vH (hu.at (z := (j : Int)) (by omega) (by omega)) (j := j) rfl
 have hm51 := hr49.max
 refine zW (i := 20) rfl rfl rfl (zO rfl rfl rfl rfl) (by kernel_rfl) (fun _ hS => hl50 ag59 rfl (dI hS (dH hle10 hle23))) hX46.pins (zW (i := 21) rfl rfl rfl (zO rfl rfl rfl rfl) (by kernel_rfl) (fun _ _ => zM (k := 0) rfl eY rfl nz24 rfl) hX46.pins (zW (i := 22) rfl rfl rfl (zO rfl rfl rfl rfl) (by kernel_rfl) (fun _ hS => zP (u := v) ag24 rfl (hS _ _ _ (hbp25 0 _ rfl))) hX46.pins (zW (i := 23) rfl rfl rfl (zO rfl rfl rfl rfl) (by kernel_rfl) (fun _ _ => zB (v := (.int .i64 (j : Int))) rfl) hX46.pins (zW (i := 24) rfl rfl rfl (zO rfl rfl rfl rfl) (by kernel_rfl) (fun _ _ => zL eT sz65 (v := v) rfl rfl hv (by omega) (by omega)) hX46.pins (zW (i := 25) rfl rfl rfl (zO rfl rfl rfl rfl) (by kernel_rfl) (fun _ _ => yS (off := 1) eX rfl rfl nz59 (z := (j : Int)) (k := 0) rfl hv (by omega) (by omega)) hX46.pins ?_)))))
 obtain ⟨u52, hr53, hl54⟩ := vH (hv.at (z := (j : Int)) (by omega) (by omega)) (j := j) rfl
 have hm55 := hr53.max
 refine zW (i := 26) rfl rfl rfl (zO rfl rfl rfl rfl) (by kernel_rfl) (fun _ hS => hl54 ag59 rfl (dI hS (dH hle10 hle23))) hX46.pins (zR (i := 27) (by kernel_rfl) (yC (i := 27) rfl rfl rfl (zO rfl rfl rfl rfl) (zK (vs := [u48, u52]) Tryz.func127 nm127 rfl rfl rfl ?_)))
 refine dJ (kR hX46.pins (hr49.mono (dH hle10 hle23)) (hr53.mono (dH hle10 hle23))) ?_
 rintro _ w56 ⟨rfl, hx57⟩
 refine ⟨_, rfl, ?_⟩
 have hX58 := hX46.step hx57.pins hx57.below
 refine ⟨fun _ => hX58.pins, ?_⟩
 refine zW (i := 28) rfl rfl rfl (zO rfl rfl rfl rfl) (by kernel_rfl) (fun _ _ => xT rfl) hX58.pins (dT (i := 29) rfl rfl (by kernel_rfl) (fun _ _ => yN (v := (.bool (!(decide (((xs.getD j default).r) = ((ys.getD j default).r)))))) rfl rfl) hX58.pins ?_)
 refine yP (by kernel_rfl) (zA (xV rfl rfl (fun h59 => ?_) (fun h59 => ?_)))
 replace h59 := of_decide_eq_true h59
 refine wp_skip (yO (zA (zE ?_)))
 refine qD rfl (zB (v := (.int .i64 (j : Int))) rfl) (qD rfl (yT rfl rfl (by omega)) (qD rfl (zC (v := (.int .i64 ((j : Int) + 1))) rfl) (qe (yR (⟨_, ?_, _, rfl, _, j + 1, (zF (x := 5) (zF (x := 3) (yF (x := 2) rfl) rfl) rfl), rfl, hX58, (by omega), heq, (eqstepN hp h47 h59)⟩)))))
 omega
 replace h59 := of_decide_eq_false h59
 refine zD (zE ?_)
 refine qD rfl (zC (v := (.bool false)) rfl) (qe (zA ?_))
 exact wp_ret (zQ (yA (v := (.bool false)) rfl rfl rfl (⟨_, congrArg (fun z => Ending.returned (Value.bool z)) (decide_eq_false (fun e => h59 (by rw [e]))).symm, hX58⟩)))
 replace h47 := of_decide_eq_false h47
 refine zT (i := 15) rfl rfl (zY rfl rfl rfl rfl rfl) (by kernel_rfl) hX46.pins (zT (i := 16) rfl rfl (zY rfl rfl rfl rfl rfl) (by kernel_rfl) hX46.pins (zT (i := 17) rfl rfl (zY rfl rfl rfl rfl rfl) (by kernel_rfl) hX46.pins (zT (i := 18) rfl rfl (zY rfl rfl rfl rfl rfl) (by kernel_rfl) hX46.pins (zT (i := 19) rfl rfl (zY rfl rfl rfl rfl rfl) (by kernel_rfl) hX46.pins (zT (i := 20) rfl rfl (zY rfl rfl rfl rfl rfl) (by kernel_rfl) hX46.pins (zT (i := 21) rfl rfl (zY rfl rfl rfl rfl rfl) (by kernel_rfl) hX46.pins (zT (i := 22) rfl rfl (zY rfl rfl rfl rfl rfl) (by kernel_rfl) hX46.pins (zT (i := 23) rfl rfl (zY rfl rfl rfl rfl rfl) (by kernel_rfl) hX46.pins (zT (i := 24) rfl rfl (zY rfl rfl rfl rfl rfl) (by kernel_rfl) hX46.pins (zT (i := 25) rfl rfl (zY rfl rfl rfl rfl rfl) (by kernel_rfl) hX46.pins (zT (i := 26) rfl rfl (zY rfl rfl rfl rfl rfl) (by kernel_rfl) hX46.pins (zT (i := 27) rfl rfl (zY rfl rfl rfl rfl rfl) (by kernel_rfl) hX46.pins (zT (i := 28) rfl rfl (zY rfl rfl rfl rfl rfl) (by kernel_rfl) hX46.pins (dT (i := 29) rfl rfl (by kernel_rfl) (fun _ _ => yG (v := (.bool true)) rfl rfl) hX46.pins ?_))))))))))))))
 refine yP (by kernel_rfl) (zA (qC rfl rfl (zD (zE ?_))))
 refine qD rfl (zC (v := (.bool false)) rfl) (qe (zA ?_))
 exact wp_ret (zQ (yA (v := (.bool false)) rfl rfl rfl (⟨_, congrArg (fun z => Ending.returned (Value.bool z)) (decide_eq_false (fun e => h47 (by rw [e]))).symm, hX46⟩)))
 refine wp_exit (yK (yU (yV (zA (zD (zE ?_))))))
 refine qD rfl (zC (v := (.bool true)) rfl) (qe (zA ?_))
 exact wp_ret (zQ (yA (v := (.bool true)) rfl rfl rfl (⟨_, congrArg (fun z => Ending.returned (Value.bool z)) (decide_eq_true (eqdoneN heq (by omega) hp)).symm, hX31⟩)))
theorem put_spec {w : World} {b : Nat} {bu bv : Value} {ns : List Nd} {bs : List Int} (hP : Pins G w) (hB : Bk 65 3 G w b bu bv ns bs) (hok : BookOk ns bs) {x y : Value} (hx : RSl eInt G x xs) (hy : RSl eInt G y ys) (hls : xs.length ≤ 1048576 ∧ ys.length ≤ 1048576) (hk1 : ∀ i, i < xs.length → 0 ≤ xs.getD i 0 ∧ xs.getD i 0 < ns.length) (hk2 : ∀ i, i < ys.length → 0 ≤ ys.getD i 0 ∧ ys.getD i 0 < ns.length) :
  Calls Tryz.prog 78 [(.pointer (some ⟨b, 0, none⟩)), x, y].toArray w fun e w' => ∃ (u' v' : Value) (G' : Pin), e = .returned (.int .i64 (putK ns bs xs ys)) ∧ Bk 65 3 G' w' b u' v' (putN ns bs xs ys) (putB ns bs xs ys) ∧ Ext (inS b bu bv) G w G' w' ∧ Lo w (inS b bu bv) u'.ownBlock ∧ Lo w (inS b bu bv) v'.ownBlock := by
 refine yM (n := 136) Tryz.func78 Tryz.ntmps78 rfl rfl ?_
 have hX0 := exr (inS b bu bv) hP
 have hbx := hB.bx
 have hou := hB.ou
 have hov := hB.ov
 have habu := hB.abu
 have habv := hB.abv
 have hauv := hB.auv
 have hlob : Lo w (inS b bu bv) (some b) := lo_b
 have hlou : Lo w (inS b bu bv) bu.ownBlock := lo_u
 have hlov : Lo w (inS b bu bv) bv.ownBlock := lo_v
 have hlen := hok.len
 have hlim := hok.lim
 refine zD (zE ?_)
 refine qD rfl (zC (v := (.int .i64 0)) rfl) (qe (zA (zD (zE ?_))))
 refine qI rfl (xF (E := eInt) (e := 3) eR sz3 hX0.pins (fun u1 w2 ho3 hp4 hl5 hk6 => ?_))
 have hX7 := hX0.step hp4 hl5
 have ho8 := hou.below hl5
 have ho9 := hov.below hl5
 have hb10 := hbx.below hl5
 have ho14 := ho3.weaken hX0.size
 refine qI rfl (xF (E := eInt) (e := 3) eR sz3 hX7.pins (fun u15 w16 ho17 hp18 hl19 hk20 => ?_))
 have ho30 := ho17.weaken hX7.size
 refine qD rfl (zC (v := u1) rfl) (qD rfl (zC (v := u15) rfl) (qe (zA (zD (zE ?_)))))
 refine qD rfl (zC (v := (.int .i64 0)) rfl) (qe (zA (zD (zD (zE ?_)))))
 refine qD rfl (zC (v := (.int .i64 0)) rfl) (qe (zA ?_))
 refine yI ?_
 obtain ⟨G35, hle38, hX37, hr36, hf39⟩ := (ho14.below hl19).sealed (hX7.step hp18 hl19)
 refine yZ (fun (k : Nat) (en : Nat → Value) (W : World) => ∃ (env1 : Nat → Value) (i : Nat) (lo : Value) (ls : List Int) (bn : Int) (GLi : Pin), en = (upd (upd (upd (upd (upd (upd (upd (upd env1 0 (.pointer (some ⟨b, 0, none⟩))) 1 x) 2 y) 6 (.int .i64 0)) 7 lo) 8 u15) 9 (.int .i64 bn)) 10 (.int .i64 (i : Int))) ∧ k = xs.length - i ∧ Ext (inS b bu bv) G w GLi W ∧ Pin.le G35 GLi ∧ (i ≤ xs.length) ∧ (ls = sortL (xs.take i)) ∧ (ls.length ≤ i) ∧ (bn = bornOf bs (xs.take i) 0) ∧ (0 ≤ bn ∧ bn ≤ ns.length) ∧ (Own eNode 65 GLi W 0 bu (ns)) ∧ (Own eInt 3 GLi W 0 bv (bs)) ∧ (Own eInt 3 GLi W w.heap.size u15 ([])) ∧ (Bx GLi W b [bu, bv]) ∧ (RSl eInt GLi lo (ls))) _ ⟨_, 0, u1, [], 0, G35, (zF (x := 10) (zF (x := 9) (zF (x := 8) (zF (x := 7) (zF (x := 6) (zF (x := 2) (zF (x := 1) (yF (x := 0) rfl) rfl) rfl) rfl) rfl) rfl) rfl) rfl), rfl, hX37, Pin.le_refl _, Nat.zero_le _, rfl, Nat.le_refl 0, rfl, (by omega), ((ho8.below hl19).moreO hle38 hf39 (zI hk6 hou.lt).symm), ((ho9.below hl19).moreO hle38 hf39 (zI hk6 hov.lt).symm), (ho30.moreO hle38 hf39 (zI hk20 ho14.lt)), ((hb10.below hl19).moreO hf39 (zG hk6 hbx.lt).symm), hr36⟩ ?_
 rintro k31 _ w32 ⟨env1, i, lo, ls, bn, GLi, rfl, hk33, hX34, hlek31, hji, hrls, holls, hbbn, hlbn, hw44, hw45, hw46, hw47, hr48⟩
 refine zD (zD (zE ?_))
 refine qD rfl (zB (v := (.int .i64 (i : Int))) rfl) (qD rfl (zB (v := x) rfl) (qD rfl (run_len eR (v := x) rfl hx) (qD rfl (xB rfl rfl) (qe (zA ?_)))))
 refine yJ (p := ((i : Int) : Int) < (xs.length : Int)) rfl rfl (fun h49 => ?_) (fun h49 => ?_)
 have hki := hk1 i (by omega)
 have hbk := hok.born (xs.getD i 0).toNat (by omega)
 refine wp_skip (zA (zD ?_))
 refine yI (zD (zE ?_))
 refine qD rfl (zB (v := lo) rfl) (qD rfl (zB (v := x) rfl) (qD rfl (zB (v := (.int .i64 (i : Int))) rfl) (qD rfl (zL eR sz3 (v := x) rfl rfl hx (by omega) (by omega)) (qD rfl (zZ (r := xs.getD i 0) rfl ag3 (z := (i : Int)) rfl hx (dI hX34.pins (dH hle38 hlek31)) (by omega) (by omega)) (qI rfl (zK (vs := [lo, (.int .i64 (xs.getD i 0))]) Tryz.func125 nm125 rfl rfl rfl ?_))))))
 refine dJ (gS hX34.pins hr48 (by omega)) ?_
 rintro _ w52 ⟨u50, G51, rfl, hr53, hx54⟩
 refine ⟨_, rfl, ?_⟩
 have hX55 := hX34.tr hx54
 have ho57 := hw45.ext hx54
 refine qD rfl (zC (v := u50) rfl) (qe (zA ?_))
 have hr61 := ho57.read
 refine xD (S := fun wz => BxR wz b [bu, bv] ∧ Pins G51 wz ∧ Pins (Gadd G51 w52 bv) wz) (last := 14) (by kernel_rfl) rfl ?_
 have hl62 := bdr w52
 have hX64 := hX55.step (hX55.pins.below hl62) hl62
 have hb68 := (hw47.ext hx54).below hl62
 have hq69 := (Gadd.pins hX55.pins bv).below hl62
 refine dT (i := 0) rfl rfl (by kernel_rfl) (fun _ _ => zB (v := (.int .i64 bn)) rfl) ⟨hb68.reads, hX64.pins, hq69⟩ ?_
 refine dT (i := 1) rfl rfl (by kernel_rfl) (fun _ _ => zB (v := (.pointer (some ⟨b, 0, none⟩))) rfl) ⟨hb68.reads, hX64.pins, hq69⟩ ?_
 refine dT (i := 2) rfl rfl (by kernel_rfl) (fun _ _ => xL rfl) ⟨hb68.reads, hX64.pins, hq69⟩ ?_
 refine dT (i := 3) rfl rfl (by kernel_rfl) (fun _ _ => zM (k := 1) rfl dA rfl nz59 rfl) ⟨hb68.reads, hX64.pins, hq69⟩ ?_
 refine dT (i := 4) rfl rfl (by kernel_rfl) (fun _ hS => zP (u := bv) ag59 rfl (hS.1 1 _ rfl)) ⟨hb68.reads, hX64.pins, hq69⟩ ?_
 refine dT (i := 5) rfl rfl (by kernel_rfl) (fun _ _ => zB (v := x) rfl) ⟨hb68.reads, hX64.pins, hq69⟩ ?_
 refine dT (i := 6) rfl rfl (by kernel_rfl) (fun _ _ => zB (v := (.int .i64 (i : Int))) rfl) ⟨hb68.reads, hX64.pins, hq69⟩ ?_
 refine dT (i := 7) rfl rfl (by kernel_rfl) (fun _ _ => zL eR sz3 (v := x) rfl rfl hx (by omega) (by omega)) ⟨hb68.reads, hX64.pins, hq69⟩ ?_
 refine dT (i := 8) rfl rfl (by kernel_rfl) (fun _ hS => zZ (r := xs.getD i 0) rfl ag3 (z := (i : Int)) rfl hx (dI hS.2.1 (dH (dH hle38 hlek31) hx54.le)) (by omega) (by omega)) ⟨hb68.reads, hX64.pins, hq69⟩ ?_
 refine dT (i := 9) rfl rfl (by kernel_rfl) (fun _ _ => zL eR sz3 (v := bv) rfl rfl hr61 (by omega) (by omega)) ⟨hb68.reads, hX64.pins, hq69⟩ ?_
 refine dT (i := 10) rfl rfl (by kernel_rfl) (fun _ hS => zZ (r := bs.getD (xs.getD i 0).toNat 0) rfl ag3 (z := (xs.getD i 0)) rfl hr61 hS.2.2 (by omega) (by omega)) ⟨hb68.reads, hX64.pins, hq69⟩ ?_
 refine dT (i := 11) rfl rfl (by kernel_rfl) (fun _ _ => yT rfl rfl (by omega)) ⟨hb68.reads, hX64.pins, hq69⟩ ?_
 refine zR (i := 12) (by kernel_rfl) (yC (i := 12) rfl rfl rfl (zH rfl _) (zK (vs := [(.int .i64 bn), (.int .i64 ((bs.getD (xs.getD i 0).toNat 0) + 1))]) Tryz.func126 nm126 rfl rfl rfl ?_))
 refine dJ (rZ hX64.pins) ?_
 rintro _ _ ⟨rfl, rfl⟩
 refine ⟨_, rfl, ?_⟩
 refine ⟨fun _ => ⟨hb68.reads, hX64.pins, hq69⟩, ?_⟩
 refine dT (i := 13) rfl rfl (by kernel_rfl) (fun _ _ => zC (v := (.int .i64 (max bn ((bs.getD (xs.getD i 0).toNat 0) + 1)))) rfl) ⟨hb68.reads, hX64.pins, hq69⟩ ?_
 refine yP (by kernel_rfl) (yO (zA (zE ?_)))
 refine qD rfl (zB (v := (.int .i64 (i : Int))) rfl) (qD rfl (yT rfl rfl (by omega)) (qD rfl (zC (v := (.int .i64 ((i : Int) + 1))) rfl) (qe (yR (⟨_, ?_, _, rfl, _, i + 1, u50, putL ls (xs.getD i 0), max bn ((bs.getD (xs.getD i 0).toNat 0) + 1), G51, (zF (x := 10) (zF (x := 9) (zF (x := 8) (zF (x := 7) (zF (x := 6) (zF (x := 2) (zF (x := 1) (yF (x := 0) rfl) rfl) rfl) rfl) rfl) rfl) rfl) rfl), rfl, hX64, (dH hlek31 hx54.le), (by omega), (by rw [hrls, tV (by omega)]), (Nat.le_trans vF (by omega)), (by rw [hbbn, eI (by omega)]), (by omega), ((hw44.ext hx54).below hl62), (ho57.below hl62), ((hw46.ext hx54).below hl62), hb68, hr53⟩)))))
 omega
 refine wp_exit (yK (yU (yV (zA (zD (zD (zE ?_)))))))
 refine qD rfl (zC (v := (.int .i64 0)) rfl) (qe (zA ?_))
 refine yI ?_
 obtain ⟨G74, hle77, hX76, hr75, hf78⟩ := hw46.sealed hX34
 refine yZ (fun (k : Nat) (en : Nat → Value) (W : World) => ∃ (env1 : Nat → Value) (i2 : Nat) (ro : Value) (rs : List Int) (bm : Int) (GLi2 : Pin), en = (upd (upd (upd (upd (upd (upd (upd env1 0 (.pointer (some ⟨b, 0, none⟩))) 2 y) 6 (.int .i64 0)) 7 lo) 8 ro) 9 (.int .i64 bm)) 11 (.int .i64 (i2 : Int))) ∧ k = ys.length - i2 ∧ Ext (inS b bu bv) G w GLi2 W ∧ Pin.le G74 GLi2 ∧ (i2 ≤ ys.length) ∧ (rs = sortL (ys.take i2)) ∧ (rs.length ≤ i2) ∧ (bm = bornOf bs (ys.take i2) bn) ∧ (0 ≤ bm ∧ bm ≤ ns.length) ∧ (Own eNode 65 GLi2 W 0 bu (ns)) ∧ (Own eInt 3 GLi2 W 0 bv (bs)) ∧ (Bx GLi2 W b [bu, bv]) ∧ (RSl eInt GLi2 ro (rs))) _ ⟨_, 0, u15, [], bn, G74, (zF (x := 11) (zF (x := 9) (zF (x := 8) (zF (x := 7) (zF (x := 6) (zF (x := 2) (yF (x := 0) rfl) rfl) rfl) rfl) rfl) rfl) rfl), rfl, hX76, Pin.le_refl _, Nat.zero_le _, rfl, Nat.le_refl 0, rfl, (by omega), (hw44.moreO hle77 hf78 (zI hk20 ho8.lt).symm), (hw45.moreO hle77 hf78 (zI hk20 ho9.lt).symm), (hw47.moreO hf78 (zG hk20 hb10.lt).symm), hr75⟩ ?_
 rintro k70 _ w71 ⟨env1, i2, ro, rs, bm, GLi2, rfl, hk72, hX73, hlek70, hji2, hrrs, holrs, hbbm, hlbm, hw82, hw83, hw84, hr85⟩
 refine zD (zD (zE ?_))
 refine qD rfl (zB (v := (.int .i64 (i2 : Int))) rfl) (qD rfl (zB (v := y) rfl) (qD rfl (run_len eR (v := y) rfl hy) (qD rfl (xB rfl rfl) (qe (zA ?_)))))
 refine yJ (p := ((i2 : Int) : Int) < (ys.length : Int)) rfl rfl (fun h86 => ?_) (fun h86 => ?_)
 have hki := hk2 i2 (by omega)
 have hbk := hok.born (ys.getD i2 0).toNat (by omega)
 refine wp_skip (zA (zD ?_))
 refine yI (zD (zE ?_))
 refine qD rfl (zB (v := ro) rfl) (qD rfl (zB (v := y) rfl) (qD rfl (zB (v := (.int .i64 (i2 : Int))) rfl) (qD rfl (zL eR sz3 (v := y) rfl rfl hy (by omega) (by omega)) (qD rfl (zZ (r := ys.getD i2 0) rfl ag3 (z := (i2 : Int)) rfl hy (dI hX73.pins (dH (dH (dH hle38 hlek31) hle77) hlek70)) (by omega) (by omega)) (qI rfl (zK (vs := [ro, (.int .i64 (ys.getD i2 0))]) Tryz.func125 nm125 rfl rfl rfl ?_))))))
 refine dJ (gS hX73.pins hr85 (by omega)) ?_
 rintro _ w89 ⟨u87, G88, rfl, hr90, hx91⟩
 refine ⟨_, rfl, ?_⟩
 have hX92 := hX73.tr hx91
 have ho94 := hw83.ext hx91
 refine qD rfl (zC (v := u87) rfl) (qe (zA ?_))
 have hr97 := ho94.read
 refine xD (S := fun wz => BxR wz b [bu, bv] ∧ Pins G88 wz ∧ Pins (Gadd G88 w89 bv) wz) (last := 14) (by kernel_rfl) rfl ?_
 have hl98 := bdr w89
 have hX100 := hX92.step (hX92.pins.below hl98) hl98
 have hb103 := (hw84.ext hx91).below hl98
 have hq104 := (Gadd.pins hX92.pins bv).below hl98
 refine dT (i := 0) rfl rfl (by kernel_rfl) (fun _ _ => zB (v := (.int .i64 bm)) rfl) ⟨hb103.reads, hX100.pins, hq104⟩ ?_
 refine dT (i := 1) rfl rfl (by kernel_rfl) (fun _ _ => zB (v := (.pointer (some ⟨b, 0, none⟩))) rfl) ⟨hb103.reads, hX100.pins, hq104⟩ ?_
 refine dT (i := 2) rfl rfl (by kernel_rfl) (fun _ _ => xL rfl) ⟨hb103.reads, hX100.pins, hq104⟩ ?_
 refine dT (i := 3) rfl rfl (by kernel_rfl) (fun _ _ => zM (k := 1) rfl dA rfl nz59 rfl) ⟨hb103.reads, hX100.pins, hq104⟩ ?_
 refine dT (i := 4) rfl rfl (by kernel_rfl) (fun _ hS => zP (u := bv) ag59 rfl (hS.1 1 _ rfl)) ⟨hb103.reads, hX100.pins, hq104⟩ ?_
 refine dT (i := 5) rfl rfl (by kernel_rfl) (fun _ _ => zB (v := y) rfl) ⟨hb103.reads, hX100.pins, hq104⟩ ?_
 refine dT (i := 6) rfl rfl (by kernel_rfl) (fun _ _ => zB (v := (.int .i64 (i2 : Int))) rfl) ⟨hb103.reads, hX100.pins, hq104⟩ ?_
 refine dT (i := 7) rfl rfl (by kernel_rfl) (fun _ _ => zL eR sz3 (v := y) rfl rfl hy (by omega) (by omega)) ⟨hb103.reads, hX100.pins, hq104⟩ ?_
 refine dT (i := 8) rfl rfl (by kernel_rfl) (fun _ hS => zZ (r := ys.getD i2 0) rfl ag3 (z := (i2 : Int)) rfl hy (dI hS.2.1 (dH (dH (dH (dH hle38 hlek31) hle77) hlek70) hx91.le)) (by omega) (by omega)) ⟨hb103.reads, hX100.pins, hq104⟩ ?_
 refine dT (i := 9) rfl rfl (by kernel_rfl) (fun _ _ => zL eR sz3 (v := bv) rfl rfl hr97 (by omega) (by omega)) ⟨hb103.reads, hX100.pins, hq104⟩ ?_
 refine dT (i := 10) rfl rfl (by kernel_rfl) (fun _ hS => zZ (r := bs.getD (ys.getD i2 0).toNat 0) rfl ag3 (z := (ys.getD i2 0)) rfl hr97 hS.2.2 (by omega) (by omega)) ⟨hb103.reads, hX100.pins, hq104⟩ ?_
 refine dT (i := 11) rfl rfl (by kernel_rfl) (fun _ _ => yT rfl rfl (by omega)) ⟨hb103.reads, hX100.pins, hq104⟩ ?_
 refine zR (i := 12) (by kernel_rfl) (yC (i := 12) rfl rfl rfl (zH rfl _) (zK (vs := [(.int .i64 bm), (.int .i64 ((bs.getD (ys.getD i2 0).toNat 0) + 1))]) Tryz.func126 nm126 rfl rfl rfl ?_))
 refine dJ (rZ hX100.pins) ?_
 rintro _ _ ⟨rfl, rfl⟩
 refine ⟨_, rfl, ?_⟩
 refine ⟨fun _ => ⟨hb103.reads, hX100.pins, hq104⟩, ?_⟩
 refine dT (i := 13) rfl rfl (by kernel_rfl) (fun _ _ => zC (v := (.int .i64 (max bm ((bs.getD (ys.getD i2 0).toNat 0) + 1)))) rfl) ⟨hb103.reads, hX100.pins, hq104⟩ ?_
 refine yP (by kernel_rfl) (yO (zA (zE ?_)))
 refine qD rfl (zB (v := (.int .i64 (i2 : Int))) rfl) (qD rfl (yT rfl rfl (by omega)) (qD rfl (zC (v := (.int .i64 ((i2 : Int) + 1))) rfl) (qe (yR (⟨_, ?_, _, rfl, _, i2 + 1, u87, putL rs (ys.getD i2 0), max bm ((bs.getD (ys.getD i2 0).toNat 0) + 1), G88, (zF (x := 11) (zF (x := 9) (zF (x := 8) (zF (x := 7) (zF (x := 6) (zF (x := 2) (yF (x := 0) rfl) rfl) rfl) rfl) rfl) rfl) rfl), rfl, hX100, (dH hlek70 hx91.le), (by omega), (by rw [hrrs, tV (by omega)]), (Nat.le_trans vF (by omega)), (by rw [hbbm, eI (by omega)]), (by omega), ((hw82.ext hx91).below hl98), (ho94.below hl98), hb103, hr90⟩)))))
 omega
 refine wp_exit (yK (yU (yV (zA (zD (zD (zE ?_)))))))
 rw [fQ (by omega)] at hrls hrrs hbbn hbbm
 have e1 : putNd xs ys = ⟨ls, rs⟩ := by unfold putNd; rw [hrls, hrrs]
 have e2 : putBorn bs xs ys = bm := by unfold putBorn; rw [← hbbn, ← hbbm]
 refine qD rfl (zC (v := (.int .i64 0)) rfl) (qe (zA ?_))
 refine yI ?_
 have e0 : True := trivial
 refine yZ (fun (k : Nat) (en : Nat → Value) (W : World) => ∃ (env1 : Nat → Value) (q : Nat), en = (upd (upd (upd (upd (upd env1 0 (.pointer (some ⟨b, 0, none⟩))) 7 lo) 8 ro) 9 (.int .i64 bm)) 12 (.int .i64 (q : Int))) ∧ k = ns.length - q ∧ Ext (inS b bu bv) G w GLi2 W ∧ (q ≤ ns.length) ∧ (∀ i, i < q → NotAt ns bs ⟨ls, rs⟩ bm i) ∧ (Own eNode 65 GLi2 W 0 bu (ns)) ∧ (Own eInt 3 GLi2 W 0 bv (bs)) ∧ (Bx GLi2 W b [bu, bv])) _ ⟨_, 0, (zF (x := 12) (zF (x := 9) (zF (x := 8) (zF (x := 7) (yF (x := 0) rfl) rfl) rfl) rfl) rfl), rfl, hX73, Nat.zero_le _, (fun i hi => absurd hi (Nat.not_lt_zero i)), hw82, hw83, hw84⟩ ?_
 rintro k105 _ w106 ⟨env1, q, rfl, hk107, hX108, hk3, hp, hw109, hw110, hw111⟩
 refine zD (zD (zE ?_))
 refine qD rfl (zB (v := (.int .i64 (q : Int))) rfl) (qD rfl (zB (v := (.pointer (some ⟨b, 0, none⟩))) rfl) (qD rfl (xL rfl) (qD rfl (zM (k := 0) rfl dA rfl nz24 rfl) (qD rfl (zP (u := bu) ag24 rfl (hw111.cell (o := 0) rfl)) (qD rfl (run_len eT (v := bu) rfl hw109.read) (qD rfl (xB rfl rfl) (qe (zA ?_))))))))
 refine yJ (p := ((q : Int) : Int) < (ns.length : Int)) rfl rfl (fun h112 => ?_) (fun h112 => ?_)
 refine wp_skip (zA (zD ?_))
 refine yI (zD (zE ?_))
 refine qD rfl (zB (v := (.pointer (some ⟨b, 0, none⟩))) rfl) (qD rfl (xL rfl) (qD rfl (zM (k := 1) rfl dA rfl nz59 rfl) (qD rfl (zP (u := bv) ag59 rfl (hw111.cell (o := 1) rfl)) (qD rfl (zB (v := (.int .i64 (q : Int))) rfl) (qD rfl (zL eR sz3 (v := bv) rfl rfl hw110.read (by omega) (by omega)) (qD rfl (zZ (r := bs.getD q 0) rfl ag3 (z := (q : Int)) rfl hw110.read (Gadd.pins hX108.pins bv) (by omega) (by omega)) (qD rfl (zB (v := (.int .i64 bm)) rfl) (qD rfl (qN rfl rfl) (qD rfl (zB (v := (.bool (decide ((bs.getD q 0 : Int) = bm)))) rfl) (qbd (p := (bs.getD q 0 : Int) = bm) (t := 83) rfl (fun h113 => ?_) (fun h113 => ?_)))))))))))
 refine qdg rfl rfl rfl rfl rfl rfl (zB (v := (.pointer (some ⟨b, 0, none⟩))) rfl) (qdg rfl rfl rfl rfl rfl rfl (xL rfl) (qdg rfl rfl rfl rfl rfl rfl (zM (k := 0) rfl dA rfl nz24 rfl) (qdg rfl rfl rfl rfl rfl rfl (zP (u := bu) ag24 rfl (hw111.cell (o := 0) rfl)) (qdg rfl rfl rfl rfl rfl rfl (zB (v := (.int .i64 (q : Int))) rfl) (qdg rfl rfl rfl rfl rfl rfl (zL eT sz65 (v := bu) rfl rfl hw109.read (by omega) (by omega)) (qdg rfl rfl rfl rfl rfl rfl (yS (off := 0) eX rfl rfl nz59 (z := (q : Int)) (k := 0) rfl hw109.read (by omega) (by omega)) ?_))))))
 obtain ⟨u114, hr115, hl116⟩ := vO (hw109.at (z := (q : Int)) (by omega) (by omega)) (j := q) rfl
 have hm117 := hr115.max
 refine qdg rfl rfl rfl rfl rfl rfl (hl116 ag59 rfl (Gadd.pins hX108.pins bu)) (qdg rfl rfl rfl rfl rfl rfl (zB (v := lo) rfl) (q1g rfl rfl rfl rfl rfl rfl (zK (vs := [u114, lo]) Tryz.func127 nm127 rfl rfl rfl ?_)))
 refine dJ (kR hX108.pins hr115 (hr48.mono (dH hle77 hlek70))) ?_
 rintro _ w118 ⟨rfl, hx119⟩
 refine ⟨_, rfl, ?_⟩
 have hX120 := hX108.step hx119.pins hx119.below
 have ho121 := hw109.below hx119.below
 have ho122 := hw110.below hx119.below
 have hb123 := hw111.below hx119.below
 refine qD rfl (yG (v := (.bool (decide (((ns.getD q default).l) = ls)))) rfl rfl) (qD rfl (zB (v := (.bool (decide (((ns.getD q default).l) = ls)))) rfl) (qbd (p := (((ns.getD q default).l) = ls)) (t := 95) rfl (fun h124 => ?_) (fun h124 => ?_)))
 refine qdg rfl rfl rfl rfl rfl rfl (zB (v := (.pointer (some ⟨b, 0, none⟩))) rfl) (qdg rfl rfl rfl rfl rfl rfl (xL rfl) (qdg rfl rfl rfl rfl rfl rfl (zM (k := 0) rfl dA rfl nz24 rfl) (qdg rfl rfl rfl rfl rfl rfl (zP (u := bu) ag24 rfl (hb123.cell (o := 0) rfl)) (qdg rfl rfl rfl rfl rfl rfl (zB (v := (.int .i64 (q : Int))) rfl) (qdg rfl rfl rfl rfl rfl rfl (zL eT sz65 (v := bu) rfl rfl ho121.read (by omega) (by omega)) (qdg rfl rfl rfl rfl rfl rfl (yS (off := 1) eX rfl rfl nz59 (z := (q : Int)) (k := 0) rfl ho121.read (by omega) (by omega)) ?_))))))
 obtain ⟨u125, hr126, hl127⟩ := vH (ho121.at (z := (q : Int)) (by omega) (by omega)) (j := q) rfl
 have hm128 := hr126.max
 refine qdg rfl rfl rfl rfl rfl rfl (hl127 ag59 rfl (Gadd.pins hX120.pins bu)) (qdg rfl rfl rfl rfl rfl rfl (zB (v := ro) rfl) (q1g rfl rfl rfl rfl rfl rfl (zK (vs := [u125, ro]) Tryz.func127 nm127 rfl rfl rfl ?_)))
 refine dJ (kR hX120.pins hr126 hr85) ?_
 rintro _ w129 ⟨rfl, hx130⟩
 refine ⟨_, rfl, ?_⟩
 have hX131 := hX120.step hx130.pins hx130.below
 have ho132 := ho121.below hx130.below
 have ho133 := ho122.below hx130.below
 have hb134 := hb123.below hx130.below
 refine qD rfl (yG (v := (.bool (decide (((ns.getD q default).r) = rs)))) rfl rfl) (qe (zA ?_))
 refine yJ (p := (((ns.getD q default).r) = rs)) rfl rfl (fun h135 => ?_) (fun h135 => ?_)
 refine zD (zE ?_)
 refine qD rfl (zB (v := (.int .i64 (q : Int))) rfl) (qD rfl (zC (v := (.int .i64 (q : Int))) rfl) (qe (zA ?_)))
 refine wp_ret (zQ (yA (v := (.int .i64 (q : Int))) rfl rfl rfl ?_))
 have hf : findK ns bs (putNd xs ys) (putBorn bs xs ys) = some q := by rw [e1, e2]; exact find_some (by omega) hp ⟨h113, h124, h135⟩
 have eN : putN ns bs xs ys = ns := by unfold putN; rw [hf]
 have eB : putB ns bs xs ys = bs := by unfold putB; rw [hf]
 refine ⟨bu, bv, _, congrArg (fun z => Ending.returned (Value.int .i64 z)) (by unfold putK; rw [hf]), ?_, hX131, hlou, hlov⟩
 rw [eN, eB]
 exact ⟨hb134, ho132, ho133, habu, habv, hauv⟩
 refine wp_skip (yO (zA (zE ?_)))
 refine qD rfl (zB (v := (.int .i64 (q : Int))) rfl) (qD rfl (yT rfl rfl (by omega)) (qD rfl (zC (v := (.int .i64 ((q : Int) + 1))) rfl) (qe (yR (⟨_, ?_, _, rfl, _, q + 1, (zF (x := 12) (zF (x := 9) (zF (x := 8) (zF (x := 7) (yF (x := 0) rfl) rfl) rfl) rfl) rfl), rfl, hX131, (by omega), (fun i hi => if h3 : i = q then h3 ▸ (fun g => absurd g.2.2 h135) else hp i (by omega)), ho132, ho133, hb134⟩)))))
 omega
 refine qs rfl rfl rfl rfl rfl rfl (qs rfl rfl rfl rfl rfl rfl (qs rfl rfl rfl rfl rfl rfl (qs rfl rfl rfl rfl rfl rfl (qs rfl rfl rfl rfl rfl rfl (qs rfl rfl rfl rfl rfl rfl (qs rfl rfl rfl rfl rfl rfl (qs rfl rfl rfl rfl rfl rfl (qs rfl rfl rfl rfl rfl rfl (qs rfl rfl rfl rfl rfl rfl (qD rfl (yN (v := (.bool false)) rfl rfl) (qe (zA ?_))))))))))))
 refine vP rfl rfl (wp_skip (yO (zA (zE ?_))))
 refine qD rfl (zB (v := (.int .i64 (q : Int))) rfl) (qD rfl (yT rfl rfl (by omega)) (qD rfl (zC (v := (.int .i64 ((q : Int) + 1))) rfl) (qe (yR (⟨_, ?_, _, rfl, _, q + 1, (zF (x := 12) (zF (x := 9) (zF (x := 8) (zF (x := 7) (yF (x := 0) rfl) rfl) rfl) rfl) rfl), rfl, hX120, (by omega), (fun i hi => if h3 : i = q then h3 ▸ (fun g => absurd g.2.1 h124) else hp i (by omega)), ho121, ho122, hb123⟩)))))
 omega
 refine qs rfl rfl rfl rfl rfl rfl (qs rfl rfl rfl rfl rfl rfl (qs rfl rfl rfl rfl rfl rfl (qs rfl rfl rfl rfl rfl rfl (qs rfl rfl rfl rfl rfl rfl (qs rfl rfl rfl rfl rfl rfl (qs rfl rfl rfl rfl rfl rfl (qs rfl rfl rfl rfl rfl rfl (qs rfl rfl rfl rfl rfl rfl (qs rfl rfl rfl rfl rfl rfl (qD rfl (yN (v := (.bool false)) rfl rfl) (qD rfl (zB (v := (.bool false)) rfl) (qs rfl rfl rfl rfl rfl rfl (qs rfl rfl rfl rfl rfl rfl (qs rfl rfl rfl rfl rfl rfl (qs rfl rfl rfl rfl rfl rfl (qs rfl rfl rfl rfl rfl rfl (qs rfl rfl rfl rfl rfl rfl (qs rfl rfl rfl rfl rfl rfl (qs rfl rfl rfl rfl rfl rfl (qs rfl rfl rfl rfl rfl rfl (qs rfl rfl rfl rfl rfl rfl (qD rfl (yN (v := (.bool false)) rfl rfl) (qe (zA ?_))))))))))))))))))))))))
 refine vP rfl rfl (wp_skip (yO (zA (zE ?_))))
 refine qD rfl (zB (v := (.int .i64 (q : Int))) rfl) (qD rfl (yT rfl rfl (by omega)) (qD rfl (zC (v := (.int .i64 ((q : Int) + 1))) rfl) (qe (yR (⟨_, ?_, _, rfl, _, q + 1, (zF (x := 12) (zF (x := 9) (zF (x := 8) (zF (x := 7) (yF (x := 0) rfl) rfl) rfl) rfl) rfl), rfl, hX108, (by omega), (fun i hi => if h3 : i = q then h3 ▸ (fun g => absurd g.1 h113) else hp i (by omega)), hw109, hw110, hw111⟩)))))
 omega
 refine wp_exit (yK (yU (yV (zA (zD (zE ?_))))))
 refine qD rfl (zB (v := (.pointer (some ⟨b, 0, none⟩))) rfl) (qD rfl (zB (v := (.pointer (some ⟨b, 0, none⟩))) rfl) (qD rfl (xL rfl) (qD rfl (zM (k := 0) rfl dA rfl nz24 rfl) (qD rfl (zP (u := bu) ag24 rfl (hw111.cell (o := 0) rfl)) (qD rfl (zB (v := lo) rfl) (qD rfl (zB (v := ro) rfl) (qD rfl (yY [(.slice none 0 0), (.slice none 0 0)] [lo, ro] [(0, lo, [lo]), (1, ro, [ro])] eX zr65 rfl pl65 rfl (List.forall_mem_cons.2 ⟨(yW hr48.one), (List.forall_mem_cons.2 ⟨(yW hr85.one), (fun _ h => by cases h)⟩)⟩) rfl) (qI rfl (xM (E := eNode) (e := 65) [lo, ro] (⟨ls, rs⟩ : Nd) eT sz65 zr65 ⟨_, _, rfl, (hr48.mono (dH hle77 hlek70)), hr85⟩ rfl (by decide) hX108.pins (fun u136 w137 ho138 hp139 hl140 hk141 => ?_))))))))))
 have hX142 := hX108.step hp139 hl140
 have ho144 := hw110.below hl140
 have hb145 := hw111.below hl140
 have ho149 := ho138.weaken hX108.size
 refine qI rfl (yH (E := eNode) (v := bu) (u := u136) 48 eT ap65 (by decide) rfl rfl hX142.pins (hw109.below hl140) ho149.src (by first | omega | (rw [List.nil_append]; omega) | (rw [List.length_nil]; omega) | (rw [List.length_append]; omega) | (simp; done) | (simp; omega) | (simp only [List.length_append, List.length_cons, List.length_nil]; omega)) (by first | omega | (rw [List.nil_append]; omega) | (rw [List.length_nil]; omega) | (rw [List.length_append]; omega) | (simp; done) | (simp; omega) | (simp only [List.length_append, List.length_cons, List.length_nil]; omega)) (Nat.zero_le _) (fun u150 w151 ho152 hp153 hg154 hw155 => ?_))
 have hX156 := hX142.write hp153 hg154 (hlou)
 have ha160 : Apart bv.ownBlock u150.ownBlock := zJ hauv.symm hw155 ho144.lt
 have ha162 : Apart (some b) u150.ownBlock := zN habu hw155 hb145.lt
 have hlo163 : Lo w (inS b bu bv) u150.ownBlock := lo_app hlou hw155 hX142.size
 have hm164 := la1 ns (⟨ls, rs⟩ : Nd)
 refine qD rfl (xL rfl) (qD rfl (zM (k := 0) rfl dA rfl nz24 rfl) (q0 rfl rfl rfl (yD (cs' := [u150, bv]) (us := [u150]) (v := u150) sz24 rfl rfl (vL ho152.one) (yE ho152.one) hX156.pins (hb145.keptA hg154 habu) (dK rfl) rfl (fun w165 hb166 hp167 hg168 hz169 => ?_))))
 have hX170 := hX156.write hp167 hg168 (hlob)
 refine qe (zA (zD (zE ?_)))
 refine qD rfl (zB (v := (.pointer (some ⟨b, 0, none⟩))) rfl) (qD rfl (zB (v := (.pointer (some ⟨b, 0, none⟩))) rfl) (qD rfl (xL rfl) (qD rfl (zM (k := 1) rfl dA rfl nz59 rfl) (qD rfl (zP (u := bv) ag59 rfl (hb166.cell (o := 1) rfl)) (qD rfl (zB (v := (.int .i64 bm)) rfl) (qI rfl (xI (E := eInt) (e := 3) [(.int .i64 bm)] [bm] eR sz3 zr3 (by exact qQ (by rfl)) (yE (by rfl)) rfl rfl rfl rfl (by decide) hX170.pins (fun u173 w174 ho175 hp176 hl177 hk178 => ?_))))))))
 have hX179 := hX170.step hp176 hl177
 have ho181 := (ho152.keptA hg168 ha162.symm).below hl177
 have hb182 := hb166.below hl177
 have ho186 := ho175.weaken hX170.size
 refine qI rfl (yH (E := eInt) (v := bv) (u := u173) 8 eR ap3 (by decide) rfl rfl hX179.pins (((ho144.keptA hg154 hauv.symm).keptA hg168 habv.symm).below hl177) ho186.src (by first | omega | (rw [List.nil_append]; omega) | (rw [List.length_nil]; omega) | (rw [List.length_append]; omega) | (simp; done) | (simp; omega) | (simp only [List.length_append, List.length_cons, List.length_nil]; omega)) (by first | omega | (rw [List.nil_append]; omega) | (rw [List.length_nil]; omega) | (rw [List.length_append]; omega) | (simp; done) | (simp; omega) | (simp only [List.length_append, List.length_cons, List.length_nil]; omega)) (Nat.zero_le _) (fun u187 w188 ho189 hp190 hg191 hw192 => ?_))
 have hX193 := hX179.write hp190 hg191 (hlov)
 have ha199 : Apart (some b) u187.ownBlock := zN habv hw192 hb182.lt
 have hlo200 : Lo w (inS b bu bv) u187.ownBlock := lo_app hlov hw192 hX179.size
 have hm201 := la1 bs bm
 refine qD rfl (xL rfl) (qD rfl (zM (k := 1) rfl dA rfl nz59 rfl) (q0 rfl rfl rfl (yD (cs' := [u150, u187]) (us := [u187]) (v := u187) sz59 rfl rfl (vL ho189.one) (yE ho189.one) hX193.pins (hb182.keptA hg191 habv) (dK rfl) rfl (fun w202 hb203 hp204 hg205 hz206 => ?_))))
 have hX207 := hX193.write hp204 hg205 (hlob)
 have ho208 := (ho181.keptA hg191 ha160.symm).keptA hg205 ha162.symm
 refine qe (zA (zD (zE ?_)))
 refine qD rfl (zB (v := (.pointer (some ⟨b, 0, none⟩))) rfl) (qD rfl (xL rfl) (qD rfl (zM (k := 0) rfl dA rfl nz24 rfl) (qD rfl (zP (u := u150) ag24 rfl (hb203.cell (o := 0) rfl)) (qD rfl (run_len eT (v := u150) rfl ho208.read) (qD rfl (vN rfl rfl (by omega)) (qD rfl (zC (v := (.int .i64 (((ns ++ ([(⟨ls, rs⟩ : Nd)])).length : Int) - 1))) rfl) (qe (zA ?_))))))))
 refine wp_ret (zQ (yA (v := (.int .i64 (((ns ++ ([(⟨ls, rs⟩ : Nd)])).length : Int) - 1))) rfl rfl rfl ?_))
 have hf : findK ns bs (putNd xs ys) (putBorn bs xs ys) = none := by rw [e1, e2]; exact eC (by omega) hp
 have eN : putN ns bs xs ys = ns ++ [⟨ls, rs⟩] := by unfold putN; rw [hf, e1]
 have eB : putB ns bs xs ys = bs ++ [bm] := by unfold putB; rw [hf, e2]
 refine ⟨u150, u187, _, congrArg (fun z => Ending.returned (Value.int .i64 z)) (by unfold putK; rw [hf]; simp), ?_, hX207, hlo163, hlo200⟩
 rw [eN, eB]
 exact ⟨hb203, ho208, (ho189.keptA hg205 ha199.symm), ha162, ha199, (zJ ha160.symm hw192 ho181.lt)⟩
end D1
end Go.Proofs.YtajkbplgbikgdaaGreatDoor
