import Derived.Shelf.Strings.Builder1
import Derived.Shelf.Small.Strs
import Derived.Shelf.Small.Wraps
import Derived.Shelf.Strings.BuilderF
import Derived.Shelf.Strings.BuilderK
import Derived.Shelf.Strconv.Atoi
import Derived.Shelf.Strconv.Itoa0
import Derived.Shelf.Strconv.Itoa1
import Derived.Shelf.LaysM
import Derived.Shelf.Strconv.Itoa2
import Derived.Shelf.Strconv.Itoa3
import Derived.Shelf.Strconv.AtoiErrFast
import Derived.Shelf.Strconv.ParseIntEmpty
import Derived.Shelf.Strconv.AtoiFail
import Derived.Shelf.Strconv.Clone
import Derived.Shelf.Strconv.SyntaxError
import Derived.Shelf.LaysC
import Derived.Shelf.Strconv.ToError
import Derived.Shelf.Strconv.Lower
import Derived.Shelf.Strconv.ParseUint10
import Derived.Shelf.Strconv.ParseUint10Empty
import Derived.Shelf.Strconv.ParseUint10Any
import Derived.Shelf.Strconv.ParseInt10
import Derived.Shelf.Strconv.AtoiLong
import Derived.Shelf.Strconv.AtoiInnerAll
import Derived.Shelf.Strconv.RangeError
import Derived.Shelf.Strconv.ToErrorRange
import Derived.Shelf.Strconv.AtoiAll
import Derived.Shelf.Strconv.ErrVarAll
import Derived.Ground.MpProg
import Derived.Shelf.Pu.ParseUintPublic10
import Derived.Shelf.Pu.ErrVarParseUint
import Derived.Shelf.Strings.Search1
import Derived.Shelf.Strings.Search2
import Derived.Shelf.Strings.Cut
import Derived.Shelf.Strings.Shaped
import Derived.Shelf.Strings.Prefix
import Derived.Test.YtdhcliekejiegaaGreatDoorProg
namespace Go.Proofs
open Go.Shelf
def Tryz.lays169_ren : Go.Shelf.Ren := ⟨fun | 169 => 223 | n => n, fun | 70 => 270 | 9 => 9 | 0 => 0 | 72 => 273 | 37 => 271 | 127 => 292 | 3 => 3 | 5 => 5 | n => n, fun | n => n⟩
theorem Tryz.lays169 : Go.Proofs.Lays.n169 Tryz.prog Tryz.lays169_ren := {
 mixed := by kernel_rfl
 f169 := Tryz.func223.trans (congrArg some (by kernel_rfl))
 t0 := Tryz.underlying0
 a0 := Tryz.isAgg0
 z0 := Tryz.sizeOf0
 v0 := Tryz.zeroValue0
 t3 := Tryz.underlying3
 a3 := Tryz.isAgg3
 z3 := Tryz.sizeOf3
 v3 := Tryz.zeroValue3
 t9 := Tryz.underlying9
 a9 := Tryz.isAgg9
 z9 := Tryz.sizeOf9
 v9 := Tryz.zeroValue9
 t37 := Tryz.underlying271
 a37 := Tryz.isAgg271
 z37 := Tryz.sizeOf271
 v37 := Tryz.zeroValue271
 t70 := Tryz.underlying270
 a70 := Tryz.isAgg270
 z70 := Tryz.sizeOf270
 v70 := Tryz.zeroValue270
 t72 := Tryz.underlying273
 a72 := Tryz.isAgg273
 z72 := Tryz.sizeOf273
 v72 := Tryz.zeroValue273
 t127 := Tryz.underlying292
 a127 := Tryz.isAgg292
 z127 := Tryz.sizeOf292
 v127 := Tryz.zeroValue292 }
theorem Tryz.Builder_Extra_169 : Builder.Extra Tryz.prog Tryz.lays169_ren := {
 sizeBuilder := by kernel_rfl
 liesBuilder := by kernel_rfl
 t5 := Tryz.underlying5
 a5 := Tryz.isAgg5
 z5 := Tryz.sizeOf5
 v5 := Tryz.zeroValue5
 infoByte := by kernel_rfl
 cellsByte := by kernel_rfl
 sizeByte := by kernel_rfl
 neB5 := by decide }
def Tryz.lays106_ren : Go.Shelf.Ren := ⟨fun | 106 => 200 | 213 => 235 | 265 => 258 | n => n, fun | 9 => 9 | 3 => 3 | n => n, fun | n => n⟩
theorem Tryz.lays106 : Go.Proofs.Lays.n106 Tryz.prog Tryz.lays106_ren := {
 mixed := by kernel_rfl
 f106 := Tryz.func200.trans (congrArg some (by kernel_rfl))
 f213 := Tryz.func235.trans (congrArg some (by kernel_rfl))
 f265 := Tryz.func258.trans (congrArg some (by kernel_rfl))
 t3 := Tryz.underlying3
 a3 := Tryz.isAgg3
 z3 := Tryz.sizeOf3
 v3 := Tryz.zeroValue3
 t9 := Tryz.underlying9
 a9 := Tryz.isAgg9
 z9 := Tryz.sizeOf9
 v9 := Tryz.zeroValue9 }
open Go.RowKit in
theorem Tryz.strings_Compare (a b : ByteArray) (w : World) :
 Calls Tryz.prog 200 #[.string a, .string b] w fun e w' => e = .returned (.int .i64 (Lib.compareBytes a.data.toList b.data.toList)) ∧ w' = w := Any.strings_Compare Tryz.lays106 a b w
def Tryz.lays137_ren : Go.Shelf.Ren := ⟨fun | 137 => 91 | 217 => 157 | 266 => 203 | n => n, fun | 9 => 9 | 5 => 5 | 3 => 3 | n => n, fun | n => n⟩
theorem Tryz.lays137 : Go.Proofs.Lays.n137 Tryz.prog Tryz.lays137_ren := {
 mixed := by kernel_rfl
 f137 := Tryz.func91.trans (congrArg some (by kernel_rfl))
 f217 := Tryz.func157.trans (congrArg some (by kernel_rfl))
 f266 := Tryz.func203.trans (congrArg some (by kernel_rfl))
 t3 := Tryz.underlying3
 a3 := Tryz.isAgg3
 z3 := Tryz.sizeOf3
 v3 := Tryz.zeroValue3
 t5 := Tryz.underlying5
 a5 := Tryz.isAgg5
 z5 := Tryz.sizeOf5
 v5 := Tryz.zeroValue5
 t9 := Tryz.underlying9
 a9 := Tryz.isAgg9
 z9 := Tryz.sizeOf9
 v9 := Tryz.zeroValue9 }
open Go.RowKit in
theorem Tryz.strings_IndexByte (s : ByteArray) (c : Int) (w : World) :
 Calls Tryz.prog 91 #[.string s, .int .u8 c] w fun e w' => e = .returned (.int .i64 (Lib.indexByte s.data.toList c.toNat.toUInt8)) ∧ w' = w := Any.strings_IndexByte Tryz.lays137 s c w
def Tryz.lays103_ren : Go.Shelf.Ren := ⟨fun | 103 => 198 | 210 => 233 | 206 => 240 | n => n, fun | 9 => 9 | 4 => 4 | 24 => 252 | 3 => 3 | n => n, fun | n => n⟩
theorem Tryz.lays103 : Go.Proofs.Lays.n103 Tryz.prog Tryz.lays103_ren := {
 mixed := by kernel_rfl
 f103 := Tryz.func198.trans (congrArg some (by kernel_rfl))
 f206 := Tryz.func240.trans (congrArg some (by kernel_rfl))
 f210 := Tryz.func233.trans (congrArg some (by kernel_rfl))
 t3 := Tryz.underlying3
 a3 := Tryz.isAgg3
 z3 := Tryz.sizeOf3
 v3 := Tryz.zeroValue3
 t4 := Tryz.underlying4
 a4 := Tryz.isAgg4
 z4 := Tryz.sizeOf4
 v4 := Tryz.zeroValue4
 t9 := Tryz.underlying9
 a9 := Tryz.isAgg9
 z9 := Tryz.sizeOf9
 v9 := Tryz.zeroValue9
 t24 := Tryz.underlying252
 a24 := Tryz.isAgg252
 z24 := Tryz.sizeOf252
 v24 := Tryz.zeroValue252 }
open Go.RowKit in
theorem Tryz.strings_CutPrefix (s p : ByteArray) (w : World) :
 Calls Tryz.prog 198 #[.string s, .string p] w fun e w' => e = .returned (.tuple #[.string ⟨(Lib.trimPrefix s.data.toList p.data.toList).toArray⟩, .bool (Lib.hasPrefix s.data.toList p.data.toList)]) ∧ w' = w := Any.strings_CutPrefix Tryz.lays103 s p w
open Go.RowKit in
theorem Tryz.Builder_String_k (B b : Nat) (l : List UInt8) (w : World) (h : Lib.IsBuilderF 273 5 B b (Lib.byteCells l) w) (h0 : l ≠ []) :
 Calls Tryz.prog 223 #[.pointer (some ⟨b, 0, none⟩)] w fun e w' => e = .returned (.string ⟨l.toArray⟩) ∧ (Lib.IsBuilderF 273 5 B b (Lib.byteCells l) w' ∧ Below B w w' ∧ Lib.OthersKept 5 (some b) w w') := Any.Builder_String_k Tryz.lays169 Tryz.Builder_Extra_169 B b l w h h0
def Tryz.lays172_ren : Go.Shelf.Ren := ⟨fun | 172 => 192 | 244 => 230 | 245 => 231 | 247 => 250 | 279 => 251 | 280 => 252 | 281 => 253 | 282 => 254 | 287 => 241 | 316 => 267 | 171 => 137 | 205 => 268 | 321 => 260 | 322 => 261 | 243 => 191 | 246 => 229 | 283 => 246 | 284 => 247 | 285 => 248 | 286 => 249 | 129 => 188 | 317 => 263 | 318 => 264 | 319 => 265 | 320 => 266 | 337 => 270 | 338 => 271 | n => n, fun | 9 => 9 | 3 => 3 | 75 => 246 | 76 => 247 | 4 => 4 | 5 => 5 | 167 => 300 | 37 => 271 | 0 => 0 | 85 => 301 | 2 => 2 | 168 => 303 | 53 => 242 | 175 => 267 | 46 => 179 | 210 => 317 | 127 => 292 | 145 => 323 | 143 => 321 | 21 => 21 | 171 => 296 | 173 => 298 | 212 => 313 | 51 => 240 | 20 => 20 | 213 => 314 | 232 => 324 | 233 => 325 | 80 => 279 | n => n, fun | 15 => 2 | 16 => 3 | 17 => 1 | 18 => 4 | 19 => 5 | n => n⟩
theorem Tryz.lays172 : Go.Proofs.Lays.n172 Tryz.prog Tryz.lays172_ren := {
 mixed := by kernel_rfl
 f129 := Tryz.func188.trans (congrArg some (by kernel_rfl))
 f171 := Tryz.func137.trans (congrArg some (by kernel_rfl))
 f172 := Tryz.func192.trans (congrArg some (by kernel_rfl))
 f205 := Tryz.func268.trans (congrArg some (by kernel_rfl))
 f243 := Tryz.func191.trans (congrArg some (by kernel_rfl))
 f244 := Tryz.func230.trans (congrArg some (by kernel_rfl))
 f245 := Tryz.func231.trans (congrArg some (by kernel_rfl))
 f246 := Tryz.func229.trans (congrArg some (by kernel_rfl))
 f247 := Tryz.func250.trans (congrArg some (by kernel_rfl))
 f279 := Tryz.func251.trans (congrArg some (by kernel_rfl))
 f280 := Tryz.func252.trans (congrArg some (by kernel_rfl))
 f281 := Tryz.func253.trans (congrArg some (by kernel_rfl))
 f282 := Tryz.func254.trans (congrArg some (by kernel_rfl))
 f283 := Tryz.func246.trans (congrArg some (by kernel_rfl))
 f284 := Tryz.func247.trans (congrArg some (by kernel_rfl))
 f285 := Tryz.func248.trans (congrArg some (by kernel_rfl))
 f286 := Tryz.func249.trans (congrArg some (by kernel_rfl))
 f287 := Tryz.func241.trans (congrArg some (by kernel_rfl))
 f316 := Tryz.func267.trans (congrArg some (by kernel_rfl))
 f317 := Tryz.func263.trans (congrArg some (by kernel_rfl))
 f318 := Tryz.func264.trans (congrArg some (by kernel_rfl))
 f319 := Tryz.func265.trans (congrArg some (by kernel_rfl))
 f320 := Tryz.func266.trans (congrArg some (by kernel_rfl))
 f321 := Tryz.func260.trans (congrArg some (by kernel_rfl))
 f322 := Tryz.func261.trans (congrArg some (by kernel_rfl))
 f337 := Tryz.func270.trans (congrArg some (by kernel_rfl))
 f338 := Tryz.func271.trans (congrArg some (by kernel_rfl))
 t0 := Tryz.underlying0
 a0 := Tryz.isAgg0
 z0 := Tryz.sizeOf0
 v0 := Tryz.zeroValue0
 t2 := Tryz.underlying2
 a2 := Tryz.isAgg2
 z2 := Tryz.sizeOf2
 v2 := Tryz.zeroValue2
 t3 := Tryz.underlying3
 a3 := Tryz.isAgg3
 z3 := Tryz.sizeOf3
 v3 := Tryz.zeroValue3
 t4 := Tryz.underlying4
 a4 := Tryz.isAgg4
 z4 := Tryz.sizeOf4
 v4 := Tryz.zeroValue4
 t5 := Tryz.underlying5
 a5 := Tryz.isAgg5
 z5 := Tryz.sizeOf5
 v5 := Tryz.zeroValue5
 t9 := Tryz.underlying9
 a9 := Tryz.isAgg9
 z9 := Tryz.sizeOf9
 v9 := Tryz.zeroValue9
 t20 := Tryz.underlying20
 a20 := Tryz.isAgg20
 z20 := Tryz.sizeOf20
 v20 := Tryz.zeroValue20
 t21 := Tryz.underlying21
 a21 := Tryz.isAgg21
 z21 := Tryz.sizeOf21
 v21 := Tryz.zeroValue21
 t37 := Tryz.underlying271
 a37 := Tryz.isAgg271
 z37 := Tryz.sizeOf271
 v37 := Tryz.zeroValue271
 t46 := Tryz.underlying179
 a46 := Tryz.isAgg179
 z46 := Tryz.sizeOf179
 v46 := Tryz.zeroValue179
 t51 := Tryz.underlying240
 a51 := Tryz.isAgg240
 z51 := Tryz.sizeOf240
 v51 := Tryz.zeroValue240
 t53 := Tryz.underlying242
 a53 := Tryz.isAgg242
 z53 := Tryz.sizeOf242
 v53 := Tryz.zeroValue242
 t75 := Tryz.underlying246
 a75 := Tryz.isAgg246
 z75 := Tryz.sizeOf246
 v75 := Tryz.zeroValue246
 t76 := Tryz.underlying247
 a76 := Tryz.isAgg247
 z76 := Tryz.sizeOf247
 v76 := Tryz.zeroValue247
 t85 := Tryz.underlying301
 a85 := Tryz.isAgg301
 z85 := Tryz.sizeOf301
 v85 := Tryz.zeroValue301
 t127 := Tryz.underlying292
 a127 := Tryz.isAgg292
 z127 := Tryz.sizeOf292
 v127 := Tryz.zeroValue292
 t143 := Tryz.underlying321
 a143 := Tryz.isAgg321
 z143 := Tryz.sizeOf321
 v143 := Tryz.zeroValue321
 t145 := Tryz.underlying323
 a145 := Tryz.isAgg323
 z145 := Tryz.sizeOf323
 v145 := Tryz.zeroValue323
 t167 := Tryz.underlying300
 a167 := Tryz.isAgg300
 z167 := Tryz.sizeOf300
 v167 := Tryz.zeroValue300
 t168 := Tryz.underlying303
 a168 := Tryz.isAgg303
 z168 := Tryz.sizeOf303
 v168 := Tryz.zeroValue303
 t171 := Tryz.underlying296
 a171 := Tryz.isAgg296
 z171 := Tryz.sizeOf296
 v171 := Tryz.zeroValue296
 t173 := Tryz.underlying298
 a173 := Tryz.isAgg298
 z173 := Tryz.sizeOf298
 v173 := Tryz.zeroValue298
 t175 := Tryz.underlying267
 a175 := Tryz.isAgg267
 z175 := Tryz.sizeOf267
 v175 := Tryz.zeroValue267
 t210 := Tryz.underlying317
 a210 := Tryz.isAgg317
 z210 := Tryz.sizeOf317
 v210 := Tryz.zeroValue317
 t212 := Tryz.underlying313
 a212 := Tryz.isAgg313
 z212 := Tryz.sizeOf313
 v212 := Tryz.zeroValue313
 t213 := Tryz.underlying314
 a213 := Tryz.isAgg314
 z213 := Tryz.sizeOf314
 t232 := Tryz.underlying324
 a232 := Tryz.isAgg324
 z232 := Tryz.sizeOf324
 v232 := Tryz.zeroValue324
 t233 := Tryz.underlying325
 a233 := Tryz.isAgg325
 z233 := Tryz.sizeOf325
 v233 := Tryz.zeroValue325
 g15 := by kernel_rfl
 g16 := by kernel_rfl
 g17 := by kernel_rfl
 g18 := by kernel_rfl
 g19 := by kernel_rfl }
open Go.RowKit in
theorem Tryz.strconv_Atoi (s : ByteArray) (n : Int) (hl : s.size ≤ 18) (h : Lib.atoi s.data.toList = some n) (w : World) :
 Calls Tryz.prog 192 #[.string s] w fun e w' => e = .returned (.tuple #[.int .i64 n, .nilIface]) ∧ ∃ t, w' = Lib.bytesWorld w 5 t := Any.strconv_Atoi Tryz.lays172 s n hl h w
def Tryz.lays283_ren : Go.Shelf.Ren := ⟨fun | 283 => 246 | n => n, fun | 3 => 3 | 9 => 9 | 4 => 4 | n => n, fun | n => n⟩
theorem Tryz.lays283 : Go.Proofs.Lays.n283 Tryz.prog Tryz.lays283_ren := {
 mixed := by kernel_rfl
 f283 := Tryz.func246.trans (congrArg some (by kernel_rfl))
 t3 := Tryz.underlying3
 a3 := Tryz.isAgg3
 z3 := Tryz.sizeOf3
 v3 := Tryz.zeroValue3
 t4 := Tryz.underlying4
 a4 := Tryz.isAgg4
 z4 := Tryz.sizeOf4
 v4 := Tryz.zeroValue4
 t9 := Tryz.underlying9
 a9 := Tryz.isAgg9
 z9 := Tryz.sizeOf9
 v9 := Tryz.zeroValue9 }
open Go.Lib in
theorem Tryz.internal_strconv_small (i : Nat) (h : i < 100) (w : World) :
 Calls Tryz.prog 246 #[.int .i64 i] w fun e w' => e = .returned (.string ⟨(Lib.decDigits i).toArray⟩) ∧ w' = w := Any.internal_strconv_small Tryz.lays283 i h w
def Tryz.laysM284_ren : Go.Shelf.Ren := ⟨fun | 284 => 247 | 129 => 188 | 317 => 263 | 318 => 264 | n => n, fun | 53 => 242 | 3 => 3 | 212 => 313 | 0 => 0 | 4 => 4 | 46 => 179 | 5 => 5 | 9 => 9 | n => n, fun | 17 => 1 | n => n⟩
theorem Tryz.laysM284 : Go.Proofs.LaysM.n284 Tryz.prog Tryz.laysM284_ren := {
 mixed := by kernel_rfl
 f129 := Tryz.func188.trans (congrArg some (by kernel_rfl))
 f284 := Tryz.func247.trans (congrArg some (by kernel_rfl))
 f317 := Tryz.func263.trans (congrArg some (by kernel_rfl))
 f318 := Tryz.func264.trans (congrArg some (by kernel_rfl))
 t0 := Tryz.underlying0
 a0 := Tryz.isAgg0
 z0 := Tryz.sizeOf0
 v0 := Tryz.zeroValue0
 t3 := Tryz.underlying3
 a3 := Tryz.isAgg3
 z3 := Tryz.sizeOf3
 v3 := Tryz.zeroValue3
 t4 := Tryz.underlying4
 a4 := Tryz.isAgg4
 z4 := Tryz.sizeOf4
 v4 := Tryz.zeroValue4
 t5 := Tryz.underlying5
 a5 := Tryz.isAgg5
 z5 := Tryz.sizeOf5
 v5 := Tryz.zeroValue5
 t9 := Tryz.underlying9
 a9 := Tryz.isAgg9
 z9 := Tryz.sizeOf9
 v9 := Tryz.zeroValue9
 t46 := Tryz.underlying179
 a46 := Tryz.isAgg179
 z46 := Tryz.sizeOf179
 v46 := Tryz.zeroValue179
 t53 := Tryz.underlying242
 a53 := Tryz.isAgg242
 z53 := Tryz.sizeOf242
 v53 := Tryz.zeroValue242
 t212 := Tryz.underlying313
 a212 := Tryz.isAgg313
 z212 := Tryz.sizeOf313
 v212 := Tryz.zeroValue313
 g17 := by kernel_rfl
 i0 := by kernel_rfl
 i3 := by kernel_rfl
 i4 := by kernel_rfl
 i5 := by kernel_rfl
 i9 := by kernel_rfl
 i46 := by kernel_rfl
 i53 := by kernel_rfl
 i212 := by kernel_rfl
 m17 := by kernel_rfl }
open Go.Lib in
theorem Tryz.internal_strconv_numDigits (u : Nat) (h1 : 1 ≤ u) (h2 : u < 18446744073709551616) (w : World) (htab : Lib.TabIs Tryz.prog w "internal/strconv.uint64pow10" .u64 Lib.pow10Tab) :
 Calls Tryz.prog 247 #[.int .u64 u] w fun e w' => e = .returned (.int .i64 (Lib.nDigits u)) ∧ w' = w := Any.internal_strconv_numDigits Tryz.laysM284 u h1 h2 w htab
def Tryz.lays285_ren : Go.Shelf.Ren := ⟨fun | 285 => 248 | n => n, fun | 37 => 271 | 53 => 242 | 3 => 3 | 4 => 4 | 51 => 240 | 9 => 9 | 5 => 5 | 0 => 0 | n => n, fun | n => n⟩
theorem Tryz.lays285 : Go.Proofs.Lays.n285 Tryz.prog Tryz.lays285_ren := {
 mixed := by kernel_rfl
 f285 := Tryz.func248.trans (congrArg some (by kernel_rfl))
 t0 := Tryz.underlying0
 a0 := Tryz.isAgg0
 z0 := Tryz.sizeOf0
 v0 := Tryz.zeroValue0
 t3 := Tryz.underlying3
 a3 := Tryz.isAgg3
 z3 := Tryz.sizeOf3
 v3 := Tryz.zeroValue3
 t4 := Tryz.underlying4
 a4 := Tryz.isAgg4
 z4 := Tryz.sizeOf4
 v4 := Tryz.zeroValue4
 t5 := Tryz.underlying5
 a5 := Tryz.isAgg5
 z5 := Tryz.sizeOf5
 v5 := Tryz.zeroValue5
 t9 := Tryz.underlying9
 a9 := Tryz.isAgg9
 z9 := Tryz.sizeOf9
 v9 := Tryz.zeroValue9
 t37 := Tryz.underlying271
 a37 := Tryz.isAgg271
 z37 := Tryz.sizeOf271
 v37 := Tryz.zeroValue271
 t51 := Tryz.underlying240
 a51 := Tryz.isAgg240
 z51 := Tryz.sizeOf240
 v51 := Tryz.zeroValue240
 t53 := Tryz.underlying242
 a53 := Tryz.isAgg242
 z53 := Tryz.sizeOf242
 v53 := Tryz.zeroValue242 }
open Go.RowKit Go.Sort Go.Lib in
theorem Tryz.internal_strconv_formatBase10 (blk off cap : Nat) (u : Nat) (d : Array UInt8) (w : World) (hH : Holds (fun (b : UInt8) => Value.int .u8 (b.toNat : Int)) w blk off d) (hu : u < 10 ^ d.size) (hu64 : u < 18446744073709551616) (hsz : d.size < 4611686018427387904) :
 Calls Tryz.prog 248 #[.slice (some ⟨blk, off, none⟩) d.size cap, .int .u64 u] w fun e w' =>
  e = .returned (.tuple #[]) ∧ ∃ (n v' : Nat) (dk : Array UInt8), w' = (putRow (fun (b : UInt8) => Value.int .u8 (b.toNat : Int)) w blk off dk).drewN n ∧ FmtInv d.size u 0 v' dk := Any.internal_strconv_formatBase10 Tryz.lays285 blk off cap u d w hH hu hu64 hsz
def Tryz.laysM171_ren : Go.Shelf.Ren := ⟨fun | 171 => 137 | 243 => 191 | 246 => 229 | 283 => 246 | 284 => 247 | 285 => 248 | 286 => 249 | 129 => 188 | 317 => 263 | 318 => 264 | 319 => 265 | 320 => 266 | 337 => 270 | 338 => 271 | n => n, fun | 3 => 3 | 9 => 9 | 2 => 2 | 4 => 4 | 171 => 296 | 0 => 0 | 53 => 242 | 37 => 271 | 5 => 5 | 173 => 298 | 212 => 313 | 51 => 240 | 20 => 20 | 213 => 314 | 46 => 179 | 232 => 324 | 233 => 325 | n => n, fun | 17 => 1 | 18 => 4 | 19 => 5 | n => n⟩
theorem Tryz.laysM171 : Go.Proofs.LaysM.n171 Tryz.prog Tryz.laysM171_ren := {
 mixed := by kernel_rfl
 f129 := Tryz.func188.trans (congrArg some (by kernel_rfl))
 f171 := Tryz.func137.trans (congrArg some (by kernel_rfl))
 f243 := Tryz.func191.trans (congrArg some (by kernel_rfl))
 f246 := Tryz.func229.trans (congrArg some (by kernel_rfl))
 f283 := Tryz.func246.trans (congrArg some (by kernel_rfl))
 f284 := Tryz.func247.trans (congrArg some (by kernel_rfl))
 f285 := Tryz.func248.trans (congrArg some (by kernel_rfl))
 f286 := Tryz.func249.trans (congrArg some (by kernel_rfl))
 f317 := Tryz.func263.trans (congrArg some (by kernel_rfl))
 f318 := Tryz.func264.trans (congrArg some (by kernel_rfl))
 f319 := Tryz.func265.trans (congrArg some (by kernel_rfl))
 f320 := Tryz.func266.trans (congrArg some (by kernel_rfl))
 f337 := Tryz.func270.trans (congrArg some (by kernel_rfl))
 f338 := Tryz.func271.trans (congrArg some (by kernel_rfl))
 t0 := Tryz.underlying0
 a0 := Tryz.isAgg0
 z0 := Tryz.sizeOf0
 v0 := Tryz.zeroValue0
 t2 := Tryz.underlying2
 a2 := Tryz.isAgg2
 z2 := Tryz.sizeOf2
 v2 := Tryz.zeroValue2
 t3 := Tryz.underlying3
 a3 := Tryz.isAgg3
 z3 := Tryz.sizeOf3
 v3 := Tryz.zeroValue3
 t4 := Tryz.underlying4
 a4 := Tryz.isAgg4
 z4 := Tryz.sizeOf4
 v4 := Tryz.zeroValue4
 t5 := Tryz.underlying5
 a5 := Tryz.isAgg5
 z5 := Tryz.sizeOf5
 v5 := Tryz.zeroValue5
 t9 := Tryz.underlying9
 a9 := Tryz.isAgg9
 z9 := Tryz.sizeOf9
 v9 := Tryz.zeroValue9
 t20 := Tryz.underlying20
 a20 := Tryz.isAgg20
 z20 := Tryz.sizeOf20
 v20 := Tryz.zeroValue20
 t37 := Tryz.underlying271
 a37 := Tryz.isAgg271
 z37 := Tryz.sizeOf271
 v37 := Tryz.zeroValue271
 t46 := Tryz.underlying179
 a46 := Tryz.isAgg179
 z46 := Tryz.sizeOf179
 v46 := Tryz.zeroValue179
 t51 := Tryz.underlying240
 a51 := Tryz.isAgg240
 z51 := Tryz.sizeOf240
 v51 := Tryz.zeroValue240
 t53 := Tryz.underlying242
 a53 := Tryz.isAgg242
 z53 := Tryz.sizeOf242
 v53 := Tryz.zeroValue242
 t171 := Tryz.underlying296
 a171 := Tryz.isAgg296
 z171 := Tryz.sizeOf296
 v171 := Tryz.zeroValue296
 t173 := Tryz.underlying298
 a173 := Tryz.isAgg298
 z173 := Tryz.sizeOf298
 v173 := Tryz.zeroValue298
 t212 := Tryz.underlying313
 a212 := Tryz.isAgg313
 z212 := Tryz.sizeOf313
 v212 := Tryz.zeroValue313
 t213 := Tryz.underlying314
 a213 := Tryz.isAgg314
 z213 := Tryz.sizeOf314
 t232 := Tryz.underlying324
 a232 := Tryz.isAgg324
 z232 := Tryz.sizeOf324
 v232 := Tryz.zeroValue324
 t233 := Tryz.underlying325
 a233 := Tryz.isAgg325
 z233 := Tryz.sizeOf325
 v233 := Tryz.zeroValue325
 g17 := by kernel_rfl
 g18 := by kernel_rfl
 g19 := by kernel_rfl
 i0 := by kernel_rfl
 i2 := by kernel_rfl
 i3 := by kernel_rfl
 i4 := by kernel_rfl
 i5 := by kernel_rfl
 i9 := by kernel_rfl
 i20 := by kernel_rfl
 i37 := by kernel_rfl
 i46 := by kernel_rfl
 i51 := by kernel_rfl
 i53 := by kernel_rfl
 i171 := by kernel_rfl
 i173 := by kernel_rfl
 i212 := by kernel_rfl
 i232 := by kernel_rfl
 i233 := by kernel_rfl
 m17 := by kernel_rfl
 m18 := by kernel_rfl
 m19 := by kernel_rfl }
open Go.RowKit Go.Sort Go.Lib in
theorem Tryz.strconv_Itoa (n : Int) (h0 : -9223372036854775808 ≤ n) (h1 : n ≤ 9223372036854775807) (w : World) (htab : Lib.TabIs Tryz.prog w "internal/strconv.uint64pow10" .u64 Lib.pow10Tab) :
 Calls Tryz.prog 137 #[.int .i64 n] w fun e w' => e = .returned (.string ⟨(Lib.itoa n).toArray⟩) ∧ ∃ k os, w' = grow (w.drewN k) os := Any.strconv_Itoa Tryz.laysM171 n h0 h1 w htab
def Tryz.laysPu14_ren : Go.Shelf.Ren := ⟨fun | 14 => 217 | 16 => 241 | 17 => 231 | 19 => 260 | 20 => 261 | 21 => 251 | 22 => 252 | 23 => 253 | 24 => 254 | 25 => 267 | 27 => 137 | 26 => 268 | 28 => 191 | 29 => 229 | 30 => 246 | 31 => 247 | 32 => 248 | 33 => 249 | 35 => 188 | 34 => 263 | 36 => 264 | 37 => 265 | 38 => 266 | 39 => 270 | 40 => 271 | n => n, fun | 9 => 9 | 3 => 3 | 22 => 242 | 24 => 246 | 25 => 267 | 4 => 4 | 34 => 300 | 5 => 5 | 36 => 179 | 37 => 271 | 0 => 0 | 39 => 303 | 21 => 21 | 44 => 317 | 47 => 292 | 50 => 323 | 48 => 321 | 2 => 2 | 52 => 296 | 55 => 298 | 59 => 313 | 60 => 240 | 20 => 20 | 61 => 314 | 65 => 324 | 66 => 325 | 67 => 279 | n => n, fun | 0 => 2 | 1 => 3 | 2 => 1 | 3 => 4 | 4 => 5 | n => n⟩
theorem Tryz.laysPu14 : Go.Proofs.LaysPu.n14 Tryz.prog Tryz.laysPu14_ren := {
 mixed := by kernel_rfl
 f14 := Tryz.func217.trans (congrArg some (by kernel_rfl))
 f16 := Tryz.func241.trans (congrArg some (by kernel_rfl))
 f17 := Tryz.func231.trans (congrArg some (by kernel_rfl))
 f19 := Tryz.func260.trans (congrArg some (by kernel_rfl))
 f20 := Tryz.func261.trans (congrArg some (by kernel_rfl))
 f21 := Tryz.func251.trans (congrArg some (by kernel_rfl))
 f22 := Tryz.func252.trans (congrArg some (by kernel_rfl))
 f23 := Tryz.func253.trans (congrArg some (by kernel_rfl))
 f24 := Tryz.func254.trans (congrArg some (by kernel_rfl))
 f25 := Tryz.func267.trans (congrArg some (by kernel_rfl))
 f26 := Tryz.func268.trans (congrArg some (by kernel_rfl))
 f27 := Tryz.func137.trans (congrArg some (by kernel_rfl))
 f28 := Tryz.func191.trans (congrArg some (by kernel_rfl))
 f29 := Tryz.func229.trans (congrArg some (by kernel_rfl))
 f30 := Tryz.func246.trans (congrArg some (by kernel_rfl))
 f31 := Tryz.func247.trans (congrArg some (by kernel_rfl))
 f32 := Tryz.func248.trans (congrArg some (by kernel_rfl))
 f33 := Tryz.func249.trans (congrArg some (by kernel_rfl))
 f34 := Tryz.func263.trans (congrArg some (by kernel_rfl))
 f35 := Tryz.func188.trans (congrArg some (by kernel_rfl))
 f36 := Tryz.func264.trans (congrArg some (by kernel_rfl))
 f37 := Tryz.func265.trans (congrArg some (by kernel_rfl))
 f38 := Tryz.func266.trans (congrArg some (by kernel_rfl))
 f39 := Tryz.func270.trans (congrArg some (by kernel_rfl))
 f40 := Tryz.func271.trans (congrArg some (by kernel_rfl))
 t0 := Tryz.underlying0
 a0 := Tryz.isAgg0
 z0 := Tryz.sizeOf0
 v0 := Tryz.zeroValue0
 i0 := by kernel_rfl
 t2 := Tryz.underlying2
 a2 := Tryz.isAgg2
 z2 := Tryz.sizeOf2
 v2 := Tryz.zeroValue2
 i2 := by kernel_rfl
 t3 := Tryz.underlying3
 a3 := Tryz.isAgg3
 z3 := Tryz.sizeOf3
 v3 := Tryz.zeroValue3
 i3 := by kernel_rfl
 t4 := Tryz.underlying4
 a4 := Tryz.isAgg4
 z4 := Tryz.sizeOf4
 v4 := Tryz.zeroValue4
 i4 := by kernel_rfl
 t5 := Tryz.underlying5
 a5 := Tryz.isAgg5
 z5 := Tryz.sizeOf5
 v5 := Tryz.zeroValue5
 i5 := by kernel_rfl
 t9 := Tryz.underlying9
 a9 := Tryz.isAgg9
 z9 := Tryz.sizeOf9
 v9 := Tryz.zeroValue9
 i9 := by kernel_rfl
 t20 := Tryz.underlying20
 a20 := Tryz.isAgg20
 z20 := Tryz.sizeOf20
 v20 := Tryz.zeroValue20
 i20 := by kernel_rfl
 t21 := Tryz.underlying21
 a21 := Tryz.isAgg21
 z21 := Tryz.sizeOf21
 v21 := Tryz.zeroValue21
 i21 := by kernel_rfl
 t22 := Tryz.underlying242
 a22 := Tryz.isAgg242
 z22 := Tryz.sizeOf242
 v22 := Tryz.zeroValue242
 i22 := by kernel_rfl
 t24 := Tryz.underlying246
 a24 := Tryz.isAgg246
 z24 := Tryz.sizeOf246
 v24 := Tryz.zeroValue246
 i24 := by kernel_rfl
 t25 := Tryz.underlying267
 a25 := Tryz.isAgg267
 z25 := Tryz.sizeOf267
 v25 := Tryz.zeroValue267
 i25 := by kernel_rfl
 t34 := Tryz.underlying300
 a34 := Tryz.isAgg300
 z34 := Tryz.sizeOf300
 v34 := Tryz.zeroValue300
 i34 := by kernel_rfl
 c34 := by kernel_rfl
 t36 := Tryz.underlying179
 a36 := Tryz.isAgg179
 z36 := Tryz.sizeOf179
 v36 := Tryz.zeroValue179
 i36 := by kernel_rfl
 t37 := Tryz.underlying271
 a37 := Tryz.isAgg271
 z37 := Tryz.sizeOf271
 v37 := Tryz.zeroValue271
 i37 := by kernel_rfl
 t39 := Tryz.underlying303
 a39 := Tryz.isAgg303
 z39 := Tryz.sizeOf303
 v39 := Tryz.zeroValue303
 i39 := by kernel_rfl
 t44 := Tryz.underlying317
 a44 := Tryz.isAgg317
 z44 := Tryz.sizeOf317
 v44 := Tryz.zeroValue317
 i44 := by kernel_rfl
 t47 := Tryz.underlying292
 a47 := Tryz.isAgg292
 z47 := Tryz.sizeOf292
 v47 := Tryz.zeroValue292
 i47 := by kernel_rfl
 t48 := Tryz.underlying321
 a48 := Tryz.isAgg321
 z48 := Tryz.sizeOf321
 v48 := Tryz.zeroValue321
 i48 := by kernel_rfl
 t50 := Tryz.underlying323
 a50 := Tryz.isAgg323
 z50 := Tryz.sizeOf323
 v50 := Tryz.zeroValue323
 i50 := by kernel_rfl
 t52 := Tryz.underlying296
 a52 := Tryz.isAgg296
 z52 := Tryz.sizeOf296
 v52 := Tryz.zeroValue296
 i52 := by kernel_rfl
 t55 := Tryz.underlying298
 a55 := Tryz.isAgg298
 z55 := Tryz.sizeOf298
 v55 := Tryz.zeroValue298
 i55 := by kernel_rfl
 t59 := Tryz.underlying313
 a59 := Tryz.isAgg313
 z59 := Tryz.sizeOf313
 v59 := Tryz.zeroValue313
 i59 := by kernel_rfl
 t60 := Tryz.underlying240
 a60 := Tryz.isAgg240
 z60 := Tryz.sizeOf240
 v60 := Tryz.zeroValue240
 i60 := by kernel_rfl
 t61 := Tryz.underlying314
 a61 := Tryz.isAgg314
 z61 := Tryz.sizeOf314
 t65 := Tryz.underlying324
 a65 := Tryz.isAgg324
 z65 := Tryz.sizeOf324
 v65 := Tryz.zeroValue324
 i65 := by kernel_rfl
 t66 := Tryz.underlying325
 a66 := Tryz.isAgg325
 z66 := Tryz.sizeOf325
 v66 := Tryz.zeroValue325
 i66 := by kernel_rfl
 t67 := Tryz.underlying279
 a67 := Tryz.isAgg279
 z67 := Tryz.sizeOf279
 v67 := Tryz.zeroValue279
 i67 := by kernel_rfl
 g0 := by kernel_rfl
 m0 := by kernel_rfl
 g1 := by kernel_rfl
 m1 := by kernel_rfl
 g2 := by kernel_rfl
 m2 := by kernel_rfl
 g3 := by kernel_rfl
 m3 := by kernel_rfl
 g4 := by kernel_rfl
 m4 := by kernel_rfl }
open Go.RowKit in
theorem Tryz.strconv_ParseUint_10_at64_ok (s : ByteArray) (hmax : s.size ≤ 9223372036854775806) (u : Nat) (h : Lib.parseUintB 64 s.data.toList = .ok u) (w : World) :
 Calls Tryz.prog 217 #[.string s, .int .i64 10, .int .i64 64] w fun e w' => e = .returned (.tuple #[.int .u64 u, .nilIface]) ∧ (w' = w ∨ w' = Lib.bytesWorld w 5 s) := Any.strconv_ParseUint_10_at64_ok Tryz.laysPu14 s hmax u h w
def Tryz.lays145_ren : Go.Shelf.Ren := ⟨fun | 145 => 150 | 220 => 197 | 219 => 232 | 217 => 157 | 225 => 255 | 224 => 256 | 267 => 257 | 266 => 203 | 314 => 269 | n => n, fun | 9 => 9 | 4 => 4 | 59 => 212 | 3 => 3 | 5 => 5 | 46 => 179 | 146 => 319 | 51 => 240 | n => n, fun | 1 => 0 | n => n⟩
theorem Tryz.lays145 : Go.Proofs.Lays.n145 Tryz.prog Tryz.lays145_ren := {
 mixed := by kernel_rfl
 f145 := Tryz.func150.trans (congrArg some (by kernel_rfl))
 f217 := Tryz.func157.trans (congrArg some (by kernel_rfl))
 f219 := Tryz.func232.trans (congrArg some (by kernel_rfl))
 f220 := Tryz.func197.trans (congrArg some (by kernel_rfl))
 f224 := Tryz.func256.trans (congrArg some (by kernel_rfl))
 f225 := Tryz.func255.trans (congrArg some (by kernel_rfl))
 f266 := Tryz.func203.trans (congrArg some (by kernel_rfl))
 f267 := Tryz.func257.trans (congrArg some (by kernel_rfl))
 f314 := Tryz.func269.trans (congrArg some (by kernel_rfl))
 t3 := Tryz.underlying3
 a3 := Tryz.isAgg3
 z3 := Tryz.sizeOf3
 v3 := Tryz.zeroValue3
 t4 := Tryz.underlying4
 a4 := Tryz.isAgg4
 z4 := Tryz.sizeOf4
 v4 := Tryz.zeroValue4
 t5 := Tryz.underlying5
 a5 := Tryz.isAgg5
 z5 := Tryz.sizeOf5
 v5 := Tryz.zeroValue5
 t9 := Tryz.underlying9
 a9 := Tryz.isAgg9
 z9 := Tryz.sizeOf9
 v9 := Tryz.zeroValue9
 t46 := Tryz.underlying179
 a46 := Tryz.isAgg179
 z46 := Tryz.sizeOf179
 v46 := Tryz.zeroValue179
 t51 := Tryz.underlying240
 a51 := Tryz.isAgg240
 z51 := Tryz.sizeOf240
 v51 := Tryz.zeroValue240
 t59 := Tryz.underlying212
 a59 := Tryz.isAgg212
 z59 := Tryz.sizeOf212
 v59 := Tryz.zeroValue212
 t146 := Tryz.underlying319
 a146 := Tryz.isAgg319
 z146 := Tryz.sizeOf319
 v146 := Tryz.zeroValue319
 g1 := by kernel_rfl }
open Go.RowKit Go.Lib in
theorem Tryz.strings_Cut (s sep : ByteArray) (m : Int) (w : World) (hs : s.size < 4294967281) (hm : w.cell? ⟨0, 0, none⟩ = some (.int .i64 m)) :
 Calls Tryz.prog 150 #[.string s, .string sep] w fun e w' => e = .returned (.tuple #[.string ⟨(Lib.cut s.data.toList sep.data.toList).1.toArray⟩, .string ⟨(Lib.cut s.data.toList sep.data.toList).2.1.toArray⟩, .bool (Lib.cut s.data.toList sep.data.toList).2.2]) ∧ ∃ n, w' = w.drewN n := Any.strings_Cut Tryz.lays145 s sep m w hs hm
def Tryz.lays99_ren : Go.Shelf.Ren := ⟨fun | 99 => 216 | 206 => 240 | n => n, fun | 9 => 9 | 4 => 4 | 3 => 3 | n => n, fun | n => n⟩
theorem Tryz.lays99 : Go.Proofs.Lays.n99 Tryz.prog Tryz.lays99_ren := {
 mixed := by kernel_rfl
 f99 := Tryz.func216.trans (congrArg some (by kernel_rfl))
 f206 := Tryz.func240.trans (congrArg some (by kernel_rfl))
 t3 := Tryz.underlying3
 a3 := Tryz.isAgg3
 z3 := Tryz.sizeOf3
 v3 := Tryz.zeroValue3
 t4 := Tryz.underlying4
 a4 := Tryz.isAgg4
 z4 := Tryz.sizeOf4
 v4 := Tryz.zeroValue4
 t9 := Tryz.underlying9
 a9 := Tryz.isAgg9
 z9 := Tryz.sizeOf9
 v9 := Tryz.zeroValue9 }
open Go.RowKit Go.Lib in
theorem Tryz.strings_HasPrefix (s p : ByteArray) (w : World) :
 Calls Tryz.prog 216 #[.string s, .string p] w fun e w' => e = .returned (.bool (Lib.hasPrefix s.data.toList p.data.toList)) ∧ w' = w := Any.strings_HasPrefix Tryz.lays99 s p w
def Tryz.lays101_ren : Go.Shelf.Ren := ⟨fun | 101 => 199 | 208 => 234 | 206 => 240 | n => n, fun | 9 => 9 | 4 => 4 | 3 => 3 | n => n, fun | n => n⟩
theorem Tryz.lays101 : Go.Proofs.Lays.n101 Tryz.prog Tryz.lays101_ren := {
 mixed := by kernel_rfl
 f101 := Tryz.func199.trans (congrArg some (by kernel_rfl))
 f206 := Tryz.func240.trans (congrArg some (by kernel_rfl))
 f208 := Tryz.func234.trans (congrArg some (by kernel_rfl))
 t3 := Tryz.underlying3
 a3 := Tryz.isAgg3
 z3 := Tryz.sizeOf3
 v3 := Tryz.zeroValue3
 t4 := Tryz.underlying4
 a4 := Tryz.isAgg4
 z4 := Tryz.sizeOf4
 v4 := Tryz.zeroValue4
 t9 := Tryz.underlying9
 a9 := Tryz.isAgg9
 z9 := Tryz.sizeOf9
 v9 := Tryz.zeroValue9 }
open Go.RowKit Go.Lib in
theorem Tryz.strings_TrimPrefix (s p : ByteArray) (w : World) :
 Calls Tryz.prog 199 #[.string s, .string p] w fun e w' => e = .returned (.string ⟨(Lib.trimPrefix s.data.toList p.data.toList).toArray⟩) ∧ w' = w := Any.strings_TrimPrefix Tryz.lays101 s p w
end Go.Proofs
