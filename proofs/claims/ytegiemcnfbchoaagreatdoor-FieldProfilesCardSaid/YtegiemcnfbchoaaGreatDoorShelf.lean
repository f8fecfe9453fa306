import Derived.Shelf.Strings.Builder1
import Derived.Shelf.Small.Strs
import Derived.Shelf.Small.Wraps
import Derived.Shelf.Strings.BuilderF
import Derived.Shelf.Strings.BuilderK
import Derived.Shelf.Strconv.Atoi
import Derived.Shelf.Strconv.Itoa0
import Derived.Shelf.Strconv.Itoa1
import Derived.Shelf.LaysM
import Derived.Shelf.Strconv.Itoa2
import Derived.Shelf.Strconv.Itoa3
import Derived.Shelf.Strconv.AtoiErrFast
import Derived.Shelf.Strconv.ParseIntEmpty
import Derived.Shelf.Strconv.AtoiFail
import Derived.Shelf.Strconv.Clone
import Derived.Shelf.Strconv.SyntaxError
import Derived.Shelf.LaysC
import Derived.Shelf.Strconv.ToError
import Derived.Shelf.Strconv.Lower
import Derived.Shelf.Strconv.ParseUint10
import Derived.Shelf.Strconv.ParseUint10Empty
import Derived.Shelf.Strconv.ParseUint10Any
import Derived.Shelf.Strconv.ParseInt10
import Derived.Shelf.Strconv.AtoiLong
import Derived.Shelf.Strconv.AtoiInnerAll
import Derived.Shelf.Strconv.RangeError
import Derived.Shelf.Strconv.ToErrorRange
import Derived.Shelf.Strconv.AtoiAll
import Derived.Shelf.Strconv.ErrVarAll
import Derived.Ground.MpProg
import Derived.Shelf.Pu.ParseUintPublic10
import Derived.Shelf.Pu.ErrVarParseUint
import Derived.Shelf.Strings.Search1
import Derived.Shelf.Strings.Search2
import Derived.Shelf.Strings.Cut
import Derived.Shelf.Strings.Shaped
import Derived.Shelf.Strings.Prefix
import Derived.Test.YtegiemcnfbchoaaGreatDoorProg
namespace Go.Proofs
open Go.Shelf
def Tryz.lays169_ren : Go.Shelf.Ren := ⟨fun | 169 => 186 | n => n, fun | 70 => 236 | 9 => 9 | 0 => 0 | 72 => 239 | 37 => 237 | 127 => 256 | 3 => 3 | 5 => 5 | n => n, fun | n => n⟩
theorem Tryz.lays169 : Go.Proofs.Lays.n169 Tryz.prog Tryz.lays169_ren := {
 mixed := by kernel_rfl
 f169 := Tryz.func186.trans (congrArg some (by kernel_rfl))
 t0 := Tryz.underlying0
 a0 := Tryz.isAgg0
 z0 := Tryz.sizeOf0
 v0 := Tryz.zeroValue0
 t3 := Tryz.underlying3
 a3 := Tryz.isAgg3
 z3 := Tryz.sizeOf3
 v3 := Tryz.zeroValue3
 t9 := Tryz.underlying9
 a9 := Tryz.isAgg9
 z9 := Tryz.sizeOf9
 v9 := Tryz.zeroValue9
 t37 := Tryz.underlying237
 a37 := Tryz.isAgg237
 z37 := Tryz.sizeOf237
 v37 := Tryz.zeroValue237
 t70 := Tryz.underlying236
 a70 := Tryz.isAgg236
 z70 := Tryz.sizeOf236
 v70 := Tryz.zeroValue236
 t72 := Tryz.underlying239
 a72 := Tryz.isAgg239
 z72 := Tryz.sizeOf239
 v72 := Tryz.zeroValue239
 t127 := Tryz.underlying256
 a127 := Tryz.isAgg256
 z127 := Tryz.sizeOf256
 v127 := Tryz.zeroValue256 }
theorem Tryz.Builder_Extra_169 : Builder.Extra Tryz.prog Tryz.lays169_ren := {
 sizeBuilder := by kernel_rfl
 liesBuilder := by kernel_rfl
 t5 := Tryz.underlying5
 a5 := Tryz.isAgg5
 z5 := Tryz.sizeOf5
 v5 := Tryz.zeroValue5
 infoByte := by kernel_rfl
 cellsByte := by kernel_rfl
 sizeByte := by kernel_rfl
 neB5 := by decide }
def Tryz.lays106_ren : Go.Shelf.Ren := ⟨fun | 106 => 138 | 213 => 178 | 265 => 204 | n => n, fun | 9 => 9 | 3 => 3 | n => n, fun | n => n⟩
theorem Tryz.lays106 : Go.Proofs.Lays.n106 Tryz.prog Tryz.lays106_ren := {
 mixed := by kernel_rfl
 f106 := Tryz.func138.trans (congrArg some (by kernel_rfl))
 f213 := Tryz.func178.trans (congrArg some (by kernel_rfl))
 f265 := Tryz.func204.trans (congrArg some (by kernel_rfl))
 t3 := Tryz.underlying3
 a3 := Tryz.isAgg3
 z3 := Tryz.sizeOf3
 v3 := Tryz.zeroValue3
 t9 := Tryz.underlying9
 a9 := Tryz.isAgg9
 z9 := Tryz.sizeOf9
 v9 := Tryz.zeroValue9 }
open Go.RowKit in
theorem Tryz.strings_Compare (a b : ByteArray) (w : World) :
 Calls Tryz.prog 138 #[.string a, .string b] w fun e w' => e = .returned (.int .i64 (Lib.compareBytes a.data.toList b.data.toList)) ∧ w' = w := Any.strings_Compare Tryz.lays106 a b w
def Tryz.lays137_ren : Go.Shelf.Ren := ⟨fun | 137 => 60 | 217 => 107 | 266 => 161 | n => n, fun | 9 => 9 | 5 => 5 | 3 => 3 | n => n, fun | n => n⟩
theorem Tryz.lays137 : Go.Proofs.Lays.n137 Tryz.prog Tryz.lays137_ren := {
 mixed := by kernel_rfl
 f137 := Tryz.func60.trans (congrArg some (by kernel_rfl))
 f217 := Tryz.func107.trans (congrArg some (by kernel_rfl))
 f266 := Tryz.func161.trans (congrArg some (by kernel_rfl))
 t3 := Tryz.underlying3
 a3 := Tryz.isAgg3
 z3 := Tryz.sizeOf3
 v3 := Tryz.zeroValue3
 t5 := Tryz.underlying5
 a5 := Tryz.isAgg5
 z5 := Tryz.sizeOf5
 v5 := Tryz.zeroValue5
 t9 := Tryz.underlying9
 a9 := Tryz.isAgg9
 z9 := Tryz.sizeOf9
 v9 := Tryz.zeroValue9 }
open Go.RowKit in
theorem Tryz.strings_IndexByte (s : ByteArray) (c : Int) (w : World) :
 Calls Tryz.prog 60 #[.string s, .int .u8 c] w fun e w' => e = .returned (.int .i64 (Lib.indexByte s.data.toList c.toNat.toUInt8)) ∧ w' = w := Any.strings_IndexByte Tryz.lays137 s c w
def Tryz.lays103_ren : Go.Shelf.Ren := ⟨fun | 103 => 135 | 210 => 175 | 206 => 203 | n => n, fun | 9 => 9 | 4 => 4 | 24 => 184 | 3 => 3 | n => n, fun | n => n⟩
theorem Tryz.lays103 : Go.Proofs.Lays.n103 Tryz.prog Tryz.lays103_ren := {
 mixed := by kernel_rfl
 f103 := Tryz.func135.trans (congrArg some (by kernel_rfl))
 f206 := Tryz.func203.trans (congrArg some (by kernel_rfl))
 f210 := Tryz.func175.trans (congrArg some (by kernel_rfl))
 t3 := Tryz.underlying3
 a3 := Tryz.isAgg3
 z3 := Tryz.sizeOf3
 v3 := Tryz.zeroValue3
 t4 := Tryz.underlying4
 a4 := Tryz.isAgg4
 z4 := Tryz.sizeOf4
 v4 := Tryz.zeroValue4
 t9 := Tryz.underlying9
 a9 := Tryz.isAgg9
 z9 := Tryz.sizeOf9
 v9 := Tryz.zeroValue9
 t24 := Tryz.underlying184
 a24 := Tryz.isAgg184
 z24 := Tryz.sizeOf184
 v24 := Tryz.zeroValue184 }
open Go.RowKit in
theorem Tryz.strings_CutPrefix (s p : ByteArray) (w : World) :
 Calls Tryz.prog 135 #[.string s, .string p] w fun e w' => e = .returned (.tuple #[.string ⟨(Lib.trimPrefix s.data.toList p.data.toList).toArray⟩, .bool (Lib.hasPrefix s.data.toList p.data.toList)]) ∧ w' = w := Any.strings_CutPrefix Tryz.lays103 s p w
open Go.RowKit in
theorem Tryz.Builder_String_k (B b : Nat) (l : List UInt8) (w : World) (h : Lib.IsBuilderF 239 5 B b (Lib.byteCells l) w) (h0 : l ≠ []) :
 Calls Tryz.prog 186 #[.pointer (some ⟨b, 0, none⟩)] w fun e w' => e = .returned (.string ⟨l.toArray⟩) ∧ (Lib.IsBuilderF 239 5 B b (Lib.byteCells l) w' ∧ Below B w w' ∧ Lib.OthersKept 5 (some b) w w') := Any.Builder_String_k Tryz.lays169 Tryz.Builder_Extra_169 B b l w h h0
def Tryz.lays172_ren : Go.Shelf.Ren := ⟨fun | 172 => 169 | 244 => 198 | 245 => 199 | 247 => 214 | 279 => 215 | 280 => 216 | 281 => 217 | 282 => 218 | 287 => 205 | 316 => 227 | 171 => 120 | 205 => 228 | 321 => 220 | 322 => 221 | 243 => 168 | 246 => 197 | 283 => 210 | 284 => 211 | 285 => 212 | 286 => 213 | 129 => 158 | 317 => 223 | 318 => 224 | 319 => 225 | 320 => 226 | 337 => 229 | 338 => 230 | n => n, fun | 9 => 9 | 3 => 3 | 75 => 222 | 76 => 223 | 4 => 4 | 5 => 5 | 167 => 264 | 37 => 237 | 0 => 0 | 85 => 265 | 2 => 2 | 168 => 267 | 53 => 212 | 175 => 229 | 46 => 158 | 210 => 281 | 127 => 256 | 145 => 285 | 143 => 283 | 21 => 21 | 171 => 260 | 173 => 262 | 212 => 277 | 51 => 210 | 20 => 20 | 213 => 278 | 232 => 286 | 233 => 287 | 80 => 242 | n => n, fun | 15 => 2 | 16 => 3 | 17 => 1 | 18 => 4 | 19 => 5 | n => n⟩
theorem Tryz.lays172 : Go.Proofs.Lays.n172 Tryz.prog Tryz.lays172_ren := {
 mixed := by kernel_rfl
 f129 := Tryz.func158.trans (congrArg some (by kernel_rfl))
 f171 := Tryz.func120.trans (congrArg some (by kernel_rfl))
 f172 := Tryz.func169.trans (congrArg some (by kernel_rfl))
 f205 := Tryz.func228.trans (congrArg some (by kernel_rfl))
 f243 := Tryz.func168.trans (congrArg some (by kernel_rfl))
 f244 := Tryz.func198.trans (congrArg some (by kernel_rfl))
 f245 := Tryz.func199.trans (congrArg some (by kernel_rfl))
 f246 := Tryz.func197.trans (congrArg some (by kernel_rfl))
 f247 := Tryz.func214.trans (congrArg some (by kernel_rfl))
 f279 := Tryz.func215.trans (congrArg some (by kernel_rfl))
 f280 := Tryz.func216.trans (congrArg some (by kernel_rfl))
 f281 := Tryz.func217.trans (congrArg some (by kernel_rfl))
 f282 := Tryz.func218.trans (congrArg some (by kernel_rfl))
 f283 := Tryz.func210.trans (congrArg some (by kernel_rfl))
 f284 := Tryz.func211.trans (congrArg some (by kernel_rfl))
 f285 := Tryz.func212.trans (congrArg some (by kernel_rfl))
 f286 := Tryz.func213.trans (congrArg some (by kernel_rfl))
 f287 := Tryz.func205.trans (congrArg some (by kernel_rfl))
 f316 := Tryz.func227.trans (congrArg some (by kernel_rfl))
 f317 := Tryz.func223.trans (congrArg some (by kernel_rfl))
 f318 := Tryz.func224.trans (congrArg some (by kernel_rfl))
 f319 := Tryz.func225.trans (congrArg some (by kernel_rfl))
 f320 := Tryz.func226.trans (congrArg some (by kernel_rfl))
 f321 := Tryz.func220.trans (congrArg some (by kernel_rfl))
 f322 := Tryz.func221.trans (congrArg some (by kernel_rfl))
 f337 := Tryz.func229.trans (congrArg some (by kernel_rfl))
 f338 := Tryz.func230.trans (congrArg some (by kernel_rfl))
 t0 := Tryz.underlying0
 a0 := Tryz.isAgg0
 z0 := Tryz.sizeOf0
 v0 := Tryz.zeroValue0
 t2 := Tryz.underlying2
 a2 := Tryz.isAgg2
 z2 := Tryz.sizeOf2
 v2 := Tryz.zeroValue2
 t3 := Tryz.underlying3
 a3 := Tryz.isAgg3
 z3 := Tryz.sizeOf3
 v3 := Tryz.zeroValue3
 t4 := Tryz.underlying4
 a4 := Tryz.isAgg4
 z4 := Tryz.sizeOf4
 v4 := Tryz.zeroValue4
 t5 := Tryz.underlying5
 a5 := Tryz.isAgg5
 z5 := Tryz.sizeOf5
 v5 := Tryz.zeroValue5
 t9 := Tryz.underlying9
 a9 := Tryz.isAgg9
 z9 := Tryz.sizeOf9
 v9 := Tryz.zeroValue9
 t20 := Tryz.underlying20
 a20 := Tryz.isAgg20
 z20 := Tryz.sizeOf20
 v20 := Tryz.zeroValue20
 t21 := Tryz.underlying21
 a21 := Tryz.isAgg21
 z21 := Tryz.sizeOf21
 v21 := Tryz.zeroValue21
 t37 := Tryz.underlying237
 a37 := Tryz.isAgg237
 z37 := Tryz.sizeOf237
 v37 := Tryz.zeroValue237
 t46 := Tryz.underlying158
 a46 := Tryz.isAgg158
 z46 := Tryz.sizeOf158
 v46 := Tryz.zeroValue158
 t51 := Tryz.underlying210
 a51 := Tryz.isAgg210
 z51 := Tryz.sizeOf210
 v51 := Tryz.zeroValue210
 t53 := Tryz.underlying212
 a53 := Tryz.isAgg212
 z53 := Tryz.sizeOf212
 v53 := Tryz.zeroValue212
 t75 := Tryz.underlying222
 a75 := Tryz.isAgg222
 z75 := Tryz.sizeOf222
 v75 := Tryz.zeroValue222
 t76 := Tryz.underlying223
 a76 := Tryz.isAgg223
 z76 := Tryz.sizeOf223
 v76 := Tryz.zeroValue223
 t85 := Tryz.underlying265
 a85 := Tryz.isAgg265
 z85 := Tryz.sizeOf265
 v85 := Tryz.zeroValue265
 t127 := Tryz.underlying256
 a127 := Tryz.isAgg256
 z127 := Tryz.sizeOf256
 v127 := Tryz.zeroValue256
 t143 := Tryz.underlying283
 a143 := Tryz.isAgg283
 z143 := Tryz.sizeOf283
 v143 := Tryz.zeroValue283
 t145 := Tryz.underlying285
 a145 := Tryz.isAgg285
 z145 := Tryz.sizeOf285
 v145 := Tryz.zeroValue285
 t167 := Tryz.underlying264
 a167 := Tryz.isAgg264
 z167 := Tryz.sizeOf264
 v167 := Tryz.zeroValue264
 t168 := Tryz.underlying267
 a168 := Tryz.isAgg267
 z168 := Tryz.sizeOf267
 v168 := Tryz.zeroValue267
 t171 := Tryz.underlying260
 a171 := Tryz.isAgg260
 z171 := Tryz.sizeOf260
 v171 := Tryz.zeroValue260
 t173 := Tryz.underlying262
 a173 := Tryz.isAgg262
 z173 := Tryz.sizeOf262
 v173 := Tryz.zeroValue262
 t175 := Tryz.underlying229
 a175 := Tryz.isAgg229
 z175 := Tryz.sizeOf229
 v175 := Tryz.zeroValue229
 t210 := Tryz.underlying281
 a210 := Tryz.isAgg281
 z210 := Tryz.sizeOf281
 v210 := Tryz.zeroValue281
 t212 := Tryz.underlying277
 a212 := Tryz.isAgg277
 z212 := Tryz.sizeOf277
 v212 := Tryz.zeroValue277
 t213 := Tryz.underlying278
 a213 := Tryz.isAgg278
 z213 := Tryz.sizeOf278
 t232 := Tryz.underlying286
 a232 := Tryz.isAgg286
 z232 := Tryz.sizeOf286
 v232 := Tryz.zeroValue286
 t233 := Tryz.underlying287
 a233 := Tryz.isAgg287
 z233 := Tryz.sizeOf287
 v233 := Tryz.zeroValue287
 g15 := by kernel_rfl
 g16 := by kernel_rfl
 g17 := by kernel_rfl
 g18 := by kernel_rfl
 g19 := by kernel_rfl }
open Go.RowKit in
theorem Tryz.strconv_Atoi (s : ByteArray) (n : Int) (hl : s.size ≤ 18) (h : Lib.atoi s.data.toList = some n) (w : World) :
 Calls Tryz.prog 169 #[.string s] w fun e w' => e = .returned (.tuple #[.int .i64 n, .nilIface]) ∧ ∃ t, w' = Lib.bytesWorld w 5 t := Any.strconv_Atoi Tryz.lays172 s n hl h w
def Tryz.lays283_ren : Go.Shelf.Ren := ⟨fun | 283 => 210 | n => n, fun | 3 => 3 | 9 => 9 | 4 => 4 | n => n, fun | n => n⟩
theorem Tryz.lays283 : Go.Proofs.Lays.n283 Tryz.prog Tryz.lays283_ren := {
 mixed := by kernel_rfl
 f283 := Tryz.func210.trans (congrArg some (by kernel_rfl))
 t3 := Tryz.underlying3
 a3 := Tryz.isAgg3
 z3 := Tryz.sizeOf3
 v3 := Tryz.zeroValue3
 t4 := Tryz.underlying4
 a4 := Tryz.isAgg4
 z4 := Tryz.sizeOf4
 v4 := Tryz.zeroValue4
 t9 := Tryz.underlying9
 a9 := Tryz.isAgg9
 z9 := Tryz.sizeOf9
 v9 := Tryz.zeroValue9 }
open Go.Lib in
theorem Tryz.internal_strconv_small (i : Nat) (h : i < 100) (w : World) :
 Calls Tryz.prog 210 #[.int .i64 i] w fun e w' => e = .returned (.string ⟨(Lib.decDigits i).toArray⟩) ∧ w' = w := Any.internal_strconv_small Tryz.lays283 i h w
def Tryz.laysM284_ren : Go.Shelf.Ren := ⟨fun | 284 => 211 | 129 => 158 | 317 => 223 | 318 => 224 | n => n, fun | 53 => 212 | 3 => 3 | 212 => 277 | 0 => 0 | 4 => 4 | 46 => 158 | 5 => 5 | 9 => 9 | n => n, fun | 17 => 1 | n => n⟩
theorem Tryz.laysM284 : Go.Proofs.LaysM.n284 Tryz.prog Tryz.laysM284_ren := {
 mixed := by kernel_rfl
 f129 := Tryz.func158.trans (congrArg some (by kernel_rfl))
 f284 := Tryz.func211.trans (congrArg some (by kernel_rfl))
 f317 := Tryz.func223.trans (congrArg some (by kernel_rfl))
 f318 := Tryz.func224.trans (congrArg some (by kernel_rfl))
 t0 := Tryz.underlying0
 a0 := Tryz.isAgg0
 z0 := Tryz.sizeOf0
 v0 := Tryz.zeroValue0
 t3 := Tryz.underlying3
 a3 := Tryz.isAgg3
 z3 := Tryz.sizeOf3
 v3 := Tryz.zeroValue3
 t4 := Tryz.underlying4
 a4 := Tryz.isAgg4
 z4 := Tryz.sizeOf4
 v4 := Tryz.zeroValue4
 t5 := Tryz.underlying5
 a5 := Tryz.isAgg5
 z5 := Tryz.sizeOf5
 v5 := Tryz.zeroValue5
 t9 := Tryz.underlying9
 a9 := Tryz.isAgg9
 z9 := Tryz.sizeOf9
 v9 := Tryz.zeroValue9
 t46 := Tryz.underlying158
 a46 := Tryz.isAgg158
 z46 := Tryz.sizeOf158
 v46 := Tryz.zeroValue158
 t53 := Tryz.underlying212
 a53 := Tryz.isAgg212
 z53 := Tryz.sizeOf212
 v53 := Tryz.zeroValue212
 t212 := Tryz.underlying277
 a212 := Tryz.isAgg277
 z212 := Tryz.sizeOf277
 v212 := Tryz.zeroValue277
 g17 := by kernel_rfl
 i0 := by kernel_rfl
 i3 := by kernel_rfl
 i4 := by kernel_rfl
 i5 := by kernel_rfl
 i9 := by kernel_rfl
 i46 := by kernel_rfl
 i53 := by kernel_rfl
 i212 := by kernel_rfl
 m17 := by kernel_rfl }
open Go.Lib in
theorem Tryz.internal_strconv_numDigits (u : Nat) (h1 : 1 ≤ u) (h2 : u < 18446744073709551616) (w : World) (htab : Lib.TabIs Tryz.prog w "internal/strconv.uint64pow10" .u64 Lib.pow10Tab) :
 Calls Tryz.prog 211 #[.int .u64 u] w fun e w' => e = .returned (.int .i64 (Lib.nDigits u)) ∧ w' = w := Any.internal_strconv_numDigits Tryz.laysM284 u h1 h2 w htab
def Tryz.lays285_ren : Go.Shelf.Ren := ⟨fun | 285 => 212 | n => n, fun | 37 => 237 | 53 => 212 | 3 => 3 | 4 => 4 | 51 => 210 | 9 => 9 | 5 => 5 | 0 => 0 | n => n, fun | n => n⟩
theorem Tryz.lays285 : Go.Proofs.Lays.n285 Tryz.prog Tryz.lays285_ren := {
 mixed := by kernel_rfl
 f285 := Tryz.func212.trans (congrArg some (by kernel_rfl))
 t0 := Tryz.underlying0
 a0 := Tryz.isAgg0
 z0 := Tryz.sizeOf0
 v0 := Tryz.zeroValue0
 t3 := Tryz.underlying3
 a3 := Tryz.isAgg3
 z3 := Tryz.sizeOf3
 v3 := Tryz.zeroValue3
 t4 := Tryz.underlying4
 a4 := Tryz.isAgg4
 z4 := Tryz.sizeOf4
 v4 := Tryz.zeroValue4
 t5 := Tryz.underlying5
 a5 := Tryz.isAgg5
 z5 := Tryz.sizeOf5
 v5 := Tryz.zeroValue5
 t9 := Tryz.underlying9
 a9 := Tryz.isAgg9
 z9 := Tryz.sizeOf9
 v9 := Tryz.zeroValue9
 t37 := Tryz.underlying237
 a37 := Tryz.isAgg237
 z37 := Tryz.sizeOf237
 v37 := Tryz.zeroValue237
 t51 := Tryz.underlying210
 a51 := Tryz.isAgg210
 z51 := Tryz.sizeOf210
 v51 := Tryz.zeroValue210
 t53 := Tryz.underlying212
 a53 := Tryz.isAgg212
 z53 := Tryz.sizeOf212
 v53 := Tryz.zeroValue212 }
open Go.RowKit Go.Sort Go.Lib in
theorem Tryz.internal_strconv_formatBase10 (blk off cap : Nat) (u : Nat) (d : Array UInt8) (w : World) (hH : Holds (fun (b : UInt8) => Value.int .u8 (b.toNat : Int)) w blk off d) (hu : u < 10 ^ d.size) (hu64 : u < 18446744073709551616) (hsz : d.size < 4611686018427387904) :
 Calls Tryz.prog 212 #[.slice (some ⟨blk, off, none⟩) d.size cap, .int .u64 u] w fun e w' =>
  e = .returned (.tuple #[]) ∧ ∃ (n v' : Nat) (dk : Array UInt8), w' = (putRow (fun (b : UInt8) => Value.int .u8 (b.toNat : Int)) w blk off dk).drewN n ∧ FmtInv d.size u 0 v' dk := Any.internal_strconv_formatBase10 Tryz.lays285 blk off cap u d w hH hu hu64 hsz
def Tryz.laysM171_ren : Go.Shelf.Ren := ⟨fun | 171 => 120 | 243 => 168 | 246 => 197 | 283 => 210 | 284 => 211 | 285 => 212 | 286 => 213 | 129 => 158 | 317 => 223 | 318 => 224 | 319 => 225 | 320 => 226 | 337 => 229 | 338 => 230 | n => n, fun | 3 => 3 | 9 => 9 | 2 => 2 | 4 => 4 | 171 => 260 | 0 => 0 | 53 => 212 | 37 => 237 | 5 => 5 | 173 => 262 | 212 => 277 | 51 => 210 | 20 => 20 | 213 => 278 | 46 => 158 | 232 => 286 | 233 => 287 | n => n, fun | 17 => 1 | 18 => 4 | 19 => 5 | n => n⟩
theorem Tryz.laysM171 : Go.Proofs.LaysM.n171 Tryz.prog Tryz.laysM171_ren := {
 mixed := by kernel_rfl
 f129 := Tryz.func158.trans (congrArg some (by kernel_rfl))
 f171 := Tryz.func120.trans (congrArg some (by kernel_rfl))
 f243 := Tryz.func168.trans (congrArg some (by kernel_rfl))
 f246 := Tryz.func197.trans (congrArg some (by kernel_rfl))
 f283 := Tryz.func210.trans (congrArg some (by kernel_rfl))
 f284 := Tryz.func211.trans (congrArg some (by kernel_rfl))
 f285 := Tryz.func212.trans (congrArg some (by kernel_rfl))
 f286 := Tryz.func213.trans (congrArg some (by kernel_rfl))
 f317 := Tryz.func223.trans (congrArg some (by kernel_rfl))
 f318 := Tryz.func224.trans (congrArg some (by kernel_rfl))
 f319 := Tryz.func225.trans (congrArg some (by kernel_rfl))
 f320 := Tryz.func226.trans (congrArg some (by kernel_rfl))
 f337 := Tryz.func229.trans (congrArg some (by kernel_rfl))
 f338 := Tryz.func230.trans (congrArg some (by kernel_rfl))
 t0 := Tryz.underlying0
 a0 := Tryz.isAgg0
 z0 := Tryz.sizeOf0
 v0 := Tryz.zeroValue0
 t2 := Tryz.underlying2
 a2 := Tryz.isAgg2
 z2 := Tryz.sizeOf2
 v2 := Tryz.zeroValue2
 t3 := Tryz.underlying3
 a3 := Tryz.isAgg3
 z3 := Tryz.sizeOf3
 v3 := Tryz.zeroValue3
 t4 := Tryz.underlying4
 a4 := Tryz.isAgg4
 z4 := Tryz.sizeOf4
 v4 := Tryz.zeroValue4
 t5 := Tryz.underlying5
 a5 := Tryz.isAgg5
 z5 := Tryz.sizeOf5
 v5 := Tryz.zeroValue5
 t9 := Tryz.underlying9
 a9 := Tryz.isAgg9
 z9 := Tryz.sizeOf9
 v9 := Tryz.zeroValue9
 t20 := Tryz.underlying20
 a20 := Tryz.isAgg20
 z20 := Tryz.sizeOf20
 v20 := Tryz.zeroValue20
 t37 := Tryz.underlying237
 a37 := Tryz.isAgg237
 z37 := Tryz.sizeOf237
 v37 := Tryz.zeroValue237
 t46 := Tryz.underlying158
 a46 := Tryz.isAgg158
 z46 := Tryz.sizeOf158
 v46 := Tryz.zeroValue158
 t51 := Tryz.underlying210
 a51 := Tryz.isAgg210
 z51 := Tryz.sizeOf210
 v51 := Tryz.zeroValue210
 t53 := Tryz.underlying212
 a53 := Tryz.isAgg212
 z53 := Tryz.sizeOf212
 v53 := Tryz.zeroValue212
 t171 := Tryz.underlying260
 a171 := Tryz.isAgg260
 z171 := Tryz.sizeOf260
 v171 := Tryz.zeroValue260
 t173 := Tryz.underlying262
 a173 := Tryz.isAgg262
 z173 := Tryz.sizeOf262
 v173 := Tryz.zeroValue262
 t212 := Tryz.underlying277
 a212 := Tryz.isAgg277
 z212 := Tryz.sizeOf277
 v212 := Tryz.zeroValue277
 t213 := Tryz.underlying278
 a213 := Tryz.isAgg278
 z213 := Tryz.sizeOf278
 t232 := Tryz.underlying286
 a232 := Tryz.isAgg286
 z232 := Tryz.sizeOf286
 v232 := Tryz.zeroValue286
 t233 := Tryz.underlying287
 a233 := Tryz.isAgg287
 z233 := Tryz.sizeOf287
 v233 := Tryz.zeroValue287
 g17 := by kernel_rfl
 g18 := by kernel_rfl
 g19 := by kernel_rfl
 i0 := by kernel_rfl
 i2 := by kernel_rfl
 i3 := by kernel_rfl
 i4 := by kernel_rfl
 i5 := by kernel_rfl
 i9 := by kernel_rfl
 i20 := by kernel_rfl
 i37 := by kernel_rfl
 i46 := by kernel_rfl
 i51 := by kernel_rfl
 i53 := by kernel_rfl
 i171 := by kernel_rfl
 i173 := by kernel_rfl
 i212 := by kernel_rfl
 i232 := by kernel_rfl
 i233 := by kernel_rfl
 m17 := by kernel_rfl
 m18 := by kernel_rfl
 m19 := by kernel_rfl }
open Go.RowKit Go.Sort Go.Lib in
theorem Tryz.strconv_Itoa (n : Int) (h0 : -9223372036854775808 ≤ n) (h1 : n ≤ 9223372036854775807) (w : World) (htab : Lib.TabIs Tryz.prog w "internal/strconv.uint64pow10" .u64 Lib.pow10Tab) :
 Calls Tryz.prog 120 #[.int .i64 n] w fun e w' => e = .returned (.string ⟨(Lib.itoa n).toArray⟩) ∧ ∃ k os, w' = grow (w.drewN k) os := Any.strconv_Itoa Tryz.laysM171 n h0 h1 w htab
def Tryz.laysPu14_ren : Go.Shelf.Ren := ⟨fun | 14 => 179 | 16 => 205 | 17 => 199 | 19 => 220 | 20 => 221 | 21 => 215 | 22 => 216 | 23 => 217 | 24 => 218 | 25 => 227 | 27 => 120 | 26 => 228 | 28 => 168 | 29 => 197 | 30 => 210 | 31 => 211 | 32 => 212 | 33 => 213 | 35 => 158 | 34 => 223 | 36 => 224 | 37 => 225 | 38 => 226 | 39 => 229 | 40 => 230 | n => n, fun | 9 => 9 | 3 => 3 | 22 => 212 | 24 => 222 | 25 => 229 | 4 => 4 | 34 => 264 | 5 => 5 | 36 => 158 | 37 => 237 | 0 => 0 | 39 => 267 | 21 => 21 | 44 => 281 | 47 => 256 | 50 => 285 | 48 => 283 | 2 => 2 | 52 => 260 | 55 => 262 | 59 => 277 | 60 => 210 | 20 => 20 | 61 => 278 | 65 => 286 | 66 => 287 | 67 => 242 | n => n, fun | 0 => 2 | 1 => 3 | 2 => 1 | 3 => 4 | 4 => 5 | n => n⟩
theorem Tryz.laysPu14 : Go.Proofs.LaysPu.n14 Tryz.prog Tryz.laysPu14_ren := {
 mixed := by kernel_rfl
 f14 := Tryz.func179.trans (congrArg some (by kernel_rfl))
 f16 := Tryz.func205.trans (congrArg some (by kernel_rfl))
 f17 := Tryz.func199.trans (congrArg some (by kernel_rfl))
 f19 := Tryz.func220.trans (congrArg some (by kernel_rfl))
 f20 := Tryz.func221.trans (congrArg some (by kernel_rfl))
 f21 := Tryz.func215.trans (congrArg some (by kernel_rfl))
 f22 := Tryz.func216.trans (congrArg some (by kernel_rfl))
 f23 := Tryz.func217.trans (congrArg some (by kernel_rfl))
 f24 := Tryz.func218.trans (congrArg some (by kernel_rfl))
 f25 := Tryz.func227.trans (congrArg some (by kernel_rfl))
 f26 := Tryz.func228.trans (congrArg some (by kernel_rfl))
 f27 := Tryz.func120.trans (congrArg some (by kernel_rfl))
 f28 := Tryz.func168.trans (congrArg some (by kernel_rfl))
 f29 := Tryz.func197.trans (congrArg some (by kernel_rfl))
 f30 := Tryz.func210.trans (congrArg some (by kernel_rfl))
 f31 := Tryz.func211.trans (congrArg some (by kernel_rfl))
 f32 := Tryz.func212.trans (congrArg some (by kernel_rfl))
 f33 := Tryz.func213.trans (congrArg some (by kernel_rfl))
 f34 := Tryz.func223.trans (congrArg some (by kernel_rfl))
 f35 := Tryz.func158.trans (congrArg some (by kernel_rfl))
 f36 := Tryz.func224.trans (congrArg some (by kernel_rfl))
 f37 := Tryz.func225.trans (congrArg some (by kernel_rfl))
 f38 := Tryz.func226.trans (congrArg some (by kernel_rfl))
 f39 := Tryz.func229.trans (congrArg some (by kernel_rfl))
 f40 := Tryz.func230.trans (congrArg some (by kernel_rfl))
 t0 := Tryz.underlying0
 a0 := Tryz.isAgg0
 z0 := Tryz.sizeOf0
 v0 := Tryz.zeroValue0
 i0 := by kernel_rfl
 t2 := Tryz.underlying2
 a2 := Tryz.isAgg2
 z2 := Tryz.sizeOf2
 v2 := Tryz.zeroValue2
 i2 := by kernel_rfl
 t3 := Tryz.underlying3
 a3 := Tryz.isAgg3
 z3 := Tryz.sizeOf3
 v3 := Tryz.zeroValue3
 i3 := by kernel_rfl
 t4 := Tryz.underlying4
 a4 := Tryz.isAgg4
 z4 := Tryz.sizeOf4
 v4 := Tryz.zeroValue4
 i4 := by kernel_rfl
 t5 := Tryz.underlying5
 a5 := Tryz.isAgg5
 z5 := Tryz.sizeOf5
 v5 := Tryz.zeroValue5
 i5 := by kernel_rfl
 t9 := Tryz.underlying9
 a9 := Tryz.isAgg9
 z9 := Tryz.sizeOf9
 v9 := Tryz.zeroValue9
 i9 := by kernel_rfl
 t20 := Tryz.underlying20
 a20 := Tryz.isAgg20
 z20 := Tryz.sizeOf20
 v20 := Tryz.zeroValue20
 i20 := by kernel_rfl
 t21 := Tryz.underlying21
 a21 := Tryz.isAgg21
 z21 := Tryz.sizeOf21
 v21 := Tryz.zeroValue21
 i21 := by kernel_rfl
 t22 := Tryz.underlying212
 a22 := Tryz.isAgg212
 z22 := Tryz.sizeOf212
 v22 := Tryz.zeroValue212
 i22 := by kernel_rfl
 t24 := Tryz.underlying222
 a24 := Tryz.isAgg222
 z24 := Tryz.sizeOf222
 v24 := Tryz.zeroValue222
 i24 := by kernel_rfl
 t25 := Tryz.underlying229
 a25 := Tryz.isAgg229
 z25 := Tryz.sizeOf229
 v25 := Tryz.zeroValue229
 i25 := by kernel_rfl
 t34 := Tryz.underlying264
 a34 := Tryz.isAgg264
 z34 := Tryz.sizeOf264
 v34 := Tryz.zeroValue264
 i34 := by kernel_rfl
 c34 := by kernel_rfl
 t36 := Tryz.underlying158
 a36 := Tryz.isAgg158
 z36 := Tryz.sizeOf158
 v36 := Tryz.zeroValue158
 i36 := by kernel_rfl
 t37 := Tryz.underlying237
 a37 := Tryz.isAgg237
 z37 := Tryz.sizeOf237
 v37 := Tryz.zeroValue237
 i37 := by kernel_rfl
 t39 := Tryz.underlying267
 a39 := Tryz.isAgg267
 z39 := Tryz.sizeOf267
 v39 := Tryz.zeroValue267
 i39 := by kernel_rfl
 t44 := Tryz.underlying281
 a44 := Tryz.isAgg281
 z44 := Tryz.sizeOf281
 v44 := Tryz.zeroValue281
 i44 := by kernel_rfl
 t47 := Tryz.underlying256
 a47 := Tryz.isAgg256
 z47 := Tryz.sizeOf256
 v47 := Tryz.zeroValue256
 i47 := by kernel_rfl
 t48 := Tryz.underlying283
 a48 := Tryz.isAgg283
 z48 := Tryz.sizeOf283
 v48 := Tryz.zeroValue283
 i48 := by kernel_rfl
 t50 := Tryz.underlying285
 a50 := Tryz.isAgg285
 z50 := Tryz.sizeOf285
 v50 := Tryz.zeroValue285
 i50 := by kernel_rfl
 t52 := Tryz.underlying260
 a52 := Tryz.isAgg260
 z52 := Tryz.sizeOf260
 v52 := Tryz.zeroValue260
 i52 := by kernel_rfl
 t55 := Tryz.underlying262
 a55 := Tryz.isAgg262
 z55 := Tryz.sizeOf262
 v55 := Tryz.zeroValue262
 i55 := by kernel_rfl
 t59 := Tryz.underlying277
 a59 := Tryz.isAgg277
 z59 := Tryz.sizeOf277
 v59 := Tryz.zeroValue277
 i59 := by kernel_rfl
 t60 := Tryz.underlying210
 a60 := Tryz.isAgg210
 z60 := Tryz.sizeOf210
 v60 := Tryz.zeroValue210
 i60 := by kernel_rfl
 t61 := Tryz.underlying278
 a61 := Tryz.isAgg278
 z61 := Tryz.sizeOf278
 t65 := Tryz.underlying286
 a65 := Tryz.isAgg286
 z65 := Tryz.sizeOf286
 v65 := Tryz.zeroValue286
 i65 := by kernel_rfl
 t66 := Tryz.underlying287
 a66 := Tryz.isAgg287
 z66 := Tryz.sizeOf287
 v66 := Tryz.zeroValue287
 i66 := by kernel_rfl
 t67 := Tryz.underlying242
 a67 := Tryz.isAgg242
 z67 := Tryz.sizeOf242
 v67 := Tryz.zeroValue242
 i67 := by kernel_rfl
 g0 := by kernel_rfl
 m0 := by kernel_rfl
 g1 := by kernel_rfl
 m1 := by kernel_rfl
 g2 := by kernel_rfl
 m2 := by kernel_rfl
 g3 := by kernel_rfl
 m3 := by kernel_rfl
 g4 := by kernel_rfl
 m4 := by kernel_rfl }
open Go.RowKit in
theorem Tryz.strconv_ParseUint_10_at64_ok (s : ByteArray) (hmax : s.size ≤ 9223372036854775806) (u : Nat) (h : Lib.parseUintB 64 s.data.toList = .ok u) (w : World) :
 Calls Tryz.prog 179 #[.string s, .int .i64 10, .int .i64 64] w fun e w' => e = .returned (.tuple #[.int .u64 u, .nilIface]) ∧ (w' = w ∨ w' = Lib.bytesWorld w 5 s) := Any.strconv_ParseUint_10_at64_ok Tryz.laysPu14 s hmax u h w
def Tryz.lays145_ren : Go.Shelf.Ren := ⟨fun | 145 => 81 | 220 => 134 | 219 => 174 | 217 => 107 | 225 => 200 | 224 => 201 | 267 => 202 | 266 => 161 | 314 => 219 | n => n, fun | 9 => 9 | 4 => 4 | 59 => 146 | 3 => 3 | 5 => 5 | 46 => 158 | 146 => 270 | 51 => 210 | n => n, fun | 1 => 0 | n => n⟩
theorem Tryz.lays145 : Go.Proofs.Lays.n145 Tryz.prog Tryz.lays145_ren := {
 mixed := by kernel_rfl
 f145 := Tryz.func81.trans (congrArg some (by kernel_rfl))
 f217 := Tryz.func107.trans (congrArg some (by kernel_rfl))
 f219 := Tryz.func174.trans (congrArg some (by kernel_rfl))
 f220 := Tryz.func134.trans (congrArg some (by kernel_rfl))
 f224 := Tryz.func201.trans (congrArg some (by kernel_rfl))
 f225 := Tryz.func200.trans (congrArg some (by kernel_rfl))
 f266 := Tryz.func161.trans (congrArg some (by kernel_rfl))
 f267 := Tryz.func202.trans (congrArg some (by kernel_rfl))
 f314 := Tryz.func219.trans (congrArg some (by kernel_rfl))
 t3 := Tryz.underlying3
 a3 := Tryz.isAgg3
 z3 := Tryz.sizeOf3
 v3 := Tryz.zeroValue3
 t4 := Tryz.underlying4
 a4 := Tryz.isAgg4
 z4 := Tryz.sizeOf4
 v4 := Tryz.zeroValue4
 t5 := Tryz.underlying5
 a5 := Tryz.isAgg5
 z5 := Tryz.sizeOf5
 v5 := Tryz.zeroValue5
 t9 := Tryz.underlying9
 a9 := Tryz.isAgg9
 z9 := Tryz.sizeOf9
 v9 := Tryz.zeroValue9
 t46 := Tryz.underlying158
 a46 := Tryz.isAgg158
 z46 := Tryz.sizeOf158
 v46 := Tryz.zeroValue158
 t51 := Tryz.underlying210
 a51 := Tryz.isAgg210
 z51 := Tryz.sizeOf210
 v51 := Tryz.zeroValue210
 t59 := Tryz.underlying146
 a59 := Tryz.isAgg146
 z59 := Tryz.sizeOf146
 v59 := Tryz.zeroValue146
 t146 := Tryz.underlying270
 a146 := Tryz.isAgg270
 z146 := Tryz.sizeOf270
 v146 := Tryz.zeroValue270
 g1 := by kernel_rfl }
open Go.RowKit Go.Lib in
theorem Tryz.strings_Cut (s sep : ByteArray) (m : Int) (w : World) (hs : s.size < 4294967281) (hm : w.cell? ⟨0, 0, none⟩ = some (.int .i64 m)) :
 Calls Tryz.prog 81 #[.string s, .string sep] w fun e w' => e = .returned (.tuple #[.string ⟨(Lib.cut s.data.toList sep.data.toList).1.toArray⟩, .string ⟨(Lib.cut s.data.toList sep.data.toList).2.1.toArray⟩, .bool (Lib.cut s.data.toList sep.data.toList).2.2]) ∧ ∃ n, w' = w.drewN n := Any.strings_Cut Tryz.lays145 s sep m w hs hm
def Tryz.lays99_ren : Go.Shelf.Ren := ⟨fun | 99 => 176 | 206 => 203 | n => n, fun | 9 => 9 | 4 => 4 | 3 => 3 | n => n, fun | n => n⟩
theorem Tryz.lays99 : Go.Proofs.Lays.n99 Tryz.prog Tryz.lays99_ren := {
 mixed := by kernel_rfl
 f99 := Tryz.func176.trans (congrArg some (by kernel_rfl))
 f206 := Tryz.func203.trans (congrArg some (by kernel_rfl))
 t3 := Tryz.underlying3
 a3 := Tryz.isAgg3
 z3 := Tryz.sizeOf3
 v3 := Tryz.zeroValue3
 t4 := Tryz.underlying4
 a4 := Tryz.isAgg4
 z4 := Tryz.sizeOf4
 v4 := Tryz.zeroValue4
 t9 := Tryz.underlying9
 a9 := Tryz.isAgg9
 z9 := Tryz.sizeOf9
 v9 := Tryz.zeroValue9 }
open Go.RowKit Go.Lib in
theorem Tryz.strings_HasPrefix (s p : ByteArray) (w : World) :
 Calls Tryz.prog 176 #[.string s, .string p] w fun e w' => e = .returned (.bool (Lib.hasPrefix s.data.toList p.data.toList)) ∧ w' = w := Any.strings_HasPrefix Tryz.lays99 s p w
def Tryz.lays101_ren : Go.Shelf.Ren := ⟨fun | 101 => 137 | 208 => 177 | 206 => 203 | n => n, fun | 9 => 9 | 4 => 4 | 3 => 3 | n => n, fun | n => n⟩
theorem Tryz.lays101 : Go.Proofs.Lays.n101 Tryz.prog Tryz.lays101_ren := {
 mixed := by kernel_rfl
 f101 := Tryz.func137.trans (congrArg some (by kernel_rfl))
 f206 := Tryz.func203.trans (congrArg some (by kernel_rfl))
 f208 := Tryz.func177.trans (congrArg some (by kernel_rfl))
 t3 := Tryz.underlying3
 a3 := Tryz.isAgg3
 z3 := Tryz.sizeOf3
 v3 := Tryz.zeroValue3
 t4 := Tryz.underlying4
 a4 := Tryz.isAgg4
 z4 := Tryz.sizeOf4
 v4 := Tryz.zeroValue4
 t9 := Tryz.underlying9
 a9 := Tryz.isAgg9
 z9 := Tryz.sizeOf9
 v9 := Tryz.zeroValue9 }
open Go.RowKit Go.Lib in
theorem Tryz.strings_TrimPrefix (s p : ByteArray) (w : World) :
 Calls Tryz.prog 137 #[.string s, .string p] w fun e w' => e = .returned (.string ⟨(Lib.trimPrefix s.data.toList p.data.toList).toArray⟩) ∧ w' = w := Any.strings_TrimPrefix Tryz.lays101 s p w
end Go.Proofs
