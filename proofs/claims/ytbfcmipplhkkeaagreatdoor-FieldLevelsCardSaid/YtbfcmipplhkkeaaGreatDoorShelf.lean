/- The library's contracts that the walks use, laid for this translation by the kit's tool (a part of what it wrote). -/
import Derived.Shelf.Strings.Builder1
import Derived.Shelf.Small.Strs
import Derived.Shelf.Small.Wraps
import Derived.Shelf.Strings.BuilderF
import Derived.Shelf.Strings.BuilderK
import Derived.Shelf.Strconv.Atoi
import Derived.Shelf.Strconv.Itoa0
import Derived.Shelf.Strconv.Itoa1
import Derived.Shelf.LaysM
import Derived.Shelf.Strconv.Itoa2
import Derived.Shelf.Strconv.Itoa3
import Derived.Shelf.Strconv.AtoiErrFast
import Derived.Shelf.Strconv.ParseIntEmpty
import Derived.Shelf.Strconv.AtoiFail
import Derived.Shelf.Strconv.Clone
import Derived.Shelf.Strconv.SyntaxError
import Derived.Shelf.LaysC
import Derived.Shelf.Strconv.ToError
import Derived.Shelf.Strconv.Lower
import Derived.Shelf.Strconv.ParseUint10
import Derived.Shelf.Strconv.ParseUint10Empty
import Derived.Shelf.Strconv.ParseUint10Any
import Derived.Shelf.Strconv.ParseInt10
import Derived.Shelf.Strconv.AtoiLong
import Derived.Shelf.Strconv.AtoiInnerAll
import Derived.Shelf.Strconv.RangeError
import Derived.Shelf.Strconv.ToErrorRange
import Derived.Shelf.Strconv.AtoiAll
import Derived.Shelf.Strconv.ErrVarAll
import Derived.Ground.MpProg
import Derived.Shelf.Pu.ParseUintPublic10
import Derived.Shelf.Pu.ErrVarParseUint
import Derived.Shelf.Strings.Search1
import Derived.Shelf.Strings.Search2
import Derived.Shelf.Strings.Cut
import Derived.Shelf.Strings.Shaped
import Derived.Shelf.Strings.Prefix
import Derived.Test.YtbfcmipplhkkeaaGreatDoorProg
namespace Go.Proofs
open Go.Shelf
def Tryz.lays169_ren : Go.Shelf.Ren := ⟨fun | 169 => 208 | n => n, fun | 70 => 253 | 9 => 9 | 0 => 0 | 72 => 256 | 37 => 254 | 127 => 280 | 3 => 3 | 5 => 5 | n => n, fun | n => n⟩
theorem Tryz.lays169 : Go.Proofs.Lays.n169 Tryz.prog Tryz.lays169_ren := {
  mixed := by kernel_rfl
  f169 := Tryz.func208.trans (congrArg some (by kernel_rfl))
  t0 := Tryz.underlying0
  a0 := Tryz.isAgg0
  z0 := Tryz.sizeOf0
  v0 := Tryz.zeroValue0
  t3 := Tryz.underlying3
  a3 := Tryz.isAgg3
  z3 := Tryz.sizeOf3
  v3 := Tryz.zeroValue3
  t9 := Tryz.underlying9
  a9 := Tryz.isAgg9
  z9 := Tryz.sizeOf9
  v9 := Tryz.zeroValue9
  t37 := Tryz.underlying254
  a37 := Tryz.isAgg254
  z37 := Tryz.sizeOf254
  v37 := Tryz.zeroValue254
  t70 := Tryz.underlying253
  a70 := Tryz.isAgg253
  z70 := Tryz.sizeOf253
  v70 := Tryz.zeroValue253
  t72 := Tryz.underlying256
  a72 := Tryz.isAgg256
  z72 := Tryz.sizeOf256
  v72 := Tryz.zeroValue256
  t127 := Tryz.underlying280
  a127 := Tryz.isAgg280
  z127 := Tryz.sizeOf280
  v127 := Tryz.zeroValue280 }
theorem Tryz.Builder_Extra_169 : Builder.Extra Tryz.prog Tryz.lays169_ren := {
  sizeBuilder := by kernel_rfl
  liesBuilder := by kernel_rfl
  t5 := Tryz.underlying5
  a5 := Tryz.isAgg5
  z5 := Tryz.sizeOf5
  v5 := Tryz.zeroValue5
  infoByte := by kernel_rfl
  cellsByte := by kernel_rfl
  sizeByte := by kernel_rfl
  neB5 := by decide }
def Tryz.lays106_ren : Go.Shelf.Ren := ⟨fun | 106 => 153 | 213 => 200 | 265 => 230 | n => n, fun | 9 => 9 | 3 => 3 | n => n, fun | n => n⟩
theorem Tryz.lays106 : Go.Proofs.Lays.n106 Tryz.prog Tryz.lays106_ren := {
  mixed := by kernel_rfl
  f106 := Tryz.func153.trans (congrArg some (by kernel_rfl))
  f213 := Tryz.func200.trans (congrArg some (by kernel_rfl))
  f265 := Tryz.func230.trans (congrArg some (by kernel_rfl))
  t3 := Tryz.underlying3
  a3 := Tryz.isAgg3
  z3 := Tryz.sizeOf3
  v3 := Tryz.zeroValue3
  t9 := Tryz.underlying9
  a9 := Tryz.isAgg9
  z9 := Tryz.sizeOf9
  v9 := Tryz.zeroValue9 }
open Go.RowKit in
theorem Tryz.strings_Compare (a b : ByteArray) (w : World) :
    Calls Tryz.prog 153 #[.string a, .string b] w fun e w' => e = .returned (.int .i64 (Lib.compareBytes a.data.toList b.data.toList)) ∧ w' = w := Any.strings_Compare Tryz.lays106 a b w
def Tryz.lays137_ren : Go.Shelf.Ren := ⟨fun | 137 => 45 | 217 => 92 | 266 => 140 | n => n, fun | 9 => 9 | 5 => 5 | 3 => 3 | n => n, fun | n => n⟩
theorem Tryz.lays137 : Go.Proofs.Lays.n137 Tryz.prog Tryz.lays137_ren := {
  mixed := by kernel_rfl
  f137 := Tryz.func45.trans (congrArg some (by kernel_rfl))
  f217 := Tryz.func92.trans (congrArg some (by kernel_rfl))
  f266 := Tryz.func140.trans (congrArg some (by kernel_rfl))
  t3 := Tryz.underlying3
  a3 := Tryz.isAgg3
  z3 := Tryz.sizeOf3
  v3 := Tryz.zeroValue3
  t5 := Tryz.underlying5
  a5 := Tryz.isAgg5
  z5 := Tryz.sizeOf5
  v5 := Tryz.zeroValue5
  t9 := Tryz.underlying9
  a9 := Tryz.isAgg9
  z9 := Tryz.sizeOf9
  v9 := Tryz.zeroValue9 }
open Go.RowKit in
theorem Tryz.strings_IndexByte (s : ByteArray) (c : Int) (w : World) :
    Calls Tryz.prog 45 #[.string s, .int .u8 c] w fun e w' => e = .returned (.int .i64 (Lib.indexByte s.data.toList c.toNat.toUInt8)) ∧ w' = w := Any.strings_IndexByte Tryz.lays137 s c w
def Tryz.lays103_ren : Go.Shelf.Ren := ⟨fun | 103 => 150 | 210 => 197 | 206 => 229 | n => n, fun | 9 => 9 | 4 => 4 | 24 => 202 | 3 => 3 | n => n, fun | n => n⟩
theorem Tryz.lays103 : Go.Proofs.Lays.n103 Tryz.prog Tryz.lays103_ren := {
  mixed := by kernel_rfl
  f103 := Tryz.func150.trans (congrArg some (by kernel_rfl))
  f206 := Tryz.func229.trans (congrArg some (by kernel_rfl))
  f210 := Tryz.func197.trans (congrArg some (by kernel_rfl))
  t3 := Tryz.underlying3
  a3 := Tryz.isAgg3
  z3 := Tryz.sizeOf3
  v3 := Tryz.zeroValue3
  t4 := Tryz.underlying4
  a4 := Tryz.isAgg4
  z4 := Tryz.sizeOf4
  v4 := Tryz.zeroValue4
  t9 := Tryz.underlying9
  a9 := Tryz.isAgg9
  z9 := Tryz.sizeOf9
  v9 := Tryz.zeroValue9
  t24 := Tryz.underlying202
  a24 := Tryz.isAgg202
  z24 := Tryz.sizeOf202
  v24 := Tryz.zeroValue202 }
open Go.RowKit in
theorem Tryz.strings_CutPrefix (s p : ByteArray) (w : World) :
    Calls Tryz.prog 150 #[.string s, .string p] w fun e w' => e = .returned (.tuple #[.string ⟨(Lib.trimPrefix s.data.toList p.data.toList).toArray⟩, .bool (Lib.hasPrefix s.data.toList p.data.toList)]) ∧ w' = w := Any.strings_CutPrefix Tryz.lays103 s p w
open Go.RowKit in
theorem Tryz.Builder_String_k (B b : Nat) (l : List UInt8) (w : World) (h : Lib.IsBuilderF 256 5 B b (Lib.byteCells l) w) (h0 : l ≠ []) :
    Calls Tryz.prog 208 #[.pointer (some ⟨b, 0, none⟩)] w fun e w' => e = .returned (.string ⟨l.toArray⟩) ∧ (Lib.IsBuilderF 256 5 B b (Lib.byteCells l) w' ∧ Below B w w' ∧ Lib.OthersKept 5 (some b) w w') := Any.Builder_String_k Tryz.lays169 Tryz.Builder_Extra_169 B b l w h h0
def Tryz.lays172_ren : Go.Shelf.Ren := ⟨fun | 172 => 114 | 244 => 158 | 245 => 159 | 247 => 209 | 279 => 210 | 280 => 211 | 281 => 212 | 282 => 213 | 287 => 231 | 316 => 235 | 171 => 67 | 205 => 236 | 321 => 244 | 322 => 245 | 243 => 120 | 246 => 165 | 283 => 214 | 284 => 215 | 285 => 216 | 286 => 217 | 129 => 181 | 317 => 237 | 318 => 238 | 319 => 239 | 320 => 240 | 337 => 247 | 338 => 248 | n => n, fun | 9 => 9 | 3 => 3 | 75 => 181 | 76 => 182 | 4 => 4 | 5 => 5 | 167 => 260 | 37 => 254 | 0 => 0 | 85 => 261 | 2 => 2 | 168 => 263 | 53 => 235 | 175 => 246 | 46 => 199 | 210 => 283 | 127 => 280 | 145 => 300 | 143 => 298 | 21 => 21 | 171 => 266 | 173 => 268 | 212 => 286 | 51 => 233 | 20 => 20 | 213 => 287 | 232 => 301 | 233 => 302 | 80 => 259 | n => n, fun | 15 => 1 | 16 => 2 | 17 => 3 | 18 => 4 | 19 => 5 | n => n⟩
theorem Tryz.lays172 : Go.Proofs.Lays.n172 Tryz.prog Tryz.lays172_ren := {
  mixed := by kernel_rfl
  f129 := Tryz.func181.trans (congrArg some (by kernel_rfl))
  f171 := Tryz.func67.trans (congrArg some (by kernel_rfl))
  f172 := Tryz.func114.trans (congrArg some (by kernel_rfl))
  f205 := Tryz.func236.trans (congrArg some (by kernel_rfl))
  f243 := Tryz.func120.trans (congrArg some (by kernel_rfl))
  f244 := Tryz.func158.trans (congrArg some (by kernel_rfl))
  f245 := Tryz.func159.trans (congrArg some (by kernel_rfl))
  f246 := Tryz.func165.trans (congrArg some (by kernel_rfl))
  f247 := Tryz.func209.trans (congrArg some (by kernel_rfl))
  f279 := Tryz.func210.trans (congrArg some (by kernel_rfl))
  f280 := Tryz.func211.trans (congrArg some (by kernel_rfl))
  f281 := Tryz.func212.trans (congrArg some (by kernel_rfl))
  f282 := Tryz.func213.trans (congrArg some (by kernel_rfl))
  f283 := Tryz.func214.trans (congrArg some (by kernel_rfl))
  f284 := Tryz.func215.trans (congrArg some (by kernel_rfl))
  f285 := Tryz.func216.trans (congrArg some (by kernel_rfl))
  f286 := Tryz.func217.trans (congrArg some (by kernel_rfl))
  f287 := Tryz.func231.trans (congrArg some (by kernel_rfl))
  f316 := Tryz.func235.trans (congrArg some (by kernel_rfl))
  f317 := Tryz.func237.trans (congrArg some (by kernel_rfl))
  f318 := Tryz.func238.trans (congrArg some (by kernel_rfl))
  f319 := Tryz.func239.trans (congrArg some (by kernel_rfl))
  f320 := Tryz.func240.trans (congrArg some (by kernel_rfl))
  f321 := Tryz.func244.trans (congrArg some (by kernel_rfl))
  f322 := Tryz.func245.trans (congrArg some (by kernel_rfl))
  f337 := Tryz.func247.trans (congrArg some (by kernel_rfl))
  f338 := Tryz.func248.trans (congrArg some (by kernel_rfl))
  t0 := Tryz.underlying0
  a0 := Tryz.isAgg0
  z0 := Tryz.sizeOf0
  v0 := Tryz.zeroValue0
  t2 := Tryz.underlying2
  a2 := Tryz.isAgg2
  z2 := Tryz.sizeOf2
  v2 := Tryz.zeroValue2
  t3 := Tryz.underlying3
  a3 := Tryz.isAgg3
  z3 := Tryz.sizeOf3
  v3 := Tryz.zeroValue3
  t4 := Tryz.underlying4
  a4 := Tryz.isAgg4
  z4 := Tryz.sizeOf4
  v4 := Tryz.zeroValue4
  t5 := Tryz.underlying5
  a5 := Tryz.isAgg5
  z5 := Tryz.sizeOf5
  v5 := Tryz.zeroValue5
  t9 := Tryz.underlying9
  a9 := Tryz.isAgg9
  z9 := Tryz.sizeOf9
  v9 := Tryz.zeroValue9
  t20 := Tryz.underlying20
  a20 := Tryz.isAgg20
  z20 := Tryz.sizeOf20
  v20 := Tryz.zeroValue20
  t21 := Tryz.underlying21
  a21 := Tryz.isAgg21
  z21 := Tryz.sizeOf21
  v21 := Tryz.zeroValue21
  t37 := Tryz.underlying254
  a37 := Tryz.isAgg254
  z37 := Tryz.sizeOf254
  v37 := Tryz.zeroValue254
  t46 := Tryz.underlying199
  a46 := Tryz.isAgg199
  z46 := Tryz.sizeOf199
  v46 := Tryz.zeroValue199
  t51 := Tryz.underlying233
  a51 := Tryz.isAgg233
  z51 := Tryz.sizeOf233
  v51 := Tryz.zeroValue233
  t53 := Tryz.underlying235
  a53 := Tryz.isAgg235
  z53 := Tryz.sizeOf235
  v53 := Tryz.zeroValue235
  t75 := Tryz.underlying181
  a75 := Tryz.isAgg181
  z75 := Tryz.sizeOf181
  v75 := Tryz.zeroValue181
  t76 := Tryz.underlying182
  a76 := Tryz.isAgg182
  z76 := Tryz.sizeOf182
  v76 := Tryz.zeroValue182
  t85 := Tryz.underlying261
  a85 := Tryz.isAgg261
  z85 := Tryz.sizeOf261
  v85 := Tryz.zeroValue261
  t127 := Tryz.underlying280
  a127 := Tryz.isAgg280
  z127 := Tryz.sizeOf280
  v127 := Tryz.zeroValue280
  t143 := Tryz.underlying298
  a143 := Tryz.isAgg298
  z143 := Tryz.sizeOf298
  v143 := Tryz.zeroValue298
  t145 := Tryz.underlying300
  a145 := Tryz.isAgg300
  z145 := Tryz.sizeOf300
  v145 := Tryz.zeroValue300
  t167 := Tryz.underlying260
  a167 := Tryz.isAgg260
  z167 := Tryz.sizeOf260
  v167 := Tryz.zeroValue260
  t168 := Tryz.underlying263
  a168 := Tryz.isAgg263
  z168 := Tryz.sizeOf263
  v168 := Tryz.zeroValue263
  t171 := Tryz.underlying266
  a171 := Tryz.isAgg266
  z171 := Tryz.sizeOf266
  v171 := Tryz.zeroValue266
  t173 := Tryz.underlying268
  a173 := Tryz.isAgg268
  z173 := Tryz.sizeOf268
  v173 := Tryz.zeroValue268
  t175 := Tryz.underlying246
  a175 := Tryz.isAgg246
  z175 := Tryz.sizeOf246
  v175 := Tryz.zeroValue246
  t210 := Tryz.underlying283
  a210 := Tryz.isAgg283
  z210 := Tryz.sizeOf283
  v210 := Tryz.zeroValue283
  t212 := Tryz.underlying286
  a212 := Tryz.isAgg286
  z212 := Tryz.sizeOf286
  v212 := Tryz.zeroValue286
  t213 := Tryz.underlying287
  a213 := Tryz.isAgg287
  z213 := Tryz.sizeOf287
  t232 := Tryz.underlying301
  a232 := Tryz.isAgg301
  z232 := Tryz.sizeOf301
  v232 := Tryz.zeroValue301
  t233 := Tryz.underlying302
  a233 := Tryz.isAgg302
  z233 := Tryz.sizeOf302
  v233 := Tryz.zeroValue302
  g15 := by kernel_rfl
  g16 := by kernel_rfl
  g17 := by kernel_rfl
  g18 := by kernel_rfl
  g19 := by kernel_rfl }
open Go.RowKit in
theorem Tryz.strconv_Atoi (s : ByteArray) (n : Int) (hl : s.size ≤ 18) (h : Lib.atoi s.data.toList = some n) (w : World) :
    Calls Tryz.prog 114 #[.string s] w fun e w' => e = .returned (.tuple #[.int .i64 n, .nilIface]) ∧ ∃ t, w' = Lib.bytesWorld w 5 t := Any.strconv_Atoi Tryz.lays172 s n hl h w
def Tryz.lays283_ren : Go.Shelf.Ren := ⟨fun | 283 => 214 | n => n, fun | 3 => 3 | 9 => 9 | 4 => 4 | n => n, fun | n => n⟩
theorem Tryz.lays283 : Go.Proofs.Lays.n283 Tryz.prog Tryz.lays283_ren := {
  mixed := by kernel_rfl
  f283 := Tryz.func214.trans (congrArg some (by kernel_rfl))
  t3 := Tryz.underlying3
  a3 := Tryz.isAgg3
  z3 := Tryz.sizeOf3
  v3 := Tryz.zeroValue3
  t4 := Tryz.underlying4
  a4 := Tryz.isAgg4
  z4 := Tryz.sizeOf4
  v4 := Tryz.zeroValue4
  t9 := Tryz.underlying9
  a9 := Tryz.isAgg9
  z9 := Tryz.sizeOf9
  v9 := Tryz.zeroValue9 }
open Go.Lib in
theorem Tryz.internal_strconv_small (i : Nat) (h : i < 100) (w : World) :
    Calls Tryz.prog 214 #[.int .i64 i] w fun e w' => e = .returned (.string ⟨(Lib.decDigits i).toArray⟩) ∧ w' = w := Any.internal_strconv_small Tryz.lays283 i h w
def Tryz.laysM284_ren : Go.Shelf.Ren := ⟨fun | 284 => 215 | 129 => 181 | 317 => 237 | 318 => 238 | n => n, fun | 53 => 235 | 3 => 3 | 212 => 286 | 0 => 0 | 4 => 4 | 46 => 199 | 5 => 5 | 9 => 9 | n => n, fun | 17 => 3 | n => n⟩
theorem Tryz.laysM284 : Go.Proofs.LaysM.n284 Tryz.prog Tryz.laysM284_ren := {
  mixed := by kernel_rfl
  f129 := Tryz.func181.trans (congrArg some (by kernel_rfl))
  f284 := Tryz.func215.trans (congrArg some (by kernel_rfl))
  f317 := Tryz.func237.trans (congrArg some (by kernel_rfl))
  f318 := Tryz.func238.trans (congrArg some (by kernel_rfl))
  t0 := Tryz.underlying0
  a0 := Tryz.isAgg0
  z0 := Tryz.sizeOf0
  v0 := Tryz.zeroValue0
  t3 := Tryz.underlying3
  a3 := Tryz.isAgg3
  z3 := Tryz.sizeOf3
  v3 := Tryz.zeroValue3
  t4 := Tryz.underlying4
  a4 := Tryz.isAgg4
  z4 := Tryz.sizeOf4
  v4 := Tryz.zeroValue4
  t5 := Tryz.underlying5
  a5 := Tryz.isAgg5
  z5 := Tryz.sizeOf5
  v5 := Tryz.zeroValue5
  t9 := Tryz.underlying9
  a9 := Tryz.isAgg9
  z9 := Tryz.sizeOf9
  v9 := Tryz.zeroValue9
  t46 := Tryz.underlying199
  a46 := Tryz.isAgg199
  z46 := Tryz.sizeOf199
  v46 := Tryz.zeroValue199
  t53 := Tryz.underlying235
  a53 := Tryz.isAgg235
  z53 := Tryz.sizeOf235
  v53 := Tryz.zeroValue235
  t212 := Tryz.underlying286
  a212 := Tryz.isAgg286
  z212 := Tryz.sizeOf286
  v212 := Tryz.zeroValue286
  g17 := by kernel_rfl
  i0 := by kernel_rfl
  i3 := by kernel_rfl
  i4 := by kernel_rfl
  i5 := by kernel_rfl
  i9 := by kernel_rfl
  i46 := by kernel_rfl
  i53 := by kernel_rfl
  i212 := by kernel_rfl
  m17 := by kernel_rfl }
open Go.Lib in
theorem Tryz.internal_strconv_numDigits (u : Nat) (h1 : 1 ≤ u) (h2 : u < 18446744073709551616) (w : World) (htab : Lib.TabIs Tryz.prog w "internal/strconv.uint64pow10" .u64 Lib.pow10Tab) :
    Calls Tryz.prog 215 #[.int .u64 u] w fun e w' => e = .returned (.int .i64 (Lib.nDigits u)) ∧ w' = w := Any.internal_strconv_numDigits Tryz.laysM284 u h1 h2 w htab
def Tryz.lays285_ren : Go.Shelf.Ren := ⟨fun | 285 => 216 | n => n, fun | 37 => 254 | 53 => 235 | 3 => 3 | 4 => 4 | 51 => 233 | 9 => 9 | 5 => 5 | 0 => 0 | n => n, fun | n => n⟩
theorem Tryz.lays285 : Go.Proofs.Lays.n285 Tryz.prog Tryz.lays285_ren := {
  mixed := by kernel_rfl
  f285 := Tryz.func216.trans (congrArg some (by kernel_rfl))
  t0 := Tryz.underlying0
  a0 := Tryz.isAgg0
  z0 := Tryz.sizeOf0
  v0 := Tryz.zeroValue0
  t3 := Tryz.underlying3
  a3 := Tryz.isAgg3
  z3 := Tryz.sizeOf3
  v3 := Tryz.zeroValue3
  t4 := Tryz.underlying4
  a4 := Tryz.isAgg4
  z4 := Tryz.sizeOf4
  v4 := Tryz.zeroValue4
  t5 := Tryz.underlying5
  a5 := Tryz.isAgg5
  z5 := Tryz.sizeOf5
  v5 := Tryz.zeroValue5
  t9 := Tryz.underlying9
  a9 := Tryz.isAgg9
  z9 := Tryz.sizeOf9
  v9 := Tryz.zeroValue9
  t37 := Tryz.underlying254
  a37 := Tryz.isAgg254
  z37 := Tryz.sizeOf254
  v37 := Tryz.zeroValue254
  t51 := Tryz.underlying233
  a51 := Tryz.isAgg233
  z51 := Tryz.sizeOf233
  v51 := Tryz.zeroValue233
  t53 := Tryz.underlying235
  a53 := Tryz.isAgg235
  z53 := Tryz.sizeOf235
  v53 := Tryz.zeroValue235 }
open Go.RowKit Go.Sort Go.Lib in
theorem Tryz.internal_strconv_formatBase10 (blk off cap : Nat) (u : Nat) (d : Array UInt8) (w : World) (hH : Holds (fun (b : UInt8) => Value.int .u8 (b.toNat : Int)) w blk off d) (hu : u < 10 ^ d.size) (hu64 : u < 18446744073709551616) (hsz : d.size < 4611686018427387904) :
    Calls Tryz.prog 216 #[.slice (some ⟨blk, off, none⟩) d.size cap, .int .u64 u] w fun e w' =>
      e = .returned (.tuple #[]) ∧ ∃ (n v' : Nat) (dk : Array UInt8), w' = (putRow (fun (b : UInt8) => Value.int .u8 (b.toNat : Int)) w blk off dk).drewN n ∧ FmtInv d.size u 0 v' dk := Any.internal_strconv_formatBase10 Tryz.lays285 blk off cap u d w hH hu hu64 hsz
def Tryz.laysM171_ren : Go.Shelf.Ren := ⟨fun | 171 => 67 | 243 => 120 | 246 => 165 | 283 => 214 | 284 => 215 | 285 => 216 | 286 => 217 | 129 => 181 | 317 => 237 | 318 => 238 | 319 => 239 | 320 => 240 | 337 => 247 | 338 => 248 | n => n, fun | 3 => 3 | 9 => 9 | 2 => 2 | 4 => 4 | 171 => 266 | 0 => 0 | 53 => 235 | 37 => 254 | 5 => 5 | 173 => 268 | 212 => 286 | 51 => 233 | 20 => 20 | 213 => 287 | 46 => 199 | 232 => 301 | 233 => 302 | n => n, fun | 17 => 3 | 18 => 4 | 19 => 5 | n => n⟩
theorem Tryz.laysM171 : Go.Proofs.LaysM.n171 Tryz.prog Tryz.laysM171_ren := {
  mixed := by kernel_rfl
  f129 := Tryz.func181.trans (congrArg some (by kernel_rfl))
  f171 := Tryz.func67.trans (congrArg some (by kernel_rfl))
  f243 := Tryz.func120.trans (congrArg some (by kernel_rfl))
  f246 := Tryz.func165.trans (congrArg some (by kernel_rfl))
  f283 := Tryz.func214.trans (congrArg some (by kernel_rfl))
  f284 := Tryz.func215.trans (congrArg some (by kernel_rfl))
  f285 := Tryz.func216.trans (congrArg some (by kernel_rfl))
  f286 := Tryz.func217.trans (congrArg some (by kernel_rfl))
  f317 := Tryz.func237.trans (congrArg some (by kernel_rfl))
  f318 := Tryz.func238.trans (congrArg some (by kernel_rfl))
  f319 := Tryz.func239.trans (congrArg some (by kernel_rfl))
  f320 := Tryz.func240.trans (congrArg some (by kernel_rfl))
  f337 := Tryz.func247.trans (congrArg some (by kernel_rfl))
  f338 := Tryz.func248.trans (congrArg some (by kernel_rfl))
  t0 := Tryz.underlying0
  a0 := Tryz.isAgg0
  z0 := Tryz.sizeOf0
  v0 := Tryz.zeroValue0
  t2 := Tryz.underlying2
  a2 := Tryz.isAgg2
  z2 := Tryz.sizeOf2
  v2 := Tryz.zeroValue2
  t3 := Tryz.underlying3
  a3 := Tryz.isAgg3
  z3 := Tryz.sizeOf3
  v3 := Tryz.zeroValue3
  t4 := Tryz.underlying4
  a4 := Tryz.isAgg4
  z4 := Tryz.sizeOf4
  v4 := Tryz.zeroValue4
  t5 := Tryz.underlying5
  a5 := Tryz.isAgg5
  z5 := Tryz.sizeOf5
  v5 := Tryz.zeroValue5
  t9 := Tryz.underlying9
  a9 := Tryz.isAgg9
  z9 := Tryz.sizeOf9
  v9 := Tryz.zeroValue9
  t20 := Tryz.underlying20
  a20 := Tryz.isAgg20
  z20 := Tryz.sizeOf20
  v20 := Tryz.zeroValue20
  t37 := Tryz.underlying254
  a37 := Tryz.isAgg254
  z37 := Tryz.sizeOf254
  v37 := Tryz.zeroValue254
  t46 := Tryz.underlying199
  a46 := Tryz.isAgg199
  z46 := Tryz.sizeOf199
  v46 := Tryz.zeroValue199
  t51 := Tryz.underlying233
  a51 := Tryz.isAgg233
  z51 := Tryz.sizeOf233
  v51 := Tryz.zeroValue233
  t53 := Tryz.underlying235
  a53 := Tryz.isAgg235
  z53 := Tryz.sizeOf235
  v53 := Tryz.zeroValue235
  t171 := Tryz.underlying266
  a171 := Tryz.isAgg266
  z171 := Tryz.sizeOf266
  v171 := Tryz.zeroValue266
  t173 := Tryz.underlying268
  a173 := Tryz.isAgg268
  z173 := Tryz.sizeOf268
  v173 := Tryz.zeroValue268
  t212 := Tryz.underlying286
  a212 := Tryz.isAgg286
  z212 := Tryz.sizeOf286
  v212 := Tryz.zeroValue286
  t213 := Tryz.underlying287
  a213 := Tryz.isAgg287
  z213 := Tryz.sizeOf287
  t232 := Tryz.underlying301
  a232 := Tryz.isAgg301
  z232 := Tryz.sizeOf301
  v232 := Tryz.zeroValue301
  t233 := Tryz.underlying302
  a233 := Tryz.isAgg302
  z233 := Tryz.sizeOf302
  v233 := Tryz.zeroValue302
  g17 := by kernel_rfl
  g18 := by kernel_rfl
  g19 := by kernel_rfl
  i0 := by kernel_rfl
  i2 := by kernel_rfl
  i3 := by kernel_rfl
  i4 := by kernel_rfl
  i5 := by kernel_rfl
  i9 := by kernel_rfl
  i20 := by kernel_rfl
  i37 := by kernel_rfl
  i46 := by kernel_rfl
  i51 := by kernel_rfl
  i53 := by kernel_rfl
  i171 := by kernel_rfl
  i173 := by kernel_rfl
  i212 := by kernel_rfl
  i232 := by kernel_rfl
  i233 := by kernel_rfl
  m17 := by kernel_rfl
  m18 := by kernel_rfl
  m19 := by kernel_rfl }
open Go.RowKit Go.Sort Go.Lib in
theorem Tryz.strconv_Itoa (n : Int) (h0 : -9223372036854775808 ≤ n) (h1 : n ≤ 9223372036854775807) (w : World) (htab : Lib.TabIs Tryz.prog w "internal/strconv.uint64pow10" .u64 Lib.pow10Tab) :
    Calls Tryz.prog 67 #[.int .i64 n] w fun e w' => e = .returned (.string ⟨(Lib.itoa n).toArray⟩) ∧ ∃ k os, w' = grow (w.drewN k) os := Any.strconv_Itoa Tryz.laysM171 n h0 h1 w htab
def Tryz.laysPu14_ren : Go.Shelf.Ren := ⟨fun | 14 => 201 | 16 => 231 | 17 => 159 | 19 => 244 | 20 => 245 | 21 => 210 | 22 => 211 | 23 => 212 | 24 => 213 | 25 => 235 | 27 => 67 | 26 => 236 | 28 => 120 | 29 => 165 | 30 => 214 | 31 => 215 | 32 => 216 | 33 => 217 | 35 => 181 | 34 => 237 | 36 => 238 | 37 => 239 | 38 => 240 | 39 => 247 | 40 => 248 | n => n, fun | 9 => 9 | 3 => 3 | 22 => 235 | 24 => 181 | 25 => 246 | 4 => 4 | 34 => 260 | 5 => 5 | 36 => 199 | 37 => 254 | 0 => 0 | 39 => 263 | 21 => 21 | 44 => 283 | 47 => 280 | 50 => 300 | 48 => 298 | 2 => 2 | 52 => 266 | 55 => 268 | 59 => 286 | 60 => 233 | 20 => 20 | 61 => 287 | 65 => 301 | 66 => 302 | 67 => 259 | n => n, fun | 0 => 1 | 1 => 2 | 2 => 3 | 3 => 4 | 4 => 5 | n => n⟩
theorem Tryz.laysPu14 : Go.Proofs.LaysPu.n14 Tryz.prog Tryz.laysPu14_ren := {
  mixed := by kernel_rfl
  f14 := Tryz.func201.trans (congrArg some (by kernel_rfl))
  f16 := Tryz.func231.trans (congrArg some (by kernel_rfl))
  f17 := Tryz.func159.trans (congrArg some (by kernel_rfl))
  f19 := Tryz.func244.trans (congrArg some (by kernel_rfl))
  f20 := Tryz.func245.trans (congrArg some (by kernel_rfl))
  f21 := Tryz.func210.trans (congrArg some (by kernel_rfl))
  f22 := Tryz.func211.trans (congrArg some (by kernel_rfl))
  f23 := Tryz.func212.trans (congrArg some (by kernel_rfl))
  f24 := Tryz.func213.trans (congrArg some (by kernel_rfl))
  f25 := Tryz.func235.trans (congrArg some (by kernel_rfl))
  f26 := Tryz.func236.trans (congrArg some (by kernel_rfl))
  f27 := Tryz.func67.trans (congrArg some (by kernel_rfl))
  f28 := Tryz.func120.trans (congrArg some (by kernel_rfl))
  f29 := Tryz.func165.trans (congrArg some (by kernel_rfl))
  f30 := Tryz.func214.trans (congrArg some (by kernel_rfl))
  f31 := Tryz.func215.trans (congrArg some (by kernel_rfl))
  f32 := Tryz.func216.trans (congrArg some (by kernel_rfl))
  f33 := Tryz.func217.trans (congrArg some (by kernel_rfl))
  f34 := Tryz.func237.trans (congrArg some (by kernel_rfl))
  f35 := Tryz.func181.trans (congrArg some (by kernel_rfl))
  f36 := Tryz.func238.trans (congrArg some (by kernel_rfl))
  f37 := Tryz.func239.trans (congrArg some (by kernel_rfl))
  f38 := Tryz.func240.trans (congrArg some (by kernel_rfl))
  f39 := Tryz.func247.trans (congrArg some (by kernel_rfl))
  f40 := Tryz.func248.trans (congrArg some (by kernel_rfl))
  t0 := Tryz.underlying0
  a0 := Tryz.isAgg0
  z0 := Tryz.sizeOf0
  v0 := Tryz.zeroValue0
  i0 := by kernel_rfl
  t2 := Tryz.underlying2
  a2 := Tryz.isAgg2
  z2 := Tryz.sizeOf2
  v2 := Tryz.zeroValue2
  i2 := by kernel_rfl
  t3 := Tryz.underlying3
  a3 := Tryz.isAgg3
  z3 := Tryz.sizeOf3
  v3 := Tryz.zeroValue3
  i3 := by kernel_rfl
  t4 := Tryz.underlying4
  a4 := Tryz.isAgg4
  z4 := Tryz.sizeOf4
  v4 := Tryz.zeroValue4
  i4 := by kernel_rfl
  t5 := Tryz.underlying5
  a5 := Tryz.isAgg5
  z5 := Tryz.sizeOf5
  v5 := Tryz.zeroValue5
  i5 := by kernel_rfl
  t9 := Tryz.underlying9
  a9 := Tryz.isAgg9
  z9 := Tryz.sizeOf9
  v9 := Tryz.zeroValue9
  i9 := by kernel_rfl
  t20 := Tryz.underlying20
  a20 := Tryz.isAgg20
  z20 := Tryz.sizeOf20
  v20 := Tryz.zeroValue20
  i20 := by kernel_rfl
  t21 := Tryz.underlying21
  a21 := Tryz.isAgg21
  z21 := Tryz.sizeOf21
  v21 := Tryz.zeroValue21
  i21 := by kernel_rfl
  t22 := Tryz.underlying235
  a22 := Tryz.isAgg235
  z22 := Tryz.sizeOf235
  v22 := Tryz.zeroValue235
  i22 := by kernel_rfl
  t24 := Tryz.underlying181
  a24 := Tryz.isAgg181
  z24 := Tryz.sizeOf181
  v24 := Tryz.zeroValue181
  i24 := by kernel_rfl
  t25 := Tryz.underlying246
  a25 := Tryz.isAgg246
  z25 := Tryz.sizeOf246
  v25 := Tryz.zeroValue246
  i25 := by kernel_rfl
  t34 := Tryz.underlying260
  a34 := Tryz.isAgg260
  z34 := Tryz.sizeOf260
  v34 := Tryz.zeroValue260
  i34 := by kernel_rfl
  c34 := by kernel_rfl
  t36 := Tryz.underlying199
  a36 := Tryz.isAgg199
  z36 := Tryz.sizeOf199
  v36 := Tryz.zeroValue199
  i36 := by kernel_rfl
  t37 := Tryz.underlying254
  a37 := Tryz.isAgg254
  z37 := Tryz.sizeOf254
  v37 := Tryz.zeroValue254
  i37 := by kernel_rfl
  t39 := Tryz.underlying263
  a39 := Tryz.isAgg263
  z39 := Tryz.sizeOf263
  v39 := Tryz.zeroValue263
  i39 := by kernel_rfl
  t44 := Tryz.underlying283
  a44 := Tryz.isAgg283
  z44 := Tryz.sizeOf283
  v44 := Tryz.zeroValue283
  i44 := by kernel_rfl
  t47 := Tryz.underlying280
  a47 := Tryz.isAgg280
  z47 := Tryz.sizeOf280
  v47 := Tryz.zeroValue280
  i47 := by kernel_rfl
  t48 := Tryz.underlying298
  a48 := Tryz.isAgg298
  z48 := Tryz.sizeOf298
  v48 := Tryz.zeroValue298
  i48 := by kernel_rfl
  t50 := Tryz.underlying300
  a50 := Tryz.isAgg300
  z50 := Tryz.sizeOf300
  v50 := Tryz.zeroValue300
  i50 := by kernel_rfl
  t52 := Tryz.underlying266
  a52 := Tryz.isAgg266
  z52 := Tryz.sizeOf266
  v52 := Tryz.zeroValue266
  i52 := by kernel_rfl
  t55 := Tryz.underlying268
  a55 := Tryz.isAgg268
  z55 := Tryz.sizeOf268
  v55 := Tryz.zeroValue268
  i55 := by kernel_rfl
  t59 := Tryz.underlying286
  a59 := Tryz.isAgg286
  z59 := Tryz.sizeOf286
  v59 := Tryz.zeroValue286
  i59 := by kernel_rfl
  t60 := Tryz.underlying233
  a60 := Tryz.isAgg233
  z60 := Tryz.sizeOf233
  v60 := Tryz.zeroValue233
  i60 := by kernel_rfl
  t61 := Tryz.underlying287
  a61 := Tryz.isAgg287
  z61 := Tryz.sizeOf287
  t65 := Tryz.underlying301
  a65 := Tryz.isAgg301
  z65 := Tryz.sizeOf301
  v65 := Tryz.zeroValue301
  i65 := by kernel_rfl
  t66 := Tryz.underlying302
  a66 := Tryz.isAgg302
  z66 := Tryz.sizeOf302
  v66 := Tryz.zeroValue302
  i66 := by kernel_rfl
  t67 := Tryz.underlying259
  a67 := Tryz.isAgg259
  z67 := Tryz.sizeOf259
  v67 := Tryz.zeroValue259
  i67 := by kernel_rfl
  g0 := by kernel_rfl
  m0 := by kernel_rfl
  g1 := by kernel_rfl
  m1 := by kernel_rfl
  g2 := by kernel_rfl
  m2 := by kernel_rfl
  g3 := by kernel_rfl
  m3 := by kernel_rfl
  g4 := by kernel_rfl
  m4 := by kernel_rfl }
open Go.RowKit in
theorem Tryz.strconv_ParseUint_10_at64_ok (s : ByteArray) (hmax : s.size ≤ 9223372036854775806) (u : Nat) (h : Lib.parseUintB 64 s.data.toList = .ok u) (w : World) :
    Calls Tryz.prog 201 #[.string s, .int .i64 10, .int .i64 64] w fun e w' => e = .returned (.tuple #[.int .u64 u, .nilIface]) ∧ (w' = w ∨ w' = Lib.bytesWorld w 5 s) := Any.strconv_ParseUint_10_at64_ok Tryz.laysPu14 s hmax u h w
def Tryz.lays145_ren : Go.Shelf.Ren := ⟨fun | 145 => 108 | 220 => 149 | 219 => 196 | 217 => 92 | 225 => 226 | 224 => 227 | 267 => 228 | 266 => 140 | 314 => 243 | n => n, fun | 9 => 9 | 4 => 4 | 59 => 176 | 3 => 3 | 5 => 5 | 46 => 199 | 146 => 292 | 51 => 233 | n => n, fun | 1 => 0 | n => n⟩
theorem Tryz.lays145 : Go.Proofs.Lays.n145 Tryz.prog Tryz.lays145_ren := {
  mixed := by kernel_rfl
  f145 := Tryz.func108.trans (congrArg some (by kernel_rfl))
  f217 := Tryz.func92.trans (congrArg some (by kernel_rfl))
  f219 := Tryz.func196.trans (congrArg some (by kernel_rfl))
  f220 := Tryz.func149.trans (congrArg some (by kernel_rfl))
  f224 := Tryz.func227.trans (congrArg some (by kernel_rfl))
  f225 := Tryz.func226.trans (congrArg some (by kernel_rfl))
  f266 := Tryz.func140.trans (congrArg some (by kernel_rfl))
  f267 := Tryz.func228.trans (congrArg some (by kernel_rfl))
  f314 := Tryz.func243.trans (congrArg some (by kernel_rfl))
  t3 := Tryz.underlying3
  a3 := Tryz.isAgg3
  z3 := Tryz.sizeOf3
  v3 := Tryz.zeroValue3
  t4 := Tryz.underlying4
  a4 := Tryz.isAgg4
  z4 := Tryz.sizeOf4
  v4 := Tryz.zeroValue4
  t5 := Tryz.underlying5
  a5 := Tryz.isAgg5
  z5 := Tryz.sizeOf5
  v5 := Tryz.zeroValue5
  t9 := Tryz.underlying9
  a9 := Tryz.isAgg9
  z9 := Tryz.sizeOf9
  v9 := Tryz.zeroValue9
  t46 := Tryz.underlying199
  a46 := Tryz.isAgg199
  z46 := Tryz.sizeOf199
  v46 := Tryz.zeroValue199
  t51 := Tryz.underlying233
  a51 := Tryz.isAgg233
  z51 := Tryz.sizeOf233
  v51 := Tryz.zeroValue233
  t59 := Tryz.underlying176
  a59 := Tryz.isAgg176
  z59 := Tryz.sizeOf176
  v59 := Tryz.zeroValue176
  t146 := Tryz.underlying292
  a146 := Tryz.isAgg292
  z146 := Tryz.sizeOf292
  v146 := Tryz.zeroValue292
  g1 := by kernel_rfl }
open Go.RowKit Go.Lib in
theorem Tryz.strings_Cut (s sep : ByteArray) (m : Int) (w : World) (hs : s.size < 4294967281) (hm : w.cell? ⟨0, 0, none⟩ = some (.int .i64 m)) :
    Calls Tryz.prog 108 #[.string s, .string sep] w fun e w' => e = .returned (.tuple #[.string ⟨(Lib.cut s.data.toList sep.data.toList).1.toArray⟩, .string ⟨(Lib.cut s.data.toList sep.data.toList).2.1.toArray⟩, .bool (Lib.cut s.data.toList sep.data.toList).2.2]) ∧ ∃ n, w' = w.drewN n := Any.strings_Cut Tryz.lays145 s sep m w hs hm
def Tryz.lays99_ren : Go.Shelf.Ren := ⟨fun | 99 => 198 | 206 => 229 | n => n, fun | 9 => 9 | 4 => 4 | 3 => 3 | n => n, fun | n => n⟩
theorem Tryz.lays99 : Go.Proofs.Lays.n99 Tryz.prog Tryz.lays99_ren := {
  mixed := by kernel_rfl
  f99 := Tryz.func198.trans (congrArg some (by kernel_rfl))
  f206 := Tryz.func229.trans (congrArg some (by kernel_rfl))
  t3 := Tryz.underlying3
  a3 := Tryz.isAgg3
  z3 := Tryz.sizeOf3
  v3 := Tryz.zeroValue3
  t4 := Tryz.underlying4
  a4 := Tryz.isAgg4
  z4 := Tryz.sizeOf4
  v4 := Tryz.zeroValue4
  t9 := Tryz.underlying9
  a9 := Tryz.isAgg9
  z9 := Tryz.sizeOf9
  v9 := Tryz.zeroValue9 }
open Go.RowKit Go.Lib in
theorem Tryz.strings_HasPrefix (s p : ByteArray) (w : World) :
    Calls Tryz.prog 198 #[.string s, .string p] w fun e w' => e = .returned (.bool (Lib.hasPrefix s.data.toList p.data.toList)) ∧ w' = w := Any.strings_HasPrefix Tryz.lays99 s p w
def Tryz.lays101_ren : Go.Shelf.Ren := ⟨fun | 101 => 152 | 208 => 199 | 206 => 229 | n => n, fun | 9 => 9 | 4 => 4 | 3 => 3 | n => n, fun | n => n⟩
theorem Tryz.lays101 : Go.Proofs.Lays.n101 Tryz.prog Tryz.lays101_ren := {
  mixed := by kernel_rfl
  f101 := Tryz.func152.trans (congrArg some (by kernel_rfl))
  f206 := Tryz.func229.trans (congrArg some (by kernel_rfl))
  f208 := Tryz.func199.trans (congrArg some (by kernel_rfl))
  t3 := Tryz.underlying3
  a3 := Tryz.isAgg3
  z3 := Tryz.sizeOf3
  v3 := Tryz.zeroValue3
  t4 := Tryz.underlying4
  a4 := Tryz.isAgg4
  z4 := Tryz.sizeOf4
  v4 := Tryz.zeroValue4
  t9 := Tryz.underlying9
  a9 := Tryz.isAgg9
  z9 := Tryz.sizeOf9
  v9 := Tryz.zeroValue9 }
open Go.RowKit Go.Lib in
theorem Tryz.strings_TrimPrefix (s p : ByteArray) (w : World) :
    Calls Tryz.prog 152 #[.string s, .string p] w fun e w' => e = .returned (.string ⟨(Lib.trimPrefix s.data.toList p.data.toList).toArray⟩) ∧ w' = w := Any.strings_TrimPrefix Tryz.lays101 s p w
end Go.Proofs
