/- Contracts of Go's library at this program, laid by the guide's command, pruned. -/
import Derived.Shelf.Strings.Builder1
import Derived.Shelf.Strings.Builder2
import Derived.Shelf.Strings.Trim
import Derived.Shelf.Small.Utf8
import Derived.Shelf.Small.Bits
import Derived.Shelf.Small.Strs
import Derived.Shelf.Small.Wraps
import Derived.Shelf.Strings.BuilderF
import Derived.Shelf.Strings.BuilderK
import Derived.Shelf.Strconv.Atoi
import Derived.Shelf.Strconv.Itoa0
import Derived.Shelf.Strconv.Itoa1
import Derived.Shelf.LaysM
import Derived.Shelf.Strconv.Itoa2
import Derived.Shelf.Strconv.Itoa3
import Derived.Shelf.Strconv.AtoiErrFast
import Derived.Shelf.Strconv.ParseIntEmpty
import Derived.Shelf.Strconv.AtoiFail
import Derived.Shelf.Strconv.Clone
import Derived.Shelf.Strconv.SyntaxError
import Derived.Shelf.LaysC
import Derived.Shelf.Strconv.ToError
import Derived.Shelf.Strconv.AtoiErr
import Derived.Shelf.Strconv.ErrVar
import Derived.Shelf.Strconv.Lower
import Derived.Shelf.Strconv.ParseUint10
import Derived.Shelf.Strconv.ParseUint10Empty
import Derived.Shelf.Strconv.ParseUint10Any
import Derived.Shelf.Strconv.ParseInt10
import Derived.Shelf.Strconv.AtoiLong
import Derived.Shelf.Strconv.AtoiInnerAll
import Derived.Shelf.Strconv.RangeError
import Derived.Shelf.Strconv.ToErrorRange
import Derived.Shelf.Strconv.AtoiAll
import Derived.Shelf.Strconv.ErrVarAll
import Derived.Shelf.Strings.Search1
import Derived.Shelf.Strings.Search2
import Derived.Shelf.Strings.Search3
import Derived.Shelf.Strings.Cut
import Derived.Shelf.Strings.Shaped
import Derived.Shelf.Strings.Prefix
import Derived.Shelf.Strings.Runes
import Derived.Shelf.Strings.AsciiSet
import Derived.Shelf.Bits.Mul64
import Derived.Shelf.Strings.Repeat
import Derived.Shelf.Unicode.DecodeSlow
import Derived.Ground.Names2Prog
import Derived.Shelf.Slices.SearchI
import Derived.Test.YtbbclfbpllbbbaaGreatDoorProg
namespace Go.Proofs
open Go.Shelf
def Tryz.lays169_ren : Go.Shelf.Ren := ⟨fun | 169 => 34 | n => n, fun | 70 => 74 | 9 => 9 | 0 => 0 | 72 => 77 | 37 => 75 | 127 => 147 | 3 => 3 | 5 => 5 | n => n, fun | n => n⟩
theorem Tryz.lays169 : Go.Proofs.Lays.n169 Tryz.prog Tryz.lays169_ren := {
  mixed := by kernel_rfl
  f169 := Tryz.func34.trans (congrArg some (by kernel_rfl))
  t0 := Tryz.underlying0
  a0 := Tryz.isAgg0
  z0 := Tryz.sizeOf0
  v0 := Tryz.zeroValue0
  t3 := Tryz.underlying3
  a3 := Tryz.isAgg3
  z3 := Tryz.sizeOf3
  v3 := Tryz.zeroValue3
  t9 := Tryz.underlying9
  a9 := Tryz.isAgg9
  z9 := Tryz.sizeOf9
  v9 := Tryz.zeroValue9
  t37 := Tryz.underlying75
  a37 := Tryz.isAgg75
  z37 := Tryz.sizeOf75
  v37 := Tryz.zeroValue75
  t70 := Tryz.underlying74
  a70 := Tryz.isAgg74
  z70 := Tryz.sizeOf74
  v70 := Tryz.zeroValue74
  t72 := Tryz.underlying77
  a72 := Tryz.isAgg77
  z72 := Tryz.sizeOf77
  v72 := Tryz.zeroValue77
  t127 := Tryz.underlying147
  a127 := Tryz.isAgg147
  z127 := Tryz.sizeOf147
  v127 := Tryz.zeroValue147 }
theorem Tryz.Builder_Extra_169 : Builder.Extra Tryz.prog Tryz.lays169_ren := {
  sizeBuilder := by kernel_rfl
  liesBuilder := by kernel_rfl
  t5 := Tryz.underlying5
  a5 := Tryz.isAgg5
  z5 := Tryz.sizeOf5
  v5 := Tryz.zeroValue5
  infoByte := by kernel_rfl
  cellsByte := by kernel_rfl
  sizeByte := by kernel_rfl
  neB5 := by decide }
def Tryz.lays160_ren : Go.Shelf.Ren := ⟨fun | 160 => 236 | 232 => 257 | 231 => 256 | 227 => 258 | 234 => 260 | 233 => 259 | 236 => 262 | 235 => 261 | 228 => 271 | 271 => 274 | 151 => 273 | 197 => 272 | 120 => 282 | 152 => 281 | 260 => 280 | 137 => 287 | 119 => 288 | 224 => 233 | 225 => 232 | 217 => 231 | 266 => 254 | n => n, fun | 9 => 9 | 4 => 4 | 3 => 3 | 5 => 5 | 117 => 326 | 116 => 325 | 0 => 0 | 124 => 329 | 21 => 21 | 105 => 338 | 46 => 176 | 119 => 353 | 139 => 356 | 138 => 355 | n => n, fun | 3 => 8 | 4 => 9 | n => n⟩
theorem Tryz.lays160 : Go.Proofs.Lays.n160 Tryz.prog Tryz.lays160_ren := {
  mixed := by kernel_rfl
  f119 := Tryz.func288.trans (congrArg some (by kernel_rfl))
  f120 := Tryz.func282.trans (congrArg some (by kernel_rfl))
  f137 := Tryz.func287.trans (congrArg some (by kernel_rfl))
  f151 := Tryz.func273.trans (congrArg some (by kernel_rfl))
  f152 := Tryz.func281.trans (congrArg some (by kernel_rfl))
  f160 := Tryz.func236.trans (congrArg some (by kernel_rfl))
  f197 := Tryz.func272.trans (congrArg some (by kernel_rfl))
  f217 := Tryz.func231.trans (congrArg some (by kernel_rfl))
  f224 := Tryz.func233.trans (congrArg some (by kernel_rfl))
  f225 := Tryz.func232.trans (congrArg some (by kernel_rfl))
  f227 := Tryz.func258.trans (congrArg some (by kernel_rfl))
  f228 := Tryz.func271.trans (congrArg some (by kernel_rfl))
  f231 := Tryz.func256.trans (congrArg some (by kernel_rfl))
  f232 := Tryz.func257.trans (congrArg some (by kernel_rfl))
  f233 := Tryz.func259.trans (congrArg some (by kernel_rfl))
  f234 := Tryz.func260.trans (congrArg some (by kernel_rfl))
  f235 := Tryz.func261.trans (congrArg some (by kernel_rfl))
  f236 := Tryz.func262.trans (congrArg some (by kernel_rfl))
  f260 := Tryz.func280.trans (congrArg some (by kernel_rfl))
  f266 := Tryz.func254.trans (congrArg some (by kernel_rfl))
  f271 := Tryz.func274.trans (congrArg some (by kernel_rfl))
  t0 := Tryz.underlying0
  a0 := Tryz.isAgg0
  z0 := Tryz.sizeOf0
  v0 := Tryz.zeroValue0
  t3 := Tryz.underlying3
  a3 := Tryz.isAgg3
  z3 := Tryz.sizeOf3
  v3 := Tryz.zeroValue3
  t4 := Tryz.underlying4
  a4 := Tryz.isAgg4
  z4 := Tryz.sizeOf4
  v4 := Tryz.zeroValue4
  t5 := Tryz.underlying5
  a5 := Tryz.isAgg5
  z5 := Tryz.sizeOf5
  v5 := Tryz.zeroValue5
  t9 := Tryz.underlying9
  a9 := Tryz.isAgg9
  z9 := Tryz.sizeOf9
  v9 := Tryz.zeroValue9
  t21 := Tryz.underlying21
  a21 := Tryz.isAgg21
  z21 := Tryz.sizeOf21
  v21 := Tryz.zeroValue21
  t46 := Tryz.underlying176
  a46 := Tryz.isAgg176
  z46 := Tryz.sizeOf176
  v46 := Tryz.zeroValue176
  t105 := Tryz.underlying338
  a105 := Tryz.isAgg338
  z105 := Tryz.sizeOf338
  v105 := Tryz.zeroValue338
  t116 := Tryz.underlying325
  a116 := Tryz.isAgg325
  z116 := Tryz.sizeOf325
  t117 := Tryz.underlying326
  a117 := Tryz.isAgg326
  z117 := Tryz.sizeOf326
  v117 := Tryz.zeroValue326
  t119 := Tryz.underlying353
  a119 := Tryz.isAgg353
  z119 := Tryz.sizeOf353
  t124 := Tryz.underlying329
  a124 := Tryz.isAgg329
  z124 := Tryz.sizeOf329
  v124 := Tryz.zeroValue329
  t138 := Tryz.underlying355
  a138 := Tryz.isAgg355
  z138 := Tryz.sizeOf355
  v138 := Tryz.zeroValue355
  t139 := Tryz.underlying356
  a139 := Tryz.isAgg356
  z139 := Tryz.sizeOf356
  v139 := Tryz.zeroValue356
  g3 := by kernel_rfl
  g4 := by kernel_rfl }
open Go.RowKit in
theorem Tryz.strings_Trim_one (s : ByteArray) (c : UInt8) (hc : c.toNat < 128) (w : World) (hs : s.size ≤ 9223372036854775807) :
    Calls Tryz.prog 236 #[.string s, .string ⟨#[c]⟩] w fun e w' => e = .returned (.string ⟨(Lib.trimB s.data.toList c).toArray⟩) ∧ (w' = w ∨ w' = w.drew) := Any.strings_Trim_one Tryz.lays160 s c hc w hs
def Tryz.lays125_ren : Go.Shelf.Ren := ⟨fun | 125 => 99 | 128 => 160 | 129 => 161 | n => n, fun | 46 => 176 | 3 => 3 | 51 => 242 | 53 => 244 | 4 => 4 | 5 => 5 | 9 => 9 | n => n, fun | n => n⟩
theorem Tryz.lays125 : Go.Proofs.Lays.n125 Tryz.prog Tryz.lays125_ren := {
  mixed := by kernel_rfl
  f125 := Tryz.func99.trans (congrArg some (by kernel_rfl))
  f128 := Tryz.func160.trans (congrArg some (by kernel_rfl))
  f129 := Tryz.func161.trans (congrArg some (by kernel_rfl))
  t3 := Tryz.underlying3
  a3 := Tryz.isAgg3
  z3 := Tryz.sizeOf3
  v3 := Tryz.zeroValue3
  t4 := Tryz.underlying4
  a4 := Tryz.isAgg4
  z4 := Tryz.sizeOf4
  v4 := Tryz.zeroValue4
  t5 := Tryz.underlying5
  a5 := Tryz.isAgg5
  z5 := Tryz.sizeOf5
  v5 := Tryz.zeroValue5
  t9 := Tryz.underlying9
  a9 := Tryz.isAgg9
  z9 := Tryz.sizeOf9
  v9 := Tryz.zeroValue9
  t46 := Tryz.underlying176
  a46 := Tryz.isAgg176
  z46 := Tryz.sizeOf176
  v46 := Tryz.zeroValue176
  t51 := Tryz.underlying242
  a51 := Tryz.isAgg242
  z51 := Tryz.sizeOf242
  v51 := Tryz.zeroValue242
  t53 := Tryz.underlying244
  a53 := Tryz.isAgg244
  z53 := Tryz.sizeOf244
  v53 := Tryz.zeroValue244 }
theorem Tryz.bits_Len (x : Int) (w : World) (h0 : 0 ≤ x) (h1 : x ≤ 18446744073709551615) :
    Calls Tryz.prog 99 #[.int .u64 x] w fun e w' => e = .returned (.int .i64 (Lib.bitLen x.toNat)) ∧ w' = w := Any.bits_Len Tryz.lays125 x w h0 h1
def Tryz.lays103_ren : Go.Shelf.Ren := ⟨fun | 103 => 80 | 210 => 132 | 206 => 94 | n => n, fun | 9 => 9 | 4 => 4 | 24 => 145 | 3 => 3 | n => n, fun | n => n⟩
theorem Tryz.lays103 : Go.Proofs.Lays.n103 Tryz.prog Tryz.lays103_ren := {
  mixed := by kernel_rfl
  f103 := Tryz.func80.trans (congrArg some (by kernel_rfl))
  f206 := Tryz.func94.trans (congrArg some (by kernel_rfl))
  f210 := Tryz.func132.trans (congrArg some (by kernel_rfl))
  t3 := Tryz.underlying3
  a3 := Tryz.isAgg3
  z3 := Tryz.sizeOf3
  v3 := Tryz.zeroValue3
  t4 := Tryz.underlying4
  a4 := Tryz.isAgg4
  z4 := Tryz.sizeOf4
  v4 := Tryz.zeroValue4
  t9 := Tryz.underlying9
  a9 := Tryz.isAgg9
  z9 := Tryz.sizeOf9
  v9 := Tryz.zeroValue9
  t24 := Tryz.underlying145
  a24 := Tryz.isAgg145
  z24 := Tryz.sizeOf145
  v24 := Tryz.zeroValue145 }
open Go.RowKit in
theorem Tryz.strings_CutPrefix (s p : ByteArray) (w : World) :
    Calls Tryz.prog 80 #[.string s, .string p] w fun e w' => e = .returned (.tuple #[.string ⟨(Lib.trimPrefix s.data.toList p.data.toList).toArray⟩, .bool (Lib.hasPrefix s.data.toList p.data.toList)]) ∧ w' = w := Any.strings_CutPrefix Tryz.lays103 s p w
def Tryz.lays122_ren : Go.Shelf.Ren := ⟨fun | 122 => 85 | 215 => 143 | n => n, fun | 3 => 3 | 4 => 4 | n => n, fun | n => n⟩
theorem Tryz.lays122 : Go.Proofs.Lays.n122 Tryz.prog Tryz.lays122_ren := {
  mixed := by kernel_rfl
  f122 := Tryz.func85.trans (congrArg some (by kernel_rfl))
  f215 := Tryz.func143.trans (congrArg some (by kernel_rfl))
  t3 := Tryz.underlying3
  a3 := Tryz.isAgg3
  z3 := Tryz.sizeOf3
  v3 := Tryz.zeroValue3
  t4 := Tryz.underlying4
  a4 := Tryz.isAgg4
  z4 := Tryz.sizeOf4
  v4 := Tryz.zeroValue4 }
open Go.RowKit in
theorem Tryz.cmp_Compare_int (x y : Int) (w : World) :
    Calls Tryz.prog 85 #[.int .i64 x, .int .i64 y] w fun e w' => e = .returned (.int .i64 (Lib.compareInt x y)) ∧ w' = w := Any.cmp_Compare_int Tryz.lays122 x y w
open Go.RowKit in
theorem Tryz.Builder_String_any_k (B b : Nat) (l : List UInt8) (w : World) (h : Lib.IsBuilderF 77 5 B b (Lib.byteCells l) w) (hBw : B ≤ w.heap.size) :
    Calls Tryz.prog 34 #[.pointer (some ⟨b, 0, none⟩)] w fun e w' => e = .returned (.string ⟨l.toArray⟩) ∧ (Lib.IsBuilderF 77 5 B b (Lib.byteCells l) w' ∧ Below B w w' ∧ Lib.OthersKept 5 (some b) w w') := Any.Builder_String_any_k Tryz.lays169 Tryz.Builder_Extra_169 B b l w h hBw
def Tryz.laysM171_ren : Go.Shelf.Ren := ⟨fun | 171 => 65 | 243 => 116 | 246 => 176 | 283 => 218 | 284 => 219 | 285 => 220 | 286 => 221 | 129 => 161 | 317 => 249 | 318 => 250 | 319 => 251 | 320 => 252 | 337 => 269 | 338 => 270 | n => n, fun | 3 => 3 | 9 => 9 | 2 => 2 | 4 => 4 | 171 => 290 | 0 => 0 | 53 => 244 | 37 => 75 | 5 => 5 | 173 => 292 | 212 => 320 | 51 => 242 | 20 => 20 | 213 => 321 | 46 => 176 | 232 => 349 | 233 => 350 | n => n, fun | 17 => 3 | 18 => 6 | 19 => 7 | n => n⟩
theorem Tryz.laysM171 : Go.Proofs.LaysM.n171 Tryz.prog Tryz.laysM171_ren := {
  mixed := by kernel_rfl
  f129 := Tryz.func161.trans (congrArg some (by kernel_rfl))
  f171 := Tryz.func65.trans (congrArg some (by kernel_rfl))
  f243 := Tryz.func116.trans (congrArg some (by kernel_rfl))
  f246 := Tryz.func176.trans (congrArg some (by kernel_rfl))
  f283 := Tryz.func218.trans (congrArg some (by kernel_rfl))
  f284 := Tryz.func219.trans (congrArg some (by kernel_rfl))
  f285 := Tryz.func220.trans (congrArg some (by kernel_rfl))
  f286 := Tryz.func221.trans (congrArg some (by kernel_rfl))
  f317 := Tryz.func249.trans (congrArg some (by kernel_rfl))
  f318 := Tryz.func250.trans (congrArg some (by kernel_rfl))
  f319 := Tryz.func251.trans (congrArg some (by kernel_rfl))
  f320 := Tryz.func252.trans (congrArg some (by kernel_rfl))
  f337 := Tryz.func269.trans (congrArg some (by kernel_rfl))
  f338 := Tryz.func270.trans (congrArg some (by kernel_rfl))
  t0 := Tryz.underlying0
  a0 := Tryz.isAgg0
  z0 := Tryz.sizeOf0
  v0 := Tryz.zeroValue0
  t2 := Tryz.underlying2
  a2 := Tryz.isAgg2
  z2 := Tryz.sizeOf2
  v2 := Tryz.zeroValue2
  t3 := Tryz.underlying3
  a3 := Tryz.isAgg3
  z3 := Tryz.sizeOf3
  v3 := Tryz.zeroValue3
  t4 := Tryz.underlying4
  a4 := Tryz.isAgg4
  z4 := Tryz.sizeOf4
  v4 := Tryz.zeroValue4
  t5 := Tryz.underlying5
  a5 := Tryz.isAgg5
  z5 := Tryz.sizeOf5
  v5 := Tryz.zeroValue5
  t9 := Tryz.underlying9
  a9 := Tryz.isAgg9
  z9 := Tryz.sizeOf9
  v9 := Tryz.zeroValue9
  t20 := Tryz.underlying20
  a20 := Tryz.isAgg20
  z20 := Tryz.sizeOf20
  v20 := Tryz.zeroValue20
  t37 := Tryz.underlying75
  a37 := Tryz.isAgg75
  z37 := Tryz.sizeOf75
  v37 := Tryz.zeroValue75
  t46 := Tryz.underlying176
  a46 := Tryz.isAgg176
  z46 := Tryz.sizeOf176
  v46 := Tryz.zeroValue176
  t51 := Tryz.underlying242
  a51 := Tryz.isAgg242
  z51 := Tryz.sizeOf242
  v51 := Tryz.zeroValue242
  t53 := Tryz.underlying244
  a53 := Tryz.isAgg244
  z53 := Tryz.sizeOf244
  v53 := Tryz.zeroValue244
  t171 := Tryz.underlying290
  a171 := Tryz.isAgg290
  z171 := Tryz.sizeOf290
  v171 := Tryz.zeroValue290
  t173 := Tryz.underlying292
  a173 := Tryz.isAgg292
  z173 := Tryz.sizeOf292
  v173 := Tryz.zeroValue292
  t212 := Tryz.underlying320
  a212 := Tryz.isAgg320
  z212 := Tryz.sizeOf320
  v212 := Tryz.zeroValue320
  t213 := Tryz.underlying321
  a213 := Tryz.isAgg321
  z213 := Tryz.sizeOf321
  t232 := Tryz.underlying349
  a232 := Tryz.isAgg349
  z232 := Tryz.sizeOf349
  v232 := Tryz.zeroValue349
  t233 := Tryz.underlying350
  a233 := Tryz.isAgg350
  z233 := Tryz.sizeOf350
  v233 := Tryz.zeroValue350
  g17 := by kernel_rfl
  g18 := by kernel_rfl
  g19 := by kernel_rfl
  i0 := by kernel_rfl
  i2 := by kernel_rfl
  i3 := by kernel_rfl
  i4 := by kernel_rfl
  i5 := by kernel_rfl
  i9 := by kernel_rfl
  i20 := by kernel_rfl
  i37 := by kernel_rfl
  i46 := by kernel_rfl
  i51 := by kernel_rfl
  i53 := by kernel_rfl
  i171 := by kernel_rfl
  i173 := by kernel_rfl
  i212 := by kernel_rfl
  i232 := by kernel_rfl
  i233 := by kernel_rfl
  m17 := by kernel_rfl
  m18 := by kernel_rfl
  m19 := by kernel_rfl }
open Go.RowKit Go.Sort Go.Lib in
theorem Tryz.strconv_Itoa (n : Int) (h0 : -9223372036854775808 ≤ n) (h1 : n ≤ 9223372036854775807) (w : World) (htab : Lib.TabIs Tryz.prog w "internal/strconv.uint64pow10" .u64 Lib.pow10Tab) :
    Calls Tryz.prog 65 #[.int .i64 n] w fun e w' => e = .returned (.string ⟨(Lib.itoa n).toArray⟩) ∧ ∃ k os, w' = grow (w.drewN k) os := Any.strconv_Itoa Tryz.laysM171 n h0 h1 w htab
def Tryz.laysC172_ren : Go.Shelf.Ren := ⟨fun | 172 => 175 | 244 => 216 | 245 => 217 | 247 => 244 | 279 => 245 | 280 => 246 | 281 => 247 | 282 => 248 | 287 => 266 | 316 => 267 | 171 => 65 | 205 => 268 | 321 => 278 | 322 => 279 | 243 => 116 | 246 => 176 | 283 => 218 | 284 => 219 | 285 => 220 | 286 => 221 | 129 => 161 | 317 => 249 | 318 => 250 | 319 => 251 | 320 => 252 | 337 => 269 | 338 => 270 | n => n, fun | 9 => 9 | 3 => 3 | 75 => 79 | 76 => 81 | 4 => 4 | 5 => 5 | 167 => 313 | 37 => 75 | 0 => 0 | 85 => 314 | 2 => 2 | 168 => 316 | 53 => 244 | 175 => 332 | 46 => 176 | 210 => 335 | 127 => 147 | 145 => 348 | 143 => 346 | 21 => 21 | 171 => 290 | 173 => 292 | 212 => 320 | 51 => 242 | 20 => 20 | 213 => 321 | 232 => 349 | 233 => 350 | 80 => 83 | n => n, fun | 15 => 4 | 16 => 5 | 17 => 3 | 18 => 6 | 19 => 7 | n => n⟩
theorem Tryz.laysC172 : Go.Proofs.LaysC.n172 Tryz.prog Tryz.laysC172_ren := {
  mixed := by kernel_rfl
  f129 := Tryz.func161.trans (congrArg some (by kernel_rfl))
  f171 := Tryz.func65.trans (congrArg some (by kernel_rfl))
  f172 := Tryz.func175.trans (congrArg some (by kernel_rfl))
  f205 := Tryz.func268.trans (congrArg some (by kernel_rfl))
  f243 := Tryz.func116.trans (congrArg some (by kernel_rfl))
  f244 := Tryz.func216.trans (congrArg some (by kernel_rfl))
  f245 := Tryz.func217.trans (congrArg some (by kernel_rfl))
  f246 := Tryz.func176.trans (congrArg some (by kernel_rfl))
  f247 := Tryz.func244.trans (congrArg some (by kernel_rfl))
  f279 := Tryz.func245.trans (congrArg some (by kernel_rfl))
  f280 := Tryz.func246.trans (congrArg some (by kernel_rfl))
  f281 := Tryz.func247.trans (congrArg some (by kernel_rfl))
  f282 := Tryz.func248.trans (congrArg some (by kernel_rfl))
  f283 := Tryz.func218.trans (congrArg some (by kernel_rfl))
  f284 := Tryz.func219.trans (congrArg some (by kernel_rfl))
  f285 := Tryz.func220.trans (congrArg some (by kernel_rfl))
  f286 := Tryz.func221.trans (congrArg some (by kernel_rfl))
  f287 := Tryz.func266.trans (congrArg some (by kernel_rfl))
  f316 := Tryz.func267.trans (congrArg some (by kernel_rfl))
  f317 := Tryz.func249.trans (congrArg some (by kernel_rfl))
  f318 := Tryz.func250.trans (congrArg some (by kernel_rfl))
  f319 := Tryz.func251.trans (congrArg some (by kernel_rfl))
  f320 := Tryz.func252.trans (congrArg some (by kernel_rfl))
  f321 := Tryz.func278.trans (congrArg some (by kernel_rfl))
  f322 := Tryz.func279.trans (congrArg some (by kernel_rfl))
  f337 := Tryz.func269.trans (congrArg some (by kernel_rfl))
  f338 := Tryz.func270.trans (congrArg some (by kernel_rfl))
  t0 := Tryz.underlying0
  a0 := Tryz.isAgg0
  z0 := Tryz.sizeOf0
  v0 := Tryz.zeroValue0
  t2 := Tryz.underlying2
  a2 := Tryz.isAgg2
  z2 := Tryz.sizeOf2
  v2 := Tryz.zeroValue2
  t3 := Tryz.underlying3
  a3 := Tryz.isAgg3
  z3 := Tryz.sizeOf3
  v3 := Tryz.zeroValue3
  t4 := Tryz.underlying4
  a4 := Tryz.isAgg4
  z4 := Tryz.sizeOf4
  v4 := Tryz.zeroValue4
  t5 := Tryz.underlying5
  a5 := Tryz.isAgg5
  z5 := Tryz.sizeOf5
  v5 := Tryz.zeroValue5
  t9 := Tryz.underlying9
  a9 := Tryz.isAgg9
  z9 := Tryz.sizeOf9
  v9 := Tryz.zeroValue9
  t20 := Tryz.underlying20
  a20 := Tryz.isAgg20
  z20 := Tryz.sizeOf20
  v20 := Tryz.zeroValue20
  t21 := Tryz.underlying21
  a21 := Tryz.isAgg21
  z21 := Tryz.sizeOf21
  v21 := Tryz.zeroValue21
  t37 := Tryz.underlying75
  a37 := Tryz.isAgg75
  z37 := Tryz.sizeOf75
  v37 := Tryz.zeroValue75
  t46 := Tryz.underlying176
  a46 := Tryz.isAgg176
  z46 := Tryz.sizeOf176
  v46 := Tryz.zeroValue176
  t51 := Tryz.underlying242
  a51 := Tryz.isAgg242
  z51 := Tryz.sizeOf242
  v51 := Tryz.zeroValue242
  t53 := Tryz.underlying244
  a53 := Tryz.isAgg244
  z53 := Tryz.sizeOf244
  v53 := Tryz.zeroValue244
  t75 := Tryz.underlying79
  a75 := Tryz.isAgg79
  z75 := Tryz.sizeOf79
  v75 := Tryz.zeroValue79
  t76 := Tryz.underlying81
  a76 := Tryz.isAgg81
  z76 := Tryz.sizeOf81
  v76 := Tryz.zeroValue81
  t85 := Tryz.underlying314
  a85 := Tryz.isAgg314
  z85 := Tryz.sizeOf314
  v85 := Tryz.zeroValue314
  t127 := Tryz.underlying147
  a127 := Tryz.isAgg147
  z127 := Tryz.sizeOf147
  v127 := Tryz.zeroValue147
  t143 := Tryz.underlying346
  a143 := Tryz.isAgg346
  z143 := Tryz.sizeOf346
  v143 := Tryz.zeroValue346
  t145 := Tryz.underlying348
  a145 := Tryz.isAgg348
  z145 := Tryz.sizeOf348
  v145 := Tryz.zeroValue348
  t167 := Tryz.underlying313
  a167 := Tryz.isAgg313
  z167 := Tryz.sizeOf313
  v167 := Tryz.zeroValue313
  t168 := Tryz.underlying316
  a168 := Tryz.isAgg316
  z168 := Tryz.sizeOf316
  v168 := Tryz.zeroValue316
  t171 := Tryz.underlying290
  a171 := Tryz.isAgg290
  z171 := Tryz.sizeOf290
  v171 := Tryz.zeroValue290
  t173 := Tryz.underlying292
  a173 := Tryz.isAgg292
  z173 := Tryz.sizeOf292
  v173 := Tryz.zeroValue292
  t175 := Tryz.underlying332
  a175 := Tryz.isAgg332
  z175 := Tryz.sizeOf332
  v175 := Tryz.zeroValue332
  t210 := Tryz.underlying335
  a210 := Tryz.isAgg335
  z210 := Tryz.sizeOf335
  v210 := Tryz.zeroValue335
  t212 := Tryz.underlying320
  a212 := Tryz.isAgg320
  z212 := Tryz.sizeOf320
  v212 := Tryz.zeroValue320
  t213 := Tryz.underlying321
  a213 := Tryz.isAgg321
  z213 := Tryz.sizeOf321
  t232 := Tryz.underlying349
  a232 := Tryz.isAgg349
  z232 := Tryz.sizeOf349
  v232 := Tryz.zeroValue349
  t233 := Tryz.underlying350
  a233 := Tryz.isAgg350
  z233 := Tryz.sizeOf350
  v233 := Tryz.zeroValue350
  g15 := by kernel_rfl
  g16 := by kernel_rfl
  g17 := by kernel_rfl
  g18 := by kernel_rfl
  g19 := by kernel_rfl
  t80 := Tryz.underlying83
  a80 := Tryz.isAgg83
  z80 := Tryz.sizeOf83
  v80 := Tryz.zeroValue83
  i0 := by kernel_rfl
  i2 := by kernel_rfl
  i3 := by kernel_rfl
  i4 := by kernel_rfl
  i5 := by kernel_rfl
  i9 := by kernel_rfl
  i20 := by kernel_rfl
  i21 := by kernel_rfl
  i37 := by kernel_rfl
  i46 := by kernel_rfl
  i51 := by kernel_rfl
  i53 := by kernel_rfl
  i75 := by kernel_rfl
  i76 := by kernel_rfl
  i80 := by kernel_rfl
  i85 := by kernel_rfl
  i127 := by kernel_rfl
  i143 := by kernel_rfl
  i145 := by kernel_rfl
  i167 := by kernel_rfl
  i168 := by kernel_rfl
  i171 := by kernel_rfl
  i173 := by kernel_rfl
  i175 := by kernel_rfl
  i210 := by kernel_rfl
  i212 := by kernel_rfl
  i232 := by kernel_rfl
  i233 := by kernel_rfl
  m15 := by kernel_rfl
  m16 := by kernel_rfl
  m17 := by kernel_rfl
  m18 := by kernel_rfl
  m19 := by kernel_rfl
  c0 := by kernel_rfl
  c2 := by kernel_rfl
  c3 := by kernel_rfl
  c4 := by kernel_rfl
  c5 := by kernel_rfl
  c9 := by kernel_rfl
  c20 := by kernel_rfl
  c21 := by kernel_rfl
  c37 := by kernel_rfl
  c46 := by kernel_rfl
  c51 := by kernel_rfl
  c53 := by kernel_rfl
  c75 := by kernel_rfl
  c76 := by kernel_rfl
  c80 := by kernel_rfl
  c85 := by kernel_rfl
  c127 := by kernel_rfl
  c143 := by kernel_rfl
  c145 := by kernel_rfl
  c167 := by kernel_rfl
  c168 := by kernel_rfl
  c171 := by kernel_rfl
  c173 := by kernel_rfl
  c175 := by kernel_rfl
  c210 := by kernel_rfl
  c212 := by kernel_rfl
  c213 := by kernel_rfl
  c232 := by kernel_rfl
  c233 := by kernel_rfl }
open Go.RowKit in
theorem Tryz.strconv_Atoi_ok (s : ByteArray) (hmax : s.size ≤ 9223372036854775806) (v : Int) (h : Lib.atoiAll s.data.toList = .ok v) (w : World) :
    Calls Tryz.prog 175 #[.string s] w fun e w' => e = .returned (.tuple #[.int .i64 v, .nilIface]) ∧ (w' = w ∨ ∃ t, w' = Lib.bytesWorld w 5 t) := Any.strconv_Atoi_ok Tryz.laysC172 s hmax v h w
open Go.RowKit in
theorem Tryz.strconv_Atoi_range (s : ByteArray) (hlim : s.size ≤ 281474976710656) (h : Lib.atoiAll s.data.toList = .range) (ev : Value) (w : World) (hv : w.cell? ⟨5, 0, none⟩ = some ev) (hev : ev = .nilIface ∨ ∃ te pe, ev = .iface te pe) :
    Calls Tryz.prog 175 #[.string s] w fun e w' => ∃ N, e = .returned (.tuple #[.int .i64 (Lib.atoiSat s.data.toList), .iface 316 (.pointer (some ⟨N, 0, none⟩))]) ∧ w.heap.size ≤ N ∧ w'.heap[N]? = some (.cells #[.string ⟨#[65, 116, 111, 105]⟩, .string s, ev] 335 (0, 0)) ∧ Below w.heap.size w w' := Any.strconv_Atoi_range Tryz.laysC172 s hlim h ev w hv hev
def Tryz.lays144_ren : Go.Shelf.Ren := ⟨fun | 144 => 82 | 143 => 134 | 219 => 189 | 217 => 231 | 225 => 232 | 224 => 233 | 267 => 234 | 266 => 254 | 314 => 255 | n => n, fun | 9 => 9 | 4 => 4 | 3 => 3 | 5 => 5 | 46 => 176 | 146 => 308 | 51 => 242 | n => n, fun | 1 => 2 | n => n⟩
theorem Tryz.lays144 : Go.Proofs.Lays.n144 Tryz.prog Tryz.lays144_ren := {
  mixed := by kernel_rfl
  f143 := Tryz.func134.trans (congrArg some (by kernel_rfl))
  f144 := Tryz.func82.trans (congrArg some (by kernel_rfl))
  f217 := Tryz.func231.trans (congrArg some (by kernel_rfl))
  f219 := Tryz.func189.trans (congrArg some (by kernel_rfl))
  f224 := Tryz.func233.trans (congrArg some (by kernel_rfl))
  f225 := Tryz.func232.trans (congrArg some (by kernel_rfl))
  f266 := Tryz.func254.trans (congrArg some (by kernel_rfl))
  f267 := Tryz.func234.trans (congrArg some (by kernel_rfl))
  f314 := Tryz.func255.trans (congrArg some (by kernel_rfl))
  t3 := Tryz.underlying3
  a3 := Tryz.isAgg3
  z3 := Tryz.sizeOf3
  v3 := Tryz.zeroValue3
  t4 := Tryz.underlying4
  a4 := Tryz.isAgg4
  z4 := Tryz.sizeOf4
  v4 := Tryz.zeroValue4
  t5 := Tryz.underlying5
  a5 := Tryz.isAgg5
  z5 := Tryz.sizeOf5
  v5 := Tryz.zeroValue5
  t9 := Tryz.underlying9
  a9 := Tryz.isAgg9
  z9 := Tryz.sizeOf9
  v9 := Tryz.zeroValue9
  t46 := Tryz.underlying176
  a46 := Tryz.isAgg176
  z46 := Tryz.sizeOf176
  v46 := Tryz.zeroValue176
  t51 := Tryz.underlying242
  a51 := Tryz.isAgg242
  z51 := Tryz.sizeOf242
  v51 := Tryz.zeroValue242
  t146 := Tryz.underlying308
  a146 := Tryz.isAgg308
  z146 := Tryz.sizeOf308
  v146 := Tryz.zeroValue308
  g1 := by kernel_rfl }
open Go.RowKit Go.Lib in
theorem Tryz.strings_Contains_one (s : ByteArray) (c : UInt8) (w : World) :
    Calls Tryz.prog 82 #[.string s, .string ⟨#[c]⟩] w fun e w' => e = .returned (.bool (decide (0 ≤ Lib.indexByte s.data.toList c))) ∧ w' = w := Any.strings_Contains_one Tryz.lays144 s c w
def Tryz.lays145_ren : Go.Shelf.Ren := ⟨fun | 145 => 193 | 220 => 235 | 219 => 189 | 217 => 231 | 225 => 232 | 224 => 233 | 267 => 234 | 266 => 254 | 314 => 255 | n => n, fun | 9 => 9 | 4 => 4 | 59 => 143 | 3 => 3 | 5 => 5 | 46 => 176 | 146 => 308 | 51 => 242 | n => n, fun | 1 => 2 | n => n⟩
theorem Tryz.lays145 : Go.Proofs.Lays.n145 Tryz.prog Tryz.lays145_ren := {
  mixed := by kernel_rfl
  f145 := Tryz.func193.trans (congrArg some (by kernel_rfl))
  f217 := Tryz.func231.trans (congrArg some (by kernel_rfl))
  f219 := Tryz.func189.trans (congrArg some (by kernel_rfl))
  f220 := Tryz.func235.trans (congrArg some (by kernel_rfl))
  f224 := Tryz.func233.trans (congrArg some (by kernel_rfl))
  f225 := Tryz.func232.trans (congrArg some (by kernel_rfl))
  f266 := Tryz.func254.trans (congrArg some (by kernel_rfl))
  f267 := Tryz.func234.trans (congrArg some (by kernel_rfl))
  f314 := Tryz.func255.trans (congrArg some (by kernel_rfl))
  t3 := Tryz.underlying3
  a3 := Tryz.isAgg3
  z3 := Tryz.sizeOf3
  v3 := Tryz.zeroValue3
  t4 := Tryz.underlying4
  a4 := Tryz.isAgg4
  z4 := Tryz.sizeOf4
  v4 := Tryz.zeroValue4
  t5 := Tryz.underlying5
  a5 := Tryz.isAgg5
  z5 := Tryz.sizeOf5
  v5 := Tryz.zeroValue5
  t9 := Tryz.underlying9
  a9 := Tryz.isAgg9
  z9 := Tryz.sizeOf9
  v9 := Tryz.zeroValue9
  t46 := Tryz.underlying176
  a46 := Tryz.isAgg176
  z46 := Tryz.sizeOf176
  v46 := Tryz.zeroValue176
  t51 := Tryz.underlying242
  a51 := Tryz.isAgg242
  z51 := Tryz.sizeOf242
  v51 := Tryz.zeroValue242
  t59 := Tryz.underlying143
  a59 := Tryz.isAgg143
  z59 := Tryz.sizeOf143
  v59 := Tryz.zeroValue143
  t146 := Tryz.underlying308
  a146 := Tryz.isAgg308
  z146 := Tryz.sizeOf308
  v146 := Tryz.zeroValue308
  g1 := by kernel_rfl }
open Go.RowKit Go.Lib in
theorem Tryz.strings_Cut (s sep : ByteArray) (m : Int) (w : World) (hs : s.size < 4294967281) (hm : w.cell? ⟨2, 0, none⟩ = some (.int .i64 m)) :
    Calls Tryz.prog 193 #[.string s, .string sep] w fun e w' => e = .returned (.tuple #[.string ⟨(Lib.cut s.data.toList sep.data.toList).1.toArray⟩, .string ⟨(Lib.cut s.data.toList sep.data.toList).2.1.toArray⟩, .bool (Lib.cut s.data.toList sep.data.toList).2.2]) ∧ ∃ n, w' = w.drewN n := Any.strings_Cut Tryz.lays145 s sep m w hs hm
def Tryz.lays99_ren : Go.Shelf.Ren := ⟨fun | 99 => 41 | 206 => 94 | n => n, fun | 9 => 9 | 4 => 4 | 3 => 3 | n => n, fun | n => n⟩
theorem Tryz.lays99 : Go.Proofs.Lays.n99 Tryz.prog Tryz.lays99_ren := {
  mixed := by kernel_rfl
  f99 := Tryz.func41.trans (congrArg some (by kernel_rfl))
  f206 := Tryz.func94.trans (congrArg some (by kernel_rfl))
  t3 := Tryz.underlying3
  a3 := Tryz.isAgg3
  z3 := Tryz.sizeOf3
  v3 := Tryz.zeroValue3
  t4 := Tryz.underlying4
  a4 := Tryz.isAgg4
  z4 := Tryz.sizeOf4
  v4 := Tryz.zeroValue4
  t9 := Tryz.underlying9
  a9 := Tryz.isAgg9
  z9 := Tryz.sizeOf9
  v9 := Tryz.zeroValue9 }
open Go.RowKit Go.Lib in
theorem Tryz.strings_HasPrefix (s p : ByteArray) (w : World) :
    Calls Tryz.prog 41 #[.string s, .string p] w fun e w' => e = .returned (.bool (Lib.hasPrefix s.data.toList p.data.toList)) ∧ w' = w := Any.strings_HasPrefix Tryz.lays99 s p w
def Tryz.lays101_ren : Go.Shelf.Ren := ⟨fun | 101 => 129 | 208 => 188 | 206 => 94 | n => n, fun | 9 => 9 | 4 => 4 | 3 => 3 | n => n, fun | n => n⟩
theorem Tryz.lays101 : Go.Proofs.Lays.n101 Tryz.prog Tryz.lays101_ren := {
  mixed := by kernel_rfl
  f101 := Tryz.func129.trans (congrArg some (by kernel_rfl))
  f206 := Tryz.func94.trans (congrArg some (by kernel_rfl))
  f208 := Tryz.func188.trans (congrArg some (by kernel_rfl))
  t3 := Tryz.underlying3
  a3 := Tryz.isAgg3
  z3 := Tryz.sizeOf3
  v3 := Tryz.zeroValue3
  t4 := Tryz.underlying4
  a4 := Tryz.isAgg4
  z4 := Tryz.sizeOf4
  v4 := Tryz.zeroValue4
  t9 := Tryz.underlying9
  a9 := Tryz.isAgg9
  z9 := Tryz.sizeOf9
  v9 := Tryz.zeroValue9 }
open Go.RowKit Go.Lib in
theorem Tryz.strings_TrimPrefix (s p : ByteArray) (w : World) :
    Calls Tryz.prog 129 #[.string s, .string p] w fun e w' => e = .returned (.string ⟨(Lib.trimPrefix s.data.toList p.data.toList).toArray⟩) ∧ w' = w := Any.strings_TrimPrefix Tryz.lays101 s p w
def Tryz.lays105_ren : Go.Shelf.Ren := ⟨fun | 105 => 166 | 212 => 206 | 99 => 41 | 165 => 207 | 166 => 33 | 170 => 208 | 169 => 34 | 263 => 239 | 264 => 240 | 206 => 94 | 240 => 81 | 241 => 241 | 276 => 133 | 277 => 263 | n => n, fun | 9 => 9 | 3 => 3 | 4 => 4 | 20 => 20 | 0 => 0 | 46 => 176 | 109 => 283 | 5 => 5 | 72 => 77 | 76 => 81 | 51 => 242 | 146 => 308 | 53 => 244 | 148 => 310 | 70 => 74 | 37 => 75 | 75 => 79 | 127 => 147 | 164 => 209 | 80 => 83 | n => n, fun | n => n⟩
theorem Tryz.lays105 : Go.Proofs.Lays.n105 Tryz.prog Tryz.lays105_ren := {
  mixed := by kernel_rfl
  f99 := Tryz.func41.trans (congrArg some (by kernel_rfl))
  f105 := Tryz.func166.trans (congrArg some (by kernel_rfl))
  f165 := Tryz.func207.trans (congrArg some (by kernel_rfl))
  f166 := Tryz.func33.trans (congrArg some (by kernel_rfl))
  f169 := Tryz.func34.trans (congrArg some (by kernel_rfl))
  f170 := Tryz.func208.trans (congrArg some (by kernel_rfl))
  f206 := Tryz.func94.trans (congrArg some (by kernel_rfl))
  f212 := Tryz.func206.trans (congrArg some (by kernel_rfl))
  f240 := Tryz.func81.trans (congrArg some (by kernel_rfl))
  f241 := Tryz.func241.trans (congrArg some (by kernel_rfl))
  f263 := Tryz.func239.trans (congrArg some (by kernel_rfl))
  f264 := Tryz.func240.trans (congrArg some (by kernel_rfl))
  f276 := Tryz.func133.trans (congrArg some (by kernel_rfl))
  f277 := Tryz.func263.trans (congrArg some (by kernel_rfl))
  t0 := Tryz.underlying0
  a0 := Tryz.isAgg0
  z0 := Tryz.sizeOf0
  v0 := Tryz.zeroValue0
  t3 := Tryz.underlying3
  a3 := Tryz.isAgg3
  z3 := Tryz.sizeOf3
  v3 := Tryz.zeroValue3
  t4 := Tryz.underlying4
  a4 := Tryz.isAgg4
  z4 := Tryz.sizeOf4
  v4 := Tryz.zeroValue4
  t5 := Tryz.underlying5
  a5 := Tryz.isAgg5
  z5 := Tryz.sizeOf5
  v5 := Tryz.zeroValue5
  t9 := Tryz.underlying9
  a9 := Tryz.isAgg9
  z9 := Tryz.sizeOf9
  v9 := Tryz.zeroValue9
  t20 := Tryz.underlying20
  a20 := Tryz.isAgg20
  z20 := Tryz.sizeOf20
  v20 := Tryz.zeroValue20
  t37 := Tryz.underlying75
  a37 := Tryz.isAgg75
  z37 := Tryz.sizeOf75
  v37 := Tryz.zeroValue75
  t46 := Tryz.underlying176
  a46 := Tryz.isAgg176
  z46 := Tryz.sizeOf176
  v46 := Tryz.zeroValue176
  t51 := Tryz.underlying242
  a51 := Tryz.isAgg242
  z51 := Tryz.sizeOf242
  v51 := Tryz.zeroValue242
  t53 := Tryz.underlying244
  a53 := Tryz.isAgg244
  z53 := Tryz.sizeOf244
  v53 := Tryz.zeroValue244
  t70 := Tryz.underlying74
  a70 := Tryz.isAgg74
  z70 := Tryz.sizeOf74
  v70 := Tryz.zeroValue74
  t72 := Tryz.underlying77
  a72 := Tryz.isAgg77
  z72 := Tryz.sizeOf77
  v72 := Tryz.zeroValue77
  t75 := Tryz.underlying79
  a75 := Tryz.isAgg79
  z75 := Tryz.sizeOf79
  v75 := Tryz.zeroValue79
  t76 := Tryz.underlying81
  a76 := Tryz.isAgg81
  z76 := Tryz.sizeOf81
  v76 := Tryz.zeroValue81
  t109 := Tryz.underlying283
  a109 := Tryz.isAgg283
  z109 := Tryz.sizeOf283
  v109 := Tryz.zeroValue283
  t127 := Tryz.underlying147
  a127 := Tryz.isAgg147
  z127 := Tryz.sizeOf147
  v127 := Tryz.zeroValue147
  t146 := Tryz.underlying308
  a146 := Tryz.isAgg308
  z146 := Tryz.sizeOf308
  v146 := Tryz.zeroValue308
  t148 := Tryz.underlying310
  a148 := Tryz.isAgg310
  z148 := Tryz.sizeOf310
  v148 := Tryz.zeroValue310
  t164 := Tryz.underlying209
  a164 := Tryz.isAgg209
  z164 := Tryz.sizeOf209
  v164 := Tryz.zeroValue209 }
theorem Tryz.Builder_Extra_105 : Builder.Extra Tryz.prog Tryz.lays105_ren := {
  sizeBuilder := by kernel_rfl
  liesBuilder := by kernel_rfl
  t5 := Tryz.underlying5
  a5 := Tryz.isAgg5
  z5 := Tryz.sizeOf5
  v5 := Tryz.zeroValue5
  infoByte := by kernel_rfl
  cellsByte := by kernel_rfl
  sizeByte := by kernel_rfl
  neB5 := by decide }
open Go.RowKit Go.Lib in
theorem Tryz.strings_Repeat (s : ByteArray) (c : Nat) (w : World) (hc : c ≤ 9223372036854775807) (hlen : s.size * c ≤ 140737488355328) :
    Calls Tryz.prog 166 #[.string s, .int .i64 c] w fun e w' => e = .returned (.string ⟨(Lib.repeatL s.data.toList c).toArray⟩) ∧ Below w.heap.size w w' := Any.strings_Repeat Tryz.lays105 Tryz.Builder_Extra_105 s c w hc hlen
end Go.Proofs
