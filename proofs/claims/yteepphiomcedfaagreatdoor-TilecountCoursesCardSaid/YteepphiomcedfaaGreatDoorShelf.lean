/- Contracts of Go's library at this program, laid by the guide's command, pruned. -/
import Derived.Shelf.Strings.Builder1
import Derived.Shelf.Strings.Builder2
import Derived.Shelf.Strings.Trim
import Derived.Shelf.Small.Utf8
import Derived.Shelf.Small.Strs
import Derived.Shelf.Small.Wraps
import Derived.Shelf.Strings.BuilderF
import Derived.Shelf.Strings.BuilderK
import Derived.Shelf.Strconv.Atoi
import Derived.Shelf.Strconv.Itoa0
import Derived.Shelf.Strconv.Itoa1
import Derived.Shelf.LaysM
import Derived.Shelf.Strconv.Itoa2
import Derived.Shelf.Strconv.Itoa3
import Derived.Shelf.Strconv.AtoiErrFast
import Derived.Shelf.Strconv.ParseIntEmpty
import Derived.Shelf.Strconv.AtoiFail
import Derived.Shelf.Strconv.Clone
import Derived.Shelf.Strconv.SyntaxError
import Derived.Shelf.LaysC
import Derived.Shelf.Strconv.ToError
import Derived.Shelf.Strconv.AtoiErr
import Derived.Shelf.Strconv.ErrVar
import Derived.Shelf.Strconv.Lower
import Derived.Shelf.Strconv.ParseUint10
import Derived.Shelf.Strconv.ParseUint10Empty
import Derived.Shelf.Strconv.ParseUint10Any
import Derived.Shelf.Strconv.ParseInt10
import Derived.Shelf.Strconv.AtoiLong
import Derived.Shelf.Strconv.AtoiInnerAll
import Derived.Shelf.Strconv.RangeError
import Derived.Shelf.Strconv.ToErrorRange
import Derived.Shelf.Strconv.AtoiAll
import Derived.Shelf.Strconv.ErrVarAll
import Derived.Shelf.Strings.Search1
import Derived.Shelf.Strings.Search2
import Derived.Shelf.Strings.Cut
import Derived.Shelf.Strings.Shaped
import Derived.Shelf.Strings.Prefix
import Derived.Shelf.Strings.Runes
import Derived.Shelf.Strings.AsciiSet
import Derived.Shelf.Bits.Mul64
import Derived.Shelf.Strings.Repeat
import Derived.Shelf.Unicode.DecodeSlow
import Derived.Ground.Names2Prog
import Derived.Shelf.Slices.SearchI
import Derived.Test.YteepphiomcedfaaGreatDoorProg
namespace Go.Proofs
open Go.Shelf
def Tryz.lays169_ren : Go.Shelf.Ren := ⟨fun | 169 => 243 | n => n, fun | 70 => 244 | 9 => 9 | 0 => 0 | 72 => 246 | 37 => 236 | 127 => 277 | 3 => 3 | 5 => 5 | n => n, fun | n => n⟩
theorem Tryz.lays169 : Go.Proofs.Lays.n169 Tryz.prog Tryz.lays169_ren := {
  mixed := by kernel_rfl
  f169 := Tryz.func243.trans (congrArg some (by kernel_rfl))
  t0 := Tryz.underlying0
  a0 := Tryz.isAgg0
  z0 := Tryz.sizeOf0
  v0 := Tryz.zeroValue0
  t3 := Tryz.underlying3
  a3 := Tryz.isAgg3
  z3 := Tryz.sizeOf3
  v3 := Tryz.zeroValue3
  t9 := Tryz.underlying9
  a9 := Tryz.isAgg9
  z9 := Tryz.sizeOf9
  v9 := Tryz.zeroValue9
  t37 := Tryz.underlying236
  a37 := Tryz.isAgg236
  z37 := Tryz.sizeOf236
  v37 := Tryz.zeroValue236
  t70 := Tryz.underlying244
  a70 := Tryz.isAgg244
  z70 := Tryz.sizeOf244
  v70 := Tryz.zeroValue244
  t72 := Tryz.underlying246
  a72 := Tryz.isAgg246
  z72 := Tryz.sizeOf246
  v72 := Tryz.zeroValue246
  t127 := Tryz.underlying277
  a127 := Tryz.isAgg277
  z127 := Tryz.sizeOf277
  v127 := Tryz.zeroValue277 }
theorem Tryz.Builder_Extra_169 : Builder.Extra Tryz.prog Tryz.lays169_ren := {
  sizeBuilder := by kernel_rfl
  liesBuilder := by kernel_rfl
  t5 := Tryz.underlying5
  a5 := Tryz.isAgg5
  z5 := Tryz.sizeOf5
  v5 := Tryz.zeroValue5
  infoByte := by kernel_rfl
  cellsByte := by kernel_rfl
  sizeByte := by kernel_rfl
  neB5 := by decide }
def Tryz.lays160_ren : Go.Shelf.Ren := ⟨fun | 160 => 239 | 232 => 263 | 231 => 262 | 227 => 264 | 234 => 266 | 233 => 265 | 236 => 268 | 235 => 267 | 228 => 282 | 271 => 285 | 151 => 284 | 197 => 283 | 120 => 298 | 152 => 297 | 260 => 296 | 137 => 302 | 119 => 303 | 224 => 292 | 225 => 291 | 217 => 290 | 266 => 300 | n => n, fun | 9 => 9 | 4 => 4 | 3 => 3 | 5 => 5 | 117 => 269 | 116 => 268 | 0 => 0 | 124 => 272 | 21 => 21 | 105 => 289 | 46 => 262 | 119 => 305 | 139 => 308 | 138 => 307 | n => n, fun | 3 => 6 | 4 => 7 | n => n⟩
theorem Tryz.lays160 : Go.Proofs.Lays.n160 Tryz.prog Tryz.lays160_ren := {
  mixed := by kernel_rfl
  f119 := Tryz.func303.trans (congrArg some (by kernel_rfl))
  f120 := Tryz.func298.trans (congrArg some (by kernel_rfl))
  f137 := Tryz.func302.trans (congrArg some (by kernel_rfl))
  f151 := Tryz.func284.trans (congrArg some (by kernel_rfl))
  f152 := Tryz.func297.trans (congrArg some (by kernel_rfl))
  f160 := Tryz.func239.trans (congrArg some (by kernel_rfl))
  f197 := Tryz.func283.trans (congrArg some (by kernel_rfl))
  f217 := Tryz.func290.trans (congrArg some (by kernel_rfl))
  f224 := Tryz.func292.trans (congrArg some (by kernel_rfl))
  f225 := Tryz.func291.trans (congrArg some (by kernel_rfl))
  f227 := Tryz.func264.trans (congrArg some (by kernel_rfl))
  f228 := Tryz.func282.trans (congrArg some (by kernel_rfl))
  f231 := Tryz.func262.trans (congrArg some (by kernel_rfl))
  f232 := Tryz.func263.trans (congrArg some (by kernel_rfl))
  f233 := Tryz.func265.trans (congrArg some (by kernel_rfl))
  f234 := Tryz.func266.trans (congrArg some (by kernel_rfl))
  f235 := Tryz.func267.trans (congrArg some (by kernel_rfl))
  f236 := Tryz.func268.trans (congrArg some (by kernel_rfl))
  f260 := Tryz.func296.trans (congrArg some (by kernel_rfl))
  f266 := Tryz.func300.trans (congrArg some (by kernel_rfl))
  f271 := Tryz.func285.trans (congrArg some (by kernel_rfl))
  t0 := Tryz.underlying0
  a0 := Tryz.isAgg0
  z0 := Tryz.sizeOf0
  v0 := Tryz.zeroValue0
  t3 := Tryz.underlying3
  a3 := Tryz.isAgg3
  z3 := Tryz.sizeOf3
  v3 := Tryz.zeroValue3
  t4 := Tryz.underlying4
  a4 := Tryz.isAgg4
  z4 := Tryz.sizeOf4
  v4 := Tryz.zeroValue4
  t5 := Tryz.underlying5
  a5 := Tryz.isAgg5
  z5 := Tryz.sizeOf5
  v5 := Tryz.zeroValue5
  t9 := Tryz.underlying9
  a9 := Tryz.isAgg9
  z9 := Tryz.sizeOf9
  v9 := Tryz.zeroValue9
  t21 := Tryz.underlying21
  a21 := Tryz.isAgg21
  z21 := Tryz.sizeOf21
  v21 := Tryz.zeroValue21
  t46 := Tryz.underlying262
  a46 := Tryz.isAgg262
  z46 := Tryz.sizeOf262
  v46 := Tryz.zeroValue262
  t105 := Tryz.underlying289
  a105 := Tryz.isAgg289
  z105 := Tryz.sizeOf289
  v105 := Tryz.zeroValue289
  t116 := Tryz.underlying268
  a116 := Tryz.isAgg268
  z116 := Tryz.sizeOf268
  t117 := Tryz.underlying269
  a117 := Tryz.isAgg269
  z117 := Tryz.sizeOf269
  v117 := Tryz.zeroValue269
  t119 := Tryz.underlying305
  a119 := Tryz.isAgg305
  z119 := Tryz.sizeOf305
  t124 := Tryz.underlying272
  a124 := Tryz.isAgg272
  z124 := Tryz.sizeOf272
  v124 := Tryz.zeroValue272
  t138 := Tryz.underlying307
  a138 := Tryz.isAgg307
  z138 := Tryz.sizeOf307
  v138 := Tryz.zeroValue307
  t139 := Tryz.underlying308
  a139 := Tryz.isAgg308
  z139 := Tryz.sizeOf308
  v139 := Tryz.zeroValue308
  g3 := by kernel_rfl
  g4 := by kernel_rfl }
open Go.RowKit in
theorem Tryz.strings_Trim_one (s : ByteArray) (c : UInt8) (hc : c.toNat < 128) (w : World) (hs : s.size ≤ 9223372036854775807) :
    Calls Tryz.prog 239 #[.string s, .string ⟨#[c]⟩] w fun e w' => e = .returned (.string ⟨(Lib.trimB s.data.toList c).toArray⟩) ∧ (w' = w ∨ w' = w.drew) := Any.strings_Trim_one Tryz.lays160 s c hc w hs
def Tryz.lays103_ren : Go.Shelf.Ren := ⟨fun | 103 => 188 | 210 => 244 | 206 => 197 | n => n, fun | 9 => 9 | 4 => 4 | 24 => 190 | 3 => 3 | n => n, fun | n => n⟩
theorem Tryz.lays103 : Go.Proofs.Lays.n103 Tryz.prog Tryz.lays103_ren := {
  mixed := by kernel_rfl
  f103 := Tryz.func188.trans (congrArg some (by kernel_rfl))
  f206 := Tryz.func197.trans (congrArg some (by kernel_rfl))
  f210 := Tryz.func244.trans (congrArg some (by kernel_rfl))
  t3 := Tryz.underlying3
  a3 := Tryz.isAgg3
  z3 := Tryz.sizeOf3
  v3 := Tryz.zeroValue3
  t4 := Tryz.underlying4
  a4 := Tryz.isAgg4
  z4 := Tryz.sizeOf4
  v4 := Tryz.zeroValue4
  t9 := Tryz.underlying9
  a9 := Tryz.isAgg9
  z9 := Tryz.sizeOf9
  v9 := Tryz.zeroValue9
  t24 := Tryz.underlying190
  a24 := Tryz.isAgg190
  z24 := Tryz.sizeOf190
  v24 := Tryz.zeroValue190 }
open Go.RowKit in
theorem Tryz.strings_CutPrefix (s p : ByteArray) (w : World) :
    Calls Tryz.prog 188 #[.string s, .string p] w fun e w' => e = .returned (.tuple #[.string ⟨(Lib.trimPrefix s.data.toList p.data.toList).toArray⟩, .bool (Lib.hasPrefix s.data.toList p.data.toList)]) ∧ w' = w := Any.strings_CutPrefix Tryz.lays103 s p w
def Tryz.lays122_ren : Go.Shelf.Ren := ⟨fun | 122 => 71 | 215 => 135 | n => n, fun | 3 => 3 | 4 => 4 | n => n, fun | n => n⟩
theorem Tryz.lays122 : Go.Proofs.Lays.n122 Tryz.prog Tryz.lays122_ren := {
  mixed := by kernel_rfl
  f122 := Tryz.func71.trans (congrArg some (by kernel_rfl))
  f215 := Tryz.func135.trans (congrArg some (by kernel_rfl))
  t3 := Tryz.underlying3
  a3 := Tryz.isAgg3
  z3 := Tryz.sizeOf3
  v3 := Tryz.zeroValue3
  t4 := Tryz.underlying4
  a4 := Tryz.isAgg4
  z4 := Tryz.sizeOf4
  v4 := Tryz.zeroValue4 }
open Go.RowKit in
theorem Tryz.cmp_Compare_int (x y : Int) (w : World) :
    Calls Tryz.prog 71 #[.int .i64 x, .int .i64 y] w fun e w' => e = .returned (.int .i64 (Lib.compareInt x y)) ∧ w' = w := Any.cmp_Compare_int Tryz.lays122 x y w
open Go.RowKit in
theorem Tryz.Builder_String_any_k (B b : Nat) (l : List UInt8) (w : World) (h : Lib.IsBuilderF 246 5 B b (Lib.byteCells l) w) (hBw : B ≤ w.heap.size) :
    Calls Tryz.prog 243 #[.pointer (some ⟨b, 0, none⟩)] w fun e w' => e = .returned (.string ⟨l.toArray⟩) ∧ (Lib.IsBuilderF 246 5 B b (Lib.byteCells l) w' ∧ Below B w w' ∧ Lib.OthersKept 5 (some b) w w') := Any.Builder_String_any_k Tryz.lays169 Tryz.Builder_Extra_169 B b l w h hBw
def Tryz.laysM171_ren : Go.Shelf.Ren := ⟨fun | 171 => 81 | 243 => 142 | 246 => 196 | 283 => 248 | 284 => 249 | 285 => 250 | 286 => 251 | 129 => 275 | 317 => 274 | 318 => 276 | 319 => 277 | 320 => 278 | 337 => 294 | 338 => 295 | n => n, fun | 3 => 3 | 9 => 9 | 2 => 2 | 4 => 4 | 171 => 251 | 0 => 0 | 53 => 252 | 37 => 236 | 5 => 5 | 173 => 255 | 212 => 280 | 51 => 281 | 20 => 20 | 213 => 282 | 46 => 262 | 232 => 303 | 233 => 304 | n => n, fun | 17 => 2 | 18 => 4 | 19 => 5 | n => n⟩
theorem Tryz.laysM171 : Go.Proofs.LaysM.n171 Tryz.prog Tryz.laysM171_ren := {
  mixed := by kernel_rfl
  f129 := Tryz.func275.trans (congrArg some (by kernel_rfl))
  f171 := Tryz.func81.trans (congrArg some (by kernel_rfl))
  f243 := Tryz.func142.trans (congrArg some (by kernel_rfl))
  f246 := Tryz.func196.trans (congrArg some (by kernel_rfl))
  f283 := Tryz.func248.trans (congrArg some (by kernel_rfl))
  f284 := Tryz.func249.trans (congrArg some (by kernel_rfl))
  f285 := Tryz.func250.trans (congrArg some (by kernel_rfl))
  f286 := Tryz.func251.trans (congrArg some (by kernel_rfl))
  f317 := Tryz.func274.trans (congrArg some (by kernel_rfl))
  f318 := Tryz.func276.trans (congrArg some (by kernel_rfl))
  f319 := Tryz.func277.trans (congrArg some (by kernel_rfl))
  f320 := Tryz.func278.trans (congrArg some (by kernel_rfl))
  f337 := Tryz.func294.trans (congrArg some (by kernel_rfl))
  f338 := Tryz.func295.trans (congrArg some (by kernel_rfl))
  t0 := Tryz.underlying0
  a0 := Tryz.isAgg0
  z0 := Tryz.sizeOf0
  v0 := Tryz.zeroValue0
  t2 := Tryz.underlying2
  a2 := Tryz.isAgg2
  z2 := Tryz.sizeOf2
  v2 := Tryz.zeroValue2
  t3 := Tryz.underlying3
  a3 := Tryz.isAgg3
  z3 := Tryz.sizeOf3
  v3 := Tryz.zeroValue3
  t4 := Tryz.underlying4
  a4 := Tryz.isAgg4
  z4 := Tryz.sizeOf4
  v4 := Tryz.zeroValue4
  t5 := Tryz.underlying5
  a5 := Tryz.isAgg5
  z5 := Tryz.sizeOf5
  v5 := Tryz.zeroValue5
  t9 := Tryz.underlying9
  a9 := Tryz.isAgg9
  z9 := Tryz.sizeOf9
  v9 := Tryz.zeroValue9
  t20 := Tryz.underlying20
  a20 := Tryz.isAgg20
  z20 := Tryz.sizeOf20
  v20 := Tryz.zeroValue20
  t37 := Tryz.underlying236
  a37 := Tryz.isAgg236
  z37 := Tryz.sizeOf236
  v37 := Tryz.zeroValue236
  t46 := Tryz.underlying262
  a46 := Tryz.isAgg262
  z46 := Tryz.sizeOf262
  v46 := Tryz.zeroValue262
  t51 := Tryz.underlying281
  a51 := Tryz.isAgg281
  z51 := Tryz.sizeOf281
  v51 := Tryz.zeroValue281
  t53 := Tryz.underlying252
  a53 := Tryz.isAgg252
  z53 := Tryz.sizeOf252
  v53 := Tryz.zeroValue252
  t171 := Tryz.underlying251
  a171 := Tryz.isAgg251
  z171 := Tryz.sizeOf251
  v171 := Tryz.zeroValue251
  t173 := Tryz.underlying255
  a173 := Tryz.isAgg255
  z173 := Tryz.sizeOf255
  v173 := Tryz.zeroValue255
  t212 := Tryz.underlying280
  a212 := Tryz.isAgg280
  z212 := Tryz.sizeOf280
  v212 := Tryz.zeroValue280
  t213 := Tryz.underlying282
  a213 := Tryz.isAgg282
  z213 := Tryz.sizeOf282
  t232 := Tryz.underlying303
  a232 := Tryz.isAgg303
  z232 := Tryz.sizeOf303
  v232 := Tryz.zeroValue303
  t233 := Tryz.underlying304
  a233 := Tryz.isAgg304
  z233 := Tryz.sizeOf304
  v233 := Tryz.zeroValue304
  g17 := by kernel_rfl
  g18 := by kernel_rfl
  g19 := by kernel_rfl
  i0 := by kernel_rfl
  i2 := by kernel_rfl
  i3 := by kernel_rfl
  i4 := by kernel_rfl
  i5 := by kernel_rfl
  i9 := by kernel_rfl
  i20 := by kernel_rfl
  i37 := by kernel_rfl
  i46 := by kernel_rfl
  i51 := by kernel_rfl
  i53 := by kernel_rfl
  i171 := by kernel_rfl
  i173 := by kernel_rfl
  i212 := by kernel_rfl
  i232 := by kernel_rfl
  i233 := by kernel_rfl
  m17 := by kernel_rfl
  m18 := by kernel_rfl
  m19 := by kernel_rfl }
open Go.RowKit Go.Sort Go.Lib in
theorem Tryz.strconv_Itoa (n : Int) (h0 : -9223372036854775808 ≤ n) (h1 : n ≤ 9223372036854775807) (w : World) (htab : Lib.TabIs Tryz.prog w "internal/strconv.uint64pow10" .u64 Lib.pow10Tab) :
    Calls Tryz.prog 81 #[.int .i64 n] w fun e w' => e = .returned (.string ⟨(Lib.itoa n).toArray⟩) ∧ ∃ k os, w' = grow (w.drewN k) os := Any.strconv_Itoa Tryz.laysM171 n h0 h1 w htab
def Tryz.laysC172_ren : Go.Shelf.Ren := ⟨fun | 172 => 104 | 244 => 170 | 245 => 171 | 247 => 224 | 279 => 225 | 280 => 226 | 281 => 227 | 282 => 228 | 287 => 259 | 316 => 260 | 171 => 81 | 205 => 261 | 321 => 280 | 322 => 281 | 243 => 142 | 246 => 196 | 283 => 248 | 284 => 249 | 285 => 250 | 286 => 251 | 129 => 275 | 317 => 274 | 318 => 276 | 319 => 277 | 320 => 278 | 337 => 294 | 338 => 295 | n => n, fun | 9 => 9 | 3 => 3 | 75 => 129 | 76 => 130 | 4 => 4 | 5 => 5 | 167 => 235 | 37 => 236 | 0 => 0 | 85 => 237 | 2 => 2 | 168 => 239 | 53 => 252 | 175 => 260 | 46 => 262 | 210 => 264 | 127 => 277 | 145 => 287 | 143 => 285 | 21 => 21 | 171 => 251 | 173 => 255 | 212 => 280 | 51 => 281 | 20 => 20 | 213 => 282 | 232 => 303 | 233 => 304 | 80 => 249 | n => n, fun | 15 => 0 | 16 => 1 | 17 => 2 | 18 => 4 | 19 => 5 | n => n⟩
theorem Tryz.laysC172 : Go.Proofs.LaysC.n172 Tryz.prog Tryz.laysC172_ren := {
  mixed := by kernel_rfl
  f129 := Tryz.func275.trans (congrArg some (by kernel_rfl))
  f171 := Tryz.func81.trans (congrArg some (by kernel_rfl))
  f172 := Tryz.func104.trans (congrArg some (by kernel_rfl))
  f205 := Tryz.func261.trans (congrArg some (by kernel_rfl))
  f243 := Tryz.func142.trans (congrArg some (by kernel_rfl))
  f244 := Tryz.func170.trans (congrArg some (by kernel_rfl))
  f245 := Tryz.func171.trans (congrArg some (by kernel_rfl))
  f246 := Tryz.func196.trans (congrArg some (by kernel_rfl))
  f247 := Tryz.func224.trans (congrArg some (by kernel_rfl))
  f279 := Tryz.func225.trans (congrArg some (by kernel_rfl))
  f280 := Tryz.func226.trans (congrArg some (by kernel_rfl))
  f281 := Tryz.func227.trans (congrArg some (by kernel_rfl))
  f282 := Tryz.func228.trans (congrArg some (by kernel_rfl))
  f283 := Tryz.func248.trans (congrArg some (by kernel_rfl))
  f284 := Tryz.func249.trans (congrArg some (by kernel_rfl))
  f285 := Tryz.func250.trans (congrArg some (by kernel_rfl))
  f286 := Tryz.func251.trans (congrArg some (by kernel_rfl))
  f287 := Tryz.func259.trans (congrArg some (by kernel_rfl))
  f316 := Tryz.func260.trans (congrArg some (by kernel_rfl))
  f317 := Tryz.func274.trans (congrArg some (by kernel_rfl))
  f318 := Tryz.func276.trans (congrArg some (by kernel_rfl))
  f319 := Tryz.func277.trans (congrArg some (by kernel_rfl))
  f320 := Tryz.func278.trans (congrArg some (by kernel_rfl))
  f321 := Tryz.func280.trans (congrArg some (by kernel_rfl))
  f322 := Tryz.func281.trans (congrArg some (by kernel_rfl))
  f337 := Tryz.func294.trans (congrArg some (by kernel_rfl))
  f338 := Tryz.func295.trans (congrArg some (by kernel_rfl))
  t0 := Tryz.underlying0
  a0 := Tryz.isAgg0
  z0 := Tryz.sizeOf0
  v0 := Tryz.zeroValue0
  t2 := Tryz.underlying2
  a2 := Tryz.isAgg2
  z2 := Tryz.sizeOf2
  v2 := Tryz.zeroValue2
  t3 := Tryz.underlying3
  a3 := Tryz.isAgg3
  z3 := Tryz.sizeOf3
  v3 := Tryz.zeroValue3
  t4 := Tryz.underlying4
  a4 := Tryz.isAgg4
  z4 := Tryz.sizeOf4
  v4 := Tryz.zeroValue4
  t5 := Tryz.underlying5
  a5 := Tryz.isAgg5
  z5 := Tryz.sizeOf5
  v5 := Tryz.zeroValue5
  t9 := Tryz.underlying9
  a9 := Tryz.isAgg9
  z9 := Tryz.sizeOf9
  v9 := Tryz.zeroValue9
  t20 := Tryz.underlying20
  a20 := Tryz.isAgg20
  z20 := Tryz.sizeOf20
  v20 := Tryz.zeroValue20
  t21 := Tryz.underlying21
  a21 := Tryz.isAgg21
  z21 := Tryz.sizeOf21
  v21 := Tryz.zeroValue21
  t37 := Tryz.underlying236
  a37 := Tryz.isAgg236
  z37 := Tryz.sizeOf236
  v37 := Tryz.zeroValue236
  t46 := Tryz.underlying262
  a46 := Tryz.isAgg262
  z46 := Tryz.sizeOf262
  v46 := Tryz.zeroValue262
  t51 := Tryz.underlying281
  a51 := Tryz.isAgg281
  z51 := Tryz.sizeOf281
  v51 := Tryz.zeroValue281
  t53 := Tryz.underlying252
  a53 := Tryz.isAgg252
  z53 := Tryz.sizeOf252
  v53 := Tryz.zeroValue252
  t75 := Tryz.underlying129
  a75 := Tryz.isAgg129
  z75 := Tryz.sizeOf129
  v75 := Tryz.zeroValue129
  t76 := Tryz.underlying130
  a76 := Tryz.isAgg130
  z76 := Tryz.sizeOf130
  v76 := Tryz.zeroValue130
  t85 := Tryz.underlying237
  a85 := Tryz.isAgg237
  z85 := Tryz.sizeOf237
  v85 := Tryz.zeroValue237
  t127 := Tryz.underlying277
  a127 := Tryz.isAgg277
  z127 := Tryz.sizeOf277
  v127 := Tryz.zeroValue277
  t143 := Tryz.underlying285
  a143 := Tryz.isAgg285
  z143 := Tryz.sizeOf285
  v143 := Tryz.zeroValue285
  t145 := Tryz.underlying287
  a145 := Tryz.isAgg287
  z145 := Tryz.sizeOf287
  v145 := Tryz.zeroValue287
  t167 := Tryz.underlying235
  a167 := Tryz.isAgg235
  z167 := Tryz.sizeOf235
  v167 := Tryz.zeroValue235
  t168 := Tryz.underlying239
  a168 := Tryz.isAgg239
  z168 := Tryz.sizeOf239
  v168 := Tryz.zeroValue239
  t171 := Tryz.underlying251
  a171 := Tryz.isAgg251
  z171 := Tryz.sizeOf251
  v171 := Tryz.zeroValue251
  t173 := Tryz.underlying255
  a173 := Tryz.isAgg255
  z173 := Tryz.sizeOf255
  v173 := Tryz.zeroValue255
  t175 := Tryz.underlying260
  a175 := Tryz.isAgg260
  z175 := Tryz.sizeOf260
  v175 := Tryz.zeroValue260
  t210 := Tryz.underlying264
  a210 := Tryz.isAgg264
  z210 := Tryz.sizeOf264
  v210 := Tryz.zeroValue264
  t212 := Tryz.underlying280
  a212 := Tryz.isAgg280
  z212 := Tryz.sizeOf280
  v212 := Tryz.zeroValue280
  t213 := Tryz.underlying282
  a213 := Tryz.isAgg282
  z213 := Tryz.sizeOf282
  t232 := Tryz.underlying303
  a232 := Tryz.isAgg303
  z232 := Tryz.sizeOf303
  v232 := Tryz.zeroValue303
  t233 := Tryz.underlying304
  a233 := Tryz.isAgg304
  z233 := Tryz.sizeOf304
  v233 := Tryz.zeroValue304
  g15 := by kernel_rfl
  g16 := by kernel_rfl
  g17 := by kernel_rfl
  g18 := by kernel_rfl
  g19 := by kernel_rfl
  t80 := Tryz.underlying249
  a80 := Tryz.isAgg249
  z80 := Tryz.sizeOf249
  v80 := Tryz.zeroValue249
  i0 := by kernel_rfl
  i2 := by kernel_rfl
  i3 := by kernel_rfl
  i4 := by kernel_rfl
  i5 := by kernel_rfl
  i9 := by kernel_rfl
  i20 := by kernel_rfl
  i21 := by kernel_rfl
  i37 := by kernel_rfl
  i46 := by kernel_rfl
  i51 := by kernel_rfl
  i53 := by kernel_rfl
  i75 := by kernel_rfl
  i76 := by kernel_rfl
  i80 := by kernel_rfl
  i85 := by kernel_rfl
  i127 := by kernel_rfl
  i143 := by kernel_rfl
  i145 := by kernel_rfl
  i167 := by kernel_rfl
  i168 := by kernel_rfl
  i171 := by kernel_rfl
  i173 := by kernel_rfl
  i175 := by kernel_rfl
  i210 := by kernel_rfl
  i212 := by kernel_rfl
  i232 := by kernel_rfl
  i233 := by kernel_rfl
  m15 := by kernel_rfl
  m16 := by kernel_rfl
  m17 := by kernel_rfl
  m18 := by kernel_rfl
  m19 := by kernel_rfl
  c0 := by kernel_rfl
  c2 := by kernel_rfl
  c3 := by kernel_rfl
  c4 := by kernel_rfl
  c5 := by kernel_rfl
  c9 := by kernel_rfl
  c20 := by kernel_rfl
  c21 := by kernel_rfl
  c37 := by kernel_rfl
  c46 := by kernel_rfl
  c51 := by kernel_rfl
  c53 := by kernel_rfl
  c75 := by kernel_rfl
  c76 := by kernel_rfl
  c80 := by kernel_rfl
  c85 := by kernel_rfl
  c127 := by kernel_rfl
  c143 := by kernel_rfl
  c145 := by kernel_rfl
  c167 := by kernel_rfl
  c168 := by kernel_rfl
  c171 := by kernel_rfl
  c173 := by kernel_rfl
  c175 := by kernel_rfl
  c210 := by kernel_rfl
  c212 := by kernel_rfl
  c213 := by kernel_rfl
  c232 := by kernel_rfl
  c233 := by kernel_rfl }
open Go.RowKit in
theorem Tryz.strconv_Atoi_ok (s : ByteArray) (hmax : s.size ≤ 9223372036854775806) (v : Int) (h : Lib.atoiAll s.data.toList = .ok v) (w : World) :
    Calls Tryz.prog 104 #[.string s] w fun e w' => e = .returned (.tuple #[.int .i64 v, .nilIface]) ∧ (w' = w ∨ ∃ t, w' = Lib.bytesWorld w 5 t) := Any.strconv_Atoi_ok Tryz.laysC172 s hmax v h w
def Tryz.lays145_ren : Go.Shelf.Ren := ⟨fun | 145 => 191 | 220 => 246 | 219 => 273 | 217 => 290 | 225 => 291 | 224 => 292 | 267 => 293 | 266 => 300 | 314 => 301 | n => n, fun | 9 => 9 | 4 => 4 | 59 => 196 | 3 => 3 | 5 => 5 | 46 => 262 | 146 => 294 | 51 => 281 | n => n, fun | 1 => 3 | n => n⟩
theorem Tryz.lays145 : Go.Proofs.Lays.n145 Tryz.prog Tryz.lays145_ren := {
  mixed := by kernel_rfl
  f145 := Tryz.func191.trans (congrArg some (by kernel_rfl))
  f217 := Tryz.func290.trans (congrArg some (by kernel_rfl))
  f219 := Tryz.func273.trans (congrArg some (by kernel_rfl))
  f220 := Tryz.func246.trans (congrArg some (by kernel_rfl))
  f224 := Tryz.func292.trans (congrArg some (by kernel_rfl))
  f225 := Tryz.func291.trans (congrArg some (by kernel_rfl))
  f266 := Tryz.func300.trans (congrArg some (by kernel_rfl))
  f267 := Tryz.func293.trans (congrArg some (by kernel_rfl))
  f314 := Tryz.func301.trans (congrArg some (by kernel_rfl))
  t3 := Tryz.underlying3
  a3 := Tryz.isAgg3
  z3 := Tryz.sizeOf3
  v3 := Tryz.zeroValue3
  t4 := Tryz.underlying4
  a4 := Tryz.isAgg4
  z4 := Tryz.sizeOf4
  v4 := Tryz.zeroValue4
  t5 := Tryz.underlying5
  a5 := Tryz.isAgg5
  z5 := Tryz.sizeOf5
  v5 := Tryz.zeroValue5
  t9 := Tryz.underlying9
  a9 := Tryz.isAgg9
  z9 := Tryz.sizeOf9
  v9 := Tryz.zeroValue9
  t46 := Tryz.underlying262
  a46 := Tryz.isAgg262
  z46 := Tryz.sizeOf262
  v46 := Tryz.zeroValue262
  t51 := Tryz.underlying281
  a51 := Tryz.isAgg281
  z51 := Tryz.sizeOf281
  v51 := Tryz.zeroValue281
  t59 := Tryz.underlying196
  a59 := Tryz.isAgg196
  z59 := Tryz.sizeOf196
  v59 := Tryz.zeroValue196
  t146 := Tryz.underlying294
  a146 := Tryz.isAgg294
  z146 := Tryz.sizeOf294
  v146 := Tryz.zeroValue294
  g1 := by kernel_rfl }
open Go.RowKit Go.Lib in
theorem Tryz.strings_Cut (s sep : ByteArray) (m : Int) (w : World) (hs : s.size < 4294967281) (hm : w.cell? ⟨3, 0, none⟩ = some (.int .i64 m)) :
    Calls Tryz.prog 191 #[.string s, .string sep] w fun e w' => e = .returned (.tuple #[.string ⟨(Lib.cut s.data.toList sep.data.toList).1.toArray⟩, .string ⟨(Lib.cut s.data.toList sep.data.toList).2.1.toArray⟩, .bool (Lib.cut s.data.toList sep.data.toList).2.2]) ∧ ∃ n, w' = w.drewN n := Any.strings_Cut Tryz.lays145 s sep m w hs hm
def Tryz.lays99_ren : Go.Shelf.Ren := ⟨fun | 99 => 143 | 206 => 197 | n => n, fun | 9 => 9 | 4 => 4 | 3 => 3 | n => n, fun | n => n⟩
theorem Tryz.lays99 : Go.Proofs.Lays.n99 Tryz.prog Tryz.lays99_ren := {
  mixed := by kernel_rfl
  f99 := Tryz.func143.trans (congrArg some (by kernel_rfl))
  f206 := Tryz.func197.trans (congrArg some (by kernel_rfl))
  t3 := Tryz.underlying3
  a3 := Tryz.isAgg3
  z3 := Tryz.sizeOf3
  v3 := Tryz.zeroValue3
  t4 := Tryz.underlying4
  a4 := Tryz.isAgg4
  z4 := Tryz.sizeOf4
  v4 := Tryz.zeroValue4
  t9 := Tryz.underlying9
  a9 := Tryz.isAgg9
  z9 := Tryz.sizeOf9
  v9 := Tryz.zeroValue9 }
open Go.RowKit Go.Lib in
theorem Tryz.strings_HasPrefix (s p : ByteArray) (w : World) :
    Calls Tryz.prog 143 #[.string s, .string p] w fun e w' => e = .returned (.bool (Lib.hasPrefix s.data.toList p.data.toList)) ∧ w' = w := Any.strings_HasPrefix Tryz.lays99 s p w
def Tryz.lays101_ren : Go.Shelf.Ren := ⟨fun | 101 => 137 | 208 => 193 | 206 => 197 | n => n, fun | 9 => 9 | 4 => 4 | 3 => 3 | n => n, fun | n => n⟩
theorem Tryz.lays101 : Go.Proofs.Lays.n101 Tryz.prog Tryz.lays101_ren := {
  mixed := by kernel_rfl
  f101 := Tryz.func137.trans (congrArg some (by kernel_rfl))
  f206 := Tryz.func197.trans (congrArg some (by kernel_rfl))
  f208 := Tryz.func193.trans (congrArg some (by kernel_rfl))
  t3 := Tryz.underlying3
  a3 := Tryz.isAgg3
  z3 := Tryz.sizeOf3
  v3 := Tryz.zeroValue3
  t4 := Tryz.underlying4
  a4 := Tryz.isAgg4
  z4 := Tryz.sizeOf4
  v4 := Tryz.zeroValue4
  t9 := Tryz.underlying9
  a9 := Tryz.isAgg9
  z9 := Tryz.sizeOf9
  v9 := Tryz.zeroValue9 }
open Go.RowKit Go.Lib in
theorem Tryz.strings_TrimPrefix (s p : ByteArray) (w : World) :
    Calls Tryz.prog 137 #[.string s, .string p] w fun e w' => e = .returned (.string ⟨(Lib.trimPrefix s.data.toList p.data.toList).toArray⟩) ∧ w' = w := Any.strings_TrimPrefix Tryz.lays101 s p w
def Tryz.lays105_ren : Go.Shelf.Ren := ⟨fun | 105 => 242 | 212 => 270 | 99 => 143 | 165 => 271 | 166 => 241 | 170 => 272 | 169 => 243 | 263 => 287 | 264 => 288 | 206 => 197 | 240 => 269 | 241 => 289 | 276 => 286 | 277 => 299 | n => n, fun | 9 => 9 | 3 => 3 | 4 => 4 | 20 => 20 | 0 => 0 | 46 => 262 | 109 => 273 | 5 => 5 | 72 => 246 | 76 => 130 | 51 => 281 | 146 => 294 | 53 => 252 | 148 => 296 | 70 => 244 | 37 => 236 | 75 => 129 | 127 => 277 | 164 => 292 | 80 => 249 | n => n, fun | n => n⟩
theorem Tryz.lays105 : Go.Proofs.Lays.n105 Tryz.prog Tryz.lays105_ren := {
  mixed := by kernel_rfl
  f99 := Tryz.func143.trans (congrArg some (by kernel_rfl))
  f105 := Tryz.func242.trans (congrArg some (by kernel_rfl))
  f165 := Tryz.func271.trans (congrArg some (by kernel_rfl))
  f166 := Tryz.func241.trans (congrArg some (by kernel_rfl))
  f169 := Tryz.func243.trans (congrArg some (by kernel_rfl))
  f170 := Tryz.func272.trans (congrArg some (by kernel_rfl))
  f206 := Tryz.func197.trans (congrArg some (by kernel_rfl))
  f212 := Tryz.func270.trans (congrArg some (by kernel_rfl))
  f240 := Tryz.func269.trans (congrArg some (by kernel_rfl))
  f241 := Tryz.func289.trans (congrArg some (by kernel_rfl))
  f263 := Tryz.func287.trans (congrArg some (by kernel_rfl))
  f264 := Tryz.func288.trans (congrArg some (by kernel_rfl))
  f276 := Tryz.func286.trans (congrArg some (by kernel_rfl))
  f277 := Tryz.func299.trans (congrArg some (by kernel_rfl))
  t0 := Tryz.underlying0
  a0 := Tryz.isAgg0
  z0 := Tryz.sizeOf0
  v0 := Tryz.zeroValue0
  t3 := Tryz.underlying3
  a3 := Tryz.isAgg3
  z3 := Tryz.sizeOf3
  v3 := Tryz.zeroValue3
  t4 := Tryz.underlying4
  a4 := Tryz.isAgg4
  z4 := Tryz.sizeOf4
  v4 := Tryz.zeroValue4
  t5 := Tryz.underlying5
  a5 := Tryz.isAgg5
  z5 := Tryz.sizeOf5
  v5 := Tryz.zeroValue5
  t9 := Tryz.underlying9
  a9 := Tryz.isAgg9
  z9 := Tryz.sizeOf9
  v9 := Tryz.zeroValue9
  t20 := Tryz.underlying20
  a20 := Tryz.isAgg20
  z20 := Tryz.sizeOf20
  v20 := Tryz.zeroValue20
  t37 := Tryz.underlying236
  a37 := Tryz.isAgg236
  z37 := Tryz.sizeOf236
  v37 := Tryz.zeroValue236
  t46 := Tryz.underlying262
  a46 := Tryz.isAgg262
  z46 := Tryz.sizeOf262
  v46 := Tryz.zeroValue262
  t51 := Tryz.underlying281
  a51 := Tryz.isAgg281
  z51 := Tryz.sizeOf281
  v51 := Tryz.zeroValue281
  t53 := Tryz.underlying252
  a53 := Tryz.isAgg252
  z53 := Tryz.sizeOf252
  v53 := Tryz.zeroValue252
  t70 := Tryz.underlying244
  a70 := Tryz.isAgg244
  z70 := Tryz.sizeOf244
  v70 := Tryz.zeroValue244
  t72 := Tryz.underlying246
  a72 := Tryz.isAgg246
  z72 := Tryz.sizeOf246
  v72 := Tryz.zeroValue246
  t75 := Tryz.underlying129
  a75 := Tryz.isAgg129
  z75 := Tryz.sizeOf129
  v75 := Tryz.zeroValue129
  t76 := Tryz.underlying130
  a76 := Tryz.isAgg130
  z76 := Tryz.sizeOf130
  v76 := Tryz.zeroValue130
  t109 := Tryz.underlying273
  a109 := Tryz.isAgg273
  z109 := Tryz.sizeOf273
  v109 := Tryz.zeroValue273
  t127 := Tryz.underlying277
  a127 := Tryz.isAgg277
  z127 := Tryz.sizeOf277
  v127 := Tryz.zeroValue277
  t146 := Tryz.underlying294
  a146 := Tryz.isAgg294
  z146 := Tryz.sizeOf294
  v146 := Tryz.zeroValue294
  t148 := Tryz.underlying296
  a148 := Tryz.isAgg296
  z148 := Tryz.sizeOf296
  v148 := Tryz.zeroValue296
  t164 := Tryz.underlying292
  a164 := Tryz.isAgg292
  z164 := Tryz.sizeOf292
  v164 := Tryz.zeroValue292 }
theorem Tryz.Builder_Extra_105 : Builder.Extra Tryz.prog Tryz.lays105_ren := {
  sizeBuilder := by kernel_rfl
  liesBuilder := by kernel_rfl
  t5 := Tryz.underlying5
  a5 := Tryz.isAgg5
  z5 := Tryz.sizeOf5
  v5 := Tryz.zeroValue5
  infoByte := by kernel_rfl
  cellsByte := by kernel_rfl
  sizeByte := by kernel_rfl
  neB5 := by decide }
open Go.RowKit Go.Lib in
theorem Tryz.strings_Repeat (s : ByteArray) (c : Nat) (w : World) (hc : c ≤ 9223372036854775807) (hlen : s.size * c ≤ 140737488355328) :
    Calls Tryz.prog 242 #[.string s, .int .i64 c] w fun e w' => e = .returned (.string ⟨(Lib.repeatL s.data.toList c).toArray⟩) ∧ Below w.heap.size w w' := Any.strings_Repeat Tryz.lays105 Tryz.Builder_Extra_105 s c w hc hlen
end Go.Proofs
