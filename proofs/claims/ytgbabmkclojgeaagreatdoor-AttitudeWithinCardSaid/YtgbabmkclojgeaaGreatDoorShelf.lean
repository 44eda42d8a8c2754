/- THE SHELF's CONTRACTS AT THIS TRANSLATION, in plain words (out of the kit's lay-plain): those that the proof uses. -/
import Derived.Shelf.Strings.Builder1
import Derived.Shelf.Strings.Builder2
import Derived.Shelf.Small.Wraps
import Derived.Shelf.Strings.BuilderF
import Derived.Shelf.Strings.BuilderK
import Derived.Shelf.Strings.Builder2Cap
import Derived.Shelf.Strconv.Itoa0
import Derived.Shelf.Strconv.Itoa1
import Derived.Shelf.LaysM
import Derived.Shelf.Strconv.Itoa2
import Derived.Shelf.Strconv.Itoa3
import Derived.Shelf.Strconv.Itoa4
import Derived.Shelf.Strconv.ParseIntEmpty
import Derived.Shelf.Strconv.Clone
import Derived.Shelf.Strconv.SyntaxError
import Derived.Shelf.LaysC
import Derived.Shelf.Strconv.ToError
import Derived.Shelf.Strconv.Lower
import Derived.Shelf.Strconv.ParseUint10
import Derived.Shelf.Strconv.ParseUint10Empty
import Derived.Shelf.Strconv.ParseUint10Any
import Derived.Shelf.Strconv.ParseInt10
import Derived.Shelf.Strconv.RangeError
import Derived.Shelf.Strconv.ToErrorRange
import Derived.Shelf.Strconv.ParseUintEmpty
import Derived.Shelf.Strconv.ParseUint10b64
import Derived.Shelf.Strconv.ParseUint10b32
import Derived.Shelf.Strconv.ParseUint10b16
import Derived.Shelf.Strconv.ParseUint10b8
import Derived.Shelf.Strconv.ParseUint10At
import Derived.Shelf.Strconv.ParseInt10At64
import Derived.Shelf.Strconv.ParseInt10At32
import Derived.Shelf.Strconv.ParseInt10At16
import Derived.Shelf.Strconv.ParseInt10At8
import Derived.Shelf.Strconv.ParseInt10All
import Derived.Shelf.Strconv.ParseIntPublic10
import Derived.Shelf.Strconv.ErrVarParseInt
import Derived.Ground.MpProg
import Derived.Shelf.Pu.ParseUintPublic10
import Derived.Shelf.Pu.ErrVarParseUint
import Derived.Shelf.Strings.Search1
import Derived.Shelf.Strings.Search2
import Derived.Shelf.Strings.Cut
import Derived.Shelf.Strings.Shaped
import Derived.Shelf.Strings.Prefix
import Derived.Shelf.Bits.Mul64
import Derived.Shelf.Strings.Repeat
import Derived.Shelf.Strings.BuilderCap
import Derived.Ground.Names2Prog
import Derived.Shelf.Slices.SearchI
import Derived.Test.YtgbabmkclojgeaaGreatDoorProg
namespace Go.Proofs
open Go.Shelf
def Tryz.lays169_ren : Go.Shelf.Ren := ⟨fun | 169 => 253 | n => n, fun | 70 => 265 | 9 => 9 | 0 => 0 | 72 => 267 | 37 => 181 | 127 => 287 | 3 => 3 | 5 => 5 | n => n, fun | n => n⟩
theorem Tryz.lays169 : Go.Proofs.Lays.n169 Tryz.prog Tryz.lays169_ren := {
  mixed := by kernel_rfl
  f169 := Tryz.func253.trans (congrArg some (by kernel_rfl))
  t0 := Tryz.underlying0
  a0 := Tryz.isAgg0
  z0 := Tryz.sizeOf0
  v0 := Tryz.zeroValue0
  t3 := Tryz.underlying3
  a3 := Tryz.isAgg3
  z3 := Tryz.sizeOf3
  v3 := Tryz.zeroValue3
  t9 := Tryz.underlying9
  a9 := Tryz.isAgg9
  z9 := Tryz.sizeOf9
  v9 := Tryz.zeroValue9
  t37 := Tryz.underlying181
  a37 := Tryz.isAgg181
  z37 := Tryz.sizeOf181
  v37 := Tryz.zeroValue181
  t70 := Tryz.underlying265
  a70 := Tryz.isAgg265
  z70 := Tryz.sizeOf265
  v70 := Tryz.zeroValue265
  t72 := Tryz.underlying267
  a72 := Tryz.isAgg267
  z72 := Tryz.sizeOf267
  v72 := Tryz.zeroValue267
  t127 := Tryz.underlying287
  a127 := Tryz.isAgg287
  z127 := Tryz.sizeOf287
  v127 := Tryz.zeroValue287 }
theorem Tryz.Builder_Extra_169 : Builder.Extra Tryz.prog Tryz.lays169_ren := {
  sizeBuilder := by kernel_rfl
  liesBuilder := by kernel_rfl
  t5 := Tryz.underlying5
  a5 := Tryz.isAgg5
  z5 := Tryz.sizeOf5
  v5 := Tryz.zeroValue5
  infoByte := by kernel_rfl
  cellsByte := by kernel_rfl
  sizeByte := by kernel_rfl
  neB5 := by decide }
def Tryz.lays103_ren : Go.Shelf.Ren := ⟨fun | 103 => 208 | 210 => 229 | 206 => 246 | n => n, fun | 9 => 9 | 4 => 4 | 24 => 229 | 3 => 3 | n => n, fun | n => n⟩
theorem Tryz.lays103 : Go.Proofs.Lays.n103 Tryz.prog Tryz.lays103_ren := {
  mixed := by kernel_rfl
  f103 := Tryz.func208.trans (congrArg some (by kernel_rfl))
  f206 := Tryz.func246.trans (congrArg some (by kernel_rfl))
  f210 := Tryz.func229.trans (congrArg some (by kernel_rfl))
  t3 := Tryz.underlying3
  a3 := Tryz.isAgg3
  z3 := Tryz.sizeOf3
  v3 := Tryz.zeroValue3
  t4 := Tryz.underlying4
  a4 := Tryz.isAgg4
  z4 := Tryz.sizeOf4
  v4 := Tryz.zeroValue4
  t9 := Tryz.underlying9
  a9 := Tryz.isAgg9
  z9 := Tryz.sizeOf9
  v9 := Tryz.zeroValue9
  t24 := Tryz.underlying229
  a24 := Tryz.isAgg229
  z24 := Tryz.sizeOf229
  v24 := Tryz.zeroValue229 }
open Go.RowKit in
theorem Tryz.strings_CutPrefix (s p : ByteArray) (w : World) :
    Calls Tryz.prog 208 #[.string s, .string p] w fun e w' => e = .returned (.tuple #[.string ⟨(Lib.trimPrefix s.data.toList p.data.toList).toArray⟩, .bool (Lib.hasPrefix s.data.toList p.data.toList)]) ∧ w' = w := Any.strings_CutPrefix Tryz.lays103 s p w
open Go.RowKit in
theorem Tryz.Builder_String_k (B b : Nat) (l : List UInt8) (w : World) (h : Lib.IsBuilderF 267 5 B b (Lib.byteCells l) w) (h0 : l ≠ []) :
    Calls Tryz.prog 253 #[.pointer (some ⟨b, 0, none⟩)] w fun e w' => e = .returned (.string ⟨l.toArray⟩) ∧ (Lib.IsBuilderF 267 5 B b (Lib.byteCells l) w' ∧ Below B w w' ∧ Lib.OthersKept 5 (some b) w w') := Any.Builder_String_k Tryz.lays169 Tryz.Builder_Extra_169 B b l w h h0
def Tryz.lays283_ren : Go.Shelf.Ren := ⟨fun | 283 => 283 | n => n, fun | 3 => 3 | 9 => 9 | 4 => 4 | n => n, fun | n => n⟩
theorem Tryz.lays283 : Go.Proofs.Lays.n283 Tryz.prog Tryz.lays283_ren := {
  mixed := by kernel_rfl
  f283 := Tryz.func283.trans (congrArg some (by kernel_rfl))
  t3 := Tryz.underlying3
  a3 := Tryz.isAgg3
  z3 := Tryz.sizeOf3
  v3 := Tryz.zeroValue3
  t4 := Tryz.underlying4
  a4 := Tryz.isAgg4
  z4 := Tryz.sizeOf4
  v4 := Tryz.zeroValue4
  t9 := Tryz.underlying9
  a9 := Tryz.isAgg9
  z9 := Tryz.sizeOf9
  v9 := Tryz.zeroValue9 }
open Go.Lib in
theorem Tryz.internal_strconv_small (i : Nat) (h : i < 100) (w : World) :
    Calls Tryz.prog 283 #[.int .i64 i] w fun e w' => e = .returned (.string ⟨(Lib.decDigits i).toArray⟩) ∧ w' = w := Any.internal_strconv_small Tryz.lays283 i h w
def Tryz.laysM284_ren : Go.Shelf.Ren := ⟨fun | 284 => 284 | 129 => 297 | 317 => 296 | 318 => 298 | n => n, fun | 53 => 176 | 3 => 3 | 212 => 315 | 0 => 0 | 4 => 4 | 46 => 246 | 5 => 5 | 9 => 9 | n => n, fun | 17 => 3 | n => n⟩
theorem Tryz.laysM284 : Go.Proofs.LaysM.n284 Tryz.prog Tryz.laysM284_ren := {
  mixed := by kernel_rfl
  f129 := Tryz.func297.trans (congrArg some (by kernel_rfl))
  f284 := Tryz.func284.trans (congrArg some (by kernel_rfl))
  f317 := Tryz.func296.trans (congrArg some (by kernel_rfl))
  f318 := Tryz.func298.trans (congrArg some (by kernel_rfl))
  t0 := Tryz.underlying0
  a0 := Tryz.isAgg0
  z0 := Tryz.sizeOf0
  v0 := Tryz.zeroValue0
  t3 := Tryz.underlying3
  a3 := Tryz.isAgg3
  z3 := Tryz.sizeOf3
  v3 := Tryz.zeroValue3
  t4 := Tryz.underlying4
  a4 := Tryz.isAgg4
  z4 := Tryz.sizeOf4
  v4 := Tryz.zeroValue4
  t5 := Tryz.underlying5
  a5 := Tryz.isAgg5
  z5 := Tryz.sizeOf5
  v5 := Tryz.zeroValue5
  t9 := Tryz.underlying9
  a9 := Tryz.isAgg9
  z9 := Tryz.sizeOf9
  v9 := Tryz.zeroValue9
  t46 := Tryz.underlying246
  a46 := Tryz.isAgg246
  z46 := Tryz.sizeOf246
  v46 := Tryz.zeroValue246
  t53 := Tryz.underlying176
  a53 := Tryz.isAgg176
  z53 := Tryz.sizeOf176
  v53 := Tryz.zeroValue176
  t212 := Tryz.underlying315
  a212 := Tryz.isAgg315
  z212 := Tryz.sizeOf315
  v212 := Tryz.zeroValue315
  g17 := by kernel_rfl
  i0 := by kernel_rfl
  i3 := by kernel_rfl
  i4 := by kernel_rfl
  i5 := by kernel_rfl
  i9 := by kernel_rfl
  i46 := by kernel_rfl
  i53 := by kernel_rfl
  i212 := by kernel_rfl
  m17 := by kernel_rfl }
open Go.Lib in
theorem Tryz.internal_strconv_numDigits (u : Nat) (h1 : 1 ≤ u) (h2 : u < 18446744073709551616) (w : World) (htab : Lib.TabIs Tryz.prog w "internal/strconv.uint64pow10" .u64 Lib.pow10Tab) :
    Calls Tryz.prog 284 #[.int .u64 u] w fun e w' => e = .returned (.int .i64 (Lib.nDigits u)) ∧ w' = w := Any.internal_strconv_numDigits Tryz.laysM284 u h1 h2 w htab
def Tryz.lays285_ren : Go.Shelf.Ren := ⟨fun | 285 => 285 | n => n, fun | 37 => 181 | 53 => 176 | 3 => 3 | 4 => 4 | 51 => 141 | 9 => 9 | 5 => 5 | 0 => 0 | n => n, fun | n => n⟩
theorem Tryz.lays285 : Go.Proofs.Lays.n285 Tryz.prog Tryz.lays285_ren := {
  mixed := by kernel_rfl
  f285 := Tryz.func285.trans (congrArg some (by kernel_rfl))
  t0 := Tryz.underlying0
  a0 := Tryz.isAgg0
  z0 := Tryz.sizeOf0
  v0 := Tryz.zeroValue0
  t3 := Tryz.underlying3
  a3 := Tryz.isAgg3
  z3 := Tryz.sizeOf3
  v3 := Tryz.zeroValue3
  t4 := Tryz.underlying4
  a4 := Tryz.isAgg4
  z4 := Tryz.sizeOf4
  v4 := Tryz.zeroValue4
  t5 := Tryz.underlying5
  a5 := Tryz.isAgg5
  z5 := Tryz.sizeOf5
  v5 := Tryz.zeroValue5
  t9 := Tryz.underlying9
  a9 := Tryz.isAgg9
  z9 := Tryz.sizeOf9
  v9 := Tryz.zeroValue9
  t37 := Tryz.underlying181
  a37 := Tryz.isAgg181
  z37 := Tryz.sizeOf181
  v37 := Tryz.zeroValue181
  t51 := Tryz.underlying141
  a51 := Tryz.isAgg141
  z51 := Tryz.sizeOf141
  v51 := Tryz.zeroValue141
  t53 := Tryz.underlying176
  a53 := Tryz.isAgg176
  z53 := Tryz.sizeOf176
  v53 := Tryz.zeroValue176 }
open Go.RowKit Go.Sort Go.Lib in
theorem Tryz.internal_strconv_formatBase10 (blk off cap : Nat) (u : Nat) (d : Array UInt8) (w : World) (hH : Holds (fun (b : UInt8) => Value.int .u8 (b.toNat : Int)) w blk off d) (hu : u < 10 ^ d.size) (hu64 : u < 18446744073709551616) (hsz : d.size < 4611686018427387904) :
    Calls Tryz.prog 285 #[.slice (some ⟨blk, off, none⟩) d.size cap, .int .u64 u] w fun e w' =>
      e = .returned (.tuple #[]) ∧ ∃ (n v' : Nat) (dk : Array UInt8), w' = (putRow (fun (b : UInt8) => Value.int .u8 (b.toNat : Int)) w blk off dk).drewN n ∧ FmtInv d.size u 0 v' dk := Any.internal_strconv_formatBase10 Tryz.lays285 blk off cap u d w hH hu hu64 hsz
def Tryz.laysM173_ren : Go.Shelf.Ren := ⟨fun | 173 => 259 | 246 => 275 | 283 => 283 | 284 => 284 | 285 => 285 | 286 => 286 | 129 => 297 | 317 => 296 | 318 => 298 | 319 => 299 | 320 => 300 | 337 => 303 | 338 => 304 | n => n, fun | 2 => 2 | 3 => 3 | 9 => 9 | 4 => 4 | 171 => 299 | 0 => 0 | 53 => 176 | 37 => 181 | 5 => 5 | 173 => 302 | 212 => 315 | 51 => 141 | 20 => 20 | 213 => 316 | 46 => 246 | 232 => 323 | 233 => 324 | n => n, fun | 17 => 3 | 18 => 4 | 19 => 5 | n => n⟩
theorem Tryz.laysM173 : Go.Proofs.LaysM.n173 Tryz.prog Tryz.laysM173_ren := {
  mixed := by kernel_rfl
  f129 := Tryz.func297.trans (congrArg some (by kernel_rfl))
  f173 := Tryz.func259.trans (congrArg some (by kernel_rfl))
  f246 := Tryz.func275.trans (congrArg some (by kernel_rfl))
  f283 := Tryz.func283.trans (congrArg some (by kernel_rfl))
  f284 := Tryz.func284.trans (congrArg some (by kernel_rfl))
  f285 := Tryz.func285.trans (congrArg some (by kernel_rfl))
  f286 := Tryz.func286.trans (congrArg some (by kernel_rfl))
  f317 := Tryz.func296.trans (congrArg some (by kernel_rfl))
  f318 := Tryz.func298.trans (congrArg some (by kernel_rfl))
  f319 := Tryz.func299.trans (congrArg some (by kernel_rfl))
  f320 := Tryz.func300.trans (congrArg some (by kernel_rfl))
  f337 := Tryz.func303.trans (congrArg some (by kernel_rfl))
  f338 := Tryz.func304.trans (congrArg some (by kernel_rfl))
  t0 := Tryz.underlying0
  a0 := Tryz.isAgg0
  z0 := Tryz.sizeOf0
  v0 := Tryz.zeroValue0
  t2 := Tryz.underlying2
  a2 := Tryz.isAgg2
  z2 := Tryz.sizeOf2
  v2 := Tryz.zeroValue2
  t3 := Tryz.underlying3
  a3 := Tryz.isAgg3
  z3 := Tryz.sizeOf3
  v3 := Tryz.zeroValue3
  t4 := Tryz.underlying4
  a4 := Tryz.isAgg4
  z4 := Tryz.sizeOf4
  v4 := Tryz.zeroValue4
  t5 := Tryz.underlying5
  a5 := Tryz.isAgg5
  z5 := Tryz.sizeOf5
  v5 := Tryz.zeroValue5
  t9 := Tryz.underlying9
  a9 := Tryz.isAgg9
  z9 := Tryz.sizeOf9
  v9 := Tryz.zeroValue9
  t20 := Tryz.underlying20
  a20 := Tryz.isAgg20
  z20 := Tryz.sizeOf20
  v20 := Tryz.zeroValue20
  t37 := Tryz.underlying181
  a37 := Tryz.isAgg181
  z37 := Tryz.sizeOf181
  v37 := Tryz.zeroValue181
  t46 := Tryz.underlying246
  a46 := Tryz.isAgg246
  z46 := Tryz.sizeOf246
  v46 := Tryz.zeroValue246
  t51 := Tryz.underlying141
  a51 := Tryz.isAgg141
  z51 := Tryz.sizeOf141
  v51 := Tryz.zeroValue141
  t53 := Tryz.underlying176
  a53 := Tryz.isAgg176
  z53 := Tryz.sizeOf176
  v53 := Tryz.zeroValue176
  t171 := Tryz.underlying299
  a171 := Tryz.isAgg299
  z171 := Tryz.sizeOf299
  v171 := Tryz.zeroValue299
  t173 := Tryz.underlying302
  a173 := Tryz.isAgg302
  z173 := Tryz.sizeOf302
  v173 := Tryz.zeroValue302
  t212 := Tryz.underlying315
  a212 := Tryz.isAgg315
  z212 := Tryz.sizeOf315
  v212 := Tryz.zeroValue315
  t213 := Tryz.underlying316
  a213 := Tryz.isAgg316
  z213 := Tryz.sizeOf316
  t232 := Tryz.underlying323
  a232 := Tryz.isAgg323
  z232 := Tryz.sizeOf323
  v232 := Tryz.zeroValue323
  t233 := Tryz.underlying324
  a233 := Tryz.isAgg324
  z233 := Tryz.sizeOf324
  v233 := Tryz.zeroValue324
  g17 := by kernel_rfl
  g18 := by kernel_rfl
  g19 := by kernel_rfl
  i0 := by kernel_rfl
  i2 := by kernel_rfl
  i3 := by kernel_rfl
  i4 := by kernel_rfl
  i5 := by kernel_rfl
  i9 := by kernel_rfl
  i20 := by kernel_rfl
  i37 := by kernel_rfl
  i46 := by kernel_rfl
  i51 := by kernel_rfl
  i53 := by kernel_rfl
  i171 := by kernel_rfl
  i173 := by kernel_rfl
  i212 := by kernel_rfl
  i232 := by kernel_rfl
  i233 := by kernel_rfl
  m17 := by kernel_rfl
  m18 := by kernel_rfl
  m19 := by kernel_rfl }
open Go.RowKit Go.Sort Go.Lib in
theorem Tryz.strconv_FormatInt_10 (n : Int) (h0 : -9223372036854775808 ≤ n) (h1 : n ≤ 9223372036854775807) (w : World) (htab : Lib.TabIs Tryz.prog w "internal/strconv.uint64pow10" .u64 Lib.pow10Tab) :
    Calls Tryz.prog 259 #[.int .i64 n, .int .i64 10] w fun e w' => e = .returned (.string ⟨(Lib.itoa n).toArray⟩) ∧ ∃ k os, w' = grow (w.drewN k) os := Any.strconv_FormatInt_10 Tryz.laysM173 n h0 h1 w htab
def Tryz.laysC174_ren : Go.Shelf.Ren := ⟨fun | 174 => 258 | 247 => 274 | 245 => 263 | 287 => 262 | 279 => 279 | 280 => 280 | 281 => 281 | 282 => 282 | 321 => 277 | 322 => 278 | 316 => 293 | 171 => 295 | 205 => 294 | 243 => 302 | 246 => 275 | 283 => 283 | 284 => 284 | 285 => 285 | 286 => 286 | 129 => 297 | 317 => 296 | 318 => 298 | 319 => 299 | 320 => 300 | 337 => 303 | 338 => 304 | n => n, fun | 9 => 9 | 3 => 3 | 2 => 2 | 75 => 261 | 85 => 277 | 4 => 4 | 167 => 293 | 5 => 5 | 53 => 176 | 175 => 262 | 46 => 246 | 168 => 295 | 37 => 181 | 0 => 0 | 210 => 313 | 21 => 21 | 127 => 287 | 145 => 321 | 143 => 319 | 171 => 299 | 173 => 302 | 212 => 315 | 51 => 141 | 20 => 20 | 213 => 316 | 232 => 323 | 233 => 324 | 80 => 226 | n => n, fun | 15 => 1 | 16 => 2 | 17 => 3 | 18 => 4 | 19 => 5 | n => n⟩
theorem Tryz.laysC174 : Go.Proofs.LaysC.n174 Tryz.prog Tryz.laysC174_ren := {
  mixed := by kernel_rfl
  f129 := Tryz.func297.trans (congrArg some (by kernel_rfl))
  f171 := Tryz.func295.trans (congrArg some (by kernel_rfl))
  f174 := Tryz.func258.trans (congrArg some (by kernel_rfl))
  f205 := Tryz.func294.trans (congrArg some (by kernel_rfl))
  f243 := Tryz.func302.trans (congrArg some (by kernel_rfl))
  f245 := Tryz.func263.trans (congrArg some (by kernel_rfl))
  f246 := Tryz.func275.trans (congrArg some (by kernel_rfl))
  f247 := Tryz.func274.trans (congrArg some (by kernel_rfl))
  f279 := Tryz.func279.trans (congrArg some (by kernel_rfl))
  f280 := Tryz.func280.trans (congrArg some (by kernel_rfl))
  f281 := Tryz.func281.trans (congrArg some (by kernel_rfl))
  f282 := Tryz.func282.trans (congrArg some (by kernel_rfl))
  f283 := Tryz.func283.trans (congrArg some (by kernel_rfl))
  f284 := Tryz.func284.trans (congrArg some (by kernel_rfl))
  f285 := Tryz.func285.trans (congrArg some (by kernel_rfl))
  f286 := Tryz.func286.trans (congrArg some (by kernel_rfl))
  f287 := Tryz.func262.trans (congrArg some (by kernel_rfl))
  f316 := Tryz.func293.trans (congrArg some (by kernel_rfl))
  f317 := Tryz.func296.trans (congrArg some (by kernel_rfl))
  f318 := Tryz.func298.trans (congrArg some (by kernel_rfl))
  f319 := Tryz.func299.trans (congrArg some (by kernel_rfl))
  f320 := Tryz.func300.trans (congrArg some (by kernel_rfl))
  f321 := Tryz.func277.trans (congrArg some (by kernel_rfl))
  f322 := Tryz.func278.trans (congrArg some (by kernel_rfl))
  f337 := Tryz.func303.trans (congrArg some (by kernel_rfl))
  f338 := Tryz.func304.trans (congrArg some (by kernel_rfl))
  t0 := Tryz.underlying0
  a0 := Tryz.isAgg0
  z0 := Tryz.sizeOf0
  v0 := Tryz.zeroValue0
  t2 := Tryz.underlying2
  a2 := Tryz.isAgg2
  z2 := Tryz.sizeOf2
  v2 := Tryz.zeroValue2
  t3 := Tryz.underlying3
  a3 := Tryz.isAgg3
  z3 := Tryz.sizeOf3
  v3 := Tryz.zeroValue3
  t4 := Tryz.underlying4
  a4 := Tryz.isAgg4
  z4 := Tryz.sizeOf4
  v4 := Tryz.zeroValue4
  t5 := Tryz.underlying5
  a5 := Tryz.isAgg5
  z5 := Tryz.sizeOf5
  v5 := Tryz.zeroValue5
  t9 := Tryz.underlying9
  a9 := Tryz.isAgg9
  z9 := Tryz.sizeOf9
  v9 := Tryz.zeroValue9
  t20 := Tryz.underlying20
  a20 := Tryz.isAgg20
  z20 := Tryz.sizeOf20
  v20 := Tryz.zeroValue20
  t21 := Tryz.underlying21
  a21 := Tryz.isAgg21
  z21 := Tryz.sizeOf21
  v21 := Tryz.zeroValue21
  t37 := Tryz.underlying181
  a37 := Tryz.isAgg181
  z37 := Tryz.sizeOf181
  v37 := Tryz.zeroValue181
  t46 := Tryz.underlying246
  a46 := Tryz.isAgg246
  z46 := Tryz.sizeOf246
  v46 := Tryz.zeroValue246
  t51 := Tryz.underlying141
  a51 := Tryz.isAgg141
  z51 := Tryz.sizeOf141
  v51 := Tryz.zeroValue141
  t53 := Tryz.underlying176
  a53 := Tryz.isAgg176
  z53 := Tryz.sizeOf176
  v53 := Tryz.zeroValue176
  t75 := Tryz.underlying261
  a75 := Tryz.isAgg261
  z75 := Tryz.sizeOf261
  v75 := Tryz.zeroValue261
  t85 := Tryz.underlying277
  a85 := Tryz.isAgg277
  z85 := Tryz.sizeOf277
  v85 := Tryz.zeroValue277
  t127 := Tryz.underlying287
  a127 := Tryz.isAgg287
  z127 := Tryz.sizeOf287
  v127 := Tryz.zeroValue287
  t143 := Tryz.underlying319
  a143 := Tryz.isAgg319
  z143 := Tryz.sizeOf319
  v143 := Tryz.zeroValue319
  t145 := Tryz.underlying321
  a145 := Tryz.isAgg321
  z145 := Tryz.sizeOf321
  v145 := Tryz.zeroValue321
  t167 := Tryz.underlying293
  a167 := Tryz.isAgg293
  z167 := Tryz.sizeOf293
  v167 := Tryz.zeroValue293
  t168 := Tryz.underlying295
  a168 := Tryz.isAgg295
  z168 := Tryz.sizeOf295
  v168 := Tryz.zeroValue295
  t171 := Tryz.underlying299
  a171 := Tryz.isAgg299
  z171 := Tryz.sizeOf299
  v171 := Tryz.zeroValue299
  t173 := Tryz.underlying302
  a173 := Tryz.isAgg302
  z173 := Tryz.sizeOf302
  v173 := Tryz.zeroValue302
  t175 := Tryz.underlying262
  a175 := Tryz.isAgg262
  z175 := Tryz.sizeOf262
  v175 := Tryz.zeroValue262
  t210 := Tryz.underlying313
  a210 := Tryz.isAgg313
  z210 := Tryz.sizeOf313
  v210 := Tryz.zeroValue313
  t212 := Tryz.underlying315
  a212 := Tryz.isAgg315
  z212 := Tryz.sizeOf315
  v212 := Tryz.zeroValue315
  t213 := Tryz.underlying316
  a213 := Tryz.isAgg316
  z213 := Tryz.sizeOf316
  t232 := Tryz.underlying323
  a232 := Tryz.isAgg323
  z232 := Tryz.sizeOf323
  v232 := Tryz.zeroValue323
  t233 := Tryz.underlying324
  a233 := Tryz.isAgg324
  z233 := Tryz.sizeOf324
  v233 := Tryz.zeroValue324
  g15 := by kernel_rfl
  g16 := by kernel_rfl
  g17 := by kernel_rfl
  g18 := by kernel_rfl
  g19 := by kernel_rfl
  t80 := Tryz.underlying226
  a80 := Tryz.isAgg226
  z80 := Tryz.sizeOf226
  v80 := Tryz.zeroValue226
  i0 := by kernel_rfl
  i2 := by kernel_rfl
  i3 := by kernel_rfl
  i4 := by kernel_rfl
  i5 := by kernel_rfl
  i9 := by kernel_rfl
  i20 := by kernel_rfl
  i21 := by kernel_rfl
  i37 := by kernel_rfl
  i46 := by kernel_rfl
  i51 := by kernel_rfl
  i53 := by kernel_rfl
  i75 := by kernel_rfl
  i80 := by kernel_rfl
  i85 := by kernel_rfl
  i127 := by kernel_rfl
  i143 := by kernel_rfl
  i145 := by kernel_rfl
  i167 := by kernel_rfl
  i168 := by kernel_rfl
  i171 := by kernel_rfl
  i173 := by kernel_rfl
  i175 := by kernel_rfl
  i210 := by kernel_rfl
  i212 := by kernel_rfl
  i232 := by kernel_rfl
  i233 := by kernel_rfl
  m15 := by kernel_rfl
  m16 := by kernel_rfl
  m17 := by kernel_rfl
  m18 := by kernel_rfl
  m19 := by kernel_rfl
  c0 := by kernel_rfl
  c2 := by kernel_rfl
  c3 := by kernel_rfl
  c4 := by kernel_rfl
  c5 := by kernel_rfl
  c9 := by kernel_rfl
  c20 := by kernel_rfl
  c21 := by kernel_rfl
  c37 := by kernel_rfl
  c46 := by kernel_rfl
  c51 := by kernel_rfl
  c53 := by kernel_rfl
  c75 := by kernel_rfl
  c80 := by kernel_rfl
  c85 := by kernel_rfl
  c127 := by kernel_rfl
  c143 := by kernel_rfl
  c145 := by kernel_rfl
  c167 := by kernel_rfl
  c168 := by kernel_rfl
  c171 := by kernel_rfl
  c173 := by kernel_rfl
  c175 := by kernel_rfl
  c210 := by kernel_rfl
  c212 := by kernel_rfl
  c213 := by kernel_rfl
  c232 := by kernel_rfl
  c233 := by kernel_rfl }
open Go.RowKit in
theorem Tryz.strconv_ParseInt_10_at64_ok (s : ByteArray) (hmax : s.size ≤ 9223372036854775806) (v : Int) (h : Lib.parseIntB 64 s.data.toList = .ok v) (w : World) :
    Calls Tryz.prog 258 #[.string s, .int .i64 10, .int .i64 64] w fun e w' => e = .returned (.tuple #[.int .i64 v, .nilIface]) ∧ (w' = w ∨ ∃ t, w' = Lib.bytesWorld w 5 t) := Any.strconv_ParseInt_10_at64_ok Tryz.laysC174 s hmax v h w
def Tryz.laysPu14_ren : Go.Shelf.Ren := ⟨fun | 14 => 247 | 16 => 262 | 17 => 263 | 19 => 277 | 20 => 278 | 21 => 279 | 22 => 280 | 23 => 281 | 24 => 282 | 25 => 293 | 27 => 295 | 26 => 294 | 28 => 302 | 29 => 275 | 30 => 283 | 31 => 284 | 32 => 285 | 33 => 286 | 35 => 297 | 34 => 296 | 36 => 298 | 37 => 299 | 38 => 300 | 39 => 303 | 40 => 304 | n => n, fun | 9 => 9 | 3 => 3 | 22 => 176 | 24 => 261 | 25 => 262 | 4 => 4 | 34 => 293 | 5 => 5 | 36 => 246 | 37 => 181 | 0 => 0 | 39 => 295 | 21 => 21 | 44 => 313 | 47 => 287 | 50 => 321 | 48 => 319 | 2 => 2 | 52 => 299 | 55 => 302 | 59 => 315 | 60 => 141 | 20 => 20 | 61 => 316 | 65 => 323 | 66 => 324 | 67 => 226 | n => n, fun | 0 => 1 | 1 => 2 | 2 => 3 | 3 => 4 | 4 => 5 | n => n⟩
theorem Tryz.laysPu14 : Go.Proofs.LaysPu.n14 Tryz.prog Tryz.laysPu14_ren := {
  mixed := by kernel_rfl
  f14 := Tryz.func247.trans (congrArg some (by kernel_rfl))
  f16 := Tryz.func262.trans (congrArg some (by kernel_rfl))
  f17 := Tryz.func263.trans (congrArg some (by kernel_rfl))
  f19 := Tryz.func277.trans (congrArg some (by kernel_rfl))
  f20 := Tryz.func278.trans (congrArg some (by kernel_rfl))
  f21 := Tryz.func279.trans (congrArg some (by kernel_rfl))
  f22 := Tryz.func280.trans (congrArg some (by kernel_rfl))
  f23 := Tryz.func281.trans (congrArg some (by kernel_rfl))
  f24 := Tryz.func282.trans (congrArg some (by kernel_rfl))
  f25 := Tryz.func293.trans (congrArg some (by kernel_rfl))
  f26 := Tryz.func294.trans (congrArg some (by kernel_rfl))
  f27 := Tryz.func295.trans (congrArg some (by kernel_rfl))
  f28 := Tryz.func302.trans (congrArg some (by kernel_rfl))
  f29 := Tryz.func275.trans (congrArg some (by kernel_rfl))
  f30 := Tryz.func283.trans (congrArg some (by kernel_rfl))
  f31 := Tryz.func284.trans (congrArg some (by kernel_rfl))
  f32 := Tryz.func285.trans (congrArg some (by kernel_rfl))
  f33 := Tryz.func286.trans (congrArg some (by kernel_rfl))
  f34 := Tryz.func296.trans (congrArg some (by kernel_rfl))
  f35 := Tryz.func297.trans (congrArg some (by kernel_rfl))
  f36 := Tryz.func298.trans (congrArg some (by kernel_rfl))
  f37 := Tryz.func299.trans (congrArg some (by kernel_rfl))
  f38 := Tryz.func300.trans (congrArg some (by kernel_rfl))
  f39 := Tryz.func303.trans (congrArg some (by kernel_rfl))
  f40 := Tryz.func304.trans (congrArg some (by kernel_rfl))
  t0 := Tryz.underlying0
  a0 := Tryz.isAgg0
  z0 := Tryz.sizeOf0
  v0 := Tryz.zeroValue0
  i0 := by kernel_rfl
  t2 := Tryz.underlying2
  a2 := Tryz.isAgg2
  z2 := Tryz.sizeOf2
  v2 := Tryz.zeroValue2
  i2 := by kernel_rfl
  t3 := Tryz.underlying3
  a3 := Tryz.isAgg3
  z3 := Tryz.sizeOf3
  v3 := Tryz.zeroValue3
  i3 := by kernel_rfl
  t4 := Tryz.underlying4
  a4 := Tryz.isAgg4
  z4 := Tryz.sizeOf4
  v4 := Tryz.zeroValue4
  i4 := by kernel_rfl
  t5 := Tryz.underlying5
  a5 := Tryz.isAgg5
  z5 := Tryz.sizeOf5
  v5 := Tryz.zeroValue5
  i5 := by kernel_rfl
  t9 := Tryz.underlying9
  a9 := Tryz.isAgg9
  z9 := Tryz.sizeOf9
  v9 := Tryz.zeroValue9
  i9 := by kernel_rfl
  t20 := Tryz.underlying20
  a20 := Tryz.isAgg20
  z20 := Tryz.sizeOf20
  v20 := Tryz.zeroValue20
  i20 := by kernel_rfl
  t21 := Tryz.underlying21
  a21 := Tryz.isAgg21
  z21 := Tryz.sizeOf21
  v21 := Tryz.zeroValue21
  i21 := by kernel_rfl
  t22 := Tryz.underlying176
  a22 := Tryz.isAgg176
  z22 := Tryz.sizeOf176
  v22 := Tryz.zeroValue176
  i22 := by kernel_rfl
  t24 := Tryz.underlying261
  a24 := Tryz.isAgg261
  z24 := Tryz.sizeOf261
  v24 := Tryz.zeroValue261
  i24 := by kernel_rfl
  t25 := Tryz.underlying262
  a25 := Tryz.isAgg262
  z25 := Tryz.sizeOf262
  v25 := Tryz.zeroValue262
  i25 := by kernel_rfl
  t34 := Tryz.underlying293
  a34 := Tryz.isAgg293
  z34 := Tryz.sizeOf293
  v34 := Tryz.zeroValue293
  i34 := by kernel_rfl
  c34 := by kernel_rfl
  t36 := Tryz.underlying246
  a36 := Tryz.isAgg246
  z36 := Tryz.sizeOf246
  v36 := Tryz.zeroValue246
  i36 := by kernel_rfl
  t37 := Tryz.underlying181
  a37 := Tryz.isAgg181
  z37 := Tryz.sizeOf181
  v37 := Tryz.zeroValue181
  i37 := by kernel_rfl
  t39 := Tryz.underlying295
  a39 := Tryz.isAgg295
  z39 := Tryz.sizeOf295
  v39 := Tryz.zeroValue295
  i39 := by kernel_rfl
  t44 := Tryz.underlying313
  a44 := Tryz.isAgg313
  z44 := Tryz.sizeOf313
  v44 := Tryz.zeroValue313
  i44 := by kernel_rfl
  t47 := Tryz.underlying287
  a47 := Tryz.isAgg287
  z47 := Tryz.sizeOf287
  v47 := Tryz.zeroValue287
  i47 := by kernel_rfl
  t48 := Tryz.underlying319
  a48 := Tryz.isAgg319
  z48 := Tryz.sizeOf319
  v48 := Tryz.zeroValue319
  i48 := by kernel_rfl
  t50 := Tryz.underlying321
  a50 := Tryz.isAgg321
  z50 := Tryz.sizeOf321
  v50 := Tryz.zeroValue321
  i50 := by kernel_rfl
  t52 := Tryz.underlying299
  a52 := Tryz.isAgg299
  z52 := Tryz.sizeOf299
  v52 := Tryz.zeroValue299
  i52 := by kernel_rfl
  t55 := Tryz.underlying302
  a55 := Tryz.isAgg302
  z55 := Tryz.sizeOf302
  v55 := Tryz.zeroValue302
  i55 := by kernel_rfl
  t59 := Tryz.underlying315
  a59 := Tryz.isAgg315
  z59 := Tryz.sizeOf315
  v59 := Tryz.zeroValue315
  i59 := by kernel_rfl
  t60 := Tryz.underlying141
  a60 := Tryz.isAgg141
  z60 := Tryz.sizeOf141
  v60 := Tryz.zeroValue141
  i60 := by kernel_rfl
  t61 := Tryz.underlying316
  a61 := Tryz.isAgg316
  z61 := Tryz.sizeOf316
  t65 := Tryz.underlying323
  a65 := Tryz.isAgg323
  z65 := Tryz.sizeOf323
  v65 := Tryz.zeroValue323
  i65 := by kernel_rfl
  t66 := Tryz.underlying324
  a66 := Tryz.isAgg324
  z66 := Tryz.sizeOf324
  v66 := Tryz.zeroValue324
  i66 := by kernel_rfl
  t67 := Tryz.underlying226
  a67 := Tryz.isAgg226
  z67 := Tryz.sizeOf226
  v67 := Tryz.zeroValue226
  i67 := by kernel_rfl
  g0 := by kernel_rfl
  m0 := by kernel_rfl
  g1 := by kernel_rfl
  m1 := by kernel_rfl
  g2 := by kernel_rfl
  m2 := by kernel_rfl
  g3 := by kernel_rfl
  m3 := by kernel_rfl
  g4 := by kernel_rfl
  m4 := by kernel_rfl }
open Go.RowKit in
theorem Tryz.strconv_ParseUint_10_at32_ok (s : ByteArray) (hmax : s.size ≤ 9223372036854775806) (u : Nat) (h : Lib.parseUintB 32 s.data.toList = .ok u) (w : World) :
    Calls Tryz.prog 247 #[.string s, .int .i64 10, .int .i64 32] w fun e w' => e = .returned (.tuple #[.int .u64 u, .nilIface]) ∧ (w' = w ∨ w' = Lib.bytesWorld w 5 s) := Any.strconv_ParseUint_10_at32_ok Tryz.laysPu14 s hmax u h w
def Tryz.laysM145_ren : Go.Shelf.Ren := ⟨fun | 145 => 170 | 220 => 195 | 219 => 207 | 217 => 225 | 225 => 226 | 224 => 227 | 267 => 228 | 266 => 244 | 314 => 245 | n => n, fun | 9 => 9 | 4 => 4 | 59 => 134 | 3 => 3 | 5 => 5 | 46 => 246 | 146 => 257 | 51 => 141 | n => n, fun | 1 => 0 | n => n⟩
theorem Tryz.laysM145 : Go.Proofs.LaysM.n145 Tryz.prog Tryz.laysM145_ren := {
  mixed := by kernel_rfl
  f145 := Tryz.func170.trans (congrArg some (by kernel_rfl))
  f217 := Tryz.func225.trans (congrArg some (by kernel_rfl))
  f219 := Tryz.func207.trans (congrArg some (by kernel_rfl))
  f220 := Tryz.func195.trans (congrArg some (by kernel_rfl))
  f224 := Tryz.func227.trans (congrArg some (by kernel_rfl))
  f225 := Tryz.func226.trans (congrArg some (by kernel_rfl))
  f266 := Tryz.func244.trans (congrArg some (by kernel_rfl))
  f267 := Tryz.func228.trans (congrArg some (by kernel_rfl))
  f314 := Tryz.func245.trans (congrArg some (by kernel_rfl))
  t3 := Tryz.underlying3
  a3 := Tryz.isAgg3
  z3 := Tryz.sizeOf3
  v3 := Tryz.zeroValue3
  t4 := Tryz.underlying4
  a4 := Tryz.isAgg4
  z4 := Tryz.sizeOf4
  v4 := Tryz.zeroValue4
  t5 := Tryz.underlying5
  a5 := Tryz.isAgg5
  z5 := Tryz.sizeOf5
  v5 := Tryz.zeroValue5
  t9 := Tryz.underlying9
  a9 := Tryz.isAgg9
  z9 := Tryz.sizeOf9
  v9 := Tryz.zeroValue9
  t46 := Tryz.underlying246
  a46 := Tryz.isAgg246
  z46 := Tryz.sizeOf246
  v46 := Tryz.zeroValue246
  t51 := Tryz.underlying141
  a51 := Tryz.isAgg141
  z51 := Tryz.sizeOf141
  v51 := Tryz.zeroValue141
  t59 := Tryz.underlying134
  a59 := Tryz.isAgg134
  z59 := Tryz.sizeOf134
  v59 := Tryz.zeroValue134
  t146 := Tryz.underlying257
  a146 := Tryz.isAgg257
  z146 := Tryz.sizeOf257
  v146 := Tryz.zeroValue257
  g1 := by kernel_rfl
  i3 := by kernel_rfl
  i4 := by kernel_rfl
  i5 := by kernel_rfl
  i9 := by kernel_rfl
  i46 := by kernel_rfl
  i51 := by kernel_rfl
  i59 := by kernel_rfl
  i146 := by kernel_rfl
  m1 := by kernel_rfl
  s1_3 := fun w h => Go.Proofs.cell_of_shapedOpen_int (zero := #[.int .i64 0]) (t := 3) h (of_decide_eq_true (by kernel_rfl)) (by kernel_rfl) rfl (by kernel_rfl) (by kernel_rfl) Tryz.underlying3 }
open Go.RowKit Go.Lib in
theorem Tryz.strings_Cut_shaped (s sep : ByteArray) (w : World) (h : w.ShapedOpen Tryz.prog) (hs : s.size < 4294967281) :
    Calls Tryz.prog 170 #[.string s, .string sep] w fun e w' => e = .returned (.tuple #[.string ⟨(Lib.cut s.data.toList sep.data.toList).1.toArray⟩, .string ⟨(Lib.cut s.data.toList sep.data.toList).2.1.toArray⟩, .bool (Lib.cut s.data.toList sep.data.toList).2.2]) ∧ ∃ n, w' = w.drewN n := Any.strings_Cut_shaped Tryz.laysM145 s sep w h hs
def Tryz.lays105_ren : Go.Shelf.Ren := ⟨fun | 105 => 252 | 212 => 267 | 99 => 268 | 165 => 269 | 166 => 251 | 170 => 270 | 169 => 253 | 263 => 288 | 264 => 289 | 206 => 246 | 240 => 266 | 241 => 290 | 276 => 287 | 277 => 301 | n => n, fun | 9 => 9 | 3 => 3 | 4 => 4 | 20 => 20 | 0 => 0 | 46 => 246 | 109 => 284 | 5 => 5 | 72 => 267 | 76 => 272 | 51 => 141 | 146 => 257 | 53 => 176 | 148 => 307 | 70 => 265 | 37 => 181 | 75 => 261 | 127 => 287 | 164 => 304 | 80 => 226 | n => n, fun | n => n⟩
theorem Tryz.lays105 : Go.Proofs.Lays.n105 Tryz.prog Tryz.lays105_ren := {
  mixed := by kernel_rfl
  f99 := Tryz.func268.trans (congrArg some (by kernel_rfl))
  f105 := Tryz.func252.trans (congrArg some (by kernel_rfl))
  f165 := Tryz.func269.trans (congrArg some (by kernel_rfl))
  f166 := Tryz.func251.trans (congrArg some (by kernel_rfl))
  f169 := Tryz.func253.trans (congrArg some (by kernel_rfl))
  f170 := Tryz.func270.trans (congrArg some (by kernel_rfl))
  f206 := Tryz.func246.trans (congrArg some (by kernel_rfl))
  f212 := Tryz.func267.trans (congrArg some (by kernel_rfl))
  f240 := Tryz.func266.trans (congrArg some (by kernel_rfl))
  f241 := Tryz.func290.trans (congrArg some (by kernel_rfl))
  f263 := Tryz.func288.trans (congrArg some (by kernel_rfl))
  f264 := Tryz.func289.trans (congrArg some (by kernel_rfl))
  f276 := Tryz.func287.trans (congrArg some (by kernel_rfl))
  f277 := Tryz.func301.trans (congrArg some (by kernel_rfl))
  t0 := Tryz.underlying0
  a0 := Tryz.isAgg0
  z0 := Tryz.sizeOf0
  v0 := Tryz.zeroValue0
  t3 := Tryz.underlying3
  a3 := Tryz.isAgg3
  z3 := Tryz.sizeOf3
  v3 := Tryz.zeroValue3
  t4 := Tryz.underlying4
  a4 := Tryz.isAgg4
  z4 := Tryz.sizeOf4
  v4 := Tryz.zeroValue4
  t5 := Tryz.underlying5
  a5 := Tryz.isAgg5
  z5 := Tryz.sizeOf5
  v5 := Tryz.zeroValue5
  t9 := Tryz.underlying9
  a9 := Tryz.isAgg9
  z9 := Tryz.sizeOf9
  v9 := Tryz.zeroValue9
  t20 := Tryz.underlying20
  a20 := Tryz.isAgg20
  z20 := Tryz.sizeOf20
  v20 := Tryz.zeroValue20
  t37 := Tryz.underlying181
  a37 := Tryz.isAgg181
  z37 := Tryz.sizeOf181
  v37 := Tryz.zeroValue181
  t46 := Tryz.underlying246
  a46 := Tryz.isAgg246
  z46 := Tryz.sizeOf246
  v46 := Tryz.zeroValue246
  t51 := Tryz.underlying141
  a51 := Tryz.isAgg141
  z51 := Tryz.sizeOf141
  v51 := Tryz.zeroValue141
  t53 := Tryz.underlying176
  a53 := Tryz.isAgg176
  z53 := Tryz.sizeOf176
  v53 := Tryz.zeroValue176
  t70 := Tryz.underlying265
  a70 := Tryz.isAgg265
  z70 := Tryz.sizeOf265
  v70 := Tryz.zeroValue265
  t72 := Tryz.underlying267
  a72 := Tryz.isAgg267
  z72 := Tryz.sizeOf267
  v72 := Tryz.zeroValue267
  t75 := Tryz.underlying261
  a75 := Tryz.isAgg261
  z75 := Tryz.sizeOf261
  v75 := Tryz.zeroValue261
  t76 := Tryz.underlying272
  a76 := Tryz.isAgg272
  z76 := Tryz.sizeOf272
  v76 := Tryz.zeroValue272
  t109 := Tryz.underlying284
  a109 := Tryz.isAgg284
  z109 := Tryz.sizeOf284
  v109 := Tryz.zeroValue284
  t127 := Tryz.underlying287
  a127 := Tryz.isAgg287
  z127 := Tryz.sizeOf287
  v127 := Tryz.zeroValue287
  t146 := Tryz.underlying257
  a146 := Tryz.isAgg257
  z146 := Tryz.sizeOf257
  v146 := Tryz.zeroValue257
  t148 := Tryz.underlying307
  a148 := Tryz.isAgg307
  z148 := Tryz.sizeOf307
  v148 := Tryz.zeroValue307
  t164 := Tryz.underlying304
  a164 := Tryz.isAgg304
  z164 := Tryz.sizeOf304
  v164 := Tryz.zeroValue304 }
theorem Tryz.Builder_Extra_105 : Builder.Extra Tryz.prog Tryz.lays105_ren := {
  sizeBuilder := by kernel_rfl
  liesBuilder := by kernel_rfl
  t5 := Tryz.underlying5
  a5 := Tryz.isAgg5
  z5 := Tryz.sizeOf5
  v5 := Tryz.zeroValue5
  infoByte := by kernel_rfl
  cellsByte := by kernel_rfl
  sizeByte := by kernel_rfl
  neB5 := by decide }
open Go.RowKit Go.Lib in
theorem Tryz.strings_Repeat (s : ByteArray) (c : Nat) (w : World) (hc : c ≤ 9223372036854775807) (hlen : s.size * c ≤ 140737488355328) :
    Calls Tryz.prog 252 #[.string s, .int .i64 c] w fun e w' => e = .returned (.string ⟨(Lib.repeatL s.data.toList c).toArray⟩) ∧ Below w.heap.size w w' := Any.strings_Repeat Tryz.lays105 Tryz.Builder_Extra_105 s c w hc hlen
end Go.Proofs
