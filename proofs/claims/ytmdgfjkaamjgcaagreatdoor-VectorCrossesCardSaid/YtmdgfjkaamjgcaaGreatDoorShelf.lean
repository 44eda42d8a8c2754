/- THE SHELF's CONTRACTS AT THIS TRANSLATION, in plain words (out of the kit's lay-plain): those that the proof uses. -/
import Derived.Shelf.Strings.Builder1
import Derived.Shelf.Strings.Builder2
import Derived.Shelf.Small.Wraps
import Derived.Shelf.Strings.BuilderF
import Derived.Shelf.Strings.BuilderK
import Derived.Shelf.Strings.Builder2Cap
import Derived.Shelf.Strconv.Itoa0
import Derived.Shelf.Strconv.Itoa1
import Derived.Shelf.LaysM
import Derived.Shelf.Strconv.Itoa2
import Derived.Shelf.Strconv.Itoa3
import Derived.Shelf.Strconv.Itoa4
import Derived.Shelf.Strconv.ParseIntEmpty
import Derived.Shelf.Strconv.Clone
import Derived.Shelf.Strconv.SyntaxError
import Derived.Shelf.LaysC
import Derived.Shelf.Strconv.ToError
import Derived.Shelf.Strconv.Lower
import Derived.Shelf.Strconv.ParseUint10
import Derived.Shelf.Strconv.ParseUint10Empty
import Derived.Shelf.Strconv.ParseUint10Any
import Derived.Shelf.Strconv.ParseInt10
import Derived.Shelf.Strconv.RangeError
import Derived.Shelf.Strconv.ToErrorRange
import Derived.Shelf.Strconv.ParseUintEmpty
import Derived.Shelf.Strconv.ParseUint10b64
import Derived.Shelf.Strconv.ParseUint10b32
import Derived.Shelf.Strconv.ParseUint10b16
import Derived.Shelf.Strconv.ParseUint10b8
import Derived.Shelf.Strconv.ParseUint10At
import Derived.Shelf.Strconv.ParseInt10At64
import Derived.Shelf.Strconv.ParseInt10At32
import Derived.Shelf.Strconv.ParseInt10At16
import Derived.Shelf.Strconv.ParseInt10At8
import Derived.Shelf.Strconv.ParseInt10All
import Derived.Shelf.Strconv.ParseIntPublic10
import Derived.Ground.MpProg
import Derived.Shelf.Pu.ParseUintPublic10
import Derived.Shelf.Strings.Search1
import Derived.Shelf.Strings.Search2
import Derived.Shelf.Strings.Cut
import Derived.Shelf.Strings.Shaped
import Derived.Shelf.Strings.Prefix
import Derived.Shelf.Bits.Mul64
import Derived.Shelf.Strings.Repeat
import Derived.Shelf.Strings.BuilderCap
import Derived.Ground.Names2Prog
import Derived.Shelf.Slices.SearchI
import Derived.Test.YtmdgfjkaamjgcaaGreatDoorProg
namespace Go.Proofs
open Go.Shelf
def Tryz.lays169_ren : Go.Shelf.Ren := ⟨fun | 169 => 195 | n => n, fun | 70 => 209 | 9 => 9 | 0 => 0 | 72 => 211 | 37 => 157 | 127 => 230 | 3 => 3 | 5 => 5 | n => n, fun | n => n⟩
theorem Tryz.lays169 : Go.Proofs.Lays.n169 Tryz.prog Tryz.lays169_ren := {
  mixed := by kernel_rfl
  f169 := Tryz.func195.trans (congrArg some (by kernel_rfl))
  t0 := Tryz.underlying0
  a0 := Tryz.isAgg0
  z0 := Tryz.sizeOf0
  v0 := Tryz.zeroValue0
  t3 := Tryz.underlying3
  a3 := Tryz.isAgg3
  z3 := Tryz.sizeOf3
  v3 := Tryz.zeroValue3
  t9 := Tryz.underlying9
  a9 := Tryz.isAgg9
  z9 := Tryz.sizeOf9
  v9 := Tryz.zeroValue9
  t37 := Tryz.underlying157
  a37 := Tryz.isAgg157
  z37 := Tryz.sizeOf157
  v37 := Tryz.zeroValue157
  t70 := Tryz.underlying209
  a70 := Tryz.isAgg209
  z70 := Tryz.sizeOf209
  v70 := Tryz.zeroValue209
  t72 := Tryz.underlying211
  a72 := Tryz.isAgg211
  z72 := Tryz.sizeOf211
  v72 := Tryz.zeroValue211
  t127 := Tryz.underlying230
  a127 := Tryz.isAgg230
  z127 := Tryz.sizeOf230
  v127 := Tryz.zeroValue230 }
theorem Tryz.Builder_Extra_169 : Builder.Extra Tryz.prog Tryz.lays169_ren := {
  sizeBuilder := by kernel_rfl
  liesBuilder := by kernel_rfl
  t5 := Tryz.underlying5
  a5 := Tryz.isAgg5
  z5 := Tryz.sizeOf5
  v5 := Tryz.zeroValue5
  infoByte := by kernel_rfl
  cellsByte := by kernel_rfl
  sizeByte := by kernel_rfl
  neB5 := by decide }
def Tryz.lays103_ren : Go.Shelf.Ren := ⟨fun | 103 => 155 | 210 => 173 | 206 => 189 | n => n, fun | 9 => 9 | 4 => 4 | 24 => 175 | 3 => 3 | n => n, fun | n => n⟩
theorem Tryz.lays103 : Go.Proofs.Lays.n103 Tryz.prog Tryz.lays103_ren := {
  mixed := by kernel_rfl
  f103 := Tryz.func155.trans (congrArg some (by kernel_rfl))
  f206 := Tryz.func189.trans (congrArg some (by kernel_rfl))
  f210 := Tryz.func173.trans (congrArg some (by kernel_rfl))
  t3 := Tryz.underlying3
  a3 := Tryz.isAgg3
  z3 := Tryz.sizeOf3
  v3 := Tryz.zeroValue3
  t4 := Tryz.underlying4
  a4 := Tryz.isAgg4
  z4 := Tryz.sizeOf4
  v4 := Tryz.zeroValue4
  t9 := Tryz.underlying9
  a9 := Tryz.isAgg9
  z9 := Tryz.sizeOf9
  v9 := Tryz.zeroValue9
  t24 := Tryz.underlying175
  a24 := Tryz.isAgg175
  z24 := Tryz.sizeOf175
  v24 := Tryz.zeroValue175 }
open Go.RowKit in
theorem Tryz.strings_CutPrefix (s p : ByteArray) (w : World) :
    Calls Tryz.prog 155 #[.string s, .string p] w fun e w' => e = .returned (.tuple #[.string ⟨(Lib.trimPrefix s.data.toList p.data.toList).toArray⟩, .bool (Lib.hasPrefix s.data.toList p.data.toList)]) ∧ w' = w := Any.strings_CutPrefix Tryz.lays103 s p w
open Go.RowKit in
theorem Tryz.Builder_String_k (B b : Nat) (l : List UInt8) (w : World) (h : Lib.IsBuilderF 211 5 B b (Lib.byteCells l) w) (h0 : l ≠ []) :
    Calls Tryz.prog 195 #[.pointer (some ⟨b, 0, none⟩)] w fun e w' => e = .returned (.string ⟨l.toArray⟩) ∧ (Lib.IsBuilderF 211 5 B b (Lib.byteCells l) w' ∧ Below B w w' ∧ Lib.OthersKept 5 (some b) w w') := Any.Builder_String_k Tryz.lays169 Tryz.Builder_Extra_169 B b l w h h0
def Tryz.lays283_ren : Go.Shelf.Ren := ⟨fun | 283 => 218 | n => n, fun | 3 => 3 | 9 => 9 | 4 => 4 | n => n, fun | n => n⟩
theorem Tryz.lays283 : Go.Proofs.Lays.n283 Tryz.prog Tryz.lays283_ren := {
  mixed := by kernel_rfl
  f283 := Tryz.func218.trans (congrArg some (by kernel_rfl))
  t3 := Tryz.underlying3
  a3 := Tryz.isAgg3
  z3 := Tryz.sizeOf3
  v3 := Tryz.zeroValue3
  t4 := Tryz.underlying4
  a4 := Tryz.isAgg4
  z4 := Tryz.sizeOf4
  v4 := Tryz.zeroValue4
  t9 := Tryz.underlying9
  a9 := Tryz.isAgg9
  z9 := Tryz.sizeOf9
  v9 := Tryz.zeroValue9 }
open Go.Lib in
theorem Tryz.internal_strconv_small (i : Nat) (h : i < 100) (w : World) :
    Calls Tryz.prog 218 #[.int .i64 i] w fun e w' => e = .returned (.string ⟨(Lib.decDigits i).toArray⟩) ∧ w' = w := Any.internal_strconv_small Tryz.lays283 i h w
def Tryz.laysM284_ren : Go.Shelf.Ren := ⟨fun | 284 => 219 | 129 => 232 | 317 => 231 | 318 => 233 | n => n, fun | 53 => 152 | 3 => 3 | 212 => 253 | 0 => 0 | 4 => 4 | 46 => 188 | 5 => 5 | 9 => 9 | n => n, fun | 17 => 3 | n => n⟩
theorem Tryz.laysM284 : Go.Proofs.LaysM.n284 Tryz.prog Tryz.laysM284_ren := {
  mixed := by kernel_rfl
  f129 := Tryz.func232.trans (congrArg some (by kernel_rfl))
  f284 := Tryz.func219.trans (congrArg some (by kernel_rfl))
  f317 := Tryz.func231.trans (congrArg some (by kernel_rfl))
  f318 := Tryz.func233.trans (congrArg some (by kernel_rfl))
  t0 := Tryz.underlying0
  a0 := Tryz.isAgg0
  z0 := Tryz.sizeOf0
  v0 := Tryz.zeroValue0
  t3 := Tryz.underlying3
  a3 := Tryz.isAgg3
  z3 := Tryz.sizeOf3
  v3 := Tryz.zeroValue3
  t4 := Tryz.underlying4
  a4 := Tryz.isAgg4
  z4 := Tryz.sizeOf4
  v4 := Tryz.zeroValue4
  t5 := Tryz.underlying5
  a5 := Tryz.isAgg5
  z5 := Tryz.sizeOf5
  v5 := Tryz.zeroValue5
  t9 := Tryz.underlying9
  a9 := Tryz.isAgg9
  z9 := Tryz.sizeOf9
  v9 := Tryz.zeroValue9
  t46 := Tryz.underlying188
  a46 := Tryz.isAgg188
  z46 := Tryz.sizeOf188
  v46 := Tryz.zeroValue188
  t53 := Tryz.underlying152
  a53 := Tryz.isAgg152
  z53 := Tryz.sizeOf152
  v53 := Tryz.zeroValue152
  t212 := Tryz.underlying253
  a212 := Tryz.isAgg253
  z212 := Tryz.sizeOf253
  v212 := Tryz.zeroValue253
  g17 := by kernel_rfl
  i0 := by kernel_rfl
  i3 := by kernel_rfl
  i4 := by kernel_rfl
  i5 := by kernel_rfl
  i9 := by kernel_rfl
  i46 := by kernel_rfl
  i53 := by kernel_rfl
  i212 := by kernel_rfl
  m17 := by kernel_rfl }
open Go.Lib in
theorem Tryz.internal_strconv_numDigits (u : Nat) (h1 : 1 ≤ u) (h2 : u < 18446744073709551616) (w : World) (htab : Lib.TabIs Tryz.prog w "internal/strconv.uint64pow10" .u64 Lib.pow10Tab) :
    Calls Tryz.prog 219 #[.int .u64 u] w fun e w' => e = .returned (.int .i64 (Lib.nDigits u)) ∧ w' = w := Any.internal_strconv_numDigits Tryz.laysM284 u h1 h2 w htab
def Tryz.lays285_ren : Go.Shelf.Ren := ⟨fun | 285 => 220 | n => n, fun | 37 => 157 | 53 => 152 | 3 => 3 | 4 => 4 | 51 => 125 | 9 => 9 | 5 => 5 | 0 => 0 | n => n, fun | n => n⟩
theorem Tryz.lays285 : Go.Proofs.Lays.n285 Tryz.prog Tryz.lays285_ren := {
  mixed := by kernel_rfl
  f285 := Tryz.func220.trans (congrArg some (by kernel_rfl))
  t0 := Tryz.underlying0
  a0 := Tryz.isAgg0
  z0 := Tryz.sizeOf0
  v0 := Tryz.zeroValue0
  t3 := Tryz.underlying3
  a3 := Tryz.isAgg3
  z3 := Tryz.sizeOf3
  v3 := Tryz.zeroValue3
  t4 := Tryz.underlying4
  a4 := Tryz.isAgg4
  z4 := Tryz.sizeOf4
  v4 := Tryz.zeroValue4
  t5 := Tryz.underlying5
  a5 := Tryz.isAgg5
  z5 := Tryz.sizeOf5
  v5 := Tryz.zeroValue5
  t9 := Tryz.underlying9
  a9 := Tryz.isAgg9
  z9 := Tryz.sizeOf9
  v9 := Tryz.zeroValue9
  t37 := Tryz.underlying157
  a37 := Tryz.isAgg157
  z37 := Tryz.sizeOf157
  v37 := Tryz.zeroValue157
  t51 := Tryz.underlying125
  a51 := Tryz.isAgg125
  z51 := Tryz.sizeOf125
  v51 := Tryz.zeroValue125
  t53 := Tryz.underlying152
  a53 := Tryz.isAgg152
  z53 := Tryz.sizeOf152
  v53 := Tryz.zeroValue152 }
open Go.RowKit Go.Sort Go.Lib in
theorem Tryz.internal_strconv_formatBase10 (blk off cap : Nat) (u : Nat) (d : Array UInt8) (w : World) (hH : Holds (fun (b : UInt8) => Value.int .u8 (b.toNat : Int)) w blk off d) (hu : u < 10 ^ d.size) (hu64 : u < 18446744073709551616) (hsz : d.size < 4611686018427387904) :
    Calls Tryz.prog 220 #[.slice (some ⟨blk, off, none⟩) d.size cap, .int .u64 u] w fun e w' =>
      e = .returned (.tuple #[]) ∧ ∃ (n v' : Nat) (dk : Array UInt8), w' = (putRow (fun (b : UInt8) => Value.int .u8 (b.toNat : Int)) w blk off dk).drewN n ∧ FmtInv d.size u 0 v' dk := Any.internal_strconv_formatBase10 Tryz.lays285 blk off cap u d w hH hu hu64 hsz
def Tryz.laysM173_ren : Go.Shelf.Ren := ⟨fun | 173 => 184 | 246 => 202 | 283 => 218 | 284 => 219 | 285 => 220 | 286 => 221 | 129 => 232 | 317 => 231 | 318 => 233 | 319 => 234 | 320 => 235 | 337 => 238 | 338 => 239 | n => n, fun | 2 => 2 | 3 => 3 | 9 => 9 | 4 => 4 | 171 => 238 | 0 => 0 | 53 => 152 | 37 => 157 | 5 => 5 | 173 => 241 | 212 => 253 | 51 => 125 | 20 => 20 | 213 => 254 | 46 => 188 | 232 => 261 | 233 => 262 | n => n, fun | 17 => 3 | 18 => 4 | 19 => 5 | n => n⟩
theorem Tryz.laysM173 : Go.Proofs.LaysM.n173 Tryz.prog Tryz.laysM173_ren := {
  mixed := by kernel_rfl
  f129 := Tryz.func232.trans (congrArg some (by kernel_rfl))
  f173 := Tryz.func184.trans (congrArg some (by kernel_rfl))
  f246 := Tryz.func202.trans (congrArg some (by kernel_rfl))
  f283 := Tryz.func218.trans (congrArg some (by kernel_rfl))
  f284 := Tryz.func219.trans (congrArg some (by kernel_rfl))
  f285 := Tryz.func220.trans (congrArg some (by kernel_rfl))
  f286 := Tryz.func221.trans (congrArg some (by kernel_rfl))
  f317 := Tryz.func231.trans (congrArg some (by kernel_rfl))
  f318 := Tryz.func233.trans (congrArg some (by kernel_rfl))
  f319 := Tryz.func234.trans (congrArg some (by kernel_rfl))
  f320 := Tryz.func235.trans (congrArg some (by kernel_rfl))
  f337 := Tryz.func238.trans (congrArg some (by kernel_rfl))
  f338 := Tryz.func239.trans (congrArg some (by kernel_rfl))
  t0 := Tryz.underlying0
  a0 := Tryz.isAgg0
  z0 := Tryz.sizeOf0
  v0 := Tryz.zeroValue0
  t2 := Tryz.underlying2
  a2 := Tryz.isAgg2
  z2 := Tryz.sizeOf2
  v2 := Tryz.zeroValue2
  t3 := Tryz.underlying3
  a3 := Tryz.isAgg3
  z3 := Tryz.sizeOf3
  v3 := Tryz.zeroValue3
  t4 := Tryz.underlying4
  a4 := Tryz.isAgg4
  z4 := Tryz.sizeOf4
  v4 := Tryz.zeroValue4
  t5 := Tryz.underlying5
  a5 := Tryz.isAgg5
  z5 := Tryz.sizeOf5
  v5 := Tryz.zeroValue5
  t9 := Tryz.underlying9
  a9 := Tryz.isAgg9
  z9 := Tryz.sizeOf9
  v9 := Tryz.zeroValue9
  t20 := Tryz.underlying20
  a20 := Tryz.isAgg20
  z20 := Tryz.sizeOf20
  v20 := Tryz.zeroValue20
  t37 := Tryz.underlying157
  a37 := Tryz.isAgg157
  z37 := Tryz.sizeOf157
  v37 := Tryz.zeroValue157
  t46 := Tryz.underlying188
  a46 := Tryz.isAgg188
  z46 := Tryz.sizeOf188
  v46 := Tryz.zeroValue188
  t51 := Tryz.underlying125
  a51 := Tryz.isAgg125
  z51 := Tryz.sizeOf125
  v51 := Tryz.zeroValue125
  t53 := Tryz.underlying152
  a53 := Tryz.isAgg152
  z53 := Tryz.sizeOf152
  v53 := Tryz.zeroValue152
  t171 := Tryz.underlying238
  a171 := Tryz.isAgg238
  z171 := Tryz.sizeOf238
  v171 := Tryz.zeroValue238
  t173 := Tryz.underlying241
  a173 := Tryz.isAgg241
  z173 := Tryz.sizeOf241
  v173 := Tryz.zeroValue241
  t212 := Tryz.underlying253
  a212 := Tryz.isAgg253
  z212 := Tryz.sizeOf253
  v212 := Tryz.zeroValue253
  t213 := Tryz.underlying254
  a213 := Tryz.isAgg254
  z213 := Tryz.sizeOf254
  t232 := Tryz.underlying261
  a232 := Tryz.isAgg261
  z232 := Tryz.sizeOf261
  v232 := Tryz.zeroValue261
  t233 := Tryz.underlying262
  a233 := Tryz.isAgg262
  z233 := Tryz.sizeOf262
  v233 := Tryz.zeroValue262
  g17 := by kernel_rfl
  g18 := by kernel_rfl
  g19 := by kernel_rfl
  i0 := by kernel_rfl
  i2 := by kernel_rfl
  i3 := by kernel_rfl
  i4 := by kernel_rfl
  i5 := by kernel_rfl
  i9 := by kernel_rfl
  i20 := by kernel_rfl
  i37 := by kernel_rfl
  i46 := by kernel_rfl
  i51 := by kernel_rfl
  i53 := by kernel_rfl
  i171 := by kernel_rfl
  i173 := by kernel_rfl
  i212 := by kernel_rfl
  i232 := by kernel_rfl
  i233 := by kernel_rfl
  m17 := by kernel_rfl
  m18 := by kernel_rfl
  m19 := by kernel_rfl }
open Go.RowKit Go.Sort Go.Lib in
theorem Tryz.strconv_FormatInt_10 (n : Int) (h0 : -9223372036854775808 ≤ n) (h1 : n ≤ 9223372036854775807) (w : World) (htab : Lib.TabIs Tryz.prog w "internal/strconv.uint64pow10" .u64 Lib.pow10Tab) :
    Calls Tryz.prog 184 #[.int .i64 n, .int .i64 10] w fun e w' => e = .returned (.string ⟨(Lib.itoa n).toArray⟩) ∧ ∃ k os, w' = grow (w.drewN k) os := Any.strconv_FormatInt_10 Tryz.laysM173 n h0 h1 w htab
def Tryz.laysC174_ren : Go.Shelf.Ren := ⟨fun | 174 => 183 | 247 => 200 | 245 => 201 | 287 => 204 | 279 => 214 | 280 => 215 | 281 => 216 | 282 => 217 | 321 => 222 | 322 => 223 | 316 => 228 | 171 => 230 | 205 => 229 | 243 => 237 | 246 => 202 | 283 => 218 | 284 => 219 | 285 => 220 | 286 => 221 | 129 => 232 | 317 => 231 | 318 => 233 | 319 => 234 | 320 => 235 | 337 => 238 | 338 => 239 | n => n, fun | 9 => 9 | 3 => 3 | 2 => 2 | 75 => 198 | 85 => 199 | 4 => 4 | 167 => 233 | 5 => 5 | 53 => 152 | 175 => 207 | 46 => 188 | 168 => 234 | 37 => 157 | 0 => 0 | 210 => 251 | 21 => 21 | 127 => 230 | 145 => 259 | 143 => 257 | 171 => 238 | 173 => 241 | 212 => 253 | 51 => 125 | 20 => 20 | 213 => 254 | 232 => 261 | 233 => 262 | 80 => 143 | n => n, fun | 15 => 1 | 16 => 2 | 17 => 3 | 18 => 4 | 19 => 5 | n => n⟩
theorem Tryz.laysC174 : Go.Proofs.LaysC.n174 Tryz.prog Tryz.laysC174_ren := {
  mixed := by kernel_rfl
  f129 := Tryz.func232.trans (congrArg some (by kernel_rfl))
  f171 := Tryz.func230.trans (congrArg some (by kernel_rfl))
  f174 := Tryz.func183.trans (congrArg some (by kernel_rfl))
  f205 := Tryz.func229.trans (congrArg some (by kernel_rfl))
  f243 := Tryz.func237.trans (congrArg some (by kernel_rfl))
  f245 := Tryz.func201.trans (congrArg some (by kernel_rfl))
  f246 := Tryz.func202.trans (congrArg some (by kernel_rfl))
  f247 := Tryz.func200.trans (congrArg some (by kernel_rfl))
  f279 := Tryz.func214.trans (congrArg some (by kernel_rfl))
  f280 := Tryz.func215.trans (congrArg some (by kernel_rfl))
  f281 := Tryz.func216.trans (congrArg some (by kernel_rfl))
  f282 := Tryz.func217.trans (congrArg some (by kernel_rfl))
  f283 := Tryz.func218.trans (congrArg some (by kernel_rfl))
  f284 := Tryz.func219.trans (congrArg some (by kernel_rfl))
  f285 := Tryz.func220.trans (congrArg some (by kernel_rfl))
  f286 := Tryz.func221.trans (congrArg some (by kernel_rfl))
  f287 := Tryz.func204.trans (congrArg some (by kernel_rfl))
  f316 := Tryz.func228.trans (congrArg some (by kernel_rfl))
  f317 := Tryz.func231.trans (congrArg some (by kernel_rfl))
  f318 := Tryz.func233.trans (congrArg some (by kernel_rfl))
  f319 := Tryz.func234.trans (congrArg some (by kernel_rfl))
  f320 := Tryz.func235.trans (congrArg some (by kernel_rfl))
  f321 := Tryz.func222.trans (congrArg some (by kernel_rfl))
  f322 := Tryz.func223.trans (congrArg some (by kernel_rfl))
  f337 := Tryz.func238.trans (congrArg some (by kernel_rfl))
  f338 := Tryz.func239.trans (congrArg some (by kernel_rfl))
  t0 := Tryz.underlying0
  a0 := Tryz.isAgg0
  z0 := Tryz.sizeOf0
  v0 := Tryz.zeroValue0
  t2 := Tryz.underlying2
  a2 := Tryz.isAgg2
  z2 := Tryz.sizeOf2
  v2 := Tryz.zeroValue2
  t3 := Tryz.underlying3
  a3 := Tryz.isAgg3
  z3 := Tryz.sizeOf3
  v3 := Tryz.zeroValue3
  t4 := Tryz.underlying4
  a4 := Tryz.isAgg4
  z4 := Tryz.sizeOf4
  v4 := Tryz.zeroValue4
  t5 := Tryz.underlying5
  a5 := Tryz.isAgg5
  z5 := Tryz.sizeOf5
  v5 := Tryz.zeroValue5
  t9 := Tryz.underlying9
  a9 := Tryz.isAgg9
  z9 := Tryz.sizeOf9
  v9 := Tryz.zeroValue9
  t20 := Tryz.underlying20
  a20 := Tryz.isAgg20
  z20 := Tryz.sizeOf20
  v20 := Tryz.zeroValue20
  t21 := Tryz.underlying21
  a21 := Tryz.isAgg21
  z21 := Tryz.sizeOf21
  v21 := Tryz.zeroValue21
  t37 := Tryz.underlying157
  a37 := Tryz.isAgg157
  z37 := Tryz.sizeOf157
  v37 := Tryz.zeroValue157
  t46 := Tryz.underlying188
  a46 := Tryz.isAgg188
  z46 := Tryz.sizeOf188
  v46 := Tryz.zeroValue188
  t51 := Tryz.underlying125
  a51 := Tryz.isAgg125
  z51 := Tryz.sizeOf125
  v51 := Tryz.zeroValue125
  t53 := Tryz.underlying152
  a53 := Tryz.isAgg152
  z53 := Tryz.sizeOf152
  v53 := Tryz.zeroValue152
  t75 := Tryz.underlying198
  a75 := Tryz.isAgg198
  z75 := Tryz.sizeOf198
  v75 := Tryz.zeroValue198
  t85 := Tryz.underlying199
  a85 := Tryz.isAgg199
  z85 := Tryz.sizeOf199
  v85 := Tryz.zeroValue199
  t127 := Tryz.underlying230
  a127 := Tryz.isAgg230
  z127 := Tryz.sizeOf230
  v127 := Tryz.zeroValue230
  t143 := Tryz.underlying257
  a143 := Tryz.isAgg257
  z143 := Tryz.sizeOf257
  v143 := Tryz.zeroValue257
  t145 := Tryz.underlying259
  a145 := Tryz.isAgg259
  z145 := Tryz.sizeOf259
  v145 := Tryz.zeroValue259
  t167 := Tryz.underlying233
  a167 := Tryz.isAgg233
  z167 := Tryz.sizeOf233
  v167 := Tryz.zeroValue233
  t168 := Tryz.underlying234
  a168 := Tryz.isAgg234
  z168 := Tryz.sizeOf234
  v168 := Tryz.zeroValue234
  t171 := Tryz.underlying238
  a171 := Tryz.isAgg238
  z171 := Tryz.sizeOf238
  v171 := Tryz.zeroValue238
  t173 := Tryz.underlying241
  a173 := Tryz.isAgg241
  z173 := Tryz.sizeOf241
  v173 := Tryz.zeroValue241
  t175 := Tryz.underlying207
  a175 := Tryz.isAgg207
  z175 := Tryz.sizeOf207
  v175 := Tryz.zeroValue207
  t210 := Tryz.underlying251
  a210 := Tryz.isAgg251
  z210 := Tryz.sizeOf251
  v210 := Tryz.zeroValue251
  t212 := Tryz.underlying253
  a212 := Tryz.isAgg253
  z212 := Tryz.sizeOf253
  v212 := Tryz.zeroValue253
  t213 := Tryz.underlying254
  a213 := Tryz.isAgg254
  z213 := Tryz.sizeOf254
  t232 := Tryz.underlying261
  a232 := Tryz.isAgg261
  z232 := Tryz.sizeOf261
  v232 := Tryz.zeroValue261
  t233 := Tryz.underlying262
  a233 := Tryz.isAgg262
  z233 := Tryz.sizeOf262
  v233 := Tryz.zeroValue262
  g15 := by kernel_rfl
  g16 := by kernel_rfl
  g17 := by kernel_rfl
  g18 := by kernel_rfl
  g19 := by kernel_rfl
  t80 := Tryz.underlying143
  a80 := Tryz.isAgg143
  z80 := Tryz.sizeOf143
  v80 := Tryz.zeroValue143
  i0 := by kernel_rfl
  i2 := by kernel_rfl
  i3 := by kernel_rfl
  i4 := by kernel_rfl
  i5 := by kernel_rfl
  i9 := by kernel_rfl
  i20 := by kernel_rfl
  i21 := by kernel_rfl
  i37 := by kernel_rfl
  i46 := by kernel_rfl
  i51 := by kernel_rfl
  i53 := by kernel_rfl
  i75 := by kernel_rfl
  i80 := by kernel_rfl
  i85 := by kernel_rfl
  i127 := by kernel_rfl
  i143 := by kernel_rfl
  i145 := by kernel_rfl
  i167 := by kernel_rfl
  i168 := by kernel_rfl
  i171 := by kernel_rfl
  i173 := by kernel_rfl
  i175 := by kernel_rfl
  i210 := by kernel_rfl
  i212 := by kernel_rfl
  i232 := by kernel_rfl
  i233 := by kernel_rfl
  m15 := by kernel_rfl
  m16 := by kernel_rfl
  m17 := by kernel_rfl
  m18 := by kernel_rfl
  m19 := by kernel_rfl
  c0 := by kernel_rfl
  c2 := by kernel_rfl
  c3 := by kernel_rfl
  c4 := by kernel_rfl
  c5 := by kernel_rfl
  c9 := by kernel_rfl
  c20 := by kernel_rfl
  c21 := by kernel_rfl
  c37 := by kernel_rfl
  c46 := by kernel_rfl
  c51 := by kernel_rfl
  c53 := by kernel_rfl
  c75 := by kernel_rfl
  c80 := by kernel_rfl
  c85 := by kernel_rfl
  c127 := by kernel_rfl
  c143 := by kernel_rfl
  c145 := by kernel_rfl
  c167 := by kernel_rfl
  c168 := by kernel_rfl
  c171 := by kernel_rfl
  c173 := by kernel_rfl
  c175 := by kernel_rfl
  c210 := by kernel_rfl
  c212 := by kernel_rfl
  c213 := by kernel_rfl
  c232 := by kernel_rfl
  c233 := by kernel_rfl }
open Go.RowKit in
theorem Tryz.strconv_ParseInt_10_at64_ok (s : ByteArray) (hmax : s.size ≤ 9223372036854775806) (v : Int) (h : Lib.parseIntB 64 s.data.toList = .ok v) (w : World) :
    Calls Tryz.prog 183 #[.string s, .int .i64 10, .int .i64 64] w fun e w' => e = .returned (.tuple #[.int .i64 v, .nilIface]) ∧ (w' = w ∨ ∃ t, w' = Lib.bytesWorld w 5 t) := Any.strconv_ParseInt_10_at64_ok Tryz.laysC174 s hmax v h w
def Tryz.laysPu14_ren : Go.Shelf.Ren := ⟨fun | 14 => 190 | 16 => 204 | 17 => 201 | 19 => 222 | 20 => 223 | 21 => 214 | 22 => 215 | 23 => 216 | 24 => 217 | 25 => 228 | 27 => 230 | 26 => 229 | 28 => 237 | 29 => 202 | 30 => 218 | 31 => 219 | 32 => 220 | 33 => 221 | 35 => 232 | 34 => 231 | 36 => 233 | 37 => 234 | 38 => 235 | 39 => 238 | 40 => 239 | n => n, fun | 9 => 9 | 3 => 3 | 22 => 152 | 24 => 198 | 25 => 207 | 4 => 4 | 34 => 233 | 5 => 5 | 36 => 188 | 37 => 157 | 0 => 0 | 39 => 234 | 21 => 21 | 44 => 251 | 47 => 230 | 50 => 259 | 48 => 257 | 2 => 2 | 52 => 238 | 55 => 241 | 59 => 253 | 60 => 125 | 20 => 20 | 61 => 254 | 65 => 261 | 66 => 262 | 67 => 143 | n => n, fun | 0 => 1 | 1 => 2 | 2 => 3 | 3 => 4 | 4 => 5 | n => n⟩
theorem Tryz.laysPu14 : Go.Proofs.LaysPu.n14 Tryz.prog Tryz.laysPu14_ren := {
  mixed := by kernel_rfl
  f14 := Tryz.func190.trans (congrArg some (by kernel_rfl))
  f16 := Tryz.func204.trans (congrArg some (by kernel_rfl))
  f17 := Tryz.func201.trans (congrArg some (by kernel_rfl))
  f19 := Tryz.func222.trans (congrArg some (by kernel_rfl))
  f20 := Tryz.func223.trans (congrArg some (by kernel_rfl))
  f21 := Tryz.func214.trans (congrArg some (by kernel_rfl))
  f22 := Tryz.func215.trans (congrArg some (by kernel_rfl))
  f23 := Tryz.func216.trans (congrArg some (by kernel_rfl))
  f24 := Tryz.func217.trans (congrArg some (by kernel_rfl))
  f25 := Tryz.func228.trans (congrArg some (by kernel_rfl))
  f26 := Tryz.func229.trans (congrArg some (by kernel_rfl))
  f27 := Tryz.func230.trans (congrArg some (by kernel_rfl))
  f28 := Tryz.func237.trans (congrArg some (by kernel_rfl))
  f29 := Tryz.func202.trans (congrArg some (by kernel_rfl))
  f30 := Tryz.func218.trans (congrArg some (by kernel_rfl))
  f31 := Tryz.func219.trans (congrArg some (by kernel_rfl))
  f32 := Tryz.func220.trans (congrArg some (by kernel_rfl))
  f33 := Tryz.func221.trans (congrArg some (by kernel_rfl))
  f34 := Tryz.func231.trans (congrArg some (by kernel_rfl))
  f35 := Tryz.func232.trans (congrArg some (by kernel_rfl))
  f36 := Tryz.func233.trans (congrArg some (by kernel_rfl))
  f37 := Tryz.func234.trans (congrArg some (by kernel_rfl))
  f38 := Tryz.func235.trans (congrArg some (by kernel_rfl))
  f39 := Tryz.func238.trans (congrArg some (by kernel_rfl))
  f40 := Tryz.func239.trans (congrArg some (by kernel_rfl))
  t0 := Tryz.underlying0
  a0 := Tryz.isAgg0
  z0 := Tryz.sizeOf0
  v0 := Tryz.zeroValue0
  i0 := by kernel_rfl
  t2 := Tryz.underlying2
  a2 := Tryz.isAgg2
  z2 := Tryz.sizeOf2
  v2 := Tryz.zeroValue2
  i2 := by kernel_rfl
  t3 := Tryz.underlying3
  a3 := Tryz.isAgg3
  z3 := Tryz.sizeOf3
  v3 := Tryz.zeroValue3
  i3 := by kernel_rfl
  t4 := Tryz.underlying4
  a4 := Tryz.isAgg4
  z4 := Tryz.sizeOf4
  v4 := Tryz.zeroValue4
  i4 := by kernel_rfl
  t5 := Tryz.underlying5
  a5 := Tryz.isAgg5
  z5 := Tryz.sizeOf5
  v5 := Tryz.zeroValue5
  i5 := by kernel_rfl
  t9 := Tryz.underlying9
  a9 := Tryz.isAgg9
  z9 := Tryz.sizeOf9
  v9 := Tryz.zeroValue9
  i9 := by kernel_rfl
  t20 := Tryz.underlying20
  a20 := Tryz.isAgg20
  z20 := Tryz.sizeOf20
  v20 := Tryz.zeroValue20
  i20 := by kernel_rfl
  t21 := Tryz.underlying21
  a21 := Tryz.isAgg21
  z21 := Tryz.sizeOf21
  v21 := Tryz.zeroValue21
  i21 := by kernel_rfl
  t22 := Tryz.underlying152
  a22 := Tryz.isAgg152
  z22 := Tryz.sizeOf152
  v22 := Tryz.zeroValue152
  i22 := by kernel_rfl
  t24 := Tryz.underlying198
  a24 := Tryz.isAgg198
  z24 := Tryz.sizeOf198
  v24 := Tryz.zeroValue198
  i24 := by kernel_rfl
  t25 := Tryz.underlying207
  a25 := Tryz.isAgg207
  z25 := Tryz.sizeOf207
  v25 := Tryz.zeroValue207
  i25 := by kernel_rfl
  t34 := Tryz.underlying233
  a34 := Tryz.isAgg233
  z34 := Tryz.sizeOf233
  v34 := Tryz.zeroValue233
  i34 := by kernel_rfl
  c34 := by kernel_rfl
  t36 := Tryz.underlying188
  a36 := Tryz.isAgg188
  z36 := Tryz.sizeOf188
  v36 := Tryz.zeroValue188
  i36 := by kernel_rfl
  t37 := Tryz.underlying157
  a37 := Tryz.isAgg157
  z37 := Tryz.sizeOf157
  v37 := Tryz.zeroValue157
  i37 := by kernel_rfl
  t39 := Tryz.underlying234
  a39 := Tryz.isAgg234
  z39 := Tryz.sizeOf234
  v39 := Tryz.zeroValue234
  i39 := by kernel_rfl
  t44 := Tryz.underlying251
  a44 := Tryz.isAgg251
  z44 := Tryz.sizeOf251
  v44 := Tryz.zeroValue251
  i44 := by kernel_rfl
  t47 := Tryz.underlying230
  a47 := Tryz.isAgg230
  z47 := Tryz.sizeOf230
  v47 := Tryz.zeroValue230
  i47 := by kernel_rfl
  t48 := Tryz.underlying257
  a48 := Tryz.isAgg257
  z48 := Tryz.sizeOf257
  v48 := Tryz.zeroValue257
  i48 := by kernel_rfl
  t50 := Tryz.underlying259
  a50 := Tryz.isAgg259
  z50 := Tryz.sizeOf259
  v50 := Tryz.zeroValue259
  i50 := by kernel_rfl
  t52 := Tryz.underlying238
  a52 := Tryz.isAgg238
  z52 := Tryz.sizeOf238
  v52 := Tryz.zeroValue238
  i52 := by kernel_rfl
  t55 := Tryz.underlying241
  a55 := Tryz.isAgg241
  z55 := Tryz.sizeOf241
  v55 := Tryz.zeroValue241
  i55 := by kernel_rfl
  t59 := Tryz.underlying253
  a59 := Tryz.isAgg253
  z59 := Tryz.sizeOf253
  v59 := Tryz.zeroValue253
  i59 := by kernel_rfl
  t60 := Tryz.underlying125
  a60 := Tryz.isAgg125
  z60 := Tryz.sizeOf125
  v60 := Tryz.zeroValue125
  i60 := by kernel_rfl
  t61 := Tryz.underlying254
  a61 := Tryz.isAgg254
  z61 := Tryz.sizeOf254
  t65 := Tryz.underlying261
  a65 := Tryz.isAgg261
  z65 := Tryz.sizeOf261
  v65 := Tryz.zeroValue261
  i65 := by kernel_rfl
  t66 := Tryz.underlying262
  a66 := Tryz.isAgg262
  z66 := Tryz.sizeOf262
  v66 := Tryz.zeroValue262
  i66 := by kernel_rfl
  t67 := Tryz.underlying143
  a67 := Tryz.isAgg143
  z67 := Tryz.sizeOf143
  v67 := Tryz.zeroValue143
  i67 := by kernel_rfl
  g0 := by kernel_rfl
  m0 := by kernel_rfl
  g1 := by kernel_rfl
  m1 := by kernel_rfl
  g2 := by kernel_rfl
  m2 := by kernel_rfl
  g3 := by kernel_rfl
  m3 := by kernel_rfl
  g4 := by kernel_rfl
  m4 := by kernel_rfl }
open Go.RowKit in
theorem Tryz.strconv_ParseUint_10_at32_ok (s : ByteArray) (hmax : s.size ≤ 9223372036854775806) (u : Nat) (h : Lib.parseUintB 32 s.data.toList = .ok u) (w : World) :
    Calls Tryz.prog 190 #[.string s, .int .i64 10, .int .i64 32] w fun e w' => e = .returned (.tuple #[.int .u64 u, .nilIface]) ∧ (w' = w ∨ w' = Lib.bytesWorld w 5 s) := Any.strconv_ParseUint_10_at32_ok Tryz.laysPu14 s hmax u h w
def Tryz.laysM145_ren : Go.Shelf.Ren := ⟨fun | 145 => 106 | 220 => 131 | 219 => 154 | 217 => 169 | 225 => 170 | 224 => 171 | 267 => 172 | 266 => 187 | 314 => 188 | n => n, fun | 9 => 9 | 4 => 4 | 59 => 119 | 3 => 3 | 5 => 5 | 46 => 188 | 146 => 204 | 51 => 125 | n => n, fun | 1 => 0 | n => n⟩
theorem Tryz.laysM145 : Go.Proofs.LaysM.n145 Tryz.prog Tryz.laysM145_ren := {
  mixed := by kernel_rfl
  f145 := Tryz.func106.trans (congrArg some (by kernel_rfl))
  f217 := Tryz.func169.trans (congrArg some (by kernel_rfl))
  f219 := Tryz.func154.trans (congrArg some (by kernel_rfl))
  f220 := Tryz.func131.trans (congrArg some (by kernel_rfl))
  f224 := Tryz.func171.trans (congrArg some (by kernel_rfl))
  f225 := Tryz.func170.trans (congrArg some (by kernel_rfl))
  f266 := Tryz.func187.trans (congrArg some (by kernel_rfl))
  f267 := Tryz.func172.trans (congrArg some (by kernel_rfl))
  f314 := Tryz.func188.trans (congrArg some (by kernel_rfl))
  t3 := Tryz.underlying3
  a3 := Tryz.isAgg3
  z3 := Tryz.sizeOf3
  v3 := Tryz.zeroValue3
  t4 := Tryz.underlying4
  a4 := Tryz.isAgg4
  z4 := Tryz.sizeOf4
  v4 := Tryz.zeroValue4
  t5 := Tryz.underlying5
  a5 := Tryz.isAgg5
  z5 := Tryz.sizeOf5
  v5 := Tryz.zeroValue5
  t9 := Tryz.underlying9
  a9 := Tryz.isAgg9
  z9 := Tryz.sizeOf9
  v9 := Tryz.zeroValue9
  t46 := Tryz.underlying188
  a46 := Tryz.isAgg188
  z46 := Tryz.sizeOf188
  v46 := Tryz.zeroValue188
  t51 := Tryz.underlying125
  a51 := Tryz.isAgg125
  z51 := Tryz.sizeOf125
  v51 := Tryz.zeroValue125
  t59 := Tryz.underlying119
  a59 := Tryz.isAgg119
  z59 := Tryz.sizeOf119
  v59 := Tryz.zeroValue119
  t146 := Tryz.underlying204
  a146 := Tryz.isAgg204
  z146 := Tryz.sizeOf204
  v146 := Tryz.zeroValue204
  g1 := by kernel_rfl
  i3 := by kernel_rfl
  i4 := by kernel_rfl
  i5 := by kernel_rfl
  i9 := by kernel_rfl
  i46 := by kernel_rfl
  i51 := by kernel_rfl
  i59 := by kernel_rfl
  i146 := by kernel_rfl
  m1 := by kernel_rfl
  s1_3 := fun w h => Go.Proofs.cell_of_shapedOpen_int (zero := #[.int .i64 0]) (t := 3) h (of_decide_eq_true (by kernel_rfl)) (by kernel_rfl) rfl (by kernel_rfl) (by kernel_rfl) Tryz.underlying3 }
open Go.RowKit Go.Lib in
theorem Tryz.strings_Cut_shaped (s sep : ByteArray) (w : World) (h : w.ShapedOpen Tryz.prog) (hs : s.size < 4294967281) :
    Calls Tryz.prog 106 #[.string s, .string sep] w fun e w' => e = .returned (.tuple #[.string ⟨(Lib.cut s.data.toList sep.data.toList).1.toArray⟩, .string ⟨(Lib.cut s.data.toList sep.data.toList).2.1.toArray⟩, .bool (Lib.cut s.data.toList sep.data.toList).2.2]) ∧ ∃ n, w' = w.drewN n := Any.strings_Cut_shaped Tryz.laysM145 s sep w h hs
def Tryz.lays105_ren : Go.Shelf.Ren := ⟨fun | 105 => 194 | 212 => 208 | 99 => 209 | 165 => 210 | 166 => 193 | 170 => 211 | 169 => 195 | 263 => 225 | 264 => 226 | 206 => 189 | 240 => 207 | 241 => 227 | 276 => 224 | 277 => 236 | n => n, fun | 9 => 9 | 3 => 3 | 4 => 4 | 20 => 20 | 0 => 0 | 46 => 188 | 109 => 227 | 5 => 5 | 72 => 211 | 76 => 216 | 51 => 125 | 146 => 204 | 53 => 152 | 148 => 247 | 70 => 209 | 37 => 157 | 75 => 198 | 127 => 230 | 164 => 244 | 80 => 143 | n => n, fun | n => n⟩
theorem Tryz.lays105 : Go.Proofs.Lays.n105 Tryz.prog Tryz.lays105_ren := {
  mixed := by kernel_rfl
  f99 := Tryz.func209.trans (congrArg some (by kernel_rfl))
  f105 := Tryz.func194.trans (congrArg some (by kernel_rfl))
  f165 := Tryz.func210.trans (congrArg some (by kernel_rfl))
  f166 := Tryz.func193.trans (congrArg some (by kernel_rfl))
  f169 := Tryz.func195.trans (congrArg some (by kernel_rfl))
  f170 := Tryz.func211.trans (congrArg some (by kernel_rfl))
  f206 := Tryz.func189.trans (congrArg some (by kernel_rfl))
  f212 := Tryz.func208.trans (congrArg some (by kernel_rfl))
  f240 := Tryz.func207.trans (congrArg some (by kernel_rfl))
  f241 := Tryz.func227.trans (congrArg some (by kernel_rfl))
  f263 := Tryz.func225.trans (congrArg some (by kernel_rfl))
  f264 := Tryz.func226.trans (congrArg some (by kernel_rfl))
  f276 := Tryz.func224.trans (congrArg some (by kernel_rfl))
  f277 := Tryz.func236.trans (congrArg some (by kernel_rfl))
  t0 := Tryz.underlying0
  a0 := Tryz.isAgg0
  z0 := Tryz.sizeOf0
  v0 := Tryz.zeroValue0
  t3 := Tryz.underlying3
  a3 := Tryz.isAgg3
  z3 := Tryz.sizeOf3
  v3 := Tryz.zeroValue3
  t4 := Tryz.underlying4
  a4 := Tryz.isAgg4
  z4 := Tryz.sizeOf4
  v4 := Tryz.zeroValue4
  t5 := Tryz.underlying5
  a5 := Tryz.isAgg5
  z5 := Tryz.sizeOf5
  v5 := Tryz.zeroValue5
  t9 := Tryz.underlying9
  a9 := Tryz.isAgg9
  z9 := Tryz.sizeOf9
  v9 := Tryz.zeroValue9
  t20 := Tryz.underlying20
  a20 := Tryz.isAgg20
  z20 := Tryz.sizeOf20
  v20 := Tryz.zeroValue20
  t37 := Tryz.underlying157
  a37 := Tryz.isAgg157
  z37 := Tryz.sizeOf157
  v37 := Tryz.zeroValue157
  t46 := Tryz.underlying188
  a46 := Tryz.isAgg188
  z46 := Tryz.sizeOf188
  v46 := Tryz.zeroValue188
  t51 := Tryz.underlying125
  a51 := Tryz.isAgg125
  z51 := Tryz.sizeOf125
  v51 := Tryz.zeroValue125
  t53 := Tryz.underlying152
  a53 := Tryz.isAgg152
  z53 := Tryz.sizeOf152
  v53 := Tryz.zeroValue152
  t70 := Tryz.underlying209
  a70 := Tryz.isAgg209
  z70 := Tryz.sizeOf209
  v70 := Tryz.zeroValue209
  t72 := Tryz.underlying211
  a72 := Tryz.isAgg211
  z72 := Tryz.sizeOf211
  v72 := Tryz.zeroValue211
  t75 := Tryz.underlying198
  a75 := Tryz.isAgg198
  z75 := Tryz.sizeOf198
  v75 := Tryz.zeroValue198
  t76 := Tryz.underlying216
  a76 := Tryz.isAgg216
  z76 := Tryz.sizeOf216
  v76 := Tryz.zeroValue216
  t109 := Tryz.underlying227
  a109 := Tryz.isAgg227
  z109 := Tryz.sizeOf227
  v109 := Tryz.zeroValue227
  t127 := Tryz.underlying230
  a127 := Tryz.isAgg230
  z127 := Tryz.sizeOf230
  v127 := Tryz.zeroValue230
  t146 := Tryz.underlying204
  a146 := Tryz.isAgg204
  z146 := Tryz.sizeOf204
  v146 := Tryz.zeroValue204
  t148 := Tryz.underlying247
  a148 := Tryz.isAgg247
  z148 := Tryz.sizeOf247
  v148 := Tryz.zeroValue247
  t164 := Tryz.underlying244
  a164 := Tryz.isAgg244
  z164 := Tryz.sizeOf244
  v164 := Tryz.zeroValue244 }
theorem Tryz.Builder_Extra_105 : Builder.Extra Tryz.prog Tryz.lays105_ren := {
  sizeBuilder := by kernel_rfl
  liesBuilder := by kernel_rfl
  t5 := Tryz.underlying5
  a5 := Tryz.isAgg5
  z5 := Tryz.sizeOf5
  v5 := Tryz.zeroValue5
  infoByte := by kernel_rfl
  cellsByte := by kernel_rfl
  sizeByte := by kernel_rfl
  neB5 := by decide }
open Go.RowKit Go.Lib in
theorem Tryz.strings_Repeat (s : ByteArray) (c : Nat) (w : World) (hc : c ≤ 9223372036854775807) (hlen : s.size * c ≤ 140737488355328) :
    Calls Tryz.prog 194 #[.string s, .int .i64 c] w fun e w' => e = .returned (.string ⟨(Lib.repeatL s.data.toList c).toArray⟩) ∧ Below w.heap.size w w' := Any.strings_Repeat Tryz.lays105 Tryz.Builder_Extra_105 s c w hc hlen
end Go.Proofs
