/- A PART OF THE PROOF, JOINED OUT OF 3 TEXTS. -/
import Derived.Shelf.LaysM
import Derived.Shelf.LaysC
import Derived.Shelf.Strconv.AtoiAll
import Derived.Shelf.Strconv.ErrVarAll
import Derived.Shelf.Strings.SplitShaped
import Derived.Lib.AtoiErrMem
import Derived.Test.YthkkdepppjiaeaaGreatDoorPfText
import Derived.Test.YthkkdepppjiaeaaGreatDoorScOpening
import Derived.Test.YthkkdepppjiaeaaGreatDoorPiRational
import Derived.Lib.AtoiAllCases
import Derived.Lib.ParseIntBCases
import Derived.Shelf.Strings.PiecesUse
import Derived.BigRegion
/- The library's Split and Atoi, laid by hand (names in the place of a dump's numbers). -/
namespace Go.Proofs
open Go.Shelf

def Tryz.laysC172_ren : Go.Shelf.Ren := ⟨fun | 172 => 161 | 244 => 190 | 245 => 191 | 247 => 217 | 279 => 218 | 280 => 219 | 281 => 220 | 282 => 221 | 287 => 236 | 316 => 237 | 171 => 90 | 205 => 238 | 321 => 255 | 322 => 256 | 243 => 133 | 246 => 158 | 283 => 182 | 284 => 183 | 285 => 184 | 286 => 185 | 129 => 206 | 317 => 205 | 318 => 207 | 319 => 208 | 320 => 209 | 337 => 231 | 338 => 232 | n => n, fun | 9 => 9 | 3 => 3 | 75 => 150 | 76 => 151 | 4 => 4 | 5 => 5 | 167 => 266 | 37 => 146 | 0 => 0 | 85 => 267 | 2 => 2 | 168 => 269 | 53 => 165 | 175 => 282 | 46 => 260 | 210 => 286 | 127 => 194 | 145 => 306 | 143 => 304 | 21 => 21 | 171 => 233 | 173 => 236 | 212 => 257 | 51 => 101 | 20 => 20 | 213 => 258 | 232 => 297 | 233 => 298 | 80 => 156 | n => n, fun | 15 => 2 | 16 => 3 | 17 => 0 | 18 => 4 | 19 => 5 | n => n⟩
theorem Tryz.laysC172 : Go.Proofs.LaysC.n172 Tryz.prog Tryz.laysC172_ren := {
  mixed := by kernel_rfl
  f129 := Tryz.func206.trans (congrArg some (by kernel_rfl))
  f171 := Tryz.func90.trans (congrArg some (by kernel_rfl))
  f172 := Tryz.func161.trans (congrArg some (by kernel_rfl))
  f205 := Tryz.func238.trans (congrArg some (by kernel_rfl))
  f243 := Tryz.func133.trans (congrArg some (by kernel_rfl))
  f244 := Tryz.func190.trans (congrArg some (by kernel_rfl))
  f245 := Tryz.func191.trans (congrArg some (by kernel_rfl))
  f246 := Tryz.func158.trans (congrArg some (by kernel_rfl))
  f247 := Tryz.func217.trans (congrArg some (by kernel_rfl))
  f279 := Tryz.func218.trans (congrArg some (by kernel_rfl))
  f280 := Tryz.func219.trans (congrArg some (by kernel_rfl))
  f281 := Tryz.func220.trans (congrArg some (by kernel_rfl))
  f282 := Tryz.func221.trans (congrArg some (by kernel_rfl))
  f283 := Tryz.func182.trans (congrArg some (by kernel_rfl))
  f284 := Tryz.func183.trans (congrArg some (by kernel_rfl))
  f285 := Tryz.func184.trans (congrArg some (by kernel_rfl))
  f286 := Tryz.func185.trans (congrArg some (by kernel_rfl))
  f287 := Tryz.func236.trans (congrArg some (by kernel_rfl))
  f316 := Tryz.func237.trans (congrArg some (by kernel_rfl))
  f317 := Tryz.func205.trans (congrArg some (by kernel_rfl))
  f318 := Tryz.func207.trans (congrArg some (by kernel_rfl))
  f319 := Tryz.func208.trans (congrArg some (by kernel_rfl))
  f320 := Tryz.func209.trans (congrArg some (by kernel_rfl))
  f321 := Tryz.func255.trans (congrArg some (by kernel_rfl))
  f322 := Tryz.func256.trans (congrArg some (by kernel_rfl))
  f337 := Tryz.func231.trans (congrArg some (by kernel_rfl))
  f338 := Tryz.func232.trans (congrArg some (by kernel_rfl))
  t0 := Tryz.underlying0
  a0 := Tryz.isAgg0
  z0 := Tryz.sizeOf0
  v0 := Tryz.zeroValue0
  t2 := Tryz.underlying2
  a2 := Tryz.isAgg2
  z2 := Tryz.sizeOf2
  v2 := Tryz.zeroValue2
  t3 := Tryz.underlying3
  a3 := Tryz.isAgg3
  z3 := Tryz.sizeOf3
  v3 := Tryz.zeroValue3
  t4 := Tryz.underlying4
  a4 := Tryz.isAgg4
  z4 := Tryz.sizeOf4
  v4 := Tryz.zeroValue4
  t5 := Tryz.underlying5
  a5 := Tryz.isAgg5
  z5 := Tryz.sizeOf5
  v5 := Tryz.zeroValue5
  t9 := Tryz.underlying9
  a9 := Tryz.isAgg9
  z9 := Tryz.sizeOf9
  v9 := Tryz.zeroValue9
  t20 := Tryz.underlying20
  a20 := Tryz.isAgg20
  z20 := Tryz.sizeOf20
  v20 := Tryz.zeroValue20
  t21 := Tryz.underlying21
  a21 := Tryz.isAgg21
  z21 := Tryz.sizeOf21
  v21 := Tryz.zeroValue21
  t37 := Tryz.underlying146
  a37 := Tryz.isAgg146
  z37 := Tryz.sizeOf146
  v37 := Tryz.zeroValue146
  t46 := Tryz.underlying260
  a46 := Tryz.isAgg260
  z46 := Tryz.sizeOf260
  v46 := Tryz.zeroValue260
  t51 := Tryz.underlying101
  a51 := Tryz.isAgg101
  z51 := Tryz.sizeOf101
  v51 := Tryz.zeroValue101
  t53 := Tryz.underlying165
  a53 := Tryz.isAgg165
  z53 := Tryz.sizeOf165
  v53 := Tryz.zeroValue165
  t75 := Tryz.underlying150
  a75 := Tryz.isAgg150
  z75 := Tryz.sizeOf150
  v75 := Tryz.zeroValue150
  t76 := Tryz.underlying151
  a76 := Tryz.isAgg151
  z76 := Tryz.sizeOf151
  v76 := Tryz.zeroValue151
  t85 := Tryz.underlying267
  a85 := Tryz.isAgg267
  z85 := Tryz.sizeOf267
  v85 := Tryz.zeroValue267
  t127 := Tryz.underlying194
  a127 := Tryz.isAgg194
  z127 := Tryz.sizeOf194
  v127 := Tryz.zeroValue194
  t143 := Tryz.underlying304
  a143 := Tryz.isAgg304
  z143 := Tryz.sizeOf304
  v143 := Tryz.zeroValue304
  t145 := Tryz.underlying306
  a145 := Tryz.isAgg306
  z145 := Tryz.sizeOf306
  v145 := Tryz.zeroValue306
  t167 := Tryz.underlying266
  a167 := Tryz.isAgg266
  z167 := Tryz.sizeOf266
  v167 := Tryz.zeroValue266
  t168 := Tryz.underlying269
  a168 := Tryz.isAgg269
  z168 := Tryz.sizeOf269
  v168 := Tryz.zeroValue269
  t171 := Tryz.underlying233
  a171 := Tryz.isAgg233
  z171 := Tryz.sizeOf233
  v171 := Tryz.zeroValue233
  t173 := Tryz.underlying236
  a173 := Tryz.isAgg236
  z173 := Tryz.sizeOf236
  v173 := Tryz.zeroValue236
  t175 := Tryz.underlying282
  a175 := Tryz.isAgg282
  z175 := Tryz.sizeOf282
  v175 := Tryz.zeroValue282
  t210 := Tryz.underlying286
  a210 := Tryz.isAgg286
  z210 := Tryz.sizeOf286
  v210 := Tryz.zeroValue286
  t212 := Tryz.underlying257
  a212 := Tryz.isAgg257
  z212 := Tryz.sizeOf257
  v212 := Tryz.zeroValue257
  t213 := Tryz.underlying258
  a213 := Tryz.isAgg258
  z213 := Tryz.sizeOf258
  t232 := Tryz.underlying297
  a232 := Tryz.isAgg297
  z232 := Tryz.sizeOf297
  v232 := Tryz.zeroValue297
  t233 := Tryz.underlying298
  a233 := Tryz.isAgg298
  z233 := Tryz.sizeOf298
  v233 := Tryz.zeroValue298
  g15 := by kernel_rfl
  g16 := by kernel_rfl
  g17 := by kernel_rfl
  g18 := by kernel_rfl
  g19 := by kernel_rfl
  t80 := Tryz.underlying156
  a80 := Tryz.isAgg156
  z80 := Tryz.sizeOf156
  v80 := Tryz.zeroValue156
  i0 := by kernel_rfl
  i2 := by kernel_rfl
  i3 := by kernel_rfl
  i4 := by kernel_rfl
  i5 := by kernel_rfl
  i9 := by kernel_rfl
  i20 := by kernel_rfl
  i21 := by kernel_rfl
  i37 := by kernel_rfl
  i46 := by kernel_rfl
  i51 := by kernel_rfl
  i53 := by kernel_rfl
  i75 := by kernel_rfl
  i76 := by kernel_rfl
  i80 := by kernel_rfl
  i85 := by kernel_rfl
  i127 := by kernel_rfl
  i143 := by kernel_rfl
  i145 := by kernel_rfl
  i167 := by kernel_rfl
  i168 := by kernel_rfl
  i171 := by kernel_rfl
  i173 := by kernel_rfl
  i175 := by kernel_rfl
  i210 := by kernel_rfl
  i212 := by kernel_rfl
  i232 := by kernel_rfl
  i233 := by kernel_rfl
  m15 := by kernel_rfl
  m16 := by kernel_rfl
  m17 := by kernel_rfl
  m18 := by kernel_rfl
  m19 := by kernel_rfl
  c0 := by kernel_rfl
  c2 := by kernel_rfl
  c3 := by kernel_rfl
  c4 := by kernel_rfl
  c5 := by kernel_rfl
  c9 := by kernel_rfl
  c20 := by kernel_rfl
  c21 := by kernel_rfl
  c37 := by kernel_rfl
  c46 := by kernel_rfl
  c51 := by kernel_rfl
  c53 := by kernel_rfl
  c75 := by kernel_rfl
  c76 := by kernel_rfl
  c80 := by kernel_rfl
  c85 := by kernel_rfl
  c127 := by kernel_rfl
  c143 := by kernel_rfl
  c145 := by kernel_rfl
  c167 := by kernel_rfl
  c168 := by kernel_rfl
  c171 := by kernel_rfl
  c173 := by kernel_rfl
  c175 := by kernel_rfl
  c210 := by kernel_rfl
  c212 := by kernel_rfl
  c213 := by kernel_rfl
  c232 := by kernel_rfl
  c233 := by kernel_rfl }
def Tryz.laysM146_ren : Go.Shelf.Ren := ⟨fun | 146 => 136 | 221 => 160 | 268 => 187 | 138 => 188 | 143 => 189 | 195 => 214 | 197 => 215 | 218 => 216 | 219 => 186 | 260 => 235 | 217 => 210 | 225 => 211 | 224 => 212 | 267 => 213 | 266 => 233 | 314 => 234 | n => n, fun | 9 => 9 | 31 => 197 | 3 => 3 | 4 => 4 | 0 => 0 | 105 => 264 | 21 => 21 | 5 => 5 | 46 => 260 | 119 => 299 | 139 => 302 | 138 => 301 | 146 => 280 | 51 => 101 | n => n, fun | 1 => 1 | 3 => 6 | 4 => 7 | n => n⟩
theorem Tryz.laysM146 : Go.Proofs.LaysM.n146 Tryz.prog Tryz.laysM146_ren := {
  mixed := by kernel_rfl
  f138 := Tryz.func188.trans (congrArg some (by kernel_rfl))
  f143 := Tryz.func189.trans (congrArg some (by kernel_rfl))
  f146 := Tryz.func136.trans (congrArg some (by kernel_rfl))
  f195 := Tryz.func214.trans (congrArg some (by kernel_rfl))
  f197 := Tryz.func215.trans (congrArg some (by kernel_rfl))
  f217 := Tryz.func210.trans (congrArg some (by kernel_rfl))
  f218 := Tryz.func216.trans (congrArg some (by kernel_rfl))
  f219 := Tryz.func186.trans (congrArg some (by kernel_rfl))
  f221 := Tryz.func160.trans (congrArg some (by kernel_rfl))
  f224 := Tryz.func212.trans (congrArg some (by kernel_rfl))
  f225 := Tryz.func211.trans (congrArg some (by kernel_rfl))
  f260 := Tryz.func235.trans (congrArg some (by kernel_rfl))
  f266 := Tryz.func233.trans (congrArg some (by kernel_rfl))
  f267 := Tryz.func213.trans (congrArg some (by kernel_rfl))
  f268 := Tryz.func187.trans (congrArg some (by kernel_rfl))
  f314 := Tryz.func234.trans (congrArg some (by kernel_rfl))
  t0 := Tryz.underlying0
  a0 := Tryz.isAgg0
  z0 := Tryz.sizeOf0
  v0 := Tryz.zeroValue0
  t3 := Tryz.underlying3
  a3 := Tryz.isAgg3
  z3 := Tryz.sizeOf3
  v3 := Tryz.zeroValue3
  t4 := Tryz.underlying4
  a4 := Tryz.isAgg4
  z4 := Tryz.sizeOf4
  v4 := Tryz.zeroValue4
  t5 := Tryz.underlying5
  a5 := Tryz.isAgg5
  z5 := Tryz.sizeOf5
  v5 := Tryz.zeroValue5
  t9 := Tryz.underlying9
  a9 := Tryz.isAgg9
  z9 := Tryz.sizeOf9
  v9 := Tryz.zeroValue9
  t21 := Tryz.underlying21
  a21 := Tryz.isAgg21
  z21 := Tryz.sizeOf21
  v21 := Tryz.zeroValue21
  t31 := Tryz.underlying197
  a31 := Tryz.isAgg197
  z31 := Tryz.sizeOf197
  v31 := Tryz.zeroValue197
  t46 := Tryz.underlying260
  a46 := Tryz.isAgg260
  z46 := Tryz.sizeOf260
  v46 := Tryz.zeroValue260
  t51 := Tryz.underlying101
  a51 := Tryz.isAgg101
  z51 := Tryz.sizeOf101
  v51 := Tryz.zeroValue101
  t105 := Tryz.underlying264
  a105 := Tryz.isAgg264
  z105 := Tryz.sizeOf264
  v105 := Tryz.zeroValue264
  t119 := Tryz.underlying299
  a119 := Tryz.isAgg299
  z119 := Tryz.sizeOf299
  t138 := Tryz.underlying301
  a138 := Tryz.isAgg301
  z138 := Tryz.sizeOf301
  v138 := Tryz.zeroValue301
  t139 := Tryz.underlying302
  a139 := Tryz.isAgg302
  z139 := Tryz.sizeOf302
  v139 := Tryz.zeroValue302
  t146 := Tryz.underlying280
  a146 := Tryz.isAgg280
  z146 := Tryz.sizeOf280
  v146 := Tryz.zeroValue280
  g1 := by kernel_rfl
  g3 := by kernel_rfl
  g4 := by kernel_rfl
  i0 := by kernel_rfl
  i3 := by kernel_rfl
  i4 := by kernel_rfl
  i5 := by kernel_rfl
  i9 := by kernel_rfl
  i21 := by kernel_rfl
  i31 := by kernel_rfl
  i46 := by kernel_rfl
  i51 := by kernel_rfl
  i105 := by kernel_rfl
  i138 := by kernel_rfl
  i139 := by kernel_rfl
  i146 := by kernel_rfl
  m1 := by kernel_rfl
  s1_3 := fun w h => Go.Proofs.cell_of_shapedOpen_int (zero := #[.int .i64 0]) (t := 3) h (of_decide_eq_true (by kernel_rfl)) (by kernel_rfl) rfl (by kernel_rfl) (by kernel_rfl) Tryz.underlying3
  m3 := by kernel_rfl
  m4 := by kernel_rfl }


open Go.RowKit in
theorem Tryz.strings_Split_shaped (s sep : ByteArray) (w : World) (h : w.ShapedOpen Tryz.prog) (hs : s.size < 4294967281) (h1 : 1 ≤ sep.size) :
    Calls Tryz.prog 136 #[.string s, .string sep] w fun e w' =>
      e = .returned (.slice (some ⟨w.heap.size, 0, none⟩) (Lib.countB s sep + 1) (Lib.countB s sep + 1)) ∧ w' = w.alloc (.cells ((Lib.splitB sep 0 (Lib.countB s sep) s).map Value.string).toArray 9) := Any.strings_Split_shaped Tryz.laysM146 s sep w h hs h1
end Go.Proofs
namespace Go.Proofs.YthkkdepppjiaeaaGreatDoor
open Go.RowKit Go.Shelf Go.Sort

/-- What the library reads where it makes an error of a text: its two variables. -/
structure EnvB (w : World) : Prop where
  env : Env w
  syn : ∃ tp p, w.var? Tryz.prog "strconv.ErrSyntax" = some #[.iface tp p]
  rng : ∃ tp p, w.var? Tryz.prog "strconv.ErrRange" = some #[.iface tp p]
theorem var_below {n : String} {g : Nat} {cs : Array Value} {w w' : World} (hg : Tryz.prog.globalNamed n = some g) (h : w.var? Tryz.prog n = some cs) (hb : Below w.heap.size w w') : w'.var? Tryz.prog n = some cs := by
  unfold World.var? at h ⊢
  rw [hg] at h ⊢
  simp only [Option.bind_some] at h ⊢
  have hlt : g < w.heap.size := by
    rcases Nat.lt_or_ge g w.heap.size with h' | h'
    · exact h'
    · rw [Array.getElem?_eq_none h'] at h; cases h
  rw [hb.block g hlt]
  exact h
theorem EnvB.below {w w' : World} (h : EnvB w) (hb : Below w.heap.size w w') : EnvB w' := by
  obtain ⟨h0, ⟨t1, p1, h1⟩, ⟨t2, p2, h2⟩⟩ := h
  exact ⟨h0.below hb, ⟨t1, p1, var_below (g := 2) (by kernel_rfl) h1 hb⟩, ⟨t2, p2, var_below (g := 3) (by kernel_rfl) h2 hb⟩⟩
theorem below_bytes {w w' : World} {t : TypeId} (h : w' = w ∨ ∃ l, w' = Lib.bytesWorld w t l) : Below w.heap.size w w' := by
  rcases h with rfl | ⟨l, rfl⟩
  · exact Below.refl _ _
  · exact Lib.bytesWorld_below _ _ _
/-- strconv.Atoi at whatever text: an int and no error where the text spells one, else an error. -/
theorem op_atoi (s : ByteArray) (w : World) (hE : EnvB w) (hs : s.size ≤ 100000) :
    Calls Tryz.prog 161 #[.string s] w fun e w' => ∃ (v : Int) (ev : Value), e = .returned (.tuple #[.int .i64 v, ev]) ∧ ((ev = .nilIface ∧ Lib.atoiAll s.data.toList = .ok v) ∨ ((∃ t p, ev = .iface t p) ∧ ∀ z, Lib.atoiAll s.data.toList ≠ .ok z)) ∧ Below w.heap.size w w' := by
  obtain ⟨_, ⟨t1, p1, h1⟩, ⟨t2, p2, h2⟩⟩ := hE
  rcases hr : Lib.atoiAll s.data.toList with v | _ | _
  · refine (Any.strconv_Atoi_ok Tryz.laysC172 s (by omega) v hr w).mono ?_
    rintro e w' ⟨rfl, hw⟩
    exact ⟨v, _, rfl, .inl ⟨rfl, rfl⟩, below_bytes hw⟩
  · refine (Any.strconv_Atoi_syntax_var Tryz.laysC172 s (by omega) hr t1 p1 w h1).mono ?_
    rintro e w' ⟨N, rfl, _, _, hb⟩
    exact ⟨_, _, rfl, .inr ⟨⟨_, _, rfl⟩, fun z hz => by cases hz⟩, hb⟩
  · refine (Any.strconv_Atoi_range_var Tryz.laysC172 s (by omega) hr t2 p2 w h2).mono ?_
    rintro e w' ⟨N, rfl, _, _, hb⟩
    exact ⟨_, _, rfl, .inr ⟨⟨_, _, rfl⟩, fun z hz => by cases hz⟩, hb⟩
end Go.Proofs.YthkkdepppjiaeaaGreatDoor

/- The program's package opening: number. -/
namespace Go.Proofs.YthkkdepppjiaeaaGreatDoor
open Go.RowKit Go.Shelf Go.Sort

attribute [local go_sem] Oper.semAt_some

/-- What number answers: an int, and whether the text is that int's own numeral, from 0 to 9999. -/
def NumP (s : ByteArray) (w : World) (e : Ending) (w' : World) : Prop := ∃ (v : Int) (b : Bool), e = .returned (.tuple #[.int .i64 v, .bool b]) ∧ (b = true → 0 ≤ v ∧ v ≤ 9999 ∧ s = ⟨(Lib.itoa v).toArray⟩) ∧ (b = false → ∀ k : Int, 0 ≤ k → k ≤ 9999 → s ≠ ⟨(Lib.itoa k).toArray⟩) ∧ Below w.heap.size w w'
theorem itoa_nat {k : Int} (h : 0 ≤ k) : Lib.itoa k = Lib.decDigits k.toNat := by
  unfold Lib.itoa
  rw [if_neg (by omega)]
theorem atoi_itoa {k : Int} (h : 0 ≤ k) (h2 : k ≤ 9999) : Lib.atoiAll (Lib.itoa k) = .ok k := by
  rw [itoa_nat h]
  have hp := parseUint_few k.toNat (by omega)
  rw [Lib.parseUintB_64] at hp
  have hd := decDigits_dig k.toNat
  cases hl : Lib.decDigits k.toNat with
  | nil => exact absurd hl (decDigits_ne _)
  | cons c r =>
    rw [hl] at hp hd
    have hc := hd c (by simp)
    unfold isDig at hc
    rw [Lib.atoiAll_plain c r (by omega) (by omega), hp]
    have e : ((k.toNat : Nat) : Int) = k := Int.toNat_of_nonneg h
    unfold Lib.signless
    simp only [e]
    first
    | rfl
    | (rw [if_neg (by omega)])


set_option maxRecDepth 100000 in
set_option maxHeartbeats 4000000 in
theorem op_number (s : ByteArray) (w : World) (hE : EnvB w) (hs : s.size ≤ 100000) :
    Calls Tryz.prog 137 #[.string s] w (NumP s w) := by
  have HA := Lib.hid (op_atoi s w hE hs)
  have HI := Lib.hid (fun (v : Int) (h0 : 0 ≤ v) (h1 : v ≤ 9999) W hE => op_itoa v W hE h0 h1)
  have HE := Lib.hid hE
  clear hE
  go_enter Tryz.func137, Tryz.ntmps137
  go_wp2_with fail
  refine HA.out.mono ?_
  rintro e w1 ⟨v, ev, rfl, hr, hB⟩
  rcases hr with ⟨rfl, hv⟩ | ⟨⟨t, p, rfl⟩, hno⟩
  · have HV := Lib.hid hv
    clear hv
    by_cases h0 : 0 ≤ v
    · by_cases h1 : v ≤ 9999
      · have HI := Lib.hid (HI.out v h0 h1)
        go_wp2_with fail
        refine (HI.out _ (HE.out.below hB).env).mono ?_
        rintro e w2 ⟨rfl, hb⟩
        replace hB := bstep hB hb
        clear hb
        go_wp2_with fail
        go_ret2
        refine (show NumP s w _ w2 from ⟨v, (Lib.itoa v == s.toList), rfl, fun h => ⟨h0, h1, ?_⟩, fun h k k0 k1 e => ?_, hB⟩)
        · rw [beq_iff_eq, Lib.toList_data] at h
          obtain ⟨⟨l⟩⟩ := s
          simp only at h
          rw [h]
        · have h2 := HV.out
          rw [e, show (⟨(Lib.itoa k).toArray⟩ : ByteArray).data.toList = Lib.itoa k from rfl, atoi_itoa k0 k1] at h2
          injection h2 with h2
          rw [e, Lib.toList_data, show (⟨(Lib.itoa k).toArray⟩ : ByteArray).data.toList = Lib.itoa k from rfl, h2, beq_self_eq_true] at h
          cases h
      · go_wp2_with fail
        go_ret2
        refine ⟨_, _, rfl, fun h => (by cases h), fun _ k k0 k1 e => ?_, hB⟩
        have := atoi_itoa k0 k1
        have h2 := HV.out
        rw [e, show (⟨(Lib.itoa k).toArray⟩ : ByteArray).data.toList = Lib.itoa k from rfl, this] at h2
        injection h2 with h2
        omega
    · go_wp2_with fail
      go_ret2
      refine ⟨_, _, rfl, fun h => (by cases h), fun _ k k0 k1 e => ?_, hB⟩
      have := atoi_itoa k0 k1
      have h2 := HV.out
      rw [e, show (⟨(Lib.itoa k).toArray⟩ : ByteArray).data.toList = Lib.itoa k from rfl, this] at h2
      injection h2 with h2
      omega
  · have HV := Lib.hid hno
    clear hno
    go_wp2_with fail
    go_ret2
    refine ⟨_, _, rfl, fun h => (by cases h), fun _ k k0 k1 e => ?_, hB⟩
    have := HV.out k
    rw [e, show (⟨(Lib.itoa k).toArray⟩ : ByteArray).data.toList = Lib.itoa k from rfl] at this
    exact this (atoi_itoa k0 k1)
end Go.Proofs.YthkkdepppjiaeaaGreatDoor

/- The program's package opening: read. -/
namespace Go.Proofs.YthkkdepppjiaeaaGreatDoor
open Go.RowKit Go.Shelf Go.Sort

attribute [local go_sem] Oper.semAt_some

theorem rowc11 {W : World} {g : Nat} {v0 v1 v2 v3 v4 v5 v6 v7 v8 v9 v10 : Value} {t : TypeId} (h : W.heap[g]? = some (.cells #[v0, v1, v2, v3, v4, v5, v6, v7, v8, v9, v10] t (0, 0))) : W.cell? ⟨g, 0, none⟩ = some v0 ∧ W.cell? ⟨g, 1, none⟩ = some v1 ∧ W.cell? ⟨g, 2, none⟩ = some v2 ∧ W.cell? ⟨g, 3, none⟩ = some v3 ∧ W.cell? ⟨g, 4, none⟩ = some v4 ∧ W.cell? ⟨g, 5, none⟩ = some v5 ∧ W.cell? ⟨g, 6, none⟩ = some v6 ∧ W.cell? ⟨g, 7, none⟩ = some v7 ∧ W.cell? ⟨g, 8, none⟩ = some v8 ∧ W.cell? ⟨g, 9, none⟩ = some v9 ∧ W.cell? ⟨g, 10, none⟩ = some v10 :=
  ⟨cell_of_row W _ 0 _ _ _ h, cell_of_row W _ 1 _ _ _ h, cell_of_row W _ 2 _ _ _ h, cell_of_row W _ 3 _ _ _ h, cell_of_row W _ 4 _ _ _ h, cell_of_row W _ 5 _ _ _ h, cell_of_row W _ 6 _ _ _ h, cell_of_row W _ 7 _ _ _ h, cell_of_row W _ 8 _ _ _ h, cell_of_row W _ 9 _ _ _ h, cell_of_row W _ 10 _ _ _ h⟩
set_option maxHeartbeats 1000000 in
theorem store7 {w : World} {g : Nat} {v0 v1 v2 v3 v4 v5 v6 : Value} {t : TypeId} (h : w.heap[g]? = some (.cells #[v0, v1, v2, v3, v4, v5, v6] t (0, 0))) (u0 u1 u2 u3 u4 u5 u6 : Value) : (((((((w.setCell ⟨g, 0, none⟩ u0).setCell ⟨g, 1, none⟩ u1).setCell ⟨g, 2, none⟩ u2).setCell ⟨g, 3, none⟩ u3).setCell ⟨g, 4, none⟩ u4).setCell ⟨g, 5, none⟩ u5).setCell ⟨g, 6, none⟩ u6).heap[g]? = some (.cells #[u0, u1, u2, u3, u4, u5, u6] t (0, 0)) := by
  rw [heap_setCell_same _ g 6 _ _ u6 (heap_setCell_same _ g 5 _ _ u5 (heap_setCell_same _ g 4 _ _ u4 (heap_setCell_same _ g 3 _ _ u3 (heap_setCell_same _ g 2 _ _ u2 (heap_setCell_same _ g 1 _ _ u1 (heap_setCell_same _ g 0 _ _ u0 h))))))]
  simp only [List.setIfInBounds_toArray, List.set_cons_zero, List.set_cons_succ]
theorem store7_below {w0 w : World} {B g : Nat} (h : Below B w0 w) (hB : B ≤ g) (u0 u1 u2 u3 u4 u5 u6 : Value) : Below B w0 (((((((w.setCell ⟨g, 0, none⟩ u0).setCell ⟨g, 1, none⟩ u1).setCell ⟨g, 2, none⟩ u2).setCell ⟨g, 3, none⟩ u3).setCell ⟨g, 4, none⟩ u4).setCell ⟨g, 5, none⟩ u5).setCell ⟨g, 6, none⟩ u6) :=
  ((((((h.setCell (p := ⟨g, 0, none⟩) hB _).setCell (p := ⟨g, 1, none⟩) hB _).setCell (p := ⟨g, 2, none⟩) hB _).setCell (p := ⟨g, 3, none⟩) hB _).setCell (p := ⟨g, 4, none⟩) hB _).setCell (p := ⟨g, 5, none⟩) hB _).setCell (p := ⟨g, 6, none⟩) hB _
theorem setOne {w : World} {g i k : Nat} {cs : Array Value} {t : TypeId} {o : Obj} {v : Value} (h : w.heap[g]? = some (.cells cs t (0, 0))) (hne : k ≠ g) (hk : w.heap[k]? = some o) : (w.setCell ⟨g, i, none⟩ v).heap[g]? = some (.cells (cs.setIfInBounds i v) t (0, 0)) ∧ (w.setCell ⟨g, i, none⟩ v).heap[k]? = some o :=
  ⟨heap_setCell_same _ g i _ _ v h, (heap_setCell_other _ ⟨g, i, none⟩ _ v hne).trans hk⟩
theorem store7d {w0 w Z : World} {B g : Nat} {v0 v1 v2 v3 v4 v5 v6 : Value} {t : TypeId} {u0 u1 u2 u3 u4 u5 u6 : Value} (hZ : (((((((w.setCell ⟨g, 0, none⟩ u0).setCell ⟨g, 1, none⟩ u1).setCell ⟨g, 2, none⟩ u2).setCell ⟨g, 3, none⟩ u3).setCell ⟨g, 4, none⟩ u4).setCell ⟨g, 5, none⟩ u5).setCell ⟨g, 6, none⟩ u6).drew = Z) (h : w.heap[g]? = some (.cells #[v0, v1, v2, v3, v4, v5, v6] t (0, 0))) (hb : Below B w0 w) (hB : B ≤ g) : Z.heap[g]? = some (.cells #[u0, u1, u2, u3, u4, u5, u6] t (0, 0)) ∧ Below B w0 Z := by
  subst hZ
  exact ⟨drew_row (store7 h u0 u1 u2 u3 u4 u5 u6), (store7_below hb hB u0 u1 u2 u3 u4 u5 u6).drew⟩
theorem store456 {w0 w Z : World} {B g k : Nat} {v0 v1 v2 v3 v4 v5 v6 u4 u5 u6 : Value} {t : TypeId} {o : Obj} (hZ : (((w.setCell ⟨g, 4, none⟩ u4).setCell ⟨g, 5, none⟩ u5).setCell ⟨g, 6, none⟩ u6).drew = Z) (h : w.heap[g]? = some (.cells #[v0, v1, v2, v3, v4, v5, v6] t (0, 0))) (hne : k ≠ g) (hk : w.heap[k]? = some o) (hB : B ≤ g) (hb : Below B w0 w) :
    Z.heap[g]? = some (.cells #[v0, v1, v2, v3, u4, u5, u6] t (0, 0)) ∧ Z.heap[k]? = some o ∧ Below B w0 Z := by
  subst hZ
  obtain ⟨a1, b1⟩ := setOne (i := 4) (v := u4) h hne hk
  obtain ⟨a2, b2⟩ := setOne (i := 5) (v := u5) a1 hne b1
  obtain ⟨a3, b3⟩ := setOne (i := 6) (v := u6) a2 hne b2
  simp only [List.setIfInBounds_toArray, List.set_cons_zero, List.set_cons_succ] at a3
  exact ⟨drew_row a3, drew_row b3, (((hb.setCell (p := ⟨g, 4, none⟩) hB _).setCell (p := ⟨g, 5, none⟩) hB _).setCell (p := ⟨g, 6, none⟩) hB _).drew⟩

theorem opn_row : RowTy Tryz.prog 26 7 := rowTy_struct Tryz.underlying26 (by kernel_rfl)
theorem kind_index0 (a b c d : Value) (W : World) : (Instr.index 154 (.agg #[a, b, c, d]) (.int .i64 0)).run Tryz.prog W = .ok a W := by
  simp [Instr.index, Tryz.sizeOf9, Tryz.isAgg9, go_sem]
attribute [local go_sem] kind_index0 kind_index1 kind_index2 kind_index3
/-- The words of a text; of an opening's line. -/
def wds (s : ByteArray) : List ByteArray := Lib.splitB ⟨#[32]⟩ 0 (Lib.countB s ⟨#[32]⟩) s
def wdsO (o : Opn) : List ByteArray := [(⟨#[111, 112, 101, 110, 105, 110, 103]⟩ : ByteArray), ⟨(Lib.itoa o.id).toArray⟩, (⟨#[102, 114, 111, 109]⟩ : ByteArray), ⟨(Lib.itoa o.frm).toArray⟩, (⟨#[116, 111]⟩ : ByteArray), ⟨(Lib.itoa o.dst).toArray⟩, kwB o.kind, (⟨#[97, 116]⟩ : ByteArray), o.pt.1, o.pt.2.1, o.pt.2.2]
/-- A text is the line of an opening. -/
def RdL (s : ByteArray) (o : Opn) : Prop := wds s = wdsO o ∧ 0 ≤ o.id ∧ o.id ≤ 9999 ∧ 0 ≤ o.frm ∧ o.frm ≤ 9999 ∧ 0 ≤ o.dst ∧ o.dst ≤ 9999 ∧ 1 ≤ o.kind ∧ o.kind ≤ 3
def RdP (s : ByteArray) (w : World) (e : Ending) (w' : World) : Prop := ∃ (o : Opn) (b : Bool), e = .returned (.tuple #[opV o, .bool b]) ∧ (b = true → RdL s o) ∧ (b = false → ∀ o', ¬ RdL s o') ∧ Below w.heap.size w w'
theorem rd_end {s : ByteArray} {w Z : World} {v1 v2 v3 kd : Int} {a b c : ByteArray} {d : Bool} (h1 : d = true → RdL s ⟨v1, v2, v3, kd, (a, b, c)⟩) (h2 : d = false → ∀ o', ¬ RdL s o') (hb : Below w.heap.size w Z) :
    RdP s w (.returned (.tuple #[.agg #[.int .i64 v1, .int .i64 v2, .int .i64 v3, .int .i64 kd, .string a, .string b, .string c], .bool d])) Z :=
  ⟨⟨v1, v2, v3, kd, (a, b, c)⟩, d, rfl, h1, h2, hb⟩
theorem rd_at {s : ByteArray} {w Z : World} {v1 v2 v3 kd : Int} {a b c : ByteArray} {d : Bool} (h : (d = true → RdL s ⟨v1, v2, v3, kd, (a, b, c)⟩) ∧ (d = false → ∀ o', ¬ RdL s o')) (hb : Below w.heap.size w Z) :
    RdP s w (.returned (.tuple #[.agg #[.int .i64 v1, .int .i64 v2, .int .i64 v3, .int .i64 kd, .string a, .string b, .string c], .bool d])) Z := rd_end h.1 h.2 hb
theorem wds_len (s : ByteArray) : (wds s).length = Lib.countB s ⟨#[32]⟩ + 1 := Lib.splitB_all ⟨#[32]⟩ (by decide) 0 _ s rfl
/-- The kind that a word names among the first k ones. -/
def kdf (a : ByteArray) : Nat → Int
  | 0 => 0
  | k + 1 => if 0 < k ∧ kwB k = a then k else kdf a k
theorem kdf_four (a : ByteArray) : (kdf a 4 = 0 ∧ ∀ k : Int, 1 ≤ k → k ≤ 3 → kwB k ≠ a) ∨ (1 ≤ kdf a 4 ∧ kdf a 4 ≤ 3 ∧ kwB (kdf a 4) = a) := by
  by_cases h3 : kwB 3 = a
  · have e : kdf a 4 = 3 := by unfold kdf; rw [if_pos ⟨by decide, h3⟩]; rfl
    rw [e]
    exact .inr ⟨by decide, by decide, h3⟩
  · have e4 : kdf a 4 = kdf a 3 := by rw [kdf, if_neg (fun q => h3 q.2)]
    by_cases h2 : kwB 2 = a
    · have e : kdf a 3 = 2 := by unfold kdf; rw [if_pos ⟨by decide, h2⟩]; rfl
      rw [e4, e]
      exact .inr ⟨by decide, by decide, h2⟩
    · have e3 : kdf a 3 = kdf a 2 := by rw [kdf, if_neg (fun q => h2 q.2)]
      by_cases h1 : kwB 1 = a
      · have e : kdf a 2 = 1 := by unfold kdf; rw [if_pos ⟨by decide, h1⟩]; rfl
        rw [e4, e3, e]
        exact .inr ⟨by decide, by decide, h1⟩
      · have e2 : kdf a 2 = 0 := by
          rw [kdf, if_neg (fun q => h1 q.2), kdf, if_neg (fun q => absurd q.1 (by decide))]
          rfl
        rw [e4, e3, e2]
        refine .inl ⟨rfl, fun k k1 k2 => ?_⟩
        obtain rfl | rfl | rfl : k = 1 ∨ k = 2 ∨ k = 3 := by omega
        · exact h1
        · exact h2
        · exact h3
theorem kdf_step {a : ByteArray} {k : Nat} (h0 : 0 < k) : (kwB k = a → kdf a (k + 1) = k) ∧ (¬ kwB k = a → kdf a (k + 1) = kdf a k) :=
  ⟨fun h => by rw [kdf, if_pos ⟨h0, h⟩], fun h => by rw [kdf, if_neg (fun q => h q.2)]⟩
theorem kdf_first (a : ByteArray) : kdf a 1 = 0 := by
  rw [kdf, if_neg (fun q => absurd q.1 (by decide))]
  rfl
theorem beq_lit {a : ByteArray} {l : List UInt8} {q : Bool} (h : (a.toList == l) = q) : (q = true → a = ⟨l.toArray⟩) ∧ (q = false → a ≠ ⟨l.toArray⟩) := by
  subst h
  refine ⟨fun h => ?_, fun h e => ?_⟩
  · rw [beq_iff_eq, Lib.toList_data] at h
    obtain ⟨⟨m⟩⟩ := a
    simp only at h
    rw [h]
  · rw [e, Lib.toList_data] at h
    simp at h


set_option maxRecDepth 100000 in
set_option maxHeartbeats 4000000 in
theorem op_read_len (s : ByteArray) (w : World) (hE : EnvB w) (hs : s.size ≤ 100000) (hl : Lib.countB s ⟨#[32]⟩ + 1 ≠ 11) :
    Calls Tryz.prog 94 #[.string s] w (RdP s w) := by
  have HNO : Hid (∀ o', ¬ RdL s o') := Lib.hid (fun o' hr => hl (by
    have h := congrArg List.length hr.1
    rw [wds_len] at h
    exact h))
  have HSP := Lib.hid (fun W hW => Tryz.strings_Split_shaped s ⟨#[32]⟩ W hW (by omega) (by decide))
  have HE := Lib.hid hE
  clear hE
  generalize Lib.countB s ⟨#[32]⟩ = n at *
  have hn : (((n : Int) + 1) != 11) = true := by rw [bne_iff_ne]; omega
  generalize (List.map Value.string (Lib.splitB ⟨#[32]⟩ 0 n s)).toArray = cs at *
  go_enter Tryz.func94, Tryz.ntmps94
  go_upto_region 1 with fail
  generalize hW : World.alloc w _ = W
  obtain ⟨hB, hsz, R2⟩ := A1 hW
  have R2 := Lib.hid R2
  clear hW hsz
  go_wp2_with fail
  refine (HSP.out _ (HE.out.below hB).env.shape).mono ?_
  rintro e w1 ⟨rfl, hw1⟩
  obtain ⟨hb, hsz, RW⟩ := A1 hw1.symm
  replace hB := bstep hB hb
  have LW := Lib.hid (lt_of_row R2.out)
  have R2 := Lib.hid (keep hb R2.out)
  have RW := Lib.hid RW
  clear hw1 hb hsz
  clear RW LW
  obtain ⟨R2c0, R2c1, R2c2, R2c3, R2c4, R2c5, R2c6, R2f0, R2f1, R2f2, R2f3, R2f4, R2f5, R2f6⟩ := row7 R2.out
  go_wp2_with fail
  exact bodyPost_ret (res_ct rfl opn_row rfl (store7 R2.out _ _ _ _ _ _ _) rfl) rfl (show RdP s w _ _ from ⟨⟨0, 0, 0, 0, (⟨#[]⟩, ⟨#[]⟩, ⟨#[]⟩)⟩, false, rfl, (fun h => (by cases h)), fun _ o' hr => HNO.out o' hr, store7_below hB (by omega) _ _ _ _ _ _ _⟩)


set_option maxRecDepth 100000 in
set_option maxHeartbeats 8000000 in
theorem op_read_word (s a0 a1 a2 a3 a4 a5 a6 a7 a8 a9 a10 : ByteArray) (q0 q2 q4 q7 : Bool) (w : World) (hE : EnvB w) (hs : s.size ≤ 100000) (hn : Lib.countB s ⟨#[32]⟩ = 10) (hw : Lib.splitB ⟨#[32]⟩ 0 10 s = [a0, a1, a2, a3, a4, a5, a6, a7, a8, a9, a10])
    (h0 : (a0.toList == [111, 112, 101, 110, 105, 110, 103]) = q0) (h2 : (a2.toList == [102, 114, 111, 109]) = q2) (h4 : (a4.toList == [116, 111]) = q4) (h7 : (a7.toList == [97, 116]) = q7) (hq : (q0 && (q2 && (q4 && q7))) = false) :
    Calls Tryz.prog 94 #[.string s] w (RdP s w) := by
  have HNO : Hid (∀ o', ¬ RdL s o') := Lib.hid (fun o' hr => by
    have h := hr.1
    unfold wds wdsO at h
    rw [hn, hw] at h
    simp only [List.cons.injEq] at h
    obtain ⟨e0, _, e2, _, e4, _, _, e7, _⟩ := h
    have g0 := beq_lit h0
    have g2 := beq_lit h2
    have g4 := beq_lit h4
    have g7 := beq_lit h7
    cases q0
    · exact g0.2 rfl e0
    · cases q2
      · exact g2.2 rfl e2
      · cases q4
        · exact g4.2 rfl e4
        · cases q7
          · exact g7.2 rfl e7
          · cases hq)
  have hsp := fun W hW => Tryz.strings_Split_shaped s ⟨#[32]⟩ W hW (by omega) (by decide)
  rw [hn, hw] at hsp
  simp only [List.map_cons, List.map_nil] at hsp
  have HSP := Lib.hid hsp
  have HE := Lib.hid hE
  clear hE hsp hn hw
  cases q0
  · clear hq
    go_enter Tryz.func94, Tryz.ntmps94
    go_upto_region 1 with fail
    generalize hW : World.alloc w _ = W
    obtain ⟨hB, hsz, R2⟩ := A1 hW
    have R2 := Lib.hid R2
    clear hW hsz
    go_wp2_with fail
    refine (HSP.out _ (HE.out.below hB).env.shape).mono ?_
    rintro e w1 ⟨rfl, hw1⟩
    obtain ⟨hb, hsz, RW⟩ := A1 hw1.symm
    replace hB := bstep hB hb
    have LW := Lib.hid (lt_of_row R2.out)
    have R2 := Lib.hid (keep hb R2.out)
    have RW := Lib.hid RW
    clear hw1 hb hsz
    obtain ⟨x0, x1, x2, x3, x4, x5, x6, x7, x8, x9, x10⟩ := rowc11 RW.out
    obtain ⟨R2c0, R2c1, R2c2, R2c3, R2c4, R2c5, R2c6, R2f0, R2f1, R2f2, R2f3, R2f4, R2f5, R2f6⟩ := row7 R2.out
    go_wp2_with fail
    exact bodyPost_ret (res_ct rfl opn_row rfl (store7 R2.out _ _ _ _ _ _ _) rfl) rfl (show RdP s w _ _ from ⟨⟨0, 0, 0, 0, (⟨#[]⟩, ⟨#[]⟩, ⟨#[]⟩)⟩, false, rfl, (fun h => (by cases h)), fun _ o' hr => HNO.out o' hr, store7_below hB (by omega) _ _ _ _ _ _ _⟩)
  · cases q2
    · clear hq
      go_enter Tryz.func94, Tryz.ntmps94
      go_upto_region 1 with fail
      generalize hW : World.alloc w _ = W
      obtain ⟨hB, hsz, R2⟩ := A1 hW
      have R2 := Lib.hid R2
      clear hW hsz
      go_wp2_with fail
      refine (HSP.out _ (HE.out.below hB).env.shape).mono ?_
      rintro e w1 ⟨rfl, hw1⟩
      obtain ⟨hb, hsz, RW⟩ := A1 hw1.symm
      replace hB := bstep hB hb
      have LW := Lib.hid (lt_of_row R2.out)
      have R2 := Lib.hid (keep hb R2.out)
      have RW := Lib.hid RW
      clear hw1 hb hsz
      obtain ⟨x0, x1, x2, x3, x4, x5, x6, x7, x8, x9, x10⟩ := rowc11 RW.out
      obtain ⟨R2c0, R2c1, R2c2, R2c3, R2c4, R2c5, R2c6, R2f0, R2f1, R2f2, R2f3, R2f4, R2f5, R2f6⟩ := row7 R2.out
      go_wp2_with fail
      exact bodyPost_ret (res_ct rfl opn_row rfl (store7 R2.out _ _ _ _ _ _ _) rfl) rfl (show RdP s w _ _ from ⟨⟨0, 0, 0, 0, (⟨#[]⟩, ⟨#[]⟩, ⟨#[]⟩)⟩, false, rfl, (fun h => (by cases h)), fun _ o' hr => HNO.out o' hr, store7_below hB (by omega) _ _ _ _ _ _ _⟩)
    · cases q4
      · clear hq
        go_enter Tryz.func94, Tryz.ntmps94
        go_upto_region 1 with fail
        generalize hW : World.alloc w _ = W
        obtain ⟨hB, hsz, R2⟩ := A1 hW
        have R2 := Lib.hid R2
        clear hW hsz
        go_wp2_with fail
        refine (HSP.out _ (HE.out.below hB).env.shape).mono ?_
        rintro e w1 ⟨rfl, hw1⟩
        obtain ⟨hb, hsz, RW⟩ := A1 hw1.symm
        replace hB := bstep hB hb
        have LW := Lib.hid (lt_of_row R2.out)
        have R2 := Lib.hid (keep hb R2.out)
        have RW := Lib.hid RW
        clear hw1 hb hsz
        obtain ⟨x0, x1, x2, x3, x4, x5, x6, x7, x8, x9, x10⟩ := rowc11 RW.out
        obtain ⟨R2c0, R2c1, R2c2, R2c3, R2c4, R2c5, R2c6, R2f0, R2f1, R2f2, R2f3, R2f4, R2f5, R2f6⟩ := row7 R2.out
        go_wp2_with fail
        exact bodyPost_ret (res_ct rfl opn_row rfl (store7 R2.out _ _ _ _ _ _ _) rfl) rfl (show RdP s w _ _ from ⟨⟨0, 0, 0, 0, (⟨#[]⟩, ⟨#[]⟩, ⟨#[]⟩)⟩, false, rfl, (fun h => (by cases h)), fun _ o' hr => HNO.out o' hr, store7_below hB (by omega) _ _ _ _ _ _ _⟩)
      · obtain rfl : q7 = false := by simpa using hq
        clear hq
        go_enter Tryz.func94, Tryz.ntmps94
        go_upto_region 1 with fail
        generalize hW : World.alloc w _ = W
        obtain ⟨hB, hsz, R2⟩ := A1 hW
        have R2 := Lib.hid R2
        clear hW hsz
        go_wp2_with fail
        refine (HSP.out _ (HE.out.below hB).env.shape).mono ?_
        rintro e w1 ⟨rfl, hw1⟩
        obtain ⟨hb, hsz, RW⟩ := A1 hw1.symm
        replace hB := bstep hB hb
        have LW := Lib.hid (lt_of_row R2.out)
        have R2 := Lib.hid (keep hb R2.out)
        have RW := Lib.hid RW
        clear hw1 hb hsz
        obtain ⟨x0, x1, x2, x3, x4, x5, x6, x7, x8, x9, x10⟩ := rowc11 RW.out
        obtain ⟨R2c0, R2c1, R2c2, R2c3, R2c4, R2c5, R2c6, R2f0, R2f1, R2f2, R2f3, R2f4, R2f5, R2f6⟩ := row7 R2.out
        go_wp2_with fail
        exact bodyPost_ret (res_ct rfl opn_row rfl (store7 R2.out _ _ _ _ _ _ _) rfl) rfl (show RdP s w _ _ from ⟨⟨0, 0, 0, 0, (⟨#[]⟩, ⟨#[]⟩, ⟨#[]⟩)⟩, false, rfl, (fun h => (by cases h)), fun _ o' hr => HNO.out o' hr, store7_below hB (by omega) _ _ _ _ _ _ _⟩)


set_option maxRecDepth 100000 in
set_option maxHeartbeats 16000000 in
theorem op_read_go (s a0 a1 a2 a3 a4 a5 a6 a7 a8 a9 a10 : ByteArray) (w : World) (hE : EnvB w) (hs : s.size ≤ 100000) (hn : Lib.countB s ⟨#[32]⟩ = 10) (hw : Lib.splitB ⟨#[32]⟩ 0 10 s = [a0, a1, a2, a3, a4, a5, a6, a7, a8, a9, a10])
    (h0 : (a0.toList == [111, 112, 101, 110, 105, 110, 103]) = true) (h2 : (a2.toList == [102, 114, 111, 109]) = true) (h4 : (a4.toList == [116, 111]) = true) (h7 : (a7.toList == [97, 116]) = true) (g1 : a1.size ≤ 100000) (g3 : a3.size ≤ 100000) (g5 : a5.size ≤ 100000) :
    Calls Tryz.prog 94 #[.string s] w (RdP s w) := by
  have HOK : Hid (∀ o : Opn, RdL s o ↔ (a1 = ⟨(Lib.itoa o.id).toArray⟩ ∧ a3 = ⟨(Lib.itoa o.frm).toArray⟩ ∧ a5 = ⟨(Lib.itoa o.dst).toArray⟩ ∧ a6 = kwB o.kind ∧ a8 = o.pt.1 ∧ a9 = o.pt.2.1 ∧ a10 = o.pt.2.2) ∧ 0 ≤ o.id ∧ o.id ≤ 9999 ∧ 0 ≤ o.frm ∧ o.frm ≤ 9999 ∧ 0 ≤ o.dst ∧ o.dst ≤ 9999 ∧ 1 ≤ o.kind ∧ o.kind ≤ 3) := Lib.hid (fun o => by
    have e0 := (beq_lit h0).1 rfl
    have e2 := (beq_lit h2).1 rfl
    have e4 := (beq_lit h4).1 rfl
    have e7 := (beq_lit h7).1 rfl
    unfold RdL wds wdsO
    rw [hn, hw]
    simp only [List.cons.injEq, and_true]
    constructor
    · rintro ⟨⟨_, k1, _, k3, _, k5, k6, _, k8, k9, k10⟩, hr⟩
      exact ⟨⟨k1, k3, k5, k6, k8, k9, k10⟩, hr⟩
    · rintro ⟨⟨k1, k3, k5, k6, k8, k9, k10⟩, hr⟩
      exact ⟨⟨e0, k1, e2, k3, e4, k5, k6, e7, k8, k9, k10⟩, hr⟩)
  have hsp := fun W hW => Tryz.strings_Split_shaped s ⟨#[32]⟩ W hW (by omega) (by decide)
  rw [hn, hw] at hsp
  simp only [List.map_cons, List.map_nil] at hsp
  have HSP := Lib.hid hsp
  have HN1 := Lib.hid (fun W hE => op_number a1 W hE g1)
  have HN2 := Lib.hid (fun W hE => op_number a3 W hE g3)
  have HN3 := Lib.hid (fun W hE => op_number a5 W hE g5)
  have HKI := Lib.hid (fun W => op_kinds W)
  unfold NumP at HN1 HN2 HN3
  have HE := Lib.hid hE
  clear hE hsp hn hw g1 g3 g5
  go_enter Tryz.func94, Tryz.ntmps94
  go_upto_region 1 with fail
  generalize hW : World.alloc w _ = W
  obtain ⟨hB, hsz, R2⟩ := A1 hW
  have R2 := Lib.hid R2
  clear hW hsz
  go_wp2_with fail
  refine (HSP.out _ (HE.out.below hB).env.shape).mono ?_
  rintro e w1 ⟨rfl, hw1⟩
  obtain ⟨hb, hsz, RW⟩ := A1 hw1.symm
  replace hB := bstep hB hb
  have LW := Lib.hid (lt_of_row R2.out)
  have R2 := Lib.hid (keep hb R2.out)
  have RW := Lib.hid RW
  clear hw1 hb hsz
  obtain ⟨x0, x1, x2, x3, x4, x5, x6, x7, x8, x9, x10⟩ := rowc11 RW.out
  go_upto_region 6 with fail
  clear x0 x1 x2 x3 x4 x5 x6 x7 x8 x9 x10
  have LX := Lib.hid (lt_of_row RW.out)
  generalize hZ : World.alloc w1 _ = Z0
  obtain ⟨hb, hsz, R5⟩ := A1 hZ
  replace hB := bstep hB hb
  have R2 := Lib.hid (keep hb R2.out)
  have RW := Lib.hid (keep hb RW.out)
  have R5 := Lib.hid R5
  have N25 := Lib.hid (show w.heap.size ≠ w1.heap.size by have := LW.out; have := LX.out; omega)
  have NW5 := Lib.hid (show W.heap.size ≠ w1.heap.size by have := LX.out; omega)
  have L5 := Lib.hid (show w.heap.size ≤ w1.heap.size by have := LW.out; have := LX.out; omega)
  clear hb hsz hZ
  generalize W.heap.size = bw at *
  generalize w1.heap.size = b5 at *
  obtain ⟨x0, x1, x2, x3, x4, x5, x6, x7, x8, x9, x10⟩ := rowc11 RW.out
  go_wp2_with fail
  clear x0 x1 x2 x3 x4 x5 x6 x7 x8 x9 x10
  refine (HN1.out _ (HE.out.below hB)).mono ?_
  rintro e y1 ⟨v1, n1, rfl, hy1, hx1, hb⟩
  replace hB := bstep hB hb
  have R2 := Lib.hid (keep hb R2.out)
  have RW := Lib.hid (keep hb RW.out)
  have R5 := Lib.hid (keep hb R5.out)
  have HY1 := Lib.hid hy1
  have HX1 := Lib.hid hx1
  clear hb hy1 hx1
  obtain ⟨R5c0, R5c1, R5c2, R5c3, R5c4, R5c5, R5c6, R5f0, R5f1, R5f2, R5f3, R5f4, R5f5, R5f6⟩ := row7 R5.out
  go_upto_region 7 with fail
  clear R5c0 R5c1 R5c2 R5c3 R5c4 R5c5 R5c6 R5f0 R5f1 R5f2 R5f3 R5f4 R5f5 R5f6
  generalize hZ : World.setCell y1 _ _ = Z1
  have hZB : Below w.heap.size w Z1 := hZ ▸ hB.setCell (p := ⟨b5, 0, none⟩) L5.out _
  obtain ⟨z5, z2⟩ := setOne (i := 0) (v := .int .i64 v1) R5.out N25.out R2.out
  obtain ⟨_, zw⟩ := setOne (i := 0) (v := .int .i64 v1) R5.out NW5.out RW.out
  rw [hZ] at z5 z2 zw
  simp only [List.setIfInBounds_toArray, List.set_cons_zero] at z5
  have hB := hZB
  have R2 := Lib.hid z2
  have RW := Lib.hid zw
  have R5 := Lib.hid z5
  clear hZ hZB z2 z5 zw
  obtain ⟨x0, x1, x2, x3, x4, x5, x6, x7, x8, x9, x10⟩ := rowc11 RW.out
  go_wp2_with fail
  clear x0 x1 x2 x3 x4 x5 x6 x7 x8 x9 x10
  refine (HN2.out _ (HE.out.below hB)).mono ?_
  rintro e y2 ⟨v2, n2, rfl, hy2, hx2, hb⟩
  replace hB := bstep hB hb
  have R2 := Lib.hid (keep hb R2.out)
  have RW := Lib.hid (keep hb RW.out)
  have R5 := Lib.hid (keep hb R5.out)
  have HY2 := Lib.hid hy2
  have HX2 := Lib.hid hx2
  clear hb hy2 hx2
  obtain ⟨R5c0, R5c1, R5c2, R5c3, R5c4, R5c5, R5c6, R5f0, R5f1, R5f2, R5f3, R5f4, R5f5, R5f6⟩ := row7 R5.out
  go_upto_region 8 with fail
  clear R5c0 R5c1 R5c2 R5c3 R5c4 R5c5 R5c6 R5f0 R5f1 R5f2 R5f3 R5f4 R5f5 R5f6
  generalize hZ : World.setCell y2 _ _ = Z2
  have hZB : Below w.heap.size w Z2 := hZ ▸ hB.setCell (p := ⟨b5, 1, none⟩) L5.out _
  obtain ⟨z5, z2⟩ := setOne (i := 1) (v := .int .i64 v2) R5.out N25.out R2.out
  obtain ⟨_, zw⟩ := setOne (i := 1) (v := .int .i64 v2) R5.out NW5.out RW.out
  rw [hZ] at z5 z2 zw
  simp only [List.setIfInBounds_toArray, List.set_cons_zero, List.set_cons_succ] at z5
  have hB := hZB
  have R2 := Lib.hid z2
  have RW := Lib.hid zw
  have R5 := Lib.hid z5
  clear hZ hZB z2 z5 zw
  obtain ⟨x0, x1, x2, x3, x4, x5, x6, x7, x8, x9, x10⟩ := rowc11 RW.out
  go_wp2_with fail
  clear x0 x1 x2 x3 x4 x5 x6 x7 x8 x9 x10
  refine (HN3.out _ (HE.out.below hB)).mono ?_
  rintro e y3 ⟨v3, n3, rfl, hy3, hx3, hb⟩
  replace hB := bstep hB hb
  have R2 := Lib.hid (keep hb R2.out)
  have RW := Lib.hid (keep hb RW.out)
  have R5 := Lib.hid (keep hb R5.out)
  have HY3 := Lib.hid hy3
  have HX3 := Lib.hid hx3
  clear hb hy3 hx3
  obtain ⟨R5c0, R5c1, R5c2, R5c3, R5c4, R5c5, R5c6, R5f0, R5f1, R5f2, R5f3, R5f4, R5f5, R5f6⟩ := row7 R5.out
  go_upto_region 9 with fail
  clear R5c0 R5c1 R5c2 R5c3 R5c4 R5c5 R5c6 R5f0 R5f1 R5f2 R5f3 R5f4 R5f5 R5f6
  generalize hZ : World.setCell y3 _ _ = Z3
  have hZB : Below w.heap.size w Z3 := hZ ▸ hB.setCell (p := ⟨b5, 2, none⟩) L5.out _
  obtain ⟨z5, z2⟩ := setOne (i := 2) (v := .int .i64 v3) R5.out N25.out R2.out
  obtain ⟨_, zw⟩ := setOne (i := 2) (v := .int .i64 v3) R5.out NW5.out RW.out
  rw [hZ] at z5 z2 zw
  simp only [List.setIfInBounds_toArray, List.set_cons_zero, List.set_cons_succ] at z5
  have hB := hZB
  have R2 := Lib.hid z2
  have RW := Lib.hid zw
  have R5 := Lib.hid z5
  clear hZ hZB z2 z5 zw
  go_wp2_with fail
  refine (HKI.out _).mono ?_
  rintro e y4 ⟨rfl, hb⟩
  replace hB := bstep hB hb
  have R2 := Lib.hid (keep hb R2.out)
  have RW := Lib.hid (keep hb RW.out)
  have R5 := Lib.hid (keep hb R5.out)
  clear hb
  go_wp2_with fail
  go_loopw [66] (fun x wr => ∃ (k : Nat) (kd : Int), k ≤ 4 ∧ x = .int .i64 k ∧ Below w.heap.size w wr ∧ Hid (wr.heap[w.heap.size]? = some (.cells #[.int .i64 0, .int .i64 0, .int .i64 0, .int .i64 0, .string ⟨#[]⟩, .string ⟨#[]⟩, .string ⟨#[]⟩] 26 (0, 0))) ∧
      Hid (wr.heap[bw]? = some (.cells #[.string a0, .string a1, .string a2, .string a3, .string a4, .string a5, .string a6, .string a7, .string a8, .string a9, .string a10] 9 (0, 0))) ∧ Hid (wr.heap[b5]? = some (.cells #[.int .i64 v1, .int .i64 v2, .int .i64 v3, .int .i64 kd, .string ⟨#[]⟩, .string ⟨#[]⟩, .string ⟨#[]⟩] 26 (0, 0))) ∧ Hid (kd = kdf a6 k)) (fun x _ => 4 - (intOf x).toNat)
  case atStart => exact ⟨0, 0, by decide, rfl, hB, R2, RW, R5, Lib.hid rfl⟩
  case round =>
    clear hB R2 RW R5
    obtain ⟨k, kd, hk, rfl, hB, R2, RW, R5, HKD⟩ := hrel
    by_cases hlt : k < 4
    · clear hk
      rcases Nat.eq_zero_or_pos k with hk0 | hk0
      · subst hk0
        have HKE := Lib.hid ((HKD.out).trans (show kdf a6 0 = kdf a6 1 from (kdf_first a6).symm))
        obtain ⟨x0, x1, x2, x3, x4, x5, x6, x7, x8, x9, x10⟩ := rowc11 RW.out
        go_wp2_with fail
        clear x0 x1 x2 x3 x4 x5 x6 x7 x8 x9 x10
        go_roundw
        case rel => exact ⟨1, kd, by decide, by go_num, hB, R2, RW, R5, HKE⟩
        case measure => simp [intOf]
      · have JK := Lib.hid (kdf_step (a := a6) hk0)
        obtain rfl | rfl | rfl : k = 1 ∨ k = 2 ∨ k = 3 := by omega
        · obtain ⟨q, hq⟩ : ∃ q, ([117, 110, 112, 114, 111, 116, 101, 99, 116, 101, 100] == a6.toList) = q := ⟨_, rfl⟩
          have hq2 : (a6.toList == [117, 110, 112, 114, 111, 116, 101, 99, 116, 101, 100]) = q := by rw [← hq]; exact Bool.beq_comm
          have QL := Lib.hid (beq_lit hq2)
          clear hq2
          cases q
          · have HKE := Lib.hid (HKD.out.trans (JK.out.2 (fun e => QL.out.2 rfl e.symm)).symm)
            clear JK QL
            obtain ⟨x0, x1, x2, x3, x4, x5, x6, x7, x8, x9, x10⟩ := rowc11 RW.out
            go_wp2_with fail
            clear x0 x1 x2 x3 x4 x5 x6 x7 x8 x9 x10
            go_roundw
            case rel => exact ⟨1 + 1, kd, by decide, by go_num, hB, R2, RW, R5, HKE⟩
            case measure => simp [intOf]
          · have HKE := Lib.hid (show ((1 : Nat) : Int) = kdf a6 (1 + 1) from (JK.out.1 (QL.out.1 rfl).symm).symm)
            clear JK QL
            obtain ⟨x0, x1, x2, x3, x4, x5, x6, x7, x8, x9, x10⟩ := rowc11 RW.out
            obtain ⟨R5c0, R5c1, R5c2, R5c3, R5c4, R5c5, R5c6, R5f0, R5f1, R5f2, R5f3, R5f4, R5f5, R5f6⟩ := row7 R5.out
            go_wp2_with fail
            clear R5c0 R5c1 R5c2 R5c3 R5c4 R5c5 R5c6 R5f0 R5f1 R5f2 R5f3 R5f4 R5f5 R5f6
            clear x0 x1 x2 x3 x4 x5 x6 x7 x8 x9 x10
            generalize hZ : World.setCell wr _ _ = Z
            have hZB : Below w.heap.size w Z := hZ ▸ hB.setCell (p := ⟨b5, 3, none⟩) L5.out _
            obtain ⟨z5, z2⟩ := setOne (i := 3) (v := .int .i64 1) R5.out N25.out R2.out
            obtain ⟨_, zw⟩ := setOne (i := 3) (v := .int .i64 1) R5.out NW5.out RW.out
            rw [hZ] at z5 z2 zw
            simp only [List.setIfInBounds_toArray, List.set_cons_zero, List.set_cons_succ] at z5
            go_roundw
            case rel => exact ⟨1 + 1, 1, by decide, by go_num, hZB, Lib.hid z2, Lib.hid zw, Lib.hid z5, HKE⟩
            case measure => simp [intOf]
        · obtain ⟨q, hq⟩ : ∃ q, ([119, 101, 97, 116, 104, 101, 114, 116, 105, 103, 104, 116] == a6.toList) = q := ⟨_, rfl⟩
          have hq2 : (a6.toList == [119, 101, 97, 116, 104, 101, 114, 116, 105, 103, 104, 116]) = q := by rw [← hq]; exact Bool.beq_comm
          have QL := Lib.hid (beq_lit hq2)
          clear hq2
          cases q
          · have HKE := Lib.hid (HKD.out.trans (JK.out.2 (fun e => QL.out.2 rfl e.symm)).symm)
            clear JK QL
            obtain ⟨x0, x1, x2, x3, x4, x5, x6, x7, x8, x9, x10⟩ := rowc11 RW.out
            go_wp2_with fail
            clear x0 x1 x2 x3 x4 x5 x6 x7 x8 x9 x10
            go_roundw
            case rel => exact ⟨2 + 1, kd, by decide, by go_num, hB, R2, RW, R5, HKE⟩
            case measure => simp [intOf]
          · have HKE := Lib.hid (show ((2 : Nat) : Int) = kdf a6 (2 + 1) from (JK.out.1 (QL.out.1 rfl).symm).symm)
            clear JK QL
            obtain ⟨x0, x1, x2, x3, x4, x5, x6, x7, x8, x9, x10⟩ := rowc11 RW.out
            obtain ⟨R5c0, R5c1, R5c2, R5c3, R5c4, R5c5, R5c6, R5f0, R5f1, R5f2, R5f3, R5f4, R5f5, R5f6⟩ := row7 R5.out
            go_wp2_with fail
            clear R5c0 R5c1 R5c2 R5c3 R5c4 R5c5 R5c6 R5f0 R5f1 R5f2 R5f3 R5f4 R5f5 R5f6
            clear x0 x1 x2 x3 x4 x5 x6 x7 x8 x9 x10
            generalize hZ : World.setCell wr _ _ = Z
            have hZB : Below w.heap.size w Z := hZ ▸ hB.setCell (p := ⟨b5, 3, none⟩) L5.out _
            obtain ⟨z5, z2⟩ := setOne (i := 3) (v := .int .i64 2) R5.out N25.out R2.out
            obtain ⟨_, zw⟩ := setOne (i := 3) (v := .int .i64 2) R5.out NW5.out RW.out
            rw [hZ] at z5 z2 zw
            simp only [List.setIfInBounds_toArray, List.set_cons_zero, List.set_cons_succ] at z5
            go_roundw
            case rel => exact ⟨2 + 1, 2, by decide, by go_num, hZB, Lib.hid z2, Lib.hid zw, Lib.hid z5, HKE⟩
            case measure => simp [intOf]
        · obtain ⟨q, hq⟩ : ∃ q, ([119, 97, 116, 101, 114, 116, 105, 103, 104, 116] == a6.toList) = q := ⟨_, rfl⟩
          have hq2 : (a6.toList == [119, 97, 116, 101, 114, 116, 105, 103, 104, 116]) = q := by rw [← hq]; exact Bool.beq_comm
          have QL := Lib.hid (beq_lit hq2)
          clear hq2
          cases q
          · have HKE := Lib.hid (HKD.out.trans (JK.out.2 (fun e => QL.out.2 rfl e.symm)).symm)
            clear JK QL
            obtain ⟨x0, x1, x2, x3, x4, x5, x6, x7, x8, x9, x10⟩ := rowc11 RW.out
            go_wp2_with fail
            clear x0 x1 x2 x3 x4 x5 x6 x7 x8 x9 x10
            go_roundw
            case rel => exact ⟨3 + 1, kd, by decide, by go_num, hB, R2, RW, R5, HKE⟩
            case measure => simp [intOf]
          · have HKE := Lib.hid (show ((3 : Nat) : Int) = kdf a6 (3 + 1) from (JK.out.1 (QL.out.1 rfl).symm).symm)
            clear JK QL
            obtain ⟨x0, x1, x2, x3, x4, x5, x6, x7, x8, x9, x10⟩ := rowc11 RW.out
            obtain ⟨R5c0, R5c1, R5c2, R5c3, R5c4, R5c5, R5c6, R5f0, R5f1, R5f2, R5f3, R5f4, R5f5, R5f6⟩ := row7 R5.out
            go_wp2_with fail
            clear R5c0 R5c1 R5c2 R5c3 R5c4 R5c5 R5c6 R5f0 R5f1 R5f2 R5f3 R5f4 R5f5 R5f6
            clear x0 x1 x2 x3 x4 x5 x6 x7 x8 x9 x10
            generalize hZ : World.setCell wr _ _ = Z
            have hZB : Below w.heap.size w Z := hZ ▸ hB.setCell (p := ⟨b5, 3, none⟩) L5.out _
            obtain ⟨z5, z2⟩ := setOne (i := 3) (v := .int .i64 3) R5.out N25.out R2.out
            obtain ⟨_, zw⟩ := setOne (i := 3) (v := .int .i64 3) R5.out NW5.out RW.out
            rw [hZ] at z5 z2 zw
            simp only [List.setIfInBounds_toArray, List.set_cons_zero, List.set_cons_succ] at z5
            go_roundw
            case rel => exact ⟨3 + 1, 3, by decide, by go_num, hZB, Lib.hid z2, Lib.hid zw, Lib.hid z5, HKE⟩
            case measure => simp [intOf]
    · obtain rfl : k = 4 := by omega
      clear hk hlt
      have HKF := Lib.hid (kdf_four a6)
      rw [← HKD.out] at HKF
      clear HKD HKI HN1 HN2 HN3 HSP h0 h2 h4 h7
      obtain ⟨x0, x1, x2, x3, x4, x5, x6, x7, x8, x9, x10⟩ := rowc11 RW.out
      obtain ⟨R5c0, R5c1, R5c2, R5c3, R5c4, R5c5, R5c6, R5f0, R5f1, R5f2, R5f3, R5f4, R5f5, R5f6⟩ := row7 R5.out
      go_wp2_with fail
      go_region
      clear R5c0 R5c1 R5c2 R5c3 R5c4 R5c5 R5c6 R5f0 R5f1 R5f2 R5f3 R5f4 R5f5 R5f6
      clear x0 x1 x2 x3 x4 x5 x6 x7 x8 x9 x10 RW
      go_wp2_with fail
      generalize hZ : World.drew _ = Z
      obtain ⟨z5, z2, zb⟩ := store456 hZ R5.out N25.out R2.out L5.out hB
      have hB := zb
      have R2 := Lib.hid z2
      have R5 := Lib.hid z5
      clear hZ z5 z2 zb
      cases n1
      · have HT := Lib.hid (fun Z (hb : Below w.heap.size w Z) => rd_at (show ((false : Bool) = true → RdL s ⟨v1, v2, v3, kd, (a8, a9, a10)⟩) ∧ ((false : Bool) = false → ∀ o', ¬ RdL s o') from ⟨fun h => absurd h (by decide), fun _ o' hr => HX1.out rfl o'.id ((HOK.out o').1 hr).2.1 ((HOK.out o').1 hr).2.2.1 ((HOK.out o').1 hr).1.1⟩) hb)
        clear HOK HX1 HX2 HX3 HY1 HY2 HY3 HKF
        have n25 := N25.out
        have n52 : ¬ b5 = w.heap.size := fun h => n25 h.symm
        have n25 : ¬ w.heap.size = b5 := n25
        obtain ⟨R5c0, R5c1, R5c2, R5c3, R5c4, R5c5, R5c6, R5f0, R5f1, R5f2, R5f3, R5f4, R5f5, R5f6⟩ := row7 R5.out
        obtain ⟨R2c0, R2c1, R2c2, R2c3, R2c4, R2c5, R2c6, R2f0, R2f1, R2f2, R2f3, R2f4, R2f5, R2f6⟩ := row7 R2.out
        go_region
        clear n25 n52
        clear R5c0 R5c1 R5c2 R5c3 R5c4 R5c5 R5c6 R5f0 R5f1 R5f2 R5f3 R5f4 R5f5 R5f6
        clear R2c0 R2c1 R2c2 R2c3 R2c4 R2c5 R2c6 R2f0 R2f1 R2f2 R2f3 R2f4 R2f5 R2f6
        go_wp2_with fail
        generalize hZ : World.drew _ = Z9
        obtain ⟨z2, zb⟩ := store7d hZ R2.out hB (Nat.le_refl _)
        clear hZ
        refine bodyPost_ret ((res_ct rfl opn_row ?_ z2 ?_).trans ?_) ?_ (HT.out _ zb)
        · rfl
        · rfl
        · simp
        · rfl
      · cases n2
        · have HT := Lib.hid (fun Z (hb : Below w.heap.size w Z) => rd_at (show ((false : Bool) = true → RdL s ⟨v1, v2, v3, kd, (a8, a9, a10)⟩) ∧ ((false : Bool) = false → ∀ o', ¬ RdL s o') from ⟨fun h => absurd h (by decide), fun _ o' hr => HX2.out rfl o'.frm ((HOK.out o').1 hr).2.2.2.1 ((HOK.out o').1 hr).2.2.2.2.1 ((HOK.out o').1 hr).1.2.1⟩) hb)
          clear HOK HX1 HX2 HX3 HY1 HY2 HY3 HKF
          have n25 := N25.out
          have n52 : ¬ b5 = w.heap.size := fun h => n25 h.symm
          have n25 : ¬ w.heap.size = b5 := n25
          obtain ⟨R5c0, R5c1, R5c2, R5c3, R5c4, R5c5, R5c6, R5f0, R5f1, R5f2, R5f3, R5f4, R5f5, R5f6⟩ := row7 R5.out
          obtain ⟨R2c0, R2c1, R2c2, R2c3, R2c4, R2c5, R2c6, R2f0, R2f1, R2f2, R2f3, R2f4, R2f5, R2f6⟩ := row7 R2.out
          go_region
          clear n25 n52
          clear R5c0 R5c1 R5c2 R5c3 R5c4 R5c5 R5c6 R5f0 R5f1 R5f2 R5f3 R5f4 R5f5 R5f6
          clear R2c0 R2c1 R2c2 R2c3 R2c4 R2c5 R2c6 R2f0 R2f1 R2f2 R2f3 R2f4 R2f5 R2f6
          go_wp2_with fail
          generalize hZ : World.drew _ = Z9
          obtain ⟨z2, zb⟩ := store7d hZ R2.out hB (Nat.le_refl _)
          clear hZ
          refine bodyPost_ret ((res_ct rfl opn_row ?_ z2 ?_).trans ?_) ?_ (HT.out _ zb)
          · rfl
          · rfl
          · simp
          · rfl
        · cases n3
          · have HT := Lib.hid (fun Z (hb : Below w.heap.size w Z) => rd_at (show ((false : Bool) = true → RdL s ⟨v1, v2, v3, kd, (a8, a9, a10)⟩) ∧ ((false : Bool) = false → ∀ o', ¬ RdL s o') from ⟨fun h => absurd h (by decide), fun _ o' hr => HX3.out rfl o'.dst ((HOK.out o').1 hr).2.2.2.2.2.1 ((HOK.out o').1 hr).2.2.2.2.2.2.1 ((HOK.out o').1 hr).1.2.2.1⟩) hb)
            clear HOK HX1 HX2 HX3 HY1 HY2 HY3 HKF
            have n25 := N25.out
            have n52 : ¬ b5 = w.heap.size := fun h => n25 h.symm
            have n25 : ¬ w.heap.size = b5 := n25
            obtain ⟨R5c0, R5c1, R5c2, R5c3, R5c4, R5c5, R5c6, R5f0, R5f1, R5f2, R5f3, R5f4, R5f5, R5f6⟩ := row7 R5.out
            obtain ⟨R2c0, R2c1, R2c2, R2c3, R2c4, R2c5, R2c6, R2f0, R2f1, R2f2, R2f3, R2f4, R2f5, R2f6⟩ := row7 R2.out
            go_region
            clear n25 n52
            clear R5c0 R5c1 R5c2 R5c3 R5c4 R5c5 R5c6 R5f0 R5f1 R5f2 R5f3 R5f4 R5f5 R5f6
            clear R2c0 R2c1 R2c2 R2c3 R2c4 R2c5 R2c6 R2f0 R2f1 R2f2 R2f3 R2f4 R2f5 R2f6
            go_wp2_with fail
            generalize hZ : World.drew _ = Z9
            obtain ⟨z2, zb⟩ := store7d hZ R2.out hB (Nat.le_refl _)
            clear hZ
            refine bodyPost_ret ((res_ct rfl opn_row ?_ z2 ?_).trans ?_) ?_ (HT.out _ zb)
            · rfl
            · rfl
            · simp
            · rfl
          · rcases HKF.out with ⟨e0, hno⟩ | ⟨k1, k2, hk⟩
            · have hd : ¬ (0 : Int) < kd := by omega
              have hd2 : decide ((0 : Int) < kd) = false := decide_eq_false hd
              have HT := Lib.hid (fun Z (hb : Below w.heap.size w Z) => rd_at (show ((false : Bool) = true → RdL s ⟨v1, v2, v3, kd, (a8, a9, a10)⟩) ∧ ((false : Bool) = false → ∀ o', ¬ RdL s o') from ⟨fun h => absurd h (by decide), fun _ o' hr => hno o'.kind ((HOK.out o').1 hr).2.2.2.2.2.2.2.1 ((HOK.out o').1 hr).2.2.2.2.2.2.2.2 ((HOK.out o').1 hr).1.2.2.2.1.symm⟩) hb)
              clear HOK HX1 HX2 HX3 HY1 HY2 HY3 HKF hno e0
              have n25 := N25.out
              have n52 : ¬ b5 = w.heap.size := fun h => n25 h.symm
              have n25 : ¬ w.heap.size = b5 := n25
              obtain ⟨R5c0, R5c1, R5c2, R5c3, R5c4, R5c5, R5c6, R5f0, R5f1, R5f2, R5f3, R5f4, R5f5, R5f6⟩ := row7 R5.out
              obtain ⟨R2c0, R2c1, R2c2, R2c3, R2c4, R2c5, R2c6, R2f0, R2f1, R2f2, R2f3, R2f4, R2f5, R2f6⟩ := row7 R2.out
              go_region
              clear n25 n52
              clear R5c0 R5c1 R5c2 R5c3 R5c4 R5c5 R5c6 R5f0 R5f1 R5f2 R5f3 R5f4 R5f5 R5f6
              clear R2c0 R2c1 R2c2 R2c3 R2c4 R2c5 R2c6 R2f0 R2f1 R2f2 R2f3 R2f4 R2f5 R2f6
              go_wp2_with fail
              generalize hZ : World.drew _ = Z9
              obtain ⟨z2, zb⟩ := store7d hZ R2.out hB (Nat.le_refl _)
              clear hZ
              refine bodyPost_ret ((res_ct rfl opn_row ?_ z2 ?_).trans ?_) ?_ (HT.out _ zb)
              · rfl
              · rfl
              · simp
              · rfl
            · have hd : (0 : Int) < kd := by omega
              have hd2 : decide ((0 : Int) < kd) = true := decide_eq_true hd
              have HT := Lib.hid (fun Z (hb : Below w.heap.size w Z) => rd_at (show ((true : Bool) = true → RdL s ⟨v1, v2, v3, kd, (a8, a9, a10)⟩) ∧ ((true : Bool) = false → ∀ o', ¬ RdL s o') from ⟨fun _ => (HOK.out _).2 ⟨⟨(HY1.out rfl).2.2, (HY2.out rfl).2.2, (HY3.out rfl).2.2, hk.symm, rfl, rfl, rfl⟩, (HY1.out rfl).1, (HY1.out rfl).2.1, (HY2.out rfl).1, (HY2.out rfl).2.1, (HY3.out rfl).1, (HY3.out rfl).2.1, k1, k2⟩, fun h => absurd h (by decide)⟩) hb)
              clear HOK HX1 HX2 HX3 HY1 HY2 HY3 HKF k1 k2 hk
              have n25 := N25.out
              have n52 : ¬ b5 = w.heap.size := fun h => n25 h.symm
              have n25 : ¬ w.heap.size = b5 := n25
              obtain ⟨R5c0, R5c1, R5c2, R5c3, R5c4, R5c5, R5c6, R5f0, R5f1, R5f2, R5f3, R5f4, R5f5, R5f6⟩ := row7 R5.out
              obtain ⟨R2c0, R2c1, R2c2, R2c3, R2c4, R2c5, R2c6, R2f0, R2f1, R2f2, R2f3, R2f4, R2f5, R2f6⟩ := row7 R2.out
              go_region
              clear n25 n52
              clear R5c0 R5c1 R5c2 R5c3 R5c4 R5c5 R5c6 R5f0 R5f1 R5f2 R5f3 R5f4 R5f5 R5f6
              clear R2c0 R2c1 R2c2 R2c3 R2c4 R2c5 R2c6 R2f0 R2f1 R2f2 R2f3 R2f4 R2f5 R2f6
              go_wp2_with fail
              generalize hZ : World.drew _ = Z9
              obtain ⟨z2, zb⟩ := store7d hZ R2.out hB (Nat.le_refl _)
              clear hZ
              refine bodyPost_ret ((res_ct rfl opn_row ?_ z2 ?_).trans ?_) ?_ (HT.out _ zb)
              · rfl
              · rfl
              · simp
              · rfl


theorem split_small (c : ByteArray) : ∀ (k : Nat) (s : ByteArray), ∀ a ∈ Lib.splitB c 0 k s, a.size ≤ s.size
  | 0, s, a, h => by
    rw [Lib.splitB_zero, List.mem_singleton] at h
    rw [h]
    exact Nat.le_refl _
  | k + 1, s, a, h => by
    unfold Lib.splitB at h
    split at h
    · rw [List.mem_singleton] at h
      rw [h]
      exact Nat.le_refl _
    · rcases List.mem_cons.1 h with e | e
      · rw [e, ByteArray.size_extract]
        omega
      · have := split_small c k _ a e
        rw [ByteArray.size_extract] at this
        omega
theorem eleven {l : List ByteArray} (h : l.length = 11) : ∃ a0 a1 a2 a3 a4 a5 a6 a7 a8 a9 a10, l = [a0, a1, a2, a3, a4, a5, a6, a7, a8, a9, a10] := by
  obtain _ | ⟨a0, _ | ⟨a1, _ | ⟨a2, _ | ⟨a3, _ | ⟨a4, _ | ⟨a5, _ | ⟨a6, _ | ⟨a7, _ | ⟨a8, _ | ⟨a9, _ | ⟨a10, _ | ⟨a11, l⟩⟩⟩⟩⟩⟩⟩⟩⟩⟩⟩⟩ := l
  case cons.cons.cons.cons.cons.cons.cons.cons.cons.cons.cons.nil => exact ⟨a0, a1, a2, a3, a4, a5, a6, a7, a8, a9, a10, rfl⟩
  all_goals (simp only [List.length_cons, List.length_nil] at h; omega)
/-- read: it answers whether the text is an opening's line, and that opening. -/
theorem op_read (s : ByteArray) (w : World) (hE : EnvB w) (hs : s.size ≤ 100000) :
    Calls Tryz.prog 94 #[.string s] w (RdP s w) := by
  by_cases hl : Lib.countB s ⟨#[32]⟩ + 1 = 11
  · have hn : Lib.countB s ⟨#[32]⟩ = 10 := by omega
    obtain ⟨a0, a1, a2, a3, a4, a5, a6, a7, a8, a9, a10, hw⟩ := eleven ((wds_len s).trans hl)
    unfold wds at hw
    rw [hn] at hw
    have hz := split_small ⟨#[32]⟩ 10 s
    rw [hw] at hz
    by_cases hq : ((a0.toList == [111, 112, 101, 110, 105, 110, 103]) && ((a2.toList == [102, 114, 111, 109]) && ((a4.toList == [116, 111]) && (a7.toList == [97, 116])))) = true
    · simp only [Bool.and_eq_true] at hq
      obtain ⟨h0, h2, h4, h7⟩ := hq
      exact op_read_go s a0 a1 a2 a3 a4 a5 a6 a7 a8 a9 a10 w hE hs hn hw h0 h2 h4 h7 (Nat.le_trans (hz a1 (by simp)) hs) (Nat.le_trans (hz a3 (by simp)) hs) (Nat.le_trans (hz a5 (by simp)) hs)
    · exact op_read_word s a0 a1 a2 a3 a4 a5 a6 a7 a8 a9 a10 _ _ _ _ w hE hs hn hw rfl rfl rfl rfl (by simpa using hq)
  · exact op_read_len s w hE hs hl

end Go.Proofs.YthkkdepppjiaeaaGreatDoor
