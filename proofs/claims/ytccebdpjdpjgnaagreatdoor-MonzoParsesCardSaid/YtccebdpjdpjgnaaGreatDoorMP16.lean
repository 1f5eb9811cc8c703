/-
The shelf's contracts at this translation, in plain words, laid by the guide's tool.
-/
import Derived.Shelf.Strings.Builder1
import Derived.Shelf.Strings.Builder2
import Derived.Shelf.Strings.OnBuilder
import Derived.Shelf.Strings.Trim
import Derived.Shelf.Small.Utf8
import Derived.Shelf.Small.Bits
import Derived.Shelf.Small.Strs
import Derived.Shelf.Strings.BuilderF
import Derived.Shelf.Strconv.Atoi
import Derived.Shelf.Strconv.Itoa0
import Derived.Shelf.Strconv.Itoa1
import Derived.Shelf.LaysM
import Derived.Shelf.Strconv.Itoa2
import Derived.Shelf.Strconv.Itoa3
import Derived.Shelf.Strconv.AtoiErrFast
import Derived.Shelf.Strconv.ParseIntEmpty
import Derived.Shelf.Strconv.AtoiFail
import Derived.Shelf.Strconv.Clone
import Derived.Shelf.Strconv.SyntaxError
import Derived.Shelf.LaysC
import Derived.Shelf.Strconv.ToError
import Derived.Shelf.Strconv.Lower
import Derived.Shelf.Strconv.ParseUint10
import Derived.Shelf.Strconv.ParseUint10Empty
import Derived.Shelf.Strconv.ParseUint10Any
import Derived.Shelf.Strconv.ParseInt10
import Derived.Shelf.Strconv.AtoiLong
import Derived.Shelf.Strconv.AtoiInnerAll
import Derived.Shelf.Strconv.RangeError
import Derived.Shelf.Strconv.ToErrorRange
import Derived.Shelf.Strconv.AtoiAll
import Derived.Shelf.Strconv.ErrVarAll
import Derived.Shelf.Strconv.ParseUintEmpty
import Derived.Shelf.Strconv.ParseUint10b64
import Derived.Shelf.Strconv.ParseUint10b32
import Derived.Shelf.Strconv.ParseUint10b16
import Derived.Shelf.Strconv.ParseUint10b8
import Derived.Shelf.Strconv.ParseUint10At
import Derived.Shelf.Strconv.ParseInt10At64
import Derived.Shelf.Strconv.ParseInt10At32
import Derived.Shelf.Strconv.ParseInt10At16
import Derived.Shelf.Strconv.ParseInt10At8
import Derived.Shelf.Strconv.ParseInt10All
import Derived.Ground.MpProg
import Derived.Shelf.Pu.ParseUintPublic10
import Derived.Shelf.Pu.ErrVarParseUint
import Derived.Shelf.Strings.Search1
import Derived.Shelf.Strings.Search2
import Derived.Shelf.Strings.Search3
import Derived.Shelf.Strings.Count
import Derived.Shelf.Strings.Shaped
import Derived.Shelf.Strings.Prefix
import Derived.Shelf.Strings.Split
import Derived.Shelf.Strings.Runes
import Derived.Shelf.Strings.IndexAny
import Derived.Shelf.Strings.AsciiSet
import Derived.Shelf.Strings.IndexAnyAll
import Derived.Shelf.Bits.Mul64
import Derived.Shelf.Strings.Repeat
import Derived.Shelf.Unicode.DecodeSlow
import Derived.Shelf.Unicode.DecodeAny
import Derived.Ground.Names2Prog
import Derived.Shelf.Slices.SearchI
import Derived.Test.YtccebdpjdpjgnaaGreatDoorProg
set_option linter.unusedVariables false
set_option linter.unusedSimpArgs false
namespace Go.Proofs
open Go.Shelf
def Tryz.lays156_ren : Go.Shelf.Ren := ⟨fun | 156 => 97 | 165 => 164 | 166 => 165 | 169 => 166 | 240 => 215 | 241 => 216 | 276 => 260 | 277 => 261 | n => n, fun | 31 => 126 | 9 => 9 | 3 => 3 | 4 => 4 | 0 => 0 | 20 => 20 | 72 => 193 | 76 => 163 | 70 => 190 | 37 => 191 | 75 => 162 | 127 => 236 | 164 => 274 | 5 => 5 | 80 => 195 | n => n, fun | n => n⟩
theorem Tryz.lays156 : Go.Proofs.Lays.n156 Tryz.prog Tryz.lays156_ren := {
 mixed := by kernel_rfl
 f156 := Tryz.func97.trans (congrArg some (by kernel_rfl))
 f165 := Tryz.func164.trans (congrArg some (by kernel_rfl))
 f166 := Tryz.func165.trans (congrArg some (by kernel_rfl))
 f169 := Tryz.func166.trans (congrArg some (by kernel_rfl))
 f240 := Tryz.func215.trans (congrArg some (by kernel_rfl))
 f241 := Tryz.func216.trans (congrArg some (by kernel_rfl))
 f276 := Tryz.func260.trans (congrArg some (by kernel_rfl))
 f277 := Tryz.func261.trans (congrArg some (by kernel_rfl))
 t0 := Tryz.underlying0
 a0 := Tryz.isAgg0
 z0 := Tryz.sizeOf0
 v0 := Tryz.zeroValue0
 t3 := Tryz.underlying3
 a3 := Tryz.isAgg3
 z3 := Tryz.sizeOf3
 v3 := Tryz.zeroValue3
 t4 := Tryz.underlying4
 a4 := Tryz.isAgg4
 z4 := Tryz.sizeOf4
 v4 := Tryz.zeroValue4
 t9 := Tryz.underlying9
 a9 := Tryz.isAgg9
 z9 := Tryz.sizeOf9
 v9 := Tryz.zeroValue9
 t20 := Tryz.underlying20
 a20 := Tryz.isAgg20
 z20 := Tryz.sizeOf20
 v20 := Tryz.zeroValue20
 t31 := Tryz.underlying126
 a31 := Tryz.isAgg126
 z31 := Tryz.sizeOf126
 v31 := Tryz.zeroValue126
 t37 := Tryz.underlying191
 a37 := Tryz.isAgg191
 z37 := Tryz.sizeOf191
 v37 := Tryz.zeroValue191
 t70 := Tryz.underlying190
 a70 := Tryz.isAgg190
 z70 := Tryz.sizeOf190
 v70 := Tryz.zeroValue190
 t72 := Tryz.underlying193
 a72 := Tryz.isAgg193
 z72 := Tryz.sizeOf193
 v72 := Tryz.zeroValue193
 t75 := Tryz.underlying162
 a75 := Tryz.isAgg162
 z75 := Tryz.sizeOf162
 v75 := Tryz.zeroValue162
 t76 := Tryz.underlying163
 a76 := Tryz.isAgg163
 z76 := Tryz.sizeOf163
 v76 := Tryz.zeroValue163
 t127 := Tryz.underlying236
 a127 := Tryz.isAgg236
 z127 := Tryz.sizeOf236
 v127 := Tryz.zeroValue236
 t164 := Tryz.underlying274
 a164 := Tryz.isAgg274
 z164 := Tryz.sizeOf274
 v164 := Tryz.zeroValue274 }
theorem Tryz.Builder_Extra_156 : Builder.Extra Tryz.prog Tryz.lays156_ren := {
 sizeBuilder := by kernel_rfl
 liesBuilder := by kernel_rfl
 t5 := Tryz.underlying5
 a5 := Tryz.isAgg5
 z5 := Tryz.sizeOf5
 v5 := Tryz.zeroValue5
 infoByte := by kernel_rfl
 cellsByte := by kernel_rfl
 sizeByte := by kernel_rfl
 neB5 := by decide }
open Go.RowKit in

theorem Tryz.strings_Join_none (a : Option Addr) (c : Nat) (sep : ByteArray) (w : World) :
  Calls Tryz.prog 97 #[.slice a 0 c, .string sep] w fun e w' => e = .returned (.string ⟨#[]⟩) ∧ w' = w := Any.strings_Join_none Tryz.lays156 Tryz.Builder_Extra_156 a c sep w
open Go.RowKit in

theorem Tryz.strings_Join (bk o c : Nat) (xs : List ByteArray) (sep : ByteArray) (w : World) (hcells : ∀ (j : Nat) x, xs[j]? = some x → w.cell? ⟨bk, o + j, none⟩ = some (.string x)) (hbk : bk < w.heap.size) (hN : xs.length ≤ 140737488355328) (hcap : xs.length ≤ c) (hlen : (Lib.join (xs.map (·.data.toList)) sep.data.toList).length ≤ 140737488355328) :
  Calls Tryz.prog 97 #[.slice (some ⟨bk, o, none⟩) xs.length c, .string sep] w fun e w' => e = .returned (.string ⟨(Lib.join (xs.map (·.data.toList)) sep.data.toList).toArray⟩) ∧ Below w.heap.size w w' := Any.strings_Join Tryz.lays156 Tryz.Builder_Extra_156 bk o c xs sep w hcells hbk hN hcap hlen
def Tryz.lays161_ren : Go.Shelf.Ren := ⟨fun | 161 => 213 | 231 => 253 | 227 => 211 | 233 => 254 | 235 => 255 | 228 => 212 | 197 => 267 | 151 => 274 | 260 => 281 | 152 => 209 | 137 => 249 | 119 => 250 | 224 => 251 | 225 => 252 | 217 => 273 | 266 => 283 | n => n, fun | 9 => 9 | 4 => 4 | 3 => 3 | 5 => 5 | 117 => 232 | 116 => 231 | 0 => 0 | 124 => 267 | 105 => 279 | 21 => 21 | 119 => 296 | 46 => 143 | 139 => 299 | 138 => 298 | n => n, fun | 3 => 4 | 4 => 5 | n => n⟩
theorem Tryz.lays161 : Go.Proofs.Lays.n161 Tryz.prog Tryz.lays161_ren := {
 mixed := by kernel_rfl
 f119 := Tryz.func250.trans (congrArg some (by kernel_rfl))
 f137 := Tryz.func249.trans (congrArg some (by kernel_rfl))
 f151 := Tryz.func274.trans (congrArg some (by kernel_rfl))
 f152 := Tryz.func209.trans (congrArg some (by kernel_rfl))
 f161 := Tryz.func213.trans (congrArg some (by kernel_rfl))
 f197 := Tryz.func267.trans (congrArg some (by kernel_rfl))
 f217 := Tryz.func273.trans (congrArg some (by kernel_rfl))
 f224 := Tryz.func251.trans (congrArg some (by kernel_rfl))
 f225 := Tryz.func252.trans (congrArg some (by kernel_rfl))
 f227 := Tryz.func211.trans (congrArg some (by kernel_rfl))
 f228 := Tryz.func212.trans (congrArg some (by kernel_rfl))
 f231 := Tryz.func253.trans (congrArg some (by kernel_rfl))
 f233 := Tryz.func254.trans (congrArg some (by kernel_rfl))
 f235 := Tryz.func255.trans (congrArg some (by kernel_rfl))
 f260 := Tryz.func281.trans (congrArg some (by kernel_rfl))
 f266 := Tryz.func283.trans (congrArg some (by kernel_rfl))
 t0 := Tryz.underlying0
 a0 := Tryz.isAgg0
 z0 := Tryz.sizeOf0
 v0 := Tryz.zeroValue0
 t3 := Tryz.underlying3
 a3 := Tryz.isAgg3
 z3 := Tryz.sizeOf3
 v3 := Tryz.zeroValue3
 t4 := Tryz.underlying4
 a4 := Tryz.isAgg4
 z4 := Tryz.sizeOf4
 v4 := Tryz.zeroValue4
 t5 := Tryz.underlying5
 a5 := Tryz.isAgg5
 z5 := Tryz.sizeOf5
 v5 := Tryz.zeroValue5
 t9 := Tryz.underlying9
 a9 := Tryz.isAgg9
 z9 := Tryz.sizeOf9
 v9 := Tryz.zeroValue9
 t21 := Tryz.underlying21
 a21 := Tryz.isAgg21
 z21 := Tryz.sizeOf21
 v21 := Tryz.zeroValue21
 t46 := Tryz.underlying143
 a46 := Tryz.isAgg143
 z46 := Tryz.sizeOf143
 v46 := Tryz.zeroValue143
 t105 := Tryz.underlying279
 a105 := Tryz.isAgg279
 z105 := Tryz.sizeOf279
 v105 := Tryz.zeroValue279
 t116 := Tryz.underlying231
 a116 := Tryz.isAgg231
 z116 := Tryz.sizeOf231
 t117 := Tryz.underlying232
 a117 := Tryz.isAgg232
 z117 := Tryz.sizeOf232
 v117 := Tryz.zeroValue232
 t119 := Tryz.underlying296
 a119 := Tryz.isAgg296
 z119 := Tryz.sizeOf296
 t124 := Tryz.underlying267
 a124 := Tryz.isAgg267
 z124 := Tryz.sizeOf267
 v124 := Tryz.zeroValue267
 t138 := Tryz.underlying298
 a138 := Tryz.isAgg298
 z138 := Tryz.sizeOf298
 v138 := Tryz.zeroValue298
 t139 := Tryz.underlying299
 a139 := Tryz.isAgg299
 z139 := Tryz.sizeOf299
 v139 := Tryz.zeroValue299
 g3 := by kernel_rfl
 g4 := by kernel_rfl }
open Go.RowKit in

theorem Tryz.strings_TrimLeft_one (s : ByteArray) (c : UInt8) (hc : c.toNat < 128) (w : World) :
  Calls Tryz.prog 213 #[.string s, .string ⟨#[c]⟩] w fun e w' => e = .returned (.string ⟨(Lib.trimLeftB s.data.toList c).toArray⟩) ∧ w' = w := Any.strings_TrimLeft_one Tryz.lays161 s c hc w
def Tryz.lays129_ren : Go.Shelf.Ren := ⟨fun | 129 => 172 | n => n, fun | 53 => 139 | 3 => 3 | 4 => 4 | 46 => 143 | 5 => 5 | 9 => 9 | n => n, fun | n => n⟩
theorem Tryz.lays129 : Go.Proofs.Lays.n129 Tryz.prog Tryz.lays129_ren := {
 mixed := by kernel_rfl
 f129 := Tryz.func172.trans (congrArg some (by kernel_rfl))
 t3 := Tryz.underlying3
 a3 := Tryz.isAgg3
 z3 := Tryz.sizeOf3
 v3 := Tryz.zeroValue3
 t4 := Tryz.underlying4
 a4 := Tryz.isAgg4
 z4 := Tryz.sizeOf4
 v4 := Tryz.zeroValue4
 t5 := Tryz.underlying5
 a5 := Tryz.isAgg5
 z5 := Tryz.sizeOf5
 v5 := Tryz.zeroValue5
 t9 := Tryz.underlying9
 a9 := Tryz.isAgg9
 z9 := Tryz.sizeOf9
 v9 := Tryz.zeroValue9
 t46 := Tryz.underlying143
 a46 := Tryz.isAgg143
 z46 := Tryz.sizeOf143
 v46 := Tryz.zeroValue143
 t53 := Tryz.underlying139
 a53 := Tryz.isAgg139
 z53 := Tryz.sizeOf139
 v53 := Tryz.zeroValue139 }
theorem Tryz.bits_Len64 (x : Int) (w : World) (h0 : 0 ≤ x) (h1 : x ≤ 18446744073709551615) :
  Calls Tryz.prog 172 #[.int .u64 x] w fun e w' => e = .returned (.int .i64 (Lib.bitLen x.toNat)) ∧ w' = w := Any.bits_Len64 Tryz.lays129 x w h0 h1
def Tryz.lays283_ren : Go.Shelf.Ren := ⟨fun | 283 => 256 | n => n, fun | 3 => 3 | 9 => 9 | 4 => 4 | n => n, fun | n => n⟩
theorem Tryz.lays283 : Go.Proofs.Lays.n283 Tryz.prog Tryz.lays283_ren := {
 mixed := by kernel_rfl
 f283 := Tryz.func256.trans (congrArg some (by kernel_rfl))
 t3 := Tryz.underlying3
 a3 := Tryz.isAgg3
 z3 := Tryz.sizeOf3
 v3 := Tryz.zeroValue3
 t4 := Tryz.underlying4
 a4 := Tryz.isAgg4
 z4 := Tryz.sizeOf4
 v4 := Tryz.zeroValue4
 t9 := Tryz.underlying9
 a9 := Tryz.isAgg9
 z9 := Tryz.sizeOf9
 v9 := Tryz.zeroValue9 }
open Go.Lib in

theorem Tryz.internal_strconv_small (i : Nat) (h : i < 100) (w : World) :
  Calls Tryz.prog 256 #[.int .i64 i] w fun e w' => e = .returned (.string ⟨(Lib.decDigits i).toArray⟩) ∧ w' = w := Any.internal_strconv_small Tryz.lays283 i h w
def Tryz.laysM284_ren : Go.Shelf.Ren := ⟨fun | 284 => 257 | 129 => 172 | 317 => 275 | 318 => 276 | n => n, fun | 53 => 139 | 3 => 3 | 212 => 290 | 0 => 0 | 4 => 4 | 46 => 143 | 5 => 5 | 9 => 9 | n => n, fun | 17 => 3 | n => n⟩
theorem Tryz.laysM284 : Go.Proofs.LaysM.n284 Tryz.prog Tryz.laysM284_ren := {
 mixed := by kernel_rfl
 f129 := Tryz.func172.trans (congrArg some (by kernel_rfl))
 f284 := Tryz.func257.trans (congrArg some (by kernel_rfl))
 f317 := Tryz.func275.trans (congrArg some (by kernel_rfl))
 f318 := Tryz.func276.trans (congrArg some (by kernel_rfl))
 t0 := Tryz.underlying0
 a0 := Tryz.isAgg0
 z0 := Tryz.sizeOf0
 v0 := Tryz.zeroValue0
 t3 := Tryz.underlying3
 a3 := Tryz.isAgg3
 z3 := Tryz.sizeOf3
 v3 := Tryz.zeroValue3
 t4 := Tryz.underlying4
 a4 := Tryz.isAgg4
 z4 := Tryz.sizeOf4
 v4 := Tryz.zeroValue4
 t5 := Tryz.underlying5
 a5 := Tryz.isAgg5
 z5 := Tryz.sizeOf5
 v5 := Tryz.zeroValue5
 t9 := Tryz.underlying9
 a9 := Tryz.isAgg9
 z9 := Tryz.sizeOf9
 v9 := Tryz.zeroValue9
 t46 := Tryz.underlying143
 a46 := Tryz.isAgg143
 z46 := Tryz.sizeOf143
 v46 := Tryz.zeroValue143
 t53 := Tryz.underlying139
 a53 := Tryz.isAgg139
 z53 := Tryz.sizeOf139
 v53 := Tryz.zeroValue139
 t212 := Tryz.underlying290
 a212 := Tryz.isAgg290
 z212 := Tryz.sizeOf290
 v212 := Tryz.zeroValue290
 g17 := by kernel_rfl
 i0 := by kernel_rfl
 i3 := by kernel_rfl
 i4 := by kernel_rfl
 i5 := by kernel_rfl
 i9 := by kernel_rfl
 i46 := by kernel_rfl
 i53 := by kernel_rfl
 i212 := by kernel_rfl
 m17 := by kernel_rfl }
open Go.Lib in

theorem Tryz.internal_strconv_numDigits (u : Nat) (h1 : 1 ≤ u) (h2 : u < 18446744073709551616) (w : World) (htab : Lib.TabIs Tryz.prog w "internal/strconv.uint64pow10" .u64 Lib.pow10Tab) :
  Calls Tryz.prog 257 #[.int .u64 u] w fun e w' => e = .returned (.int .i64 (Lib.nDigits u)) ∧ w' = w := Any.internal_strconv_numDigits Tryz.laysM284 u h1 h2 w htab
def Tryz.lays285_ren : Go.Shelf.Ren := ⟨fun | 285 => 258 | n => n, fun | 37 => 191 | 53 => 139 | 3 => 3 | 4 => 4 | 51 => 226 | 9 => 9 | 5 => 5 | 0 => 0 | n => n, fun | n => n⟩
theorem Tryz.lays285 : Go.Proofs.Lays.n285 Tryz.prog Tryz.lays285_ren := {
 mixed := by kernel_rfl
 f285 := Tryz.func258.trans (congrArg some (by kernel_rfl))
 t0 := Tryz.underlying0
 a0 := Tryz.isAgg0
 z0 := Tryz.sizeOf0
 v0 := Tryz.zeroValue0
 t3 := Tryz.underlying3
 a3 := Tryz.isAgg3
 z3 := Tryz.sizeOf3
 v3 := Tryz.zeroValue3
 t4 := Tryz.underlying4
 a4 := Tryz.isAgg4
 z4 := Tryz.sizeOf4
 v4 := Tryz.zeroValue4
 t5 := Tryz.underlying5
 a5 := Tryz.isAgg5
 z5 := Tryz.sizeOf5
 v5 := Tryz.zeroValue5
 t9 := Tryz.underlying9
 a9 := Tryz.isAgg9
 z9 := Tryz.sizeOf9
 v9 := Tryz.zeroValue9
 t37 := Tryz.underlying191
 a37 := Tryz.isAgg191
 z37 := Tryz.sizeOf191
 v37 := Tryz.zeroValue191
 t51 := Tryz.underlying226
 a51 := Tryz.isAgg226
 z51 := Tryz.sizeOf226
 v51 := Tryz.zeroValue226
 t53 := Tryz.underlying139
 a53 := Tryz.isAgg139
 z53 := Tryz.sizeOf139
 v53 := Tryz.zeroValue139 }
open Go.RowKit Go.Sort Go.Lib in

theorem Tryz.internal_strconv_formatBase10 (blk off cap : Nat) (u : Nat) (d : Array UInt8) (w : World) (hH : Holds (fun (b : UInt8) => Value.int .u8 (b.toNat : Int)) w blk off d) (hu : u < 10 ^ d.size) (hu64 : u < 18446744073709551616) (hsz : d.size < 4611686018427387904) :
  Calls Tryz.prog 258 #[.slice (some ⟨blk, off, none⟩) d.size cap, .int .u64 u] w fun e w' =>
   e = .returned (.tuple #[]) ∧ ∃ (n v' : Nat) (dk : Array UInt8), w' = (putRow (fun (b : UInt8) => Value.int .u8 (b.toNat : Int)) w blk off dk).drewN n ∧ FmtInv d.size u 0 v' dk := Any.internal_strconv_formatBase10 Tryz.lays285 blk off cap u d w hH hu hu64 hsz
def Tryz.laysM171_ren : Go.Shelf.Ren := ⟨fun | 171 => 96 | 243 => 163 | 246 => 214 | 283 => 256 | 284 => 257 | 285 => 258 | 286 => 259 | 129 => 172 | 317 => 275 | 318 => 276 | 319 => 277 | 320 => 278 | 337 => 284 | 338 => 285 | n => n, fun | 3 => 3 | 9 => 9 | 2 => 2 | 4 => 4 | 171 => 270 | 0 => 0 | 53 => 139 | 37 => 191 | 5 => 5 | 173 => 272 | 212 => 290 | 51 => 226 | 20 => 20 | 213 => 291 | 46 => 143 | 232 => 301 | 233 => 302 | n => n, fun | 17 => 3 | 18 => 6 | 19 => 7 | n => n⟩
theorem Tryz.laysM171 : Go.Proofs.LaysM.n171 Tryz.prog Tryz.laysM171_ren := {
 mixed := by kernel_rfl
 f129 := Tryz.func172.trans (congrArg some (by kernel_rfl))
 f171 := Tryz.func96.trans (congrArg some (by kernel_rfl))
 f243 := Tryz.func163.trans (congrArg some (by kernel_rfl))
 f246 := Tryz.func214.trans (congrArg some (by kernel_rfl))
 f283 := Tryz.func256.trans (congrArg some (by kernel_rfl))
 f284 := Tryz.func257.trans (congrArg some (by kernel_rfl))
 f285 := Tryz.func258.trans (congrArg some (by kernel_rfl))
 f286 := Tryz.func259.trans (congrArg some (by kernel_rfl))
 f317 := Tryz.func275.trans (congrArg some (by kernel_rfl))
 f318 := Tryz.func276.trans (congrArg some (by kernel_rfl))
 f319 := Tryz.func277.trans (congrArg some (by kernel_rfl))
 f320 := Tryz.func278.trans (congrArg some (by kernel_rfl))
 f337 := Tryz.func284.trans (congrArg some (by kernel_rfl))
 f338 := Tryz.func285.trans (congrArg some (by kernel_rfl))
 t0 := Tryz.underlying0
 a0 := Tryz.isAgg0
 z0 := Tryz.sizeOf0
 v0 := Tryz.zeroValue0
 t2 := Tryz.underlying2
 a2 := Tryz.isAgg2
 z2 := Tryz.sizeOf2
 v2 := Tryz.zeroValue2
 t3 := Tryz.underlying3
 a3 := Tryz.isAgg3
 z3 := Tryz.sizeOf3
 v3 := Tryz.zeroValue3
 t4 := Tryz.underlying4
 a4 := Tryz.isAgg4
 z4 := Tryz.sizeOf4
 v4 := Tryz.zeroValue4
 t5 := Tryz.underlying5
 a5 := Tryz.isAgg5
 z5 := Tryz.sizeOf5
 v5 := Tryz.zeroValue5
 t9 := Tryz.underlying9
 a9 := Tryz.isAgg9
 z9 := Tryz.sizeOf9
 v9 := Tryz.zeroValue9
 t20 := Tryz.underlying20
 a20 := Tryz.isAgg20
 z20 := Tryz.sizeOf20
 v20 := Tryz.zeroValue20
 t37 := Tryz.underlying191
 a37 := Tryz.isAgg191
 z37 := Tryz.sizeOf191
 v37 := Tryz.zeroValue191
 t46 := Tryz.underlying143
 a46 := Tryz.isAgg143
 z46 := Tryz.sizeOf143
 v46 := Tryz.zeroValue143
 t51 := Tryz.underlying226
 a51 := Tryz.isAgg226
 z51 := Tryz.sizeOf226
 v51 := Tryz.zeroValue226
 t53 := Tryz.underlying139
 a53 := Tryz.isAgg139
 z53 := Tryz.sizeOf139
 v53 := Tryz.zeroValue139
 t171 := Tryz.underlying270
 a171 := Tryz.isAgg270
 z171 := Tryz.sizeOf270
 v171 := Tryz.zeroValue270
 t173 := Tryz.underlying272
 a173 := Tryz.isAgg272
 z173 := Tryz.sizeOf272
 v173 := Tryz.zeroValue272
 t212 := Tryz.underlying290
 a212 := Tryz.isAgg290
 z212 := Tryz.sizeOf290
 v212 := Tryz.zeroValue290
 t213 := Tryz.underlying291
 a213 := Tryz.isAgg291
 z213 := Tryz.sizeOf291
 t232 := Tryz.underlying301
 a232 := Tryz.isAgg301
 z232 := Tryz.sizeOf301
 v232 := Tryz.zeroValue301
 t233 := Tryz.underlying302
 a233 := Tryz.isAgg302
 z233 := Tryz.sizeOf302
 v233 := Tryz.zeroValue302
 g17 := by kernel_rfl
 g18 := by kernel_rfl
 g19 := by kernel_rfl
 i0 := by kernel_rfl
 i2 := by kernel_rfl
 i3 := by kernel_rfl
 i4 := by kernel_rfl
 i5 := by kernel_rfl
 i9 := by kernel_rfl
 i20 := by kernel_rfl
 i37 := by kernel_rfl
 i46 := by kernel_rfl
 i51 := by kernel_rfl
 i53 := by kernel_rfl
 i171 := by kernel_rfl
 i173 := by kernel_rfl
 i212 := by kernel_rfl
 i232 := by kernel_rfl
 i233 := by kernel_rfl
 m17 := by kernel_rfl
 m18 := by kernel_rfl
 m19 := by kernel_rfl }
open Go.RowKit Go.Sort Go.Lib in

theorem Tryz.strconv_Itoa (n : Int) (h0 : -9223372036854775808 ≤ n) (h1 : n ≤ 9223372036854775807) (w : World) (htab : Lib.TabIs Tryz.prog w "internal/strconv.uint64pow10" .u64 Lib.pow10Tab) :
  Calls Tryz.prog 96 #[.int .i64 n] w fun e w' => e = .returned (.string ⟨(Lib.itoa n).toArray⟩) ∧ ∃ k os, w' = grow (w.drewN k) os := Any.strconv_Itoa Tryz.laysM171 n h0 h1 w htab
def Tryz.laysC172_ren : Go.Shelf.Ren := ⟨fun | 172 => 133 | 244 => 182 | 245 => 183 | 247 => 229 | 279 => 230 | 280 => 231 | 281 => 232 | 282 => 233 | 287 => 264 | 316 => 270 | 171 => 96 | 205 => 271 | 321 => 279 | 322 => 280 | 243 => 163 | 246 => 214 | 283 => 256 | 284 => 257 | 285 => 258 | 286 => 259 | 129 => 172 | 317 => 275 | 318 => 276 | 319 => 277 | 320 => 278 | 337 => 284 | 338 => 285 | n => n, fun | 9 => 9 | 3 => 3 | 75 => 162 | 76 => 163 | 4 => 4 | 5 => 5 | 167 => 246 | 37 => 191 | 0 => 0 | 85 => 247 | 2 => 2 | 168 => 249 | 53 => 139 | 175 => 238 | 46 => 143 | 210 => 283 | 127 => 236 | 145 => 295 | 143 => 293 | 21 => 21 | 171 => 270 | 173 => 272 | 212 => 290 | 51 => 226 | 20 => 20 | 213 => 291 | 232 => 301 | 233 => 302 | 80 => 195 | n => n, fun | 15 => 0 | 16 => 1 | 17 => 3 | 18 => 6 | 19 => 7 | n => n⟩
theorem Tryz.laysC172 : Go.Proofs.LaysC.n172 Tryz.prog Tryz.laysC172_ren := {
 mixed := by kernel_rfl
 f129 := Tryz.func172.trans (congrArg some (by kernel_rfl))
 f171 := Tryz.func96.trans (congrArg some (by kernel_rfl))
 f172 := Tryz.func133.trans (congrArg some (by kernel_rfl))
 f205 := Tryz.func271.trans (congrArg some (by kernel_rfl))
 f243 := Tryz.func163.trans (congrArg some (by kernel_rfl))
 f244 := Tryz.func182.trans (congrArg some (by kernel_rfl))
 f245 := Tryz.func183.trans (congrArg some (by kernel_rfl))
 f246 := Tryz.func214.trans (congrArg some (by kernel_rfl))
 f247 := Tryz.func229.trans (congrArg some (by kernel_rfl))
 f279 := Tryz.func230.trans (congrArg some (by kernel_rfl))
 f280 := Tryz.func231.trans (congrArg some (by kernel_rfl))
 f281 := Tryz.func232.trans (congrArg some (by kernel_rfl))
 f282 := Tryz.func233.trans (congrArg some (by kernel_rfl))
 f283 := Tryz.func256.trans (congrArg some (by kernel_rfl))
 f284 := Tryz.func257.trans (congrArg some (by kernel_rfl))
 f285 := Tryz.func258.trans (congrArg some (by kernel_rfl))
 f286 := Tryz.func259.trans (congrArg some (by kernel_rfl))
 f287 := Tryz.func264.trans (congrArg some (by kernel_rfl))
 f316 := Tryz.func270.trans (congrArg some (by kernel_rfl))
 f317 := Tryz.func275.trans (congrArg some (by kernel_rfl))
 f318 := Tryz.func276.trans (congrArg some (by kernel_rfl))
 f319 := Tryz.func277.trans (congrArg some (by kernel_rfl))
 f320 := Tryz.func278.trans (congrArg some (by kernel_rfl))
 f321 := Tryz.func279.trans (congrArg some (by kernel_rfl))
 f322 := Tryz.func280.trans (congrArg some (by kernel_rfl))
 f337 := Tryz.func284.trans (congrArg some (by kernel_rfl))
 f338 := Tryz.func285.trans (congrArg some (by kernel_rfl))
 t0 := Tryz.underlying0
 a0 := Tryz.isAgg0
 z0 := Tryz.sizeOf0
 v0 := Tryz.zeroValue0
 t2 := Tryz.underlying2
 a2 := Tryz.isAgg2
 z2 := Tryz.sizeOf2
 v2 := Tryz.zeroValue2
 t3 := Tryz.underlying3
 a3 := Tryz.isAgg3
 z3 := Tryz.sizeOf3
 v3 := Tryz.zeroValue3
 t4 := Tryz.underlying4
 a4 := Tryz.isAgg4
 z4 := Tryz.sizeOf4
 v4 := Tryz.zeroValue4
 t5 := Tryz.underlying5
 a5 := Tryz.isAgg5
 z5 := Tryz.sizeOf5
 v5 := Tryz.zeroValue5
 t9 := Tryz.underlying9
 a9 := Tryz.isAgg9
 z9 := Tryz.sizeOf9
 v9 := Tryz.zeroValue9
 t20 := Tryz.underlying20
 a20 := Tryz.isAgg20
 z20 := Tryz.sizeOf20
 v20 := Tryz.zeroValue20
 t21 := Tryz.underlying21
 a21 := Tryz.isAgg21
 z21 := Tryz.sizeOf21
 v21 := Tryz.zeroValue21
 t37 := Tryz.underlying191
 a37 := Tryz.isAgg191
 z37 := Tryz.sizeOf191
 v37 := Tryz.zeroValue191
 t46 := Tryz.underlying143
 a46 := Tryz.isAgg143
 z46 := Tryz.sizeOf143
 v46 := Tryz.zeroValue143
 t51 := Tryz.underlying226
 a51 := Tryz.isAgg226
 z51 := Tryz.sizeOf226
 v51 := Tryz.zeroValue226
 t53 := Tryz.underlying139
 a53 := Tryz.isAgg139
 z53 := Tryz.sizeOf139
 v53 := Tryz.zeroValue139
 t75 := Tryz.underlying162
 a75 := Tryz.isAgg162
 z75 := Tryz.sizeOf162
 v75 := Tryz.zeroValue162
 t76 := Tryz.underlying163
 a76 := Tryz.isAgg163
 z76 := Tryz.sizeOf163
 v76 := Tryz.zeroValue163
 t85 := Tryz.underlying247
 a85 := Tryz.isAgg247
 z85 := Tryz.sizeOf247
 v85 := Tryz.zeroValue247
 t127 := Tryz.underlying236
 a127 := Tryz.isAgg236
 z127 := Tryz.sizeOf236
 v127 := Tryz.zeroValue236
 t143 := Tryz.underlying293
 a143 := Tryz.isAgg293
 z143 := Tryz.sizeOf293
 v143 := Tryz.zeroValue293
 t145 := Tryz.underlying295
 a145 := Tryz.isAgg295
 z145 := Tryz.sizeOf295
 v145 := Tryz.zeroValue295
 t167 := Tryz.underlying246
 a167 := Tryz.isAgg246
 z167 := Tryz.sizeOf246
 v167 := Tryz.zeroValue246
 t168 := Tryz.underlying249
 a168 := Tryz.isAgg249
 z168 := Tryz.sizeOf249
 v168 := Tryz.zeroValue249
 t171 := Tryz.underlying270
 a171 := Tryz.isAgg270
 z171 := Tryz.sizeOf270
 v171 := Tryz.zeroValue270
 t173 := Tryz.underlying272
 a173 := Tryz.isAgg272
 z173 := Tryz.sizeOf272
 v173 := Tryz.zeroValue272
 t175 := Tryz.underlying238
 a175 := Tryz.isAgg238
 z175 := Tryz.sizeOf238
 v175 := Tryz.zeroValue238
 t210 := Tryz.underlying283
 a210 := Tryz.isAgg283
 z210 := Tryz.sizeOf283
 v210 := Tryz.zeroValue283
 t212 := Tryz.underlying290
 a212 := Tryz.isAgg290
 z212 := Tryz.sizeOf290
 v212 := Tryz.zeroValue290
 t213 := Tryz.underlying291
 a213 := Tryz.isAgg291
 z213 := Tryz.sizeOf291
 t232 := Tryz.underlying301
 a232 := Tryz.isAgg301
 z232 := Tryz.sizeOf301
 v232 := Tryz.zeroValue301
 t233 := Tryz.underlying302
 a233 := Tryz.isAgg302
 z233 := Tryz.sizeOf302
 v233 := Tryz.zeroValue302
 g15 := by kernel_rfl
 g16 := by kernel_rfl
 g17 := by kernel_rfl
 g18 := by kernel_rfl
 g19 := by kernel_rfl
 t80 := Tryz.underlying195
 a80 := Tryz.isAgg195
 z80 := Tryz.sizeOf195
 v80 := Tryz.zeroValue195
 i0 := by kernel_rfl
 i2 := by kernel_rfl
 i3 := by kernel_rfl
 i4 := by kernel_rfl
 i5 := by kernel_rfl
 i9 := by kernel_rfl
 i20 := by kernel_rfl
 i21 := by kernel_rfl
 i37 := by kernel_rfl
 i46 := by kernel_rfl
 i51 := by kernel_rfl
 i53 := by kernel_rfl
 i75 := by kernel_rfl
 i76 := by kernel_rfl
 i80 := by kernel_rfl
 i85 := by kernel_rfl
 i127 := by kernel_rfl
 i143 := by kernel_rfl
 i145 := by kernel_rfl
 i167 := by kernel_rfl
 i168 := by kernel_rfl
 i171 := by kernel_rfl
 i173 := by kernel_rfl
 i175 := by kernel_rfl
 i210 := by kernel_rfl
 i212 := by kernel_rfl
 i232 := by kernel_rfl
 i233 := by kernel_rfl
 m15 := by kernel_rfl
 m16 := by kernel_rfl
 m17 := by kernel_rfl
 m18 := by kernel_rfl
 m19 := by kernel_rfl
 c0 := by kernel_rfl
 c2 := by kernel_rfl
 c3 := by kernel_rfl
 c4 := by kernel_rfl
 c5 := by kernel_rfl
 c9 := by kernel_rfl
 c20 := by kernel_rfl
 c21 := by kernel_rfl
 c37 := by kernel_rfl
 c46 := by kernel_rfl
 c51 := by kernel_rfl
 c53 := by kernel_rfl
 c75 := by kernel_rfl
 c76 := by kernel_rfl
 c80 := by kernel_rfl
 c85 := by kernel_rfl
 c127 := by kernel_rfl
 c143 := by kernel_rfl
 c145 := by kernel_rfl
 c167 := by kernel_rfl
 c168 := by kernel_rfl
 c171 := by kernel_rfl
 c173 := by kernel_rfl
 c175 := by kernel_rfl
 c210 := by kernel_rfl
 c212 := by kernel_rfl
 c213 := by kernel_rfl
 c232 := by kernel_rfl
 c233 := by kernel_rfl }
open Go.RowKit in

theorem Tryz.strconv_Atoi_ok (s : ByteArray) (hmax : s.size ≤ 9223372036854775806) (v : Int) (h : Lib.atoiAll s.data.toList = .ok v) (w : World) :
  Calls Tryz.prog 133 #[.string s] w fun e w' => e = .returned (.tuple #[.int .i64 v, .nilIface]) ∧ (w' = w ∨ ∃ t, w' = Lib.bytesWorld w 5 t) := Any.strconv_Atoi_ok Tryz.laysC172 s hmax v h w
open Go.RowKit in
theorem Tryz.strconv_Atoi_syntax_var (s : ByteArray) (hlim : s.size ≤ 281474976710656) (h1 : ∀ v, Lib.atoiAll s.data.toList ≠ .ok v) (h2 : Lib.atoiAll s.data.toList ≠ .range) (tp : TypeId) (p : Value) (w : World) (hvar : w.var? Tryz.prog "strconv.ErrSyntax" = some #[.iface tp p]) :
  Calls Tryz.prog 133 #[.string s] w fun e w' => ∃ N, e = .returned (.tuple #[.int .i64 0, .iface 249 (.pointer (some ⟨N, 0, none⟩))]) ∧ w.heap.size ≤ N ∧ w'.heap[N]? = some (.cells #[.string ⟨#[65, 116, 111, 105]⟩, .string s, .iface tp p] 283 (0, 0)) ∧ Below w.heap.size w w' := by
 cases h : Lib.atoiAll s.data.toList with
 | ok v => exact absurd h (h1 v)
 | range => exact absurd h h2
 | _ => exact Any.strconv_Atoi_syntax_var Tryz.laysC172 s hlim h tp p w hvar
open Go.RowKit in
theorem Tryz.strconv_Atoi_range_var (s : ByteArray) (hlim : s.size ≤ 281474976710656) (h : Lib.atoiAll s.data.toList = .range) (tp : TypeId) (p : Value) (w : World) (hvar : w.var? Tryz.prog "strconv.ErrRange" = some #[.iface tp p]) :
  Calls Tryz.prog 133 #[.string s] w fun e w' => ∃ N, e = .returned (.tuple #[.int .i64 (Lib.atoiSat s.data.toList), .iface 249 (.pointer (some ⟨N, 0, none⟩))]) ∧ w.heap.size ≤ N ∧ w'.heap[N]? = some (.cells #[.string ⟨#[65, 116, 111, 105]⟩, .string s, .iface tp p] 283 (0, 0)) ∧ Below w.heap.size w w' := Any.strconv_Atoi_range_var Tryz.laysC172 s hlim h tp p w hvar
def Tryz.laysPu14_ren : Go.Shelf.Ren := ⟨fun | 14 => 222 | 16 => 264 | 17 => 183 | 19 => 279 | 20 => 280 | 21 => 230 | 22 => 231 | 23 => 232 | 24 => 233 | 25 => 270 | 27 => 96 | 26 => 271 | 28 => 163 | 29 => 214 | 30 => 256 | 31 => 257 | 32 => 258 | 33 => 259 | 35 => 172 | 34 => 275 | 36 => 276 | 37 => 277 | 38 => 278 | 39 => 284 | 40 => 285 | n => n, fun | 9 => 9 | 3 => 3 | 22 => 139 | 24 => 162 | 25 => 238 | 4 => 4 | 34 => 246 | 5 => 5 | 36 => 143 | 37 => 191 | 0 => 0 | 39 => 249 | 21 => 21 | 44 => 283 | 47 => 236 | 50 => 295 | 48 => 293 | 2 => 2 | 52 => 270 | 55 => 272 | 59 => 290 | 60 => 226 | 20 => 20 | 61 => 291 | 65 => 301 | 66 => 302 | 67 => 195 | n => n, fun | 0 => 0 | 1 => 1 | 2 => 3 | 3 => 6 | 4 => 7 | n => n⟩
theorem Tryz.laysPu14 : Go.Proofs.LaysPu.n14 Tryz.prog Tryz.laysPu14_ren := {
 mixed := by kernel_rfl
 f14 := Tryz.func222.trans (congrArg some (by kernel_rfl))
 f16 := Tryz.func264.trans (congrArg some (by kernel_rfl))
 f17 := Tryz.func183.trans (congrArg some (by kernel_rfl))
 f19 := Tryz.func279.trans (congrArg some (by kernel_rfl))
 f20 := Tryz.func280.trans (congrArg some (by kernel_rfl))
 f21 := Tryz.func230.trans (congrArg some (by kernel_rfl))
 f22 := Tryz.func231.trans (congrArg some (by kernel_rfl))
 f23 := Tryz.func232.trans (congrArg some (by kernel_rfl))
 f24 := Tryz.func233.trans (congrArg some (by kernel_rfl))
 f25 := Tryz.func270.trans (congrArg some (by kernel_rfl))
 f26 := Tryz.func271.trans (congrArg some (by kernel_rfl))
 f27 := Tryz.func96.trans (congrArg some (by kernel_rfl))
 f28 := Tryz.func163.trans (congrArg some (by kernel_rfl))
 f29 := Tryz.func214.trans (congrArg some (by kernel_rfl))
 f30 := Tryz.func256.trans (congrArg some (by kernel_rfl))
 f31 := Tryz.func257.trans (congrArg some (by kernel_rfl))
 f32 := Tryz.func258.trans (congrArg some (by kernel_rfl))
 f33 := Tryz.func259.trans (congrArg some (by kernel_rfl))
 f34 := Tryz.func275.trans (congrArg some (by kernel_rfl))
 f35 := Tryz.func172.trans (congrArg some (by kernel_rfl))
 f36 := Tryz.func276.trans (congrArg some (by kernel_rfl))
 f37 := Tryz.func277.trans (congrArg some (by kernel_rfl))
 f38 := Tryz.func278.trans (congrArg some (by kernel_rfl))
 f39 := Tryz.func284.trans (congrArg some (by kernel_rfl))
 f40 := Tryz.func285.trans (congrArg some (by kernel_rfl))
 t0 := Tryz.underlying0
 a0 := Tryz.isAgg0
 z0 := Tryz.sizeOf0
 v0 := Tryz.zeroValue0
 i0 := by kernel_rfl
 t2 := Tryz.underlying2
 a2 := Tryz.isAgg2
 z2 := Tryz.sizeOf2
 v2 := Tryz.zeroValue2
 i2 := by kernel_rfl
 t3 := Tryz.underlying3
 a3 := Tryz.isAgg3
 z3 := Tryz.sizeOf3
 v3 := Tryz.zeroValue3
 i3 := by kernel_rfl
 t4 := Tryz.underlying4
 a4 := Tryz.isAgg4
 z4 := Tryz.sizeOf4
 v4 := Tryz.zeroValue4
 i4 := by kernel_rfl
 t5 := Tryz.underlying5
 a5 := Tryz.isAgg5
 z5 := Tryz.sizeOf5
 v5 := Tryz.zeroValue5
 i5 := by kernel_rfl
 t9 := Tryz.underlying9
 a9 := Tryz.isAgg9
 z9 := Tryz.sizeOf9
 v9 := Tryz.zeroValue9
 i9 := by kernel_rfl
 t20 := Tryz.underlying20
 a20 := Tryz.isAgg20
 z20 := Tryz.sizeOf20
 v20 := Tryz.zeroValue20
 i20 := by kernel_rfl
 t21 := Tryz.underlying21
 a21 := Tryz.isAgg21
 z21 := Tryz.sizeOf21
 v21 := Tryz.zeroValue21
 i21 := by kernel_rfl
 t22 := Tryz.underlying139
 a22 := Tryz.isAgg139
 z22 := Tryz.sizeOf139
 v22 := Tryz.zeroValue139
 i22 := by kernel_rfl
 t24 := Tryz.underlying162
 a24 := Tryz.isAgg162
 z24 := Tryz.sizeOf162
 v24 := Tryz.zeroValue162
 i24 := by kernel_rfl
 t25 := Tryz.underlying238
 a25 := Tryz.isAgg238
 z25 := Tryz.sizeOf238
 v25 := Tryz.zeroValue238
 i25 := by kernel_rfl
 t34 := Tryz.underlying246
 a34 := Tryz.isAgg246
 z34 := Tryz.sizeOf246
 v34 := Tryz.zeroValue246
 i34 := by kernel_rfl
 c34 := by kernel_rfl
 t36 := Tryz.underlying143
 a36 := Tryz.isAgg143
 z36 := Tryz.sizeOf143
 v36 := Tryz.zeroValue143
 i36 := by kernel_rfl
 t37 := Tryz.underlying191
 a37 := Tryz.isAgg191
 z37 := Tryz.sizeOf191
 v37 := Tryz.zeroValue191
 i37 := by kernel_rfl
 t39 := Tryz.underlying249
 a39 := Tryz.isAgg249
 z39 := Tryz.sizeOf249
 v39 := Tryz.zeroValue249
 i39 := by kernel_rfl
 t44 := Tryz.underlying283
 a44 := Tryz.isAgg283
 z44 := Tryz.sizeOf283
 v44 := Tryz.zeroValue283
 i44 := by kernel_rfl
 t47 := Tryz.underlying236
 a47 := Tryz.isAgg236
 z47 := Tryz.sizeOf236
 v47 := Tryz.zeroValue236
 i47 := by kernel_rfl
 t48 := Tryz.underlying293
 a48 := Tryz.isAgg293
 z48 := Tryz.sizeOf293
 v48 := Tryz.zeroValue293
 i48 := by kernel_rfl
 t50 := Tryz.underlying295
 a50 := Tryz.isAgg295
 z50 := Tryz.sizeOf295
 v50 := Tryz.zeroValue295
 i50 := by kernel_rfl
 t52 := Tryz.underlying270
 a52 := Tryz.isAgg270
 z52 := Tryz.sizeOf270
 v52 := Tryz.zeroValue270
 i52 := by kernel_rfl
 t55 := Tryz.underlying272
 a55 := Tryz.isAgg272
 z55 := Tryz.sizeOf272
 v55 := Tryz.zeroValue272
 i55 := by kernel_rfl
 t59 := Tryz.underlying290
 a59 := Tryz.isAgg290
 z59 := Tryz.sizeOf290
 v59 := Tryz.zeroValue290
 i59 := by kernel_rfl
 t60 := Tryz.underlying226
 a60 := Tryz.isAgg226
 z60 := Tryz.sizeOf226
 v60 := Tryz.zeroValue226
 i60 := by kernel_rfl
 t61 := Tryz.underlying291
 a61 := Tryz.isAgg291
 z61 := Tryz.sizeOf291
 t65 := Tryz.underlying301
 a65 := Tryz.isAgg301
 z65 := Tryz.sizeOf301
 v65 := Tryz.zeroValue301
 i65 := by kernel_rfl
 t66 := Tryz.underlying302
 a66 := Tryz.isAgg302
 z66 := Tryz.sizeOf302
 v66 := Tryz.zeroValue302
 i66 := by kernel_rfl
 t67 := Tryz.underlying195
 a67 := Tryz.isAgg195
 z67 := Tryz.sizeOf195
 v67 := Tryz.zeroValue195
 i67 := by kernel_rfl
 g0 := by kernel_rfl
 m0 := by kernel_rfl
 g1 := by kernel_rfl
 m1 := by kernel_rfl
 g2 := by kernel_rfl
 m2 := by kernel_rfl
 g3 := by kernel_rfl
 m3 := by kernel_rfl
 g4 := by kernel_rfl
 m4 := by kernel_rfl }
open Go.RowKit in

theorem Tryz.strconv_ParseUint_10_at64_ok (s : ByteArray) (hmax : s.size ≤ 9223372036854775806) (u : Nat) (h : Lib.parseUintB 64 s.data.toList = .ok u) (w : World) :
  Calls Tryz.prog 222 #[.string s, .int .i64 10, .int .i64 64] w fun e w' => e = .returned (.tuple #[.int .u64 u, .nilIface]) ∧ (w' = w ∨ w' = Lib.bytesWorld w 5 s) := Any.strconv_ParseUint_10_at64_ok Tryz.laysPu14 s hmax u h w
open Go.RowKit in
theorem Tryz.strconv_ParseUint_10_at64_syntax_var (s : ByteArray) (hlim : s.size ≤ 281474976710656) (h1 : ∀ v, Lib.parseUintB 64 s.data.toList ≠ .ok v) (h2 : Lib.parseUintB 64 s.data.toList ≠ .range) (tp : TypeId) (p : Value) (w : World) (hvar : w.var? Tryz.prog "strconv.ErrSyntax" = some #[.iface tp p]) :
  Calls Tryz.prog 222 #[.string s, .int .i64 10, .int .i64 64] w fun e w' => ∃ N, e = .returned (.tuple #[.int .u64 0, .iface 249 (.pointer (some ⟨N, 0, none⟩))]) ∧ w.heap.size ≤ N ∧ w'.heap[N]? = some (.cells #[.string ⟨#[80, 97, 114, 115, 101, 85, 105, 110, 116]⟩, .string s, .iface tp p] 283 (0, 0)) ∧ Below w.heap.size w w' := by
 cases h : Lib.parseUintB 64 s.data.toList with
 | ok v => exact absurd h (h1 v)
 | range => exact absurd h h2
 | _ => exact Any.strconv_ParseUint_10_at64_syntax_var Tryz.laysPu14 s hlim h tp p w hvar
open Go.RowKit in
theorem Tryz.strconv_ParseUint_10_at64_range_var (s : ByteArray) (hlim : s.size ≤ 281474976710656) (h : Lib.parseUintB 64 s.data.toList = .range) (tp : TypeId) (p : Value) (w : World) (hvar : w.var? Tryz.prog "strconv.ErrRange" = some #[.iface tp p]) :
  Calls Tryz.prog 222 #[.string s, .int .i64 10, .int .i64 64] w fun e w' => ∃ N, e = .returned (.tuple #[.int .u64 18446744073709551615, .iface 249 (.pointer (some ⟨N, 0, none⟩))]) ∧ w.heap.size ≤ N ∧ w'.heap[N]? = some (.cells #[.string ⟨#[80, 97, 114, 115, 101, 85, 105, 110, 116]⟩, .string s, .iface tp p] 283 (0, 0)) ∧ Below w.heap.size w w' := Any.strconv_ParseUint_10_at64_range_var Tryz.laysPu14 s hlim h tp p w hvar
def Tryz.lays146_ren : Go.Shelf.Ren := ⟨fun | 146 => 132 | 221 => 181 | 268 => 226 | 138 => 227 | 143 => 228 | 195 => 266 | 197 => 267 | 218 => 268 | 219 => 269 | 260 => 281 | 217 => 273 | 225 => 252 | 224 => 251 | 267 => 282 | 266 => 283 | 314 => 286 | n => n, fun | 9 => 9 | 31 => 126 | 3 => 3 | 4 => 4 | 0 => 0 | 105 => 279 | 21 => 21 | 5 => 5 | 46 => 143 | 119 => 296 | 139 => 299 | 138 => 298 | 146 => 252 | 51 => 226 | n => n, fun | 1 => 2 | 3 => 4 | 4 => 5 | n => n⟩
theorem Tryz.lays146 : Go.Proofs.Lays.n146 Tryz.prog Tryz.lays146_ren := {
 mixed := by kernel_rfl
 f138 := Tryz.func227.trans (congrArg some (by kernel_rfl))
 f143 := Tryz.func228.trans (congrArg some (by kernel_rfl))
 f146 := Tryz.func132.trans (congrArg some (by kernel_rfl))
 f195 := Tryz.func266.trans (congrArg some (by kernel_rfl))
 f197 := Tryz.func267.trans (congrArg some (by kernel_rfl))
 f217 := Tryz.func273.trans (congrArg some (by kernel_rfl))
 f218 := Tryz.func268.trans (congrArg some (by kernel_rfl))
 f219 := Tryz.func269.trans (congrArg some (by kernel_rfl))
 f221 := Tryz.func181.trans (congrArg some (by kernel_rfl))
 f224 := Tryz.func251.trans (congrArg some (by kernel_rfl))
 f225 := Tryz.func252.trans (congrArg some (by kernel_rfl))
 f260 := Tryz.func281.trans (congrArg some (by kernel_rfl))
 f266 := Tryz.func283.trans (congrArg some (by kernel_rfl))
 f267 := Tryz.func282.trans (congrArg some (by kernel_rfl))
 f268 := Tryz.func226.trans (congrArg some (by kernel_rfl))
 f314 := Tryz.func286.trans (congrArg some (by kernel_rfl))
 t0 := Tryz.underlying0
 a0 := Tryz.isAgg0
 z0 := Tryz.sizeOf0
 v0 := Tryz.zeroValue0
 t3 := Tryz.underlying3
 a3 := Tryz.isAgg3
 z3 := Tryz.sizeOf3
 v3 := Tryz.zeroValue3
 t4 := Tryz.underlying4
 a4 := Tryz.isAgg4
 z4 := Tryz.sizeOf4
 v4 := Tryz.zeroValue4
 t5 := Tryz.underlying5
 a5 := Tryz.isAgg5
 z5 := Tryz.sizeOf5
 v5 := Tryz.zeroValue5
 t9 := Tryz.underlying9
 a9 := Tryz.isAgg9
 z9 := Tryz.sizeOf9
 v9 := Tryz.zeroValue9
 t21 := Tryz.underlying21
 a21 := Tryz.isAgg21
 z21 := Tryz.sizeOf21
 v21 := Tryz.zeroValue21
 t31 := Tryz.underlying126
 a31 := Tryz.isAgg126
 z31 := Tryz.sizeOf126
 v31 := Tryz.zeroValue126
 t46 := Tryz.underlying143
 a46 := Tryz.isAgg143
 z46 := Tryz.sizeOf143
 v46 := Tryz.zeroValue143
 t51 := Tryz.underlying226
 a51 := Tryz.isAgg226
 z51 := Tryz.sizeOf226
 v51 := Tryz.zeroValue226
 t105 := Tryz.underlying279
 a105 := Tryz.isAgg279
 z105 := Tryz.sizeOf279
 v105 := Tryz.zeroValue279
 t119 := Tryz.underlying296
 a119 := Tryz.isAgg296
 z119 := Tryz.sizeOf296
 t138 := Tryz.underlying298
 a138 := Tryz.isAgg298
 z138 := Tryz.sizeOf298
 v138 := Tryz.zeroValue298
 t139 := Tryz.underlying299
 a139 := Tryz.isAgg299
 z139 := Tryz.sizeOf299
 v139 := Tryz.zeroValue299
 t146 := Tryz.underlying252
 a146 := Tryz.isAgg252
 z146 := Tryz.sizeOf252
 v146 := Tryz.zeroValue252
 g1 := by kernel_rfl
 g3 := by kernel_rfl
 g4 := by kernel_rfl }
open Go.RowKit Go.Lib in

theorem Tryz.strings_Split (s sep : ByteArray) (m : Int) (w : World) (hs : s.size < 4294967281) (hm : w.cell? ⟨2, 0, none⟩ = some (.int .i64 m)) (h1 : 1 ≤ sep.size) :
  Calls Tryz.prog 132 #[.string s, .string sep] w fun e w' =>
   e = .returned (.slice (some ⟨w.heap.size, 0, none⟩) (Lib.countB s sep + 1) (Lib.countB s sep + 1)) ∧ w' = w.alloc (.cells ((Lib.splitB sep 0 (Lib.countB s sep) s).map Value.string).toArray 9) := Any.strings_Split Tryz.lays146 (by kernel_rfl) s sep m w hs hm h1
def Tryz.lays153_ren : Go.Shelf.Ren := ⟨fun | 153 => 157 | 152 => 209 | 226 => 210 | 227 => 211 | 228 => 212 | 137 => 249 | 119 => 250 | 224 => 251 | 225 => 252 | 217 => 273 | 266 => 283 | n => n, fun | 9 => 9 | 3 => 3 | 4 => 4 | 5 => 5 | 21 => 21 | 117 => 232 | 116 => 231 | 0 => 0 | 46 => 143 | 124 => 267 | n => n, fun | n => n⟩
theorem Tryz.lays153 : Go.Proofs.Lays.n153 Tryz.prog Tryz.lays153_ren := {
 mixed := by kernel_rfl
 f119 := Tryz.func250.trans (congrArg some (by kernel_rfl))
 f137 := Tryz.func249.trans (congrArg some (by kernel_rfl))
 f152 := Tryz.func209.trans (congrArg some (by kernel_rfl))
 f153 := Tryz.func157.trans (congrArg some (by kernel_rfl))
 f217 := Tryz.func273.trans (congrArg some (by kernel_rfl))
 f224 := Tryz.func251.trans (congrArg some (by kernel_rfl))
 f225 := Tryz.func252.trans (congrArg some (by kernel_rfl))
 f226 := Tryz.func210.trans (congrArg some (by kernel_rfl))
 f227 := Tryz.func211.trans (congrArg some (by kernel_rfl))
 f228 := Tryz.func212.trans (congrArg some (by kernel_rfl))
 f266 := Tryz.func283.trans (congrArg some (by kernel_rfl))
 t0 := Tryz.underlying0
 a0 := Tryz.isAgg0
 z0 := Tryz.sizeOf0
 v0 := Tryz.zeroValue0
 t3 := Tryz.underlying3
 a3 := Tryz.isAgg3
 z3 := Tryz.sizeOf3
 v3 := Tryz.zeroValue3
 t4 := Tryz.underlying4
 a4 := Tryz.isAgg4
 z4 := Tryz.sizeOf4
 v4 := Tryz.zeroValue4
 t5 := Tryz.underlying5
 a5 := Tryz.isAgg5
 z5 := Tryz.sizeOf5
 v5 := Tryz.zeroValue5
 t9 := Tryz.underlying9
 a9 := Tryz.isAgg9
 z9 := Tryz.sizeOf9
 v9 := Tryz.zeroValue9
 t21 := Tryz.underlying21
 a21 := Tryz.isAgg21
 z21 := Tryz.sizeOf21
 v21 := Tryz.zeroValue21
 t46 := Tryz.underlying143
 a46 := Tryz.isAgg143
 z46 := Tryz.sizeOf143
 v46 := Tryz.zeroValue143
 t116 := Tryz.underlying231
 a116 := Tryz.isAgg231
 z116 := Tryz.sizeOf231
 t117 := Tryz.underlying232
 a117 := Tryz.isAgg232
 z117 := Tryz.sizeOf232
 v117 := Tryz.zeroValue232
 t124 := Tryz.underlying267
 a124 := Tryz.isAgg267
 z124 := Tryz.sizeOf267
 v124 := Tryz.zeroValue267 }
open Go.RowKit Go.Lib in
theorem Tryz.strings_IndexAny_laid (s chars : ByteArray) (w : World) (hs : s.size < 4294967281) (hcs : chars.size < 4294967281) (has : ∀ (j : Nat) b, s.data.toList[j]? = some b → b.toNat < 128) (hac : ∀ (j : Nat) b, chars.data.toList[j]? = some b → b.toNat < 128) :
  Calls Tryz.prog 157 #[.string s, .string chars] w fun e w' => e = .returned (.int .i64 (Lib.indexAny s.data.toList chars.data.toList)) ∧ Below w.heap.size w w' := Any.strings_IndexAny_laid Tryz.lays153 (by kernel_rfl) s chars w hs hcs has hac
def Tryz.lays105_ren : Go.Shelf.Ren := ⟨fun | 105 => 134 | 212 => 184 | 99 => 144 | 165 => 164 | 166 => 165 | 170 => 185 | 169 => 166 | 263 => 234 | 264 => 235 | 206 => 194 | 240 => 215 | 241 => 216 | 276 => 260 | 277 => 261 | n => n, fun | 9 => 9 | 3 => 3 | 4 => 4 | 20 => 20 | 0 => 0 | 46 => 143 | 109 => 211 | 5 => 5 | 72 => 193 | 76 => 163 | 51 => 226 | 146 => 252 | 53 => 139 | 148 => 254 | 70 => 190 | 37 => 191 | 75 => 162 | 127 => 236 | 164 => 274 | 80 => 195 | n => n, fun | n => n⟩
theorem Tryz.lays105 : Go.Proofs.Lays.n105 Tryz.prog Tryz.lays105_ren := {
 mixed := by kernel_rfl
 f99 := Tryz.func144.trans (congrArg some (by kernel_rfl))
 f105 := Tryz.func134.trans (congrArg some (by kernel_rfl))
 f165 := Tryz.func164.trans (congrArg some (by kernel_rfl))
 f166 := Tryz.func165.trans (congrArg some (by kernel_rfl))
 f169 := Tryz.func166.trans (congrArg some (by kernel_rfl))
 f170 := Tryz.func185.trans (congrArg some (by kernel_rfl))
 f206 := Tryz.func194.trans (congrArg some (by kernel_rfl))
 f212 := Tryz.func184.trans (congrArg some (by kernel_rfl))
 f240 := Tryz.func215.trans (congrArg some (by kernel_rfl))
 f241 := Tryz.func216.trans (congrArg some (by kernel_rfl))
 f263 := Tryz.func234.trans (congrArg some (by kernel_rfl))
 f264 := Tryz.func235.trans (congrArg some (by kernel_rfl))
 f276 := Tryz.func260.trans (congrArg some (by kernel_rfl))
 f277 := Tryz.func261.trans (congrArg some (by kernel_rfl))
 t0 := Tryz.underlying0
 a0 := Tryz.isAgg0
 z0 := Tryz.sizeOf0
 v0 := Tryz.zeroValue0
 t3 := Tryz.underlying3
 a3 := Tryz.isAgg3
 z3 := Tryz.sizeOf3
 v3 := Tryz.zeroValue3
 t4 := Tryz.underlying4
 a4 := Tryz.isAgg4
 z4 := Tryz.sizeOf4
 v4 := Tryz.zeroValue4
 t5 := Tryz.underlying5
 a5 := Tryz.isAgg5
 z5 := Tryz.sizeOf5
 v5 := Tryz.zeroValue5
 t9 := Tryz.underlying9
 a9 := Tryz.isAgg9
 z9 := Tryz.sizeOf9
 v9 := Tryz.zeroValue9
 t20 := Tryz.underlying20
 a20 := Tryz.isAgg20
 z20 := Tryz.sizeOf20
 v20 := Tryz.zeroValue20
 t37 := Tryz.underlying191
 a37 := Tryz.isAgg191
 z37 := Tryz.sizeOf191
 v37 := Tryz.zeroValue191
 t46 := Tryz.underlying143
 a46 := Tryz.isAgg143
 z46 := Tryz.sizeOf143
 v46 := Tryz.zeroValue143
 t51 := Tryz.underlying226
 a51 := Tryz.isAgg226
 z51 := Tryz.sizeOf226
 v51 := Tryz.zeroValue226
 t53 := Tryz.underlying139
 a53 := Tryz.isAgg139
 z53 := Tryz.sizeOf139
 v53 := Tryz.zeroValue139
 t70 := Tryz.underlying190
 a70 := Tryz.isAgg190
 z70 := Tryz.sizeOf190
 v70 := Tryz.zeroValue190
 t72 := Tryz.underlying193
 a72 := Tryz.isAgg193
 z72 := Tryz.sizeOf193
 v72 := Tryz.zeroValue193
 t75 := Tryz.underlying162
 a75 := Tryz.isAgg162
 z75 := Tryz.sizeOf162
 v75 := Tryz.zeroValue162
 t76 := Tryz.underlying163
 a76 := Tryz.isAgg163
 z76 := Tryz.sizeOf163
 v76 := Tryz.zeroValue163
 t109 := Tryz.underlying211
 a109 := Tryz.isAgg211
 z109 := Tryz.sizeOf211
 v109 := Tryz.zeroValue211
 t127 := Tryz.underlying236
 a127 := Tryz.isAgg236
 z127 := Tryz.sizeOf236
 v127 := Tryz.zeroValue236
 t146 := Tryz.underlying252
 a146 := Tryz.isAgg252
 z146 := Tryz.sizeOf252
 v146 := Tryz.zeroValue252
 t148 := Tryz.underlying254
 a148 := Tryz.isAgg254
 z148 := Tryz.sizeOf254
 v148 := Tryz.zeroValue254
 t164 := Tryz.underlying274
 a164 := Tryz.isAgg274
 z164 := Tryz.sizeOf274
 v164 := Tryz.zeroValue274 }
theorem Tryz.Builder_Extra_105 : Builder.Extra Tryz.prog Tryz.lays105_ren := {
 sizeBuilder := by kernel_rfl
 liesBuilder := by kernel_rfl
 t5 := Tryz.underlying5
 a5 := Tryz.isAgg5
 z5 := Tryz.sizeOf5
 v5 := Tryz.zeroValue5
 infoByte := by kernel_rfl
 cellsByte := by kernel_rfl
 sizeByte := by kernel_rfl
 neB5 := by decide }
open Go.RowKit Go.Lib in

theorem Tryz.strings_Repeat (s : ByteArray) (c : Nat) (w : World) (hc : c ≤ 9223372036854775807) (hlen : s.size * c ≤ 140737488355328) :
  Calls Tryz.prog 134 #[.string s, .int .i64 c] w fun e w' => e = .returned (.string ⟨(Lib.repeatL s.data.toList c).toArray⟩) ∧ Below w.heap.size w w' := Any.strings_Repeat Tryz.lays105 Tryz.Builder_Extra_105 s c w hc hlen
end Go.Proofs
