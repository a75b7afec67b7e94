/- Joined of: Shelf, Num, Def, Own, Ord, Flo, Ort, Sq, Loop, Short, Dec, Str, Law, Law2, Ma, Mb, Mc, Int1, Int2, Int4, Int5, Gen1, Int6. -/
import Derived.Shelf.Strings.Builder1
import Derived.Shelf.Strings.Builder2
import Derived.Shelf.Strings.OnBuilder
import Derived.Shelf.Strings.Trim
import Derived.Shelf.Small.Utf8
import Derived.Shelf.Small.Bits
import Derived.Shelf.Small.Strs
import Derived.Shelf.Small.Wraps
import Derived.Shelf.Strings.BuilderF
import Derived.Shelf.Strings.BuilderK
import Derived.Shelf.Strings.Builder2Cap
import Derived.Shelf.Strconv.Itoa0
import Derived.Shelf.Strconv.Itoa1
import Derived.Shelf.LaysM
import Derived.Shelf.Strconv.Itoa2
import Derived.Shelf.Strconv.Itoa3
import Derived.Shelf.Strconv.Clone
import Derived.Shelf.Strconv.SyntaxError
import Derived.Shelf.LaysC
import Derived.Shelf.Strconv.ToError
import Derived.Shelf.Strconv.Lower
import Derived.Shelf.Strconv.ParseUint10
import Derived.Shelf.Strconv.ParseUint10Empty
import Derived.Shelf.Strconv.ParseUint10Any
import Derived.Shelf.Strconv.RangeError
import Derived.Shelf.Strconv.ToErrorRange
import Derived.Shelf.Strconv.ParseUintEmpty
import Derived.Shelf.Strconv.ParseUint10b64
import Derived.Shelf.Strconv.ParseUint10b32
import Derived.Shelf.Strconv.ParseUint10b16
import Derived.Shelf.Strconv.ParseUint10b8
import Derived.Shelf.Strconv.ParseUint10At
import Derived.Ground.MpProg
import Derived.Shelf.Pu.ParseUintPublic10
import Derived.Shelf.Pu.ErrVarParseUint
import Derived.Shelf.Strings.Search1
import Derived.Shelf.Strings.Search2
import Derived.Shelf.Strings.Cut
import Derived.Shelf.Strings.Shaped
import Derived.Shelf.GgClosure.StringsIndexFunc
import Derived.Ground.GgwProg
import Derived.Shelf.GgClosure.StringsIndexFuncTop
import Derived.Shelf.GgClosure.StringsRunes
import Derived.Shelf.Strings.Prefix
import Derived.Shelf.Unicode.Decode
import Derived.Shelf.Strings.Runes
import Derived.Shelf.Strings.AsciiSet
import Derived.Shelf.Bits.Mul64
import Derived.Shelf.Strings.Repeat
import Derived.Shelf.Unicode.DecodeSlow
import Derived.Shelf.Unicode.DecodeAny
import Derived.Shelf.Unicode.DecodeLast
import Derived.Shelf.Strings.FuncGrows
import Derived.Shelf.Strings.BuilderCap
import Derived.Shelf.Slices.Turned
import Derived.Ground.Names2Prog
import Derived.Shelf.Slices.ReverseS
import Derived.Shelf.Slices.Clone
import Derived.Shelf.Slices.Cells
import Derived.Test.YtjhflekncldflaaGreatDoorProg
import Derived.Test.YtjhflekncldflaaGreatDoorRows
import Derived.WalkKit
import Derived.WalkSpells
import Derived.WalkLawsBesides
import Derived.Lib.Hide
import Derived.Deep.QuietTactic
import Derived.BigQuiet
import Derived.Deep.RegionHeld3
import Derived.Deep.DrawnRows
import Derived.Deep.MidRow
import Derived.Deep.LoopGhost
import Derived.Laws.AppendOwn
import Derived.Laws.Concat
import Derived.Lib.ItoaNum
import Derived.Lib.ItoaMem
import Derived.Lib.Repeat
import Derived.Lib.Join
import Derived.ProofKit
import Derived.Below
import Derived.Deep.DeepHandedRow
import Derived.Lib.LaidTab
import Derived.Stop.LaidErr
import Derived.LaidSub
import Derived.Lay
import Derived.MakeChecks
import Init.Data.Rat.Lemmas
namespace Go.Proofs
open Go.Shelf
def Tryz.lays156_ren : Go.Shelf.Ren := ⟨fun | 156 => 91 | 165 => 112 | 166 => 113 | 169 => 115 | 240 => 136 | 241 => 137 | 276 => 160 | 277 => 161 | n => n, fun | 31 => 170 | 9 => 9 | 3 => 3 | 4 => 4 | 0 => 0 | 20 => 20 | 72 => 200 | 76 => 204 | 70 => 198 | 37 => 69 | 75 => 203 | 127 => 223 | 164 => 245 | 5 => 5 | 80 => 138 | n => n, fun | n => n⟩
theorem Tryz.lays156 : Go.Proofs.Lays.n156 Tryz.prog Tryz.lays156_ren := {
  mixed := by kernel_rfl
  f156 := Tryz.func91.trans (congrArg some (by kernel_rfl))
  f165 := Tryz.func112.trans (congrArg some (by kernel_rfl))
  f166 := Tryz.func113.trans (congrArg some (by kernel_rfl))
  f169 := Tryz.func115.trans (congrArg some (by kernel_rfl))
  f240 := Tryz.func136.trans (congrArg some (by kernel_rfl))
  f241 := Tryz.func137.trans (congrArg some (by kernel_rfl))
  f276 := Tryz.func160.trans (congrArg some (by kernel_rfl))
  f277 := Tryz.func161.trans (congrArg some (by kernel_rfl))
  t0 := Tryz.underlying0
  a0 := Tryz.isAgg0
  z0 := Tryz.sizeOf0
  v0 := Tryz.zeroValue0
  t3 := Tryz.underlying3
  a3 := Tryz.isAgg3
  z3 := Tryz.sizeOf3
  v3 := Tryz.zeroValue3
  t4 := Tryz.underlying4
  a4 := Tryz.isAgg4
  z4 := Tryz.sizeOf4
  v4 := Tryz.zeroValue4
  t9 := Tryz.underlying9
  a9 := Tryz.isAgg9
  z9 := Tryz.sizeOf9
  v9 := Tryz.zeroValue9
  t20 := Tryz.underlying20
  a20 := Tryz.isAgg20
  z20 := Tryz.sizeOf20
  v20 := Tryz.zeroValue20
  t31 := Tryz.underlying170
  a31 := Tryz.isAgg170
  z31 := Tryz.sizeOf170
  v31 := Tryz.zeroValue170
  t37 := Tryz.underlying69
  a37 := Tryz.isAgg69
  z37 := Tryz.sizeOf69
  v37 := Tryz.zeroValue69
  t70 := Tryz.underlying198
  a70 := Tryz.isAgg198
  z70 := Tryz.sizeOf198
  v70 := Tryz.zeroValue198
  t72 := Tryz.underlying200
  a72 := Tryz.isAgg200
  z72 := Tryz.sizeOf200
  v72 := Tryz.zeroValue200
  t75 := Tryz.underlying203
  a75 := Tryz.isAgg203
  z75 := Tryz.sizeOf203
  v75 := Tryz.zeroValue203
  t76 := Tryz.underlying204
  a76 := Tryz.isAgg204
  z76 := Tryz.sizeOf204
  v76 := Tryz.zeroValue204
  t127 := Tryz.underlying223
  a127 := Tryz.isAgg223
  z127 := Tryz.sizeOf223
  v127 := Tryz.zeroValue223
  t164 := Tryz.underlying245
  a164 := Tryz.isAgg245
  z164 := Tryz.sizeOf245
  v164 := Tryz.zeroValue245 }
theorem Tryz.Builder_Extra_156 : Builder.Extra Tryz.prog Tryz.lays156_ren := {
  sizeBuilder := by kernel_rfl
  liesBuilder := by kernel_rfl
  t5 := Tryz.underlying5
  a5 := Tryz.isAgg5
  z5 := Tryz.sizeOf5
  v5 := Tryz.zeroValue5
  infoByte := by kernel_rfl
  cellsByte := by kernel_rfl
  sizeByte := by kernel_rfl
  neB5 := by decide }
open Go.RowKit in
theorem Tryz.strings_Join (bk o c : Nat) (xs : List ByteArray) (sep : ByteArray) (w : World) (hcells : ∀ (j : Nat) x, xs[j]? = some x → w.cell? ⟨bk, o + j, none⟩ = some (.string x)) (hbk : bk < w.heap.size) (hN : xs.length ≤ 140737488355328) (hcap : xs.length ≤ c) (hlen : (Lib.join (xs.map (·.data.toList)) sep.data.toList).length ≤ 140737488355328) :
    Calls Tryz.prog 91 #[.slice (some ⟨bk, o, none⟩) xs.length c, .string sep] w fun e w' => e = .returned (.string ⟨(Lib.join (xs.map (·.data.toList)) sep.data.toList).toArray⟩) ∧ Below w.heap.size w w' := Any.strings_Join Tryz.lays156 Tryz.Builder_Extra_156 bk o c xs sep w hcells hbk hN hcap hlen
def Tryz.lays160_ren : Go.Shelf.Ren := ⟨fun | 160 => 119 | 232 => 141 | 231 => 140 | 227 => 142 | 234 => 144 | 233 => 143 | 236 => 146 | 235 => 145 | 228 => 163 | 271 => 166 | 151 => 165 | 197 => 164 | 120 => 186 | 152 => 185 | 260 => 184 | 137 => 199 | 119 => 200 | 224 => 182 | 225 => 181 | 217 => 180 | 266 => 197 | n => n, fun | 9 => 9 | 4 => 4 | 3 => 3 | 5 => 5 | 117 => 227 | 116 => 226 | 0 => 0 | 124 => 230 | 21 => 21 | 105 => 250 | 46 => 191 | 119 => 271 | 139 => 274 | 138 => 273 | n => n, fun | 3 => 2 | 4 => 3 | n => n⟩
theorem Tryz.lays160 : Go.Proofs.Lays.n160 Tryz.prog Tryz.lays160_ren := {
  mixed := by kernel_rfl
  f119 := Tryz.func200.trans (congrArg some (by kernel_rfl))
  f120 := Tryz.func186.trans (congrArg some (by kernel_rfl))
  f137 := Tryz.func199.trans (congrArg some (by kernel_rfl))
  f151 := Tryz.func165.trans (congrArg some (by kernel_rfl))
  f152 := Tryz.func185.trans (congrArg some (by kernel_rfl))
  f160 := Tryz.func119.trans (congrArg some (by kernel_rfl))
  f197 := Tryz.func164.trans (congrArg some (by kernel_rfl))
  f217 := Tryz.func180.trans (congrArg some (by kernel_rfl))
  f224 := Tryz.func182.trans (congrArg some (by kernel_rfl))
  f225 := Tryz.func181.trans (congrArg some (by kernel_rfl))
  f227 := Tryz.func142.trans (congrArg some (by kernel_rfl))
  f228 := Tryz.func163.trans (congrArg some (by kernel_rfl))
  f231 := Tryz.func140.trans (congrArg some (by kernel_rfl))
  f232 := Tryz.func141.trans (congrArg some (by kernel_rfl))
  f233 := Tryz.func143.trans (congrArg some (by kernel_rfl))
  f234 := Tryz.func144.trans (congrArg some (by kernel_rfl))
  f235 := Tryz.func145.trans (congrArg some (by kernel_rfl))
  f236 := Tryz.func146.trans (congrArg some (by kernel_rfl))
  f260 := Tryz.func184.trans (congrArg some (by kernel_rfl))
  f266 := Tryz.func197.trans (congrArg some (by kernel_rfl))
  f271 := Tryz.func166.trans (congrArg some (by kernel_rfl))
  t0 := Tryz.underlying0
  a0 := Tryz.isAgg0
  z0 := Tryz.sizeOf0
  v0 := Tryz.zeroValue0
  t3 := Tryz.underlying3
  a3 := Tryz.isAgg3
  z3 := Tryz.sizeOf3
  v3 := Tryz.zeroValue3
  t4 := Tryz.underlying4
  a4 := Tryz.isAgg4
  z4 := Tryz.sizeOf4
  v4 := Tryz.zeroValue4
  t5 := Tryz.underlying5
  a5 := Tryz.isAgg5
  z5 := Tryz.sizeOf5
  v5 := Tryz.zeroValue5
  t9 := Tryz.underlying9
  a9 := Tryz.isAgg9
  z9 := Tryz.sizeOf9
  v9 := Tryz.zeroValue9
  t21 := Tryz.underlying21
  a21 := Tryz.isAgg21
  z21 := Tryz.sizeOf21
  v21 := Tryz.zeroValue21
  t46 := Tryz.underlying191
  a46 := Tryz.isAgg191
  z46 := Tryz.sizeOf191
  v46 := Tryz.zeroValue191
  t105 := Tryz.underlying250
  a105 := Tryz.isAgg250
  z105 := Tryz.sizeOf250
  v105 := Tryz.zeroValue250
  t116 := Tryz.underlying226
  a116 := Tryz.isAgg226
  z116 := Tryz.sizeOf226
  t117 := Tryz.underlying227
  a117 := Tryz.isAgg227
  z117 := Tryz.sizeOf227
  v117 := Tryz.zeroValue227
  t119 := Tryz.underlying271
  a119 := Tryz.isAgg271
  z119 := Tryz.sizeOf271
  t124 := Tryz.underlying230
  a124 := Tryz.isAgg230
  z124 := Tryz.sizeOf230
  v124 := Tryz.zeroValue230
  t138 := Tryz.underlying273
  a138 := Tryz.isAgg273
  z138 := Tryz.sizeOf273
  v138 := Tryz.zeroValue273
  t139 := Tryz.underlying274
  a139 := Tryz.isAgg274
  z139 := Tryz.sizeOf274
  v139 := Tryz.zeroValue274
  g3 := by kernel_rfl
  g4 := by kernel_rfl }
def Tryz.lays133_ren : Go.Shelf.Ren := ⟨fun | 133 => 170 | 128 => 193 | n => n, fun | 51 => 171 | 3 => 3 | 4 => 4 | 46 => 191 | 5 => 5 | 9 => 9 | n => n, fun | n => n⟩
theorem Tryz.lays133 : Go.Proofs.Lays.n133 Tryz.prog Tryz.lays133_ren := {
  mixed := by kernel_rfl
  f128 := Tryz.func193.trans (congrArg some (by kernel_rfl))
  f133 := Tryz.func170.trans (congrArg some (by kernel_rfl))
  t3 := Tryz.underlying3
  a3 := Tryz.isAgg3
  z3 := Tryz.sizeOf3
  v3 := Tryz.zeroValue3
  t4 := Tryz.underlying4
  a4 := Tryz.isAgg4
  z4 := Tryz.sizeOf4
  v4 := Tryz.zeroValue4
  t5 := Tryz.underlying5
  a5 := Tryz.isAgg5
  z5 := Tryz.sizeOf5
  v5 := Tryz.zeroValue5
  t9 := Tryz.underlying9
  a9 := Tryz.isAgg9
  z9 := Tryz.sizeOf9
  v9 := Tryz.zeroValue9
  t46 := Tryz.underlying191
  a46 := Tryz.isAgg191
  z46 := Tryz.sizeOf191
  v46 := Tryz.zeroValue191
  t51 := Tryz.underlying171
  a51 := Tryz.isAgg171
  z51 := Tryz.sizeOf171
  v51 := Tryz.zeroValue171 }
theorem Tryz.bits_LeadingZeros32 (x : Int) (w : World) (h0 : 0 ≤ x) (h1 : x ≤ 4294967295) :
    Calls Tryz.prog 170 #[.int .u32 x] w fun e w' => e = .returned (.int .i64 (32 - (Lib.bitLen x.toNat : Int))) ∧ w' = w := Any.bits_LeadingZeros32 Tryz.lays133 x w h0 h1
def Tryz.lays103_ren : Go.Shelf.Ren := ⟨fun | 103 => 147 | 210 => 167 | 206 => 135 | n => n, fun | 9 => 9 | 4 => 4 | 24 => 231 | 3 => 3 | n => n, fun | n => n⟩
theorem Tryz.lays103 : Go.Proofs.Lays.n103 Tryz.prog Tryz.lays103_ren := {
  mixed := by kernel_rfl
  f103 := Tryz.func147.trans (congrArg some (by kernel_rfl))
  f206 := Tryz.func135.trans (congrArg some (by kernel_rfl))
  f210 := Tryz.func167.trans (congrArg some (by kernel_rfl))
  t3 := Tryz.underlying3
  a3 := Tryz.isAgg3
  z3 := Tryz.sizeOf3
  v3 := Tryz.zeroValue3
  t4 := Tryz.underlying4
  a4 := Tryz.isAgg4
  z4 := Tryz.sizeOf4
  v4 := Tryz.zeroValue4
  t9 := Tryz.underlying9
  a9 := Tryz.isAgg9
  z9 := Tryz.sizeOf9
  v9 := Tryz.zeroValue9
  t24 := Tryz.underlying231
  a24 := Tryz.isAgg231
  z24 := Tryz.sizeOf231
  v24 := Tryz.zeroValue231 }
open Go.RowKit in
theorem Tryz.strings_CutPrefix (s p : ByteArray) (w : World) :
    Calls Tryz.prog 147 #[.string s, .string p] w fun e w' => e = .returned (.tuple #[.string ⟨(Lib.trimPrefix s.data.toList p.data.toList).toArray⟩, .bool (Lib.hasPrefix s.data.toList p.data.toList)]) ∧ w' = w := Any.strings_CutPrefix Tryz.lays103 s p w
def Tryz.laysM171_ren : Go.Shelf.Ren := ⟨fun | 171 => 88 | 243 => 109 | 246 => 132 | 283 => 156 | 284 => 157 | 285 => 158 | 286 => 159 | 129 => 176 | 317 => 175 | 318 => 177 | 319 => 178 | 320 => 179 | 337 => 195 | 338 => 196 | n => n, fun | 3 => 3 | 9 => 9 | 2 => 2 | 4 => 4 | 171 => 240 | 0 => 0 | 53 => 189 | 37 => 69 | 5 => 5 | 173 => 243 | 212 => 260 | 51 => 171 | 20 => 20 | 213 => 261 | 46 => 191 | 232 => 279 | 233 => 280 | n => n, fun | 17 => 0 | 18 => 6 | 19 => 7 | n => n⟩
theorem Tryz.laysM171 : Go.Proofs.LaysM.n171 Tryz.prog Tryz.laysM171_ren := {
  mixed := by kernel_rfl
  f129 := Tryz.func176.trans (congrArg some (by kernel_rfl))
  f171 := Tryz.func88.trans (congrArg some (by kernel_rfl))
  f243 := Tryz.func109.trans (congrArg some (by kernel_rfl))
  f246 := Tryz.func132.trans (congrArg some (by kernel_rfl))
  f283 := Tryz.func156.trans (congrArg some (by kernel_rfl))
  f284 := Tryz.func157.trans (congrArg some (by kernel_rfl))
  f285 := Tryz.func158.trans (congrArg some (by kernel_rfl))
  f286 := Tryz.func159.trans (congrArg some (by kernel_rfl))
  f317 := Tryz.func175.trans (congrArg some (by kernel_rfl))
  f318 := Tryz.func177.trans (congrArg some (by kernel_rfl))
  f319 := Tryz.func178.trans (congrArg some (by kernel_rfl))
  f320 := Tryz.func179.trans (congrArg some (by kernel_rfl))
  f337 := Tryz.func195.trans (congrArg some (by kernel_rfl))
  f338 := Tryz.func196.trans (congrArg some (by kernel_rfl))
  t0 := Tryz.underlying0
  a0 := Tryz.isAgg0
  z0 := Tryz.sizeOf0
  v0 := Tryz.zeroValue0
  t2 := Tryz.underlying2
  a2 := Tryz.isAgg2
  z2 := Tryz.sizeOf2
  v2 := Tryz.zeroValue2
  t3 := Tryz.underlying3
  a3 := Tryz.isAgg3
  z3 := Tryz.sizeOf3
  v3 := Tryz.zeroValue3
  t4 := Tryz.underlying4
  a4 := Tryz.isAgg4
  z4 := Tryz.sizeOf4
  v4 := Tryz.zeroValue4
  t5 := Tryz.underlying5
  a5 := Tryz.isAgg5
  z5 := Tryz.sizeOf5
  v5 := Tryz.zeroValue5
  t9 := Tryz.underlying9
  a9 := Tryz.isAgg9
  z9 := Tryz.sizeOf9
  v9 := Tryz.zeroValue9
  t20 := Tryz.underlying20
  a20 := Tryz.isAgg20
  z20 := Tryz.sizeOf20
  v20 := Tryz.zeroValue20
  t37 := Tryz.underlying69
  a37 := Tryz.isAgg69
  z37 := Tryz.sizeOf69
  v37 := Tryz.zeroValue69
  t46 := Tryz.underlying191
  a46 := Tryz.isAgg191
  z46 := Tryz.sizeOf191
  v46 := Tryz.zeroValue191
  t51 := Tryz.underlying171
  a51 := Tryz.isAgg171
  z51 := Tryz.sizeOf171
  v51 := Tryz.zeroValue171
  t53 := Tryz.underlying189
  a53 := Tryz.isAgg189
  z53 := Tryz.sizeOf189
  v53 := Tryz.zeroValue189
  t171 := Tryz.underlying240
  a171 := Tryz.isAgg240
  z171 := Tryz.sizeOf240
  v171 := Tryz.zeroValue240
  t173 := Tryz.underlying243
  a173 := Tryz.isAgg243
  z173 := Tryz.sizeOf243
  v173 := Tryz.zeroValue243
  t212 := Tryz.underlying260
  a212 := Tryz.isAgg260
  z212 := Tryz.sizeOf260
  v212 := Tryz.zeroValue260
  t213 := Tryz.underlying261
  a213 := Tryz.isAgg261
  z213 := Tryz.sizeOf261
  t232 := Tryz.underlying279
  a232 := Tryz.isAgg279
  z232 := Tryz.sizeOf279
  v232 := Tryz.zeroValue279
  t233 := Tryz.underlying280
  a233 := Tryz.isAgg280
  z233 := Tryz.sizeOf280
  v233 := Tryz.zeroValue280
  g17 := by kernel_rfl
  g18 := by kernel_rfl
  g19 := by kernel_rfl
  i0 := by kernel_rfl
  i2 := by kernel_rfl
  i3 := by kernel_rfl
  i4 := by kernel_rfl
  i5 := by kernel_rfl
  i9 := by kernel_rfl
  i20 := by kernel_rfl
  i37 := by kernel_rfl
  i46 := by kernel_rfl
  i51 := by kernel_rfl
  i53 := by kernel_rfl
  i171 := by kernel_rfl
  i173 := by kernel_rfl
  i212 := by kernel_rfl
  i232 := by kernel_rfl
  i233 := by kernel_rfl
  m17 := by kernel_rfl
  m18 := by kernel_rfl
  m19 := by kernel_rfl }
open Go.RowKit Go.Sort Go.Lib in
theorem Tryz.strconv_Itoa (n : Int) (h0 : -9223372036854775808 ≤ n) (h1 : n ≤ 9223372036854775807) (w : World) (htab : Lib.TabIs Tryz.prog w "internal/strconv.uint64pow10" .u64 Lib.pow10Tab) :
    Calls Tryz.prog 88 #[.int .i64 n] w fun e w' => e = .returned (.string ⟨(Lib.itoa n).toArray⟩) ∧ ∃ k os, w' = grow (w.drewN k) os := Any.strconv_Itoa Tryz.laysM171 n h0 h1 w htab
def Tryz.laysPu14_ren : Go.Shelf.Ren := ⟨fun | 14 => 149 | 16 => 168 | 17 => 169 | 19 => 187 | 20 => 188 | 21 => 189 | 22 => 190 | 23 => 191 | 24 => 192 | 25 => 201 | 27 => 88 | 26 => 202 | 28 => 109 | 29 => 132 | 30 => 156 | 31 => 157 | 32 => 158 | 33 => 159 | 35 => 176 | 34 => 175 | 36 => 177 | 37 => 178 | 38 => 179 | 39 => 195 | 40 => 196 | n => n, fun | 9 => 9 | 3 => 3 | 22 => 189 | 24 => 203 | 25 => 233 | 4 => 4 | 34 => 265 | 5 => 5 | 36 => 191 | 37 => 69 | 0 => 0 | 39 => 267 | 21 => 21 | 44 => 277 | 47 => 223 | 50 => 283 | 48 => 281 | 2 => 2 | 52 => 240 | 55 => 243 | 59 => 260 | 60 => 171 | 20 => 20 | 61 => 261 | 65 => 279 | 66 => 280 | 67 => 138 | n => n, fun | 0 => 4 | 1 => 5 | 2 => 0 | 3 => 6 | 4 => 7 | n => n⟩
theorem Tryz.laysPu14 : Go.Proofs.LaysPu.n14 Tryz.prog Tryz.laysPu14_ren := {
  mixed := by kernel_rfl
  f14 := Tryz.func149.trans (congrArg some (by kernel_rfl))
  f16 := Tryz.func168.trans (congrArg some (by kernel_rfl))
  f17 := Tryz.func169.trans (congrArg some (by kernel_rfl))
  f19 := Tryz.func187.trans (congrArg some (by kernel_rfl))
  f20 := Tryz.func188.trans (congrArg some (by kernel_rfl))
  f21 := Tryz.func189.trans (congrArg some (by kernel_rfl))
  f22 := Tryz.func190.trans (congrArg some (by kernel_rfl))
  f23 := Tryz.func191.trans (congrArg some (by kernel_rfl))
  f24 := Tryz.func192.trans (congrArg some (by kernel_rfl))
  f25 := Tryz.func201.trans (congrArg some (by kernel_rfl))
  f26 := Tryz.func202.trans (congrArg some (by kernel_rfl))
  f27 := Tryz.func88.trans (congrArg some (by kernel_rfl))
  f28 := Tryz.func109.trans (congrArg some (by kernel_rfl))
  f29 := Tryz.func132.trans (congrArg some (by kernel_rfl))
  f30 := Tryz.func156.trans (congrArg some (by kernel_rfl))
  f31 := Tryz.func157.trans (congrArg some (by kernel_rfl))
  f32 := Tryz.func158.trans (congrArg some (by kernel_rfl))
  f33 := Tryz.func159.trans (congrArg some (by kernel_rfl))
  f34 := Tryz.func175.trans (congrArg some (by kernel_rfl))
  f35 := Tryz.func176.trans (congrArg some (by kernel_rfl))
  f36 := Tryz.func177.trans (congrArg some (by kernel_rfl))
  f37 := Tryz.func178.trans (congrArg some (by kernel_rfl))
  f38 := Tryz.func179.trans (congrArg some (by kernel_rfl))
  f39 := Tryz.func195.trans (congrArg some (by kernel_rfl))
  f40 := Tryz.func196.trans (congrArg some (by kernel_rfl))
  t0 := Tryz.underlying0
  a0 := Tryz.isAgg0
  z0 := Tryz.sizeOf0
  v0 := Tryz.zeroValue0
  i0 := by kernel_rfl
  t2 := Tryz.underlying2
  a2 := Tryz.isAgg2
  z2 := Tryz.sizeOf2
  v2 := Tryz.zeroValue2
  i2 := by kernel_rfl
  t3 := Tryz.underlying3
  a3 := Tryz.isAgg3
  z3 := Tryz.sizeOf3
  v3 := Tryz.zeroValue3
  i3 := by kernel_rfl
  t4 := Tryz.underlying4
  a4 := Tryz.isAgg4
  z4 := Tryz.sizeOf4
  v4 := Tryz.zeroValue4
  i4 := by kernel_rfl
  t5 := Tryz.underlying5
  a5 := Tryz.isAgg5
  z5 := Tryz.sizeOf5
  v5 := Tryz.zeroValue5
  i5 := by kernel_rfl
  t9 := Tryz.underlying9
  a9 := Tryz.isAgg9
  z9 := Tryz.sizeOf9
  v9 := Tryz.zeroValue9
  i9 := by kernel_rfl
  t20 := Tryz.underlying20
  a20 := Tryz.isAgg20
  z20 := Tryz.sizeOf20
  v20 := Tryz.zeroValue20
  i20 := by kernel_rfl
  t21 := Tryz.underlying21
  a21 := Tryz.isAgg21
  z21 := Tryz.sizeOf21
  v21 := Tryz.zeroValue21
  i21 := by kernel_rfl
  t22 := Tryz.underlying189
  a22 := Tryz.isAgg189
  z22 := Tryz.sizeOf189
  v22 := Tryz.zeroValue189
  i22 := by kernel_rfl
  t24 := Tryz.underlying203
  a24 := Tryz.isAgg203
  z24 := Tryz.sizeOf203
  v24 := Tryz.zeroValue203
  i24 := by kernel_rfl
  t25 := Tryz.underlying233
  a25 := Tryz.isAgg233
  z25 := Tryz.sizeOf233
  v25 := Tryz.zeroValue233
  i25 := by kernel_rfl
  t34 := Tryz.underlying265
  a34 := Tryz.isAgg265
  z34 := Tryz.sizeOf265
  v34 := Tryz.zeroValue265
  i34 := by kernel_rfl
  c34 := by kernel_rfl
  t36 := Tryz.underlying191
  a36 := Tryz.isAgg191
  z36 := Tryz.sizeOf191
  v36 := Tryz.zeroValue191
  i36 := by kernel_rfl
  t37 := Tryz.underlying69
  a37 := Tryz.isAgg69
  z37 := Tryz.sizeOf69
  v37 := Tryz.zeroValue69
  i37 := by kernel_rfl
  t39 := Tryz.underlying267
  a39 := Tryz.isAgg267
  z39 := Tryz.sizeOf267
  v39 := Tryz.zeroValue267
  i39 := by kernel_rfl
  t44 := Tryz.underlying277
  a44 := Tryz.isAgg277
  z44 := Tryz.sizeOf277
  v44 := Tryz.zeroValue277
  i44 := by kernel_rfl
  t47 := Tryz.underlying223
  a47 := Tryz.isAgg223
  z47 := Tryz.sizeOf223
  v47 := Tryz.zeroValue223
  i47 := by kernel_rfl
  t48 := Tryz.underlying281
  a48 := Tryz.isAgg281
  z48 := Tryz.sizeOf281
  v48 := Tryz.zeroValue281
  i48 := by kernel_rfl
  t50 := Tryz.underlying283
  a50 := Tryz.isAgg283
  z50 := Tryz.sizeOf283
  v50 := Tryz.zeroValue283
  i50 := by kernel_rfl
  t52 := Tryz.underlying240
  a52 := Tryz.isAgg240
  z52 := Tryz.sizeOf240
  v52 := Tryz.zeroValue240
  i52 := by kernel_rfl
  t55 := Tryz.underlying243
  a55 := Tryz.isAgg243
  z55 := Tryz.sizeOf243
  v55 := Tryz.zeroValue243
  i55 := by kernel_rfl
  t59 := Tryz.underlying260
  a59 := Tryz.isAgg260
  z59 := Tryz.sizeOf260
  v59 := Tryz.zeroValue260
  i59 := by kernel_rfl
  t60 := Tryz.underlying171
  a60 := Tryz.isAgg171
  z60 := Tryz.sizeOf171
  v60 := Tryz.zeroValue171
  i60 := by kernel_rfl
  t61 := Tryz.underlying261
  a61 := Tryz.isAgg261
  z61 := Tryz.sizeOf261
  t65 := Tryz.underlying279
  a65 := Tryz.isAgg279
  z65 := Tryz.sizeOf279
  v65 := Tryz.zeroValue279
  i65 := by kernel_rfl
  t66 := Tryz.underlying280
  a66 := Tryz.isAgg280
  z66 := Tryz.sizeOf280
  v66 := Tryz.zeroValue280
  i66 := by kernel_rfl
  t67 := Tryz.underlying138
  a67 := Tryz.isAgg138
  z67 := Tryz.sizeOf138
  v67 := Tryz.zeroValue138
  i67 := by kernel_rfl
  g0 := by kernel_rfl
  m0 := by kernel_rfl
  g1 := by kernel_rfl
  m1 := by kernel_rfl
  g2 := by kernel_rfl
  m2 := by kernel_rfl
  g3 := by kernel_rfl
  m3 := by kernel_rfl
  g4 := by kernel_rfl
  m4 := by kernel_rfl }
open Go.RowKit in
theorem Tryz.strconv_ParseUint_10_at32_ok (s : ByteArray) (hmax : s.size ≤ 9223372036854775806) (u : Nat) (h : Lib.parseUintB 32 s.data.toList = .ok u) (w : World) :
    Calls Tryz.prog 149 #[.string s, .int .i64 10, .int .i64 32] w fun e w' => e = .returned (.tuple #[.int .u64 u, .nilIface]) ∧ (w' = w ∨ w' = Lib.bytesWorld w 5 s) := Any.strconv_ParseUint_10_at32_ok Tryz.laysPu14 s hmax u h w
def Tryz.lays145_ren : Go.Shelf.Ren := ⟨fun | 145 => 116 | 220 => 138 | 219 => 162 | 217 => 180 | 225 => 181 | 224 => 182 | 267 => 183 | 266 => 197 | 314 => 198 | n => n, fun | 9 => 9 | 4 => 4 | 59 => 206 | 3 => 3 | 5 => 5 | 46 => 191 | 146 => 219 | 51 => 171 | n => n, fun | 1 => 1 | n => n⟩
theorem Tryz.lays145 : Go.Proofs.Lays.n145 Tryz.prog Tryz.lays145_ren := {
  mixed := by kernel_rfl
  f145 := Tryz.func116.trans (congrArg some (by kernel_rfl))
  f217 := Tryz.func180.trans (congrArg some (by kernel_rfl))
  f219 := Tryz.func162.trans (congrArg some (by kernel_rfl))
  f220 := Tryz.func138.trans (congrArg some (by kernel_rfl))
  f224 := Tryz.func182.trans (congrArg some (by kernel_rfl))
  f225 := Tryz.func181.trans (congrArg some (by kernel_rfl))
  f266 := Tryz.func197.trans (congrArg some (by kernel_rfl))
  f267 := Tryz.func183.trans (congrArg some (by kernel_rfl))
  f314 := Tryz.func198.trans (congrArg some (by kernel_rfl))
  t3 := Tryz.underlying3
  a3 := Tryz.isAgg3
  z3 := Tryz.sizeOf3
  v3 := Tryz.zeroValue3
  t4 := Tryz.underlying4
  a4 := Tryz.isAgg4
  z4 := Tryz.sizeOf4
  v4 := Tryz.zeroValue4
  t5 := Tryz.underlying5
  a5 := Tryz.isAgg5
  z5 := Tryz.sizeOf5
  v5 := Tryz.zeroValue5
  t9 := Tryz.underlying9
  a9 := Tryz.isAgg9
  z9 := Tryz.sizeOf9
  v9 := Tryz.zeroValue9
  t46 := Tryz.underlying191
  a46 := Tryz.isAgg191
  z46 := Tryz.sizeOf191
  v46 := Tryz.zeroValue191
  t51 := Tryz.underlying171
  a51 := Tryz.isAgg171
  z51 := Tryz.sizeOf171
  v51 := Tryz.zeroValue171
  t59 := Tryz.underlying206
  a59 := Tryz.isAgg206
  z59 := Tryz.sizeOf206
  v59 := Tryz.zeroValue206
  t146 := Tryz.underlying219
  a146 := Tryz.isAgg219
  z146 := Tryz.sizeOf219
  v146 := Tryz.zeroValue219
  g1 := by kernel_rfl }
open Go.RowKit Go.Lib in
theorem Tryz.strings_Cut (s sep : ByteArray) (m : Int) (w : World) (hs : s.size < 4294967281) (hm : w.cell? ⟨1, 0, none⟩ = some (.int .i64 m)) :
    Calls Tryz.prog 116 #[.string s, .string sep] w fun e w' => e = .returned (.tuple #[.string ⟨(Lib.cut s.data.toList sep.data.toList).1.toArray⟩, .string ⟨(Lib.cut s.data.toList sep.data.toList).2.1.toArray⟩, .bool (Lib.cut s.data.toList sep.data.toList).2.2]) ∧ ∃ n, w' = w.drewN n := Any.strings_Cut Tryz.lays145 s sep m w hs hm
def Tryz.laysGw17_ren : Go.Shelf.Ren := ⟨fun | 17 => 98 | 15 => 123 | 20 => 152 | n => n, fun | 9 => 9 | 23 => 184 | 4 => 4 | 3 => 3 | 0 => 0 | 21 => 21 | n => n, fun | n => n⟩
theorem Tryz.laysGw17 : Go.Proofs.LaysGw.n17 Tryz.prog Tryz.laysGw17_ren := {
  mixed := by kernel_rfl
  f15 := Tryz.func123.trans (congrArg some (by kernel_rfl))
  f17 := Tryz.func98.trans (congrArg some (by kernel_rfl))
  f20 := Tryz.func152.trans (congrArg some (by kernel_rfl))
  t0 := Tryz.underlying0
  a0 := Tryz.isAgg0
  z0 := Tryz.sizeOf0
  v0 := Tryz.zeroValue0
  i0 := by kernel_rfl
  t3 := Tryz.underlying3
  a3 := Tryz.isAgg3
  z3 := Tryz.sizeOf3
  v3 := Tryz.zeroValue3
  i3 := by kernel_rfl
  t4 := Tryz.underlying4
  a4 := Tryz.isAgg4
  z4 := Tryz.sizeOf4
  v4 := Tryz.zeroValue4
  i4 := by kernel_rfl
  t9 := Tryz.underlying9
  a9 := Tryz.isAgg9
  z9 := Tryz.sizeOf9
  v9 := Tryz.zeroValue9
  i9 := by kernel_rfl
  t21 := Tryz.underlying21
  a21 := Tryz.isAgg21
  z21 := Tryz.sizeOf21
  v21 := Tryz.zeroValue21
  i21 := by kernel_rfl
  t23 := Tryz.underlying184
  a23 := Tryz.isAgg184
  z23 := Tryz.sizeOf184
  v23 := Tryz.zeroValue184
  i23 := by kernel_rfl }
open Go.RowKit Go.Lib in
theorem Tryz.strings_ContainsFunc (g : Nat) (lb : Array Value) (eg : ∀ args w, (callFunc g args).run Tryz.prog w = .ok (.enter g args) w) (p : Nat → Bool) (s : ByteArray) (w : World) (hp : PredAt Tryz.prog g lb encR p w) :
    Calls Tryz.prog 98 #[.string s, .func (.func g) #[] lb] w fun e w' => e = .returned (.bool (decide (0 ≤ Lib.idxFunc p true s))) ∧ Below w.heap.size w w' := Any.strings_ContainsFunc Tryz.laysGw17 g lb eg p s w hp
def Tryz.lays101_ren : Go.Shelf.Ren := ⟨fun | 101 => 118 | 208 => 139 | 206 => 135 | n => n, fun | 9 => 9 | 4 => 4 | 3 => 3 | n => n, fun | n => n⟩
theorem Tryz.lays101 : Go.Proofs.Lays.n101 Tryz.prog Tryz.lays101_ren := {
  mixed := by kernel_rfl
  f101 := Tryz.func118.trans (congrArg some (by kernel_rfl))
  f206 := Tryz.func135.trans (congrArg some (by kernel_rfl))
  f208 := Tryz.func139.trans (congrArg some (by kernel_rfl))
  t3 := Tryz.underlying3
  a3 := Tryz.isAgg3
  z3 := Tryz.sizeOf3
  v3 := Tryz.zeroValue3
  t4 := Tryz.underlying4
  a4 := Tryz.isAgg4
  z4 := Tryz.sizeOf4
  v4 := Tryz.zeroValue4
  t9 := Tryz.underlying9
  a9 := Tryz.isAgg9
  z9 := Tryz.sizeOf9
  v9 := Tryz.zeroValue9 }
open Go.RowKit Go.Lib in
theorem Tryz.strings_TrimPrefix (s p : ByteArray) (w : World) :
    Calls Tryz.prog 118 #[.string s, .string p] w fun e w' => e = .returned (.string ⟨(Lib.trimPrefix s.data.toList p.data.toList).toArray⟩) ∧ w' = w := Any.strings_TrimPrefix Tryz.lays101 s p w
def Tryz.lays105_ren : Go.Shelf.Ren := ⟨fun | 105 => 89 | 212 => 110 | 99 => 111 | 165 => 112 | 166 => 113 | 170 => 114 | 169 => 115 | 263 => 133 | 264 => 134 | 206 => 135 | 240 => 136 | 241 => 137 | 276 => 160 | 277 => 161 | n => n, fun | 9 => 9 | 3 => 3 | 4 => 4 | 20 => 20 | 0 => 0 | 46 => 191 | 109 => 195 | 5 => 5 | 72 => 200 | 76 => 204 | 51 => 171 | 146 => 219 | 53 => 189 | 148 => 221 | 70 => 198 | 37 => 69 | 75 => 203 | 127 => 223 | 164 => 245 | 80 => 138 | n => n, fun | n => n⟩
theorem Tryz.lays105 : Go.Proofs.Lays.n105 Tryz.prog Tryz.lays105_ren := {
  mixed := by kernel_rfl
  f99 := Tryz.func111.trans (congrArg some (by kernel_rfl))
  f105 := Tryz.func89.trans (congrArg some (by kernel_rfl))
  f165 := Tryz.func112.trans (congrArg some (by kernel_rfl))
  f166 := Tryz.func113.trans (congrArg some (by kernel_rfl))
  f169 := Tryz.func115.trans (congrArg some (by kernel_rfl))
  f170 := Tryz.func114.trans (congrArg some (by kernel_rfl))
  f206 := Tryz.func135.trans (congrArg some (by kernel_rfl))
  f212 := Tryz.func110.trans (congrArg some (by kernel_rfl))
  f240 := Tryz.func136.trans (congrArg some (by kernel_rfl))
  f241 := Tryz.func137.trans (congrArg some (by kernel_rfl))
  f263 := Tryz.func133.trans (congrArg some (by kernel_rfl))
  f264 := Tryz.func134.trans (congrArg some (by kernel_rfl))
  f276 := Tryz.func160.trans (congrArg some (by kernel_rfl))
  f277 := Tryz.func161.trans (congrArg some (by kernel_rfl))
  t0 := Tryz.underlying0
  a0 := Tryz.isAgg0
  z0 := Tryz.sizeOf0
  v0 := Tryz.zeroValue0
  t3 := Tryz.underlying3
  a3 := Tryz.isAgg3
  z3 := Tryz.sizeOf3
  v3 := Tryz.zeroValue3
  t4 := Tryz.underlying4
  a4 := Tryz.isAgg4
  z4 := Tryz.sizeOf4
  v4 := Tryz.zeroValue4
  t5 := Tryz.underlying5
  a5 := Tryz.isAgg5
  z5 := Tryz.sizeOf5
  v5 := Tryz.zeroValue5
  t9 := Tryz.underlying9
  a9 := Tryz.isAgg9
  z9 := Tryz.sizeOf9
  v9 := Tryz.zeroValue9
  t20 := Tryz.underlying20
  a20 := Tryz.isAgg20
  z20 := Tryz.sizeOf20
  v20 := Tryz.zeroValue20
  t37 := Tryz.underlying69
  a37 := Tryz.isAgg69
  z37 := Tryz.sizeOf69
  v37 := Tryz.zeroValue69
  t46 := Tryz.underlying191
  a46 := Tryz.isAgg191
  z46 := Tryz.sizeOf191
  v46 := Tryz.zeroValue191
  t51 := Tryz.underlying171
  a51 := Tryz.isAgg171
  z51 := Tryz.sizeOf171
  v51 := Tryz.zeroValue171
  t53 := Tryz.underlying189
  a53 := Tryz.isAgg189
  z53 := Tryz.sizeOf189
  v53 := Tryz.zeroValue189
  t70 := Tryz.underlying198
  a70 := Tryz.isAgg198
  z70 := Tryz.sizeOf198
  v70 := Tryz.zeroValue198
  t72 := Tryz.underlying200
  a72 := Tryz.isAgg200
  z72 := Tryz.sizeOf200
  v72 := Tryz.zeroValue200
  t75 := Tryz.underlying203
  a75 := Tryz.isAgg203
  z75 := Tryz.sizeOf203
  v75 := Tryz.zeroValue203
  t76 := Tryz.underlying204
  a76 := Tryz.isAgg204
  z76 := Tryz.sizeOf204
  v76 := Tryz.zeroValue204
  t109 := Tryz.underlying195
  a109 := Tryz.isAgg195
  z109 := Tryz.sizeOf195
  v109 := Tryz.zeroValue195
  t127 := Tryz.underlying223
  a127 := Tryz.isAgg223
  z127 := Tryz.sizeOf223
  v127 := Tryz.zeroValue223
  t146 := Tryz.underlying219
  a146 := Tryz.isAgg219
  z146 := Tryz.sizeOf219
  v146 := Tryz.zeroValue219
  t148 := Tryz.underlying221
  a148 := Tryz.isAgg221
  z148 := Tryz.sizeOf221
  v148 := Tryz.zeroValue221
  t164 := Tryz.underlying245
  a164 := Tryz.isAgg245
  z164 := Tryz.sizeOf245
  v164 := Tryz.zeroValue245 }
theorem Tryz.Builder_Extra_105 : Builder.Extra Tryz.prog Tryz.lays105_ren := {
  sizeBuilder := by kernel_rfl
  liesBuilder := by kernel_rfl
  t5 := Tryz.underlying5
  a5 := Tryz.isAgg5
  z5 := Tryz.sizeOf5
  v5 := Tryz.zeroValue5
  infoByte := by kernel_rfl
  cellsByte := by kernel_rfl
  sizeByte := by kernel_rfl
  neB5 := by decide }
open Go.RowKit Go.Lib in
theorem Tryz.strings_Repeat (s : ByteArray) (c : Nat) (w : World) (hc : c ≤ 9223372036854775807) (hlen : s.size * c ≤ 140737488355328) :
    Calls Tryz.prog 89 #[.string s, .int .i64 c] w fun e w' => e = .returned (.string ⟨(Lib.repeatL s.data.toList c).toArray⟩) ∧ Below w.heap.size w w' := Any.strings_Repeat Tryz.lays105 Tryz.Builder_Extra_105 s c w hc hlen
def Tryz.laysNm217_ren : Go.Shelf.Ren := ⟨fun | 17 => 90 | n => n, fun | 24 => 170 | 9 => 9 | 3 => 3 | 4 => 4 | 0 => 0 | n => n, fun | n => n⟩
theorem Tryz.laysNm217 : Go.Proofs.Lays2.n17 Tryz.prog Tryz.laysNm217_ren := {
  mixed := by kernel_rfl
  f17 := Tryz.func90.trans (congrArg some (by kernel_rfl))
  t0 := Tryz.underlying0
  a0 := Tryz.isAgg0
  z0 := Tryz.sizeOf0
  v0 := Tryz.zeroValue0
  t3 := Tryz.underlying3
  a3 := Tryz.isAgg3
  z3 := Tryz.sizeOf3
  v3 := Tryz.zeroValue3
  t4 := Tryz.underlying4
  a4 := Tryz.isAgg4
  z4 := Tryz.sizeOf4
  v4 := Tryz.zeroValue4
  t9 := Tryz.underlying9
  a9 := Tryz.isAgg9
  z9 := Tryz.sizeOf9
  v9 := Tryz.zeroValue9
  t24 := Tryz.underlying170
  a24 := Tryz.isAgg170
  z24 := Tryz.sizeOf170
  v24 := Tryz.zeroValue170 }
open Go.RowKit Go.Lib Go.Sort in
theorem Tryz.slices_Reverse_string_cells (b off n c : Nat) (Sx : Nat → ByteArray) (w : World) (hbig : n ≤ 9223372036854775807) (hc : ∀ i, i < n → w.cell? ⟨b, off + i, none⟩ = some (.string (Sx i))) (hf : ∀ j, j < n → w.frozen? ⟨b, off + j, none⟩ = false) :
    Calls Tryz.prog 90 #[.slice (some ⟨b, off, none⟩) n c] w fun e w' => e = .returned (.tuple #[]) ∧ ∃ q, w' = (w.drewN q).setCells b off ((Lib.strsOf Sx n).reverse.map encStr) := Any.slices_Reverse_string_cells Tryz.laysNm217 b off n c Sx w hbig hc hf
end Go.Proofs
namespace Go.Proofs.YtjhflekncldflaaGreatDoor

def hi (n:Int):Nat→Int
 | 0=>n
 | i+1=>hi n i/4294967296
def dg (n:Int) (i:Nat):Int:=hi n i % 4294967296

theorem zd9 (n:Int):hi n 0=n:=rfl
theorem zc9 (n:Int) (i:Nat):hi n (i+1)=hi n i/4294967296:=rfl
theorem zb3 (n:Int) (i:Nat):0≤dg n i:=by unfold dg;omega
theorem ze2 (n:Int) (i:Nat):dg n i<4294967296:=by unfold dg;omega
theorem zc6 (n:Int) (i:Nat):hi n i=4294967296*hi n (i+1)+dg n i:=by unfold dg;rw [zc9];omega
theorem zd6 {n:Int} (h:0≤n):∀ i,0≤hi n i
 | 0=>h
 | i+1=>by have:=zd6 h i;rw [zc9];omega
theorem zj3 {a b:Int} (h:a≤b):∀ i,hi a i≤hi b i
 | 0=>h
 | i+1=>by have:=zj3 h i;rw [zc9,zc9];omega
theorem zw8 (n:Int) (i:Nat):∀ k,hi n (i+k)=hi (hi n i) k
 | 0=>rfl
 | k+1=>by rw [← Nat.add_assoc,zc9,zw8 n i k,zc9]
theorem zm4:∀ i,hi 0 i=0
 | 0=>rfl
 | i+1=>by rw [zc9,zm4 i];rfl
theorem zr5 {n:Int} {i k:Nat} (h:hi n i=0) (hk:i≤k):hi n k=0:=by
 obtain ⟨j,rfl⟩:=Nat.le.dest hk
 rw [zw8,h,zm4]
theorem zz0 {n:Int} {i k:Nat} (h:hi n i=0) (hk:i≤k):dg n k=0:=by unfold dg;rw [zr5 h hk];rfl
theorem hi_le {n:Int} (h:0≤n) (i:Nat):hi n (i+1)≤hi n i:=by have:=zd6 h i;rw [zc9];omega
theorem hi_le_of {n:Int} (h:0≤n) {i k:Nat} (hk:i≤k):hi n k≤hi n i:=by
 obtain ⟨j,rfl⟩:=Nat.le.dest hk
 induction j with
 | zero=>exact Int.le_refl _
 | succ j ih=>have:=hi_le h (i+j);have:=ih (by omega);rw [← Nat.add_assoc];omega

structure NL (n:Int) (len:Nat):Prop where
 nonneg:0≤n
 top:hi n len=0
 full:0<len→hi n (len - 1)≠0

theorem NL.zero:NL 0 0:=⟨Int.le_refl _,rfl,by omega⟩
theorem NL.len_zero {n:Int} {len:Nat} (h:NL n len):len=0↔n=0:=by
 constructor
 ·rintro rfl;exact h.top
 rintro rfl
 have:=h.full
 rw [zm4] at this
 omega
theorem NL.topdig {n:Int} {len:Nat} (h:NL n len) (hl:0<len):dg n (len - 1)=hi n (len - 1)∧0<dg n (len - 1):=by
 have h1:=h.top
 have h2:=zc6 n (len - 1)
 rw [show len - 1+1=len by omega,h1] at h2
 have h3:=h.full hl
 have h4:=zd6 h.nonneg (len - 1)
 omega
theorem NL.mk' {n:Int} {len:Nat} (h0:0≤n) (h1:hi n len=0) (h2:0<len→dg n (len - 1)≠0):NL n len:=by
 refine ⟨h0,h1,fun hl h3=>h2 hl ?_⟩
 unfold dg;rw [h3];rfl
theorem hi_trim {n:Int} {len:Nat} (h1:hi n len=0) (k:Nat) (hk:k≤len) (hz:∀ j,k≤j→j<len→dg n j=0):hi n k=0:=by
 obtain ⟨j,rfl⟩:=Nat.le.dest hk
 clear hk
 induction j with
 | zero=>exact h1
 | succ j ih=>
  refine ih ?_ (fun i h2 h3=>hz i h2 (by omega))
  have h2:=zc6 n (k+j)
  have h3:=hz (k+j) (by omega) (by omega)
  have h4:hi n (k+j+1)=0:=h1
  omega
theorem eq_of_dg {a b:Int}:∀ (len:Nat),hi a len=0→hi b len=0→(∀ i,i<len→dg a i=dg b i)→a=b:=by
 intro len
 have key:∀ k,k≤len→hi a len=0→hi b len=0→(∀ i,i<len→dg a i=dg b i)→hi a (len - k)=hi b (len - k):=by
  intro k
  induction k with
  | zero=>intro _ h1 h2 _;simp [h1,h2]
  | succ k ih=>
   intro hk h1 h2 h3
   have h4:=ih (by omega) h1 h2 h3
   have h5:=zc6 a (len - (k+1))
   have h6:=zc6 b (len - (k+1))
   rw [show len - (k+1)+1=len - k by omega] at h5 h6
   have h7:=h3 (len - (k+1)) (by omega)
   omega
 intro h1 h2 h3
 have:=key len (Nat.le_refl _) h1 h2 h3
 simpa [zd9] using this
theorem NL.lt_of_len {a b:Int} {la lb:Nat} (ha:NL a la) (hb:NL b lb) (h:la<lb):a<b:=by
 refine Int.lt_of_not_ge fun hge=>?_
 have h1:=zj3 hge (lb - 1)
 have h2:=zr5 ha.top (show la≤lb - 1 by omega)
 have h3:=hb.full (by omega)
 have h4:=zd6 hb.nonneg (lb - 1)
 omega
theorem NL.len_unique {a:Int} {la lb:Nat} (ha:NL a la) (hb:NL a lb):la=lb:=by
 rcases Nat.lt_trichotomy la lb with h | h | h
 ·have:=ha.lt_of_len hb h;omega
 ·exact h
 have:=hb.lt_of_len ha h;omega
theorem NL.len_le {a b:Int} {la lb:Nat} (ha:NL a la) (hb:NL b lb) (h:a≤b):la≤lb:=by
 rcases Nat.lt_or_ge lb la with h1 | h1
 ·have:=hb.lt_of_len ha h1;omega
 exact h1

def Sz (k:Nat) (z:Int):Prop:=z.natAbs<2 ^ k
theorem Sz.mono {k m:Nat} {z:Int} (h:Sz k z) (hk:k≤m):Sz m z:=Nat.lt_of_lt_of_le h (Nat.pow_le_pow_right (by omega) hk)
theorem hi_sz:∀ (len k:Nat) (n:Int),0≤n→n.toNat<2 ^ (k+32*len)→(hi n len).toNat<2 ^ k:=by
 intro len
 induction len with
 | zero=>intro k n _ h;simpa [zd9] using h
 | succ len ih=>
  intro k n h0 h
  have h1:=ih (k+32) n h0 (by rw [show k+32+32*len=k+32*(len+1) by omega];exact h)
  rw [zc9]
  have h2:=zd6 h0 len
  have h3:2 ^ (k+32)=2 ^ k*4294967296:=by rw [Nat.pow_add]
  rw [h3] at h1
  generalize 2 ^ k=m at*
  omega
theorem NL.len_sz {n:Int} {len k:Nat} (h:NL n len) (hs:Sz k n):len≤k:=by
 rcases Nat.lt_or_ge k len with h1 | h1
 ·have h2:=h.full (by omega)
  have h3:=zd6 h.nonneg (len - 1)
  have h4:n.toNat<2 ^ (0+32*(len - 1)):=by
   have h5:n.toNat<2 ^ k:=by unfold Sz at hs;omega
   refine Nat.lt_of_lt_of_le h5 (Nat.pow_le_pow_right (by omega) (by omega))
  have h5:=hi_sz (len - 1) 0 n h.nonneg h4
  omega
 exact h1
theorem Sz.zero (k:Nat):Sz k 0:=Nat.pow_pos (by omega)
theorem Sz.add {k m:Nat} {a b:Int} (ha:Sz k a) (hb:Sz m b):Sz (k+m+1) (a+b):=by
 unfold Sz at*
 have h1:2 ^ (k+m+1)=2 ^ (k+m)+2 ^ (k+m):=by rw [Nat.pow_succ];omega
 have h2:2 ^ k≤2 ^ (k+m):=Nat.pow_le_pow_right (by omega) (by omega)
 have h3:2 ^ m≤2 ^ (k+m):=Nat.pow_le_pow_right (by omega) (by omega)
 omega
theorem Sz.add' {k:Nat} {a b:Int} (ha:Sz k a) (hb:Sz k b):Sz (k+1) (a+b):=by
 unfold Sz at*
 have h1:2 ^ (k+1)=2 ^ k+2 ^ k:=by rw [Nat.pow_succ];omega
 omega
theorem Sz.neg {k:Nat} {a:Int} (ha:Sz k a):Sz k (-a):=by unfold Sz at*;omega
theorem Sz.mul {k m:Nat} {a b:Int} (ha:Sz k a) (hb:Sz m b):Sz (k+m) (a*b):=by
 unfold Sz at*
 rw [Int.natAbs_mul,Nat.pow_add]
 exact Nat.mul_lt_mul'' ha hb
theorem Sz.of_le {k:Nat} {a b:Int} (ha:Sz k a) (h:b.natAbs≤a.natAbs):Sz k b:=Nat.lt_of_le_of_lt h ha

theorem zw9 {a b c:Int} {i:Nat} (h:hi (a+b) i=hi a i+hi b i+c) (h0:0≤c) (h1:c≤1):
  dg (a+b) i=(c+dg a i+dg b i) % 4294967296∧hi (a+b) (i+1)=hi a (i+1)+hi b (i+1)+(c+dg a i+dg b i)/4294967296∧
   0≤(c+dg a i+dg b i)/4294967296∧(c+dg a i+dg b i)/4294967296≤1:=by
 unfold dg;simp only [zc9];omega
theorem zr6 {a b c:Int} {i:Nat} (h:hi (a+b) i=hi a i+hi b i+c) (h0:0≤c) (h1:c≤1) (hb:hi b i=0):
  dg (a+b) i=(c+dg a i) % 4294967296∧hi (a+b) (i+1)=hi a (i+1)+hi b (i+1)+(c+dg a i)/4294967296∧
   0≤(c+dg a i)/4294967296∧(c+dg a i)/4294967296≤1:=by
 unfold dg;simp only [zc9];omega

theorem zz1 {a b c:Int} {i:Nat} (h:hi (a - b) i=hi a i - hi b i - c) (h0:0≤c) (h1:c≤1):
  dg (a - b) i=(dg a i - c - dg b i) % 4294967296∧hi (a - b) (i+1)=hi a (i+1) - hi b (i+1) - (if dg a i - c - dg b i<0 then 1 else 0):=by
 unfold dg;simp only [zc9];split<;>omega
theorem zJ2 {a b c:Int} {i:Nat} (h:hi (a - b) i=hi a i - hi b i - c) (h0:0≤c) (h1:c≤1) (hb:hi b i=0):
  dg (a - b) i=(dg a i - c) % 4294967296∧hi (a - b) (i+1)=hi a (i+1) - hi b (i+1) - (if dg a i - c<0 then 1 else 0):=by
 unfold dg;simp only [zc9];split<;>omega

theorem zz2 {m x p c:Int} {i:Nat} (h:hi (m*x+p) i=hi m i*x+c) (h0:0≤c) (h1:c<4294967296) (aa:0≤x) (hx:x<4294967296):
  dg (m*x+p) i=(c+dg m i*x) % 4294967296∧hi (m*x+p) (i+1)=hi m (i+1)*x+(c+dg m i*x)/4294967296∧
   0≤(c+dg m i*x)/4294967296∧(c+dg m i*x)/4294967296<4294967296∧0≤dg m i*x∧c+dg m i*x≤18446744069414584320:=by
 have hs:=zc6 m i
 have ac:=zb3 m i
 have hd:=ze2 m i
 have e:hi m i*x=4294967296*(hi m (i+1)*x)+dg m i*x:=by rw [hs];grind
 have ad:0≤dg m i*x:=Int.mul_nonneg ac aa
 have hp:dg m i*x≤4294967295*4294967295:=Int.mul_le_mul (by omega) (by omega) aa (by omega)
 have hdd:dg (m*x+p) i=hi (m*x+p) i % 4294967296:=rfl
 rw [hdd,zc9,h,e]
 generalize dg m i*x=u at*
 generalize hi m (i+1)*x=v at*
 omega

theorem zs7 (n x:Int) (hx:0<x):∀ i,hi (n/x) i=hi n i/x
 | 0=>rfl
 | i+1=>by
  rw [zc9,zc9,zs7 n x hx i,Int.ediv_ediv_of_nonneg (by omega),Int.ediv_ediv_of_nonneg (by omega),Int.mul_comm]
theorem zR2 (n x:Int) (i:Nat) (hx:0<x) (_hx1:x<4294967296):
  dg (n/x) i=(hi n (i+1) % x*4294967296+dg n i)/x∧hi n i % x=(hi n (i+1) % x*4294967296+dg n i) % x∧
   (hi n (i+1) % x*4294967296+dg n i)/x<4294967296∧0≤(hi n (i+1) % x*4294967296+dg n i)/x:=by
 have hs:=zc6 n i
 have aa:=zb3 n i
 have hd:=ze2 n i
 have h1:=Int.emod_add_mul_ediv (hi n (i+1)) x
 have h2:=Int.emod_nonneg (hi n (i+1)) (show x≠0 by omega)
 have h3:=Int.emod_lt_of_pos (hi n (i+1)) hx
 have e:hi n i=(hi n (i+1) % x*4294967296+dg n i)+x*(4294967296*(hi n (i+1)/x)):=by rw [hs];grind
 have e1:hi (n/x) i=(hi n (i+1) % x*4294967296+dg n i)/x+4294967296*(hi n (i+1)/x):=by
  rw [zs7 n x hx,e,Int.add_mul_ediv_left _ _ (show x≠0 by omega)]
 have h4:(hi n (i+1) % x*4294967296+dg n i)/x<4294967296:=by
  apply Int.ediv_lt_of_lt_mul hx
  omega
 have h5:0≤(hi n (i+1) % x*4294967296+dg n i)/x:=Int.ediv_nonneg (by omega) (by omega)
 refine ⟨?_,?_,h4,h5⟩
 ·have hdd:dg (n/x) i=hi (n/x) i % 4294967296:=rfl
  rw [hdd,e1]
  omega
 rw [e,Int.add_mul_emod_self_left]

theorem zx0 (r m:Int):∀ i,hi (r+m*4294967296 ^ i) i=hi r i+m
 | 0=>by simp [zd9]
 | i+1=>by
  have e:r+m*4294967296 ^ (i+1)=r+(m*4294967296)*4294967296 ^ i:=by rw [Int.pow_succ];grind
  rw [e,zc9,zx0 r (m*4294967296) i,zc9]
  omega
theorem zY2 (r m:Int) {i j:Nat} (hj:j<i):dg (r+m*4294967296 ^ i) j=dg r j:=by
 obtain ⟨k,rfl⟩:=Nat.le.dest hj
 have e:r+m*4294967296 ^ (j+1+k)=r+(m*4294967296 ^ k*4294967296)*4294967296 ^ j:=by
  rw [Int.pow_add,Int.pow_add];grind
 unfold dg
 rw [e,zx0]
 omega
def low (a:Int) (i:Nat):Int:=a - hi a i*4294967296 ^ i
theorem zu6 (a:Int):low a 0=0:=by simp [low,zd9]
theorem zB8 (a:Int) (i:Nat):low a (i+1)=low a i+dg a i*4294967296 ^ i:=by
 have:=zc6 a i
 unfold low
 rw [Int.pow_succ]
 grind
theorem zn4 {a:Int}:∀ i,0≤low a i
 | 0=>by rw [zu6];exact Int.le_refl _
 | i+1=>by
  rw [zB8]
  have h1:=zn4 (a:=a) i
  have h2:0≤dg a i*4294967296 ^ i:=Int.mul_nonneg (zb3 a i) (Int.le_of_lt (Int.pow_pos (by omega)))
  omega
theorem low_top {a:Int} {len:Nat} (h:hi a len=0):low a len=a:=by simp [low,h]
theorem mul_step {r x b c:Int} {i k:Nat} (h:hi (r+x*b*4294967296 ^ i) (i+k)=hi r (i+k)+x*hi b k+c) (h0:0≤c) (h1:c<4294967296)
  (ac:0≤x) (hx:x<4294967296):
  dg (r+x*b*4294967296 ^ i) (i+k)=(c+(x*dg b k+dg r (i+k))) % 4294967296∧
   hi (r+x*b*4294967296 ^ i) (i+(k+1))=hi r (i+(k+1))+x*hi b (k+1)+(c+(x*dg b k+dg r (i+k)))/4294967296∧
   0≤(c+(x*dg b k+dg r (i+k)))/4294967296∧(c+(x*dg b k+dg r (i+k)))/4294967296<4294967296∧0≤x*dg b k∧x*dg b k≤18446744065119617025:=by
 have hs:=zc6 b k
 have aa:=zb3 b k
 have hd:=ze2 b k
 have hr:=zc6 r (i+k)
 have ad:=zb3 r (i+k)
 have af:=ze2 r (i+k)
 have e:x*hi b k=4294967296*(x*hi b (k+1))+x*dg b k:=by rw [hs];grind
 have ae:0≤x*dg b k:=Int.mul_nonneg ac aa
 have hp:x*dg b k≤4294967295*4294967295:=Int.mul_le_mul (by omega) (by omega) aa (by omega)
 have hdd:dg (r+x*b*4294967296 ^ i) (i+k)=hi (r+x*b*4294967296 ^ i) (i+k) % 4294967296:=rfl
 rw [hdd,← Nat.add_assoc,zc9,h,e]
 generalize x*dg b k=u at*
 generalize x*hi b (k+1)=v at*
 omega

theorem zq7 {s:Nat} (hs:s<32):(2:Int) ^ s*2 ^ (32 - s)=4294967296∧0<(2:Int) ^ s∧0<(2:Int) ^ (32 - s):=by
 refine ⟨?_,Int.pow_pos (by omega),Int.pow_pos (by omega)⟩
 rw [← Int.pow_add,show s+(32 - s)=32 by omega]
 rfl
theorem zx1 {p t d:Int} (hp:0<p) (ht:0<t):0≤d*p % (p*t)∧d*p % (p*t)≤p*t - p∧d*p % (p*t)=(d % t)*p:=by
 have h1:d*p % (p*t)=p*(d % t):=by rw [Int.mul_comm d p,Int.mul_emod_mul_of_pos _ _ hp]
 have h2:=Int.emod_nonneg d (show t≠0 by omega)
 have h3:=Int.emod_lt_of_pos d ht
 rw [h1]
 have h4:p*(d % t)≤p*(t - 1):=Int.mul_le_mul_of_nonneg_left (by omega) (by omega)
 rw [Int.mul_sub,Int.mul_one] at h4
 exact ⟨Int.mul_nonneg (by omega) h2,h4,Int.mul_comm _ _⟩
theorem zR3 {m p t c:Int} {i:Nat} (hpt:p*t=4294967296) (hp:0<p) (ht:0<t) (h:hi (m*p) i=hi m i*p+c) (h0:0≤c) (h1:c<p):
  dg (m*p) i=c+dg m i*p % 4294967296∧hi (m*p) (i+1)=hi m (i+1)*p+dg m i*p/4294967296∧0≤dg m i*p/4294967296∧dg m i*p/4294967296<p∧
   dg m i*p % 4294967296=(dg m i % t)*p:=by
 have hs:=zc6 m i
 have aa:=zb3 m i
 have hd:=ze2 m i
 have e:hi m i*p=4294967296*(hi m (i+1)*p)+dg m i*p:=by rw [hs];grind
 have hm:=zx1 (d:=dg m i) hp ht
 rw [hpt] at hm
 have hdp:0≤dg m i*p:=Int.mul_nonneg aa (by omega)
 have hlt:dg m i*p/4294967296<p:=by
  apply Int.ediv_lt_of_lt_mul (by omega)
  rw [Int.mul_comm p]
  exact Int.mul_lt_mul_of_pos_right hd hp
 have hdd:dg (m*p) i=hi (m*p) i % 4294967296:=rfl
 rw [hdd,zc9,h,e]
 refine ⟨?_,?_,by omega,hlt,hm.2.2⟩
 ·generalize dg m i*p=u at*
  generalize hi m (i+1)*p=v at*
  omega
 generalize dg m i*p=u at*
 generalize hi m (i+1)*p=v at*
 omega
theorem zR4 {n p t:Int} {i:Nat} (hpt:p*t=4294967296) (hp:0<p) (ht:0<t):
  dg (n/p) i=dg n i/p+dg n (i+1)*t % 4294967296∧dg n (i+1)*t % 4294967296=(dg n (i+1) % p)*t∧dg n (i+1)*4294967296/p=dg n (i+1)*t∧0≤dg n i/p∧dg n i/p<t:=by
 have h1:=zc6 n i
 have h2:=zc6 n (i+1)
 have aa:=zb3 n i
 have hd:=ze2 n i
 have htp:t*p=4294967296:=by rw [Int.mul_comm];exact hpt
 have hm:=zx1 (d:=dg n (i+1)) ht hp
 rw [htp] at hm
 have e1:hi n i=dg n i+p*(t*hi n (i+1)):=by rw [h1,← hpt];grind
 have e2:hi (n/p) i=dg n i/p+t*hi n (i+1):=by
  rw [zs7 n p hp,e1,Int.add_mul_ediv_left _ _ (show p≠0 by omega)]
 have e3:t*hi n (i+1)=4294967296*(t*hi n (i+1+1))+dg n (i+1)*t:=by
  have:t*hi n (i+1)=t*(4294967296*hi n (i+1+1)+dg n (i+1)):=by rw [← h2]
  rw [this];grind
 have hq:dg n i/p<t:=by
  apply Int.ediv_lt_of_lt_mul hp
  rw [htp];exact hd
 have ac:0≤dg n i/p:=Int.ediv_nonneg aa (by omega)
 refine ⟨?_,hm.2.2,?_,ac,hq⟩
 ·have hdd:dg (n/p) i=hi (n/p) i % 4294967296:=rfl
  rw [hdd,e2,e3]
  generalize dg n (i+1)*t=u at*
  generalize t*hi n (i+1+1)=v at*
  omega
 rw [← hpt,← Int.mul_assoc,Int.mul_comm _ p,Int.mul_assoc,Int.mul_ediv_cancel_left _ (show p≠0 by omega)]
theorem zR5 {n p:Int} {i:Nat} (hp:0<p) (h:hi n (i+1)=0):dg (n/p) i=dg n i/p:=by
 have h1:=zc6 n i
 have hd0:=zb3 n i
 have hd:=ze2 n i
 rw [h,Int.mul_zero,Int.zero_add] at h1
 have hdd:dg (n/p) i=hi (n/p) i % 4294967296:=rfl
 rw [hdd,zs7 n p hp,h1]
 have h2:=Int.ediv_nonneg hd0 (show 0≤p by omega)
 have h3:dg n i/p≤dg n i:=Int.ediv_le_self _ hd0
 omega

theorem zu7 (i:Nat):0<(4294967296:Int) ^ i:=Int.pow_pos (by omega)
theorem zY3 {a:Int}:∀ i,low a i<4294967296 ^ i
 | 0=>by rw [zu6];exact zu7 0
 | i+1=>by
  rw [zB8,Int.pow_succ]
  have h1:=zY3 (a:=a) i
  have h2:=zu7 i
  have h3:dg a i*4294967296 ^ i≤4294967295*4294967296 ^ i:=Int.mul_le_mul_of_nonneg_right (by have:=ze2 a i;omega) (by omega)
  omega
theorem zO6 (a:Int) (i:Nat):a=hi a i*4294967296 ^ i+low a i:=by unfold low;omega
theorem zO7 {U V Q:Int} (m:Nat) (aa:0≤Q) (hQ:Q*V≤U):Q*hi V m≤hi U m:=by
 have h1:=zO6 U m
 have h2:=zO6 V m
 have h3:=zY3 (a:=U) m
 have h4:=zn4 (a:=V) m
 have hp:=zu7 m
 generalize (4294967296:Int) ^ m=p at*
 have h5:Q*V=Q*hi V m*p+Q*low V m:=by
  have:Q*V=Q*(hi V m*p+low V m):=by rw [← h2]
  rw [this];grind
 have h6:0≤Q*low V m:=Int.mul_nonneg aa h4
 have h7:(Q*hi V m)*p<(hi U m+1)*p:=by rw [Int.add_mul,Int.one_mul];omega
 have h8:=Int.lt_of_mul_lt_mul_right h7 (Int.le_of_lt hp)
 omega
theorem knuth_hi {U V q:Int} (m:Nat) (_hq0:0≤q) (hq:q≤4294967295) (hV:4294967296≤hi V m) (h:q*hi V m≤hi U m):q*V<U+V:=by
 have h1:=zO6 U m
 have h2:=zO6 V m
 have h3:=zn4 (a:=U) m
 have h4:=zn4 (a:=V) m
 have aa:=zY3 (a:=V) m
 have hp:=zu7 m
 generalize (4294967296:Int) ^ m=p at*
 have h5:q*V=q*hi V m*p+q*low V m:=by
  have:q*V=q*(hi V m*p+low V m):=by rw [← h2]
  rw [this];grind
 have h6:q*low V m≤4294967295*p:=Int.mul_le_mul hq (by omega) h4 (by omega)
 have h7:(q*hi V m)*p≤hi U m*p:=Int.mul_le_mul_of_nonneg_right h (by omega)
 have h8:4294967296*p≤hi V m*p:=Int.mul_le_mul_of_nonneg_right hV (by omega)
 omega
theorem hi_neg {n:Int} (h:n<0):∀ i,hi n i<0
 | 0=>h
 | i+1=>by have:=hi_neg h i;rw [zc9];omega
theorem zY4 {U V Q q rest v1 v2 high u2:Int} {m:Nat} (hQ:Q*hi V m≤hi U m) (hv:hi V m=v1*4294967296+v2) (hu:hi U m=high*4294967296+u2)
  (hq:q*v1+rest=high) (h:rest*4294967296+u2<q*v2) (hV:0≤hi V m):Q<q:=by
 have h1:q*hi V m=q*v1*4294967296+q*v2:=by rw [hv];grind
 have h2:hi U m=q*v1*4294967296+rest*4294967296+u2:=by rw [hu,← hq];grind
 have h3:Q*hi V m<q*hi V m:=by omega
 exact Int.lt_of_mul_lt_mul_right h3 hV
theorem zY5 {U V q rest v1 v2 high u2:Int} {m:Nat} (hv:hi V m=v1*4294967296+v2) (hu:hi U m=high*4294967296+u2)
  (hq:q*v1+rest=high) (h:q*v2≤rest*4294967296+u2):q*hi V m≤hi U m:=by
 have h1:q*hi V m=q*v1*4294967296+q*v2:=by rw [hv];grind
 have h2:hi U m=q*v1*4294967296+rest*4294967296+u2:=by rw [hu,← hq];grind
 omega
theorem mod_of {U V q:Int} (hV:0<V) (h0:0≤U - V*q) (h1:U/V≤q):q=U/V∧U - V*q=U % V:=by
 have h2:q≤U/V:=by
  apply (Int.le_ediv_iff_mul_le hV).2
  rw [Int.mul_comm];omega
 have h3:q=U/V:=by omega
 refine ⟨h3,?_⟩
 rw [h3]
 have:=Int.emod_add_mul_ediv U V
 omega
theorem zx2 {U V q:Int} (hV:0<V) (h0:U - V*q<0) (h1:q*V<U+V):q - 1=U/V∧U - V*q+V=U % V:=by
 have h2:q - 1≤U/V:=by
  apply (Int.le_ediv_iff_mul_le hV).2
  rw [Int.sub_mul,Int.one_mul];omega
 have h3:U/V<q:=by
  apply Int.ediv_lt_of_lt_mul hV
  rw [Int.mul_comm];omega
 have h4:q - 1=U/V:=by omega
 refine ⟨h4,?_⟩
 have h5:=Int.emod_add_mul_ediv U V
 rw [← h4,Int.mul_sub,Int.mul_one] at h5
 omega
end Go.Proofs.YtjhflekncldflaaGreatDoor
namespace Go.Proofs.YtjhflekncldflaaGreatDoor
abbrev sV (l:List UInt8):Value:=.string ⟨l.toArray⟩
abbrev pT (b k:Nat):Value:=.pointer (some ⟨b,k,none⟩)
abbrev iT (z:Int):Value:=.int .i64 z
abbrev sT (b n m:Nat):Value:=.slice (some ⟨b,0,none⟩) n m
abbrev sN:Value:=.slice none 0 0
open Go.RowKit

theorem p1 (a:Act) (d:Tmp) (v:Value):a.put (some d) v={a with tmps:=a.tmps.setIfInBounds d v}:=rfl
theorem p2 {α:Type} (l:List α) (i:Nat) (x:α):l.toArray.setIfInBounds i x=(l.set i x).toArray:=List.setIfInBounds_toArray ..
theorem p3 {α:Type} (x y:α) (l:List α):(x::l).set 0 y=y::l:=rfl
theorem p4 {α:Type} (x y:α) (l:List α) (n:Nat):(x::l).set (n+1) y=x::l.set n y:=rfl
theorem _root_.Go.RowKit.Below.drewN {B:Nat} {a w:World} (h:Below B a w) (n:Nat):Below B a (w.drewN n):=⟨h.os,h.tape,h.output,h.size,h.block⟩

def Gr (w w':World):Prop:=Below w.heap.size w w'
theorem Gr.refl (w:World):Gr w w:=Below.refl _ _
theorem Gr.trans {a b c:World} (h:Gr a b) (k:Gr b c):Gr a c:=Below.trans h (Below.mono k h.size)
theorem Gr.alloc (w:World) (o:Obj):Gr w (w.alloc o):=(Below.refl _ _).alloc (Nat.le_refl _) o
theorem Gr.drew (w:World):Gr w w.drew:=(Below.refl _ _).drew
theorem ze8 {w:World} {k:Nat} {o:Obj} (hk:w.heap[k]?=some o):k<w.heap.size:=by
 rcases Nat.lt_or_ge k w.heap.size with h' | h'
 ·exact h'
 rw [Array.getElem?_eq_none h'] at hk;cases hk
theorem zS8 {B:Nat} {W w1:World} (hb:Below B W w1):(∀ b o,b<B→w1.cell? ⟨b,o,none⟩=W.cell? ⟨b,o,none⟩)∧(∀ b o,b<B→w1.frozen? ⟨b,o,none⟩=W.frozen? ⟨b,o,none⟩):=
 ⟨fun b o h=>hb.cell (p:=⟨b,o,none⟩) h,fun b o h=>hb.frozen (p:=⟨b,o,none⟩) h⟩
theorem Gr.heap {a b:World} (h:Gr a b) {k:Nat} {o:Obj} (hk:a.heap[k]?=some o):b.heap[k]?=some o:=by
 rw [Below.block h k (ze8 hk)];exact hk

theorem zl9 (w:World) (o1:Obj):Gr w (w.alloc o1)∧(w.alloc o1).heap[w.heap.size]?=some o1∧(w.alloc o1).heap.size=w.heap.size+1:=
 ⟨Gr.alloc w o1,heap_alloc_new _ _,by simp⟩
theorem zm0 (w:World) (o1 o2:Obj):Gr w ((w.alloc o1).alloc o2)∧((w.alloc o1).alloc o2).heap[w.heap.size]?=some o1∧((w.alloc o1).alloc o2).heap[w.heap.size+1]?=some o2∧((w.alloc o1).alloc o2).heap.size=w.heap.size+1+1:=by
 obtain ⟨g,h1,h2⟩:=zl9 w o1
 have:=heap_alloc_new (w.alloc o1) o2
 rw [h2] at this
 exact ⟨g.trans (Gr.alloc _ _),(Gr.alloc _ _).heap h1,this,by simp⟩
theorem zs2 (w:World) (o1 o2 o3:Obj):Gr w (((w.alloc o1).alloc o2).alloc o3)∧(((w.alloc o1).alloc o2).alloc o3).heap[w.heap.size]?=some o1∧(((w.alloc o1).alloc o2).alloc o3).heap[w.heap.size+1]?=some o2∧
  (((w.alloc o1).alloc o2).alloc o3).heap[w.heap.size+1+1]?=some o3∧(((w.alloc o1).alloc o2).alloc o3).heap.size=w.heap.size+1+1+1:=by
 obtain ⟨g,h1,h2,h3⟩:=zm0 w o1 o2
 have:=heap_alloc_new ((w.alloc o1).alloc o2) o3
 rw [h3] at this
 exact ⟨g.trans (Gr.alloc _ _),(Gr.alloc _ _).heap h1,(Gr.alloc _ _).heap h2,this,by simp⟩
theorem zc1 {w:World} {b:Nat} {cs:Array Value} {t:TypeId} {fr:Nat × Nat} (h:w.heap[b]?=some (.cells cs t fr)) (i:Nat):w.cell? ⟨b,i,none⟩=cs[i]?:=by
 simp only [World.cell?,h,Option.isSome_none];rfl
theorem zj0 {w:World} {b:Nat} {cs:Array Value} {t:TypeId} (h:w.heap[b]?=some (.cells cs t)) (i:Nat):w.frozen? ⟨b,i,none⟩=false:=by
 simp [World.frozen?,h]

def Kp (w w':World):Prop:=∀ (b:Nat) (cs:Array Value) (fr:Nat × Nat),w.heap[b]?=some (Obj.cells cs 171 fr)→w'.heap[b]?=some (Obj.cells cs 171 fr)
theorem Kp.refl (w:World):Kp w w:=fun _ _ _ h=>h
theorem Kp.trans {a b c:World} (h:Kp a b) (k:Kp b c):Kp a c:=fun b cs fr hb=>k b cs fr (h b cs fr hb)
theorem Gr.kp {w w':World} (h:Gr w w'):Kp w w':=fun _ _ _ hk=>h.heap hk
theorem Below.kp {w w':World} (h:Below w.heap.size w w'):Kp w w':=Gr.kp h

structure Row (w:World) (ao:Option Addr) (len:Nat) (d:Nat→Int):Prop where
 raw:0<len→∃ (b off:Nat) (cs:Array Value) (fr:Nat × Nat),ao=some ⟨b,off,none⟩∧w.heap[b]?=some (.cells cs 171 fr)∧∀ i,i<len→cs[off+i]?=some (.int .u32 (d i))

theorem Row.at_ {w:World} {ao:Option Addr} {len:Nat} {d:Nat→Int} (h:Row w ao len d) (hp:0<len):
  ∃ b off,ao=some ⟨b,off,none⟩∧∀ i,i<len→w.cell? ⟨b,off+i,none⟩=some (.int .u32 (d i)):=by
 obtain ⟨b,off,cs,fr,e,hb,hc⟩:=h.raw hp
 exact ⟨b,off,e,fun i hi=>by simp only [World.cell?,hb,Option.isSome_none];exact hc i hi⟩
theorem Row.nil (w:World) (ao:Option Addr) (d:Nat→Int):Row w ao 0 d:=⟨fun h=>by omega⟩
theorem Row.shorter {w:World} {ao:Option Addr} {len k:Nat} {d:Nat→Int} (h:Row w ao len d) (hk:k≤len):Row w ao k d:=
 ⟨fun hp=>by
  obtain ⟨b,off,cs,fr,e,hb,hc⟩:=h.raw (by omega)
  exact ⟨b,off,cs,fr,e,hb,fun i hi=>hc i (by omega)⟩⟩
theorem Row.congr {w:World} {ao:Option Addr} {len:Nat} {d d':Nat→Int} (h:Row w ao len d) (e:∀ i,i<len→d i=d' i):Row w ao len d':=
 ⟨fun hp=>by
  obtain ⟨b,off,cs,fr,e',hb,hc⟩:=h.raw hp
  exact ⟨b,off,cs,fr,e',hb,fun i hi=>by rw [hc i hi,e i hi]⟩⟩
theorem Row.kp {w w':World} {ao:Option Addr} {len:Nat} {d:Nat→Int} (h:Row w ao len d) (hk:Kp w w'):Row w' ao len d:=
 ⟨fun hp=>by
  obtain ⟨b,off,cs,fr,e,hb,hc⟩:=h.raw hp
  exact ⟨b,off,cs,fr,e,hk _ _ _ hb,hc⟩⟩
theorem Row.below {w w':World} {ao:Option Addr} {len:Nat} {d:Nat→Int} (h:Row w ao len d) (hb:Below w.heap.size w w'):Row w' ao len d:=h.kp (Gr.kp hb)
theorem Row.lt {w:World} {b off len:Nat} {d:Nat→Int} (h:Row w (some ⟨b,off,none⟩) len d) (hl:0<len):b<w.heap.size:=by
 obtain ⟨b',off',e,hc⟩:=h.at_ hl
 have:=World.block_lt_of_cell? w _ (hc 0 hl)
 simp only [Option.some.injEq,Addr.mk.injEq] at e
 obtain ⟨rfl,rfl,_⟩:=e
 exact this

structure Mag (w:World) (ao:Option Addr) (len cap:Nat) (n:Int):Prop where
 cap:len≤cap
 nl:NL n len
 row:Row w ao len (dg n)
theorem Mag.below {w w':World} {ao:Option Addr} {len cap:Nat} {n:Int} (h:Mag w ao len cap n) (hb:Below w.heap.size w w'):Mag w' ao len cap n:=⟨h.cap,h.nl,h.row.below hb⟩

def IsInt (w:World) (k:Nat) (x y:Value) (z:Int):Prop:=
 ∃ ao len cap,x=.bool (decide (z<0))∧y=.slice ao len cap∧Mag w ao len cap (z.natAbs:Int)∧Sz k z

theorem Mag.kp {w w':World} {ao:Option Addr} {len cap:Nat} {n:Int} (h:Mag w ao len cap n) (hb:Kp w w'):Mag w' ao len cap n:=⟨h.cap,h.nl,h.row.kp hb⟩
theorem IsInt.kp {w w':World} {k:Nat} {x y:Value} {z:Int} (h:IsInt w k x y z) (hb:Kp w w'):IsInt w' k x y z:=by
 obtain ⟨ao,len,cap,h1,h2,h3,h4⟩:=h
 exact ⟨ao,len,cap,h1,h2,h3.kp hb,h4⟩
theorem IsInt.gr {w w':World} {k:Nat} {x y:Value} {z:Int} (h:IsInt w k x y z) (hb:Gr w w'):IsInt w' k x y z:=h.kp hb.kp
theorem IsInt.one0 {w:World} {k:Nat} {x y:Value} {z:Int} (h:IsInt w k x y z):x.oneCell'=true:=by
 obtain ⟨ao,len,cap,rfl,rfl,h3,h4⟩:=h;rfl
theorem IsInt.one1 {w:World} {k:Nat} {x y:Value} {z:Int} (h:IsInt w k x y z):y.oneCell'=true:=by
 obtain ⟨ao,len,cap,rfl,rfl,h3,h4⟩:=h;rfl
theorem IsInt.below {w w':World} {k:Nat} {x y:Value} {z:Int} (h:IsInt w k x y z) (hb:Below w.heap.size w w'):IsInt w' k x y z:=by
 obtain ⟨ao,len,cap,h1,h2,h3,h4⟩:=h
 exact ⟨ao,len,cap,h1,h2,h3.below hb,h4⟩
theorem IsInt.mono {w:World} {k m:Nat} {x y:Value} {z:Int} (h:IsInt w k x y z) (hk:k≤m):IsInt w m x y z:=by
 obtain ⟨ao,len,cap,h1,h2,h3,h4⟩:=h
 exact ⟨ao,len,cap,h1,h2,h3,h4.mono hk⟩
theorem IsInt.sz {w:World} {k:Nat} {x y:Value} {z:Int} (h:IsInt w k x y z):Sz k z:=by
 obtain ⟨ao,len,cap,h1,h2,h3,h4⟩:=h
 exact h4
theorem Sz.nat {k:Nat} {z:Int} (h:Sz k z):Sz k (z.natAbs:Int):=by unfold Sz at*;simpa using h
theorem IsInt.zero (w:World) (k:Nat):IsInt w k (.bool false) (.slice none 0 0) 0:=
 ⟨none,0,0,rfl,rfl,⟨Nat.le_refl _,NL.zero,Row.nil _ _ _⟩,Sz.zero k⟩

end Go.Proofs.YtjhflekncldflaaGreatDoor
namespace Go.Proofs.YtjhflekncldflaaGreatDoor
open Go.RowKit

structure Own (w:World) (b n:Nat) (d:Nat→Int):Prop where
 raw:∃ cs,w.heap[b]?=some (.cells cs 171)∧∀ i,i<n→cs[i]?=some (.int .u32 (d i))
theorem Own.lt {w:World} {b n:Nat} {d:Nat→Int} (h:Own w b n d):b<w.heap.size:=by
 obtain ⟨cs,hb,hc⟩:=h.raw;exact ze8 hb
theorem Own.cell {w:World} {b n:Nat} {d:Nat→Int} (h:Own w b n d):∀ i,i<n→w.cell? ⟨b,i,none⟩=some (.int .u32 (d i)):=by
 obtain ⟨cs,hb,hc⟩:=h.raw
 exact fun i hi=>by simp only [World.cell?,hb,Option.isSome_none];exact hc i hi
theorem Own.free {w:World} {b n:Nat} {d:Nat→Int} (h:Own w b n d):∀ i,w.frozen? ⟨b,i,none⟩=false:=by
 obtain ⟨cs,hb,hc⟩:=h.raw
 exact fun i=>by simp [World.frozen?,hb]

def upd (d:Nat→Int) (i:Nat) (v:Int):Nat→Int:=fun j=>if j=i then v else d j
theorem zd0 (d:Nat→Int) (i:Nat) (v:Int):upd d i v i=v:=by simp [upd]
theorem zb7 (d:Nat→Int) {i j:Nat} (v:Int) (h:j≠i):upd d i v j=d j:=by simp [upd,h]

theorem zb2 {w:World} {b i:Nat} {cs:Array Value} {t:TypeId} {fr:Nat × Nat} (v:Value) (h:w.heap[b]?=some (.cells cs t fr)):
  (w.setCell ⟨b,i,none⟩ v).heap[b]?=some (.cells (cs.setIfInBounds i v) t fr):=by
 simp [World.setCell,Array.getElem?_modify,h]
theorem Own.set {w:World} {b n:Nat} {d:Nat→Int} (h:Own w b n d) {i:Nat} (_hi:i<n) (v:Int):Own (w.setCell ⟨b,i,none⟩ (.int .u32 v)) b n (upd d i v):=by
 obtain ⟨cs,hb,hc⟩:=h.raw
 refine ⟨_,zb2 _ hb,fun j hj=>?_⟩
 by_cases e:i=j
 ·subst e
  have:=(Array.getElem?_eq_some_iff.1 (hc i hj)).1
  rw [zd0];simp [this]
 rw [zb7 d v (Ne.symm e),Array.getElem?_setIfInBounds_ne e];exact hc j hj
theorem Own.gr {w w':World} {b n:Nat} {d:Nat→Int} (h:Own w b n d) (hb:Gr w w'):Own w' b n d:=by
 obtain ⟨cs,hb',hc⟩:=h.raw
 exact ⟨cs,hb.heap hb',hc⟩
theorem Own.below {w w':World} {b n:Nat} {d:Nat→Int} (h:Own w b n d) (hb:Below w.heap.size w w'):Own w' b n d:=h.gr hb
theorem Own.congr {w:World} {b n:Nat} {d d':Nat→Int} (h:Own w b n d) (e:∀ i,i<n→d i=d' i):Own w b n d':=by
 obtain ⟨cs,hb',hc⟩:=h.raw
 exact ⟨cs,hb',fun i hi=>by rw [hc i hi,e i hi]⟩
theorem Own.row {w:World} {b n:Nat} {d:Nat→Int} (h:Own w b n d):Row w (some ⟨b,0,none⟩) n d:=by
 obtain ⟨cs,hb',hc⟩:=h.raw
 exact ⟨fun _=>⟨b,0,cs,(0,0),rfl,hb',fun i hi=>by rw [Nat.zero_add];exact hc i hi⟩⟩
theorem Own.shorter {w:World} {b n k:Nat} {d:Nat→Int} (h:Own w b n d) (hk:k≤n):Own w b k d:=by
 obtain ⟨cs,hb',hc⟩:=h.raw
 exact ⟨cs,hb',fun i hi=>hc i (by omega)⟩

theorem zO8:(Tryz.prog.info? 171).map (fun i=>(i.zero,i.size,i.bytes))=some (some (.int .u32 0),1,4):=by kernel_rfl

theorem ze0 (w:World) {ops:Array Oper} {rest:List Oper} {o:Oper} {a:Act} {Q:Exit→Act→World→Prop}
  (hg:o.guard=none) (l c:Operand) (hop:o.op=Op.makeSlice 58 l c) (L C:Int) (n:Nat) (hl:a.eval l=.int .i64 L) (hc:a.eval c=.int .i64 C) (hL:L=(n:Int)) (hC:C=(n:Int)) (hn:n≤8000000)
  (hK:∀ w',Own w' w.heap.size n (fun _=>0)→Below w.heap.size w w'→w'.heap.size=w.heap.size+1→wpList Tryz.prog ops Q rest (a.put o.dst (.slice (some ⟨w.heap.size,0,none⟩) n n)) w'):
  wpList Tryz.prog ops Q (o::rest) a w:=by
 refine wpList_plain hg fun K hK'=>?_
 obtain ⟨i,hi,hz,hs,hb⟩:=info_parts zO8
 have hrun:=run_make (P:=Tryz.prog) w 58 171 i _ Tryz.underlying58 hi hz .i64 .i64 (n:Int) (n:Int) (by omega) (Int.le_refl _) (by rw [hb];omega) (by omega)
 simp only [Int.toNat_natCast] at hrun
 rw [hs,Nat.mul_one] at hrun
 subst hL hC
 unfold Oper.wp
 simp [execOp,hop,hl,hc,hrun,Result.andThen]
 refine hK' _ _ (hK _ ⟨_,heap_alloc_new w _,fun j hj=>?_⟩ ((Below.refl _ _).alloc (Nat.le_refl _) _) (by simp))
 simp [madeCells,Value.cells,hj,Nat.mod_one]
section
variable {P:Program} {ops:Array Oper} {Q:Exit→Act→World→Prop} {S:World→Prop}

def zF2 (ops:Array Oper):List (Bool × Nat)→Array Bool→Bool
 | [],listed=>(Region.ready .any ops listed).isEmpty
 | (true,i)::rest,listed=>(Region.ready .any ops listed).contains i&&Region.free .any ops listed i&&zF2 ops rest (listed.setIfInBounds i true)
 | (false,i)::rest,listed=>decide (Region.ready .any ops listed=[i])&&zF2 ops rest (listed.setIfInBounds i true)

def zh6 (P:Program) (ops:Array Oper) (Q:Exit→Act→World→Prop) (S:World→Prop):List (Bool × Nat)→Act→World→Prop
 | [],a,w=>Q .normal a w
 | (true,i)::rest,a,w=>∃ o v,ops[i]?=some o∧YieldsIf P ops S o v a∧zh6 P ops Q S rest (a.put o.dst v) w
 | (false,i)::rest,a,w=>wpOp P ops Q i (fun a' w'=>S w'∧zh6 P ops Q S rest a' w') a w

theorem zo9 (hs:Region.noSelect ops=true) (hQ:∀ c (a:Act) (d:Tmp) v w,Q (.panic c) (a.put (some d) v) w→Q (.panic c) a w):
  ∀ (l:List (Bool × Nat)) (fuel:Nat) (listed:Array Bool) (a:Act) (w:World),l.length≤fuel→zF2 ops l listed=true→S w→zh6 P ops Q S l a w→
   wpAnyH P .any ops Q S fuel listed a w:=by
 intro l
 induction l with
 | nil=>
  intro fuel listed a w _ hok _ h
  exact wpAnyH_done (by simpa [zF2] using hok) h _
 | cons x rest ih=>
  intro fuel listed a w hl hok hS h
  obtain ⟨fuel,rfl⟩:∃ n,fuel=n+1:=⟨fuel - 1,by simp at hl;omega⟩
  obtain ⟨b,i⟩:=x
  cases b with
  | true=>
   simp only [zF2,Bool.and_eq_true] at hok
   obtain ⟨o,v,ho,hy,hr⟩:=h
   exact wpAnyH_take ho hs hok.1.2 hok.1.1 (fun c a w h=>by cases hd:o.dst with | none=>rw [hd] at h;exact h | some d=>rw [hd] at h;exact hQ c a d _ w h) hy hS (ih fuel _ _ _ (by simpa using hl) hok.2 hS hr)
  | false=>
   simp only [zF2,Bool.and_eq_true,decide_eq_true_eq] at hok
   refine wpAnyH_all hok.1 (by simp) (fun j hj=>?_)
   obtain rfl:j=i:=by simpa using hj
   refine wpOp_mono (fun a' w' h'=>?_) h
   exact ⟨h'.1,ih fuel _ _ _ (by simpa using hl) hok.2 h'.1 h'.2⟩

theorem za4 {id:Nat} {a:Act} {w:World} (S:World→Prop) (l:List (Bool × Nat)) (hm:P.follows .mixedOrders=true) (hs:Region.noSelect ops=true)
  (hok:zF2 ops l (Array.replicate ops.size false)=true) (hl:l.length≤ops.size) (hQ:∀ c (a:Act) (d:Tmp) v w,Q (.panic c) (a.put (some d) v) w→Q (.panic c) a w) (hS:S w.drew)
  (h:zh6 P ops Q S l a w.drew):(Code.region id ops true).wp P Q a w:=
 wp_region_held hm (zo9 hs hQ l _ _ _ _ hl hok hS h)

theorem zb4 {a:Act} {w:World} (h:Q .normal a w):zh6 P ops Q S [] a w:=h

theorem zY9 {i:Nat} {rest:List (Bool × Nat)} {a:Act} {w:World} {o:Oper} (d:Option Tmp) (v:Value) (ho:ops[i]?=some o) (hd:o.dst=d) (hg:Region.wanted o (yielded ops a.tmps)=true)
  (hv:∀ w,S w→(execOp a.eval o).run P w=.ok (.value v) w) (h:zh6 P ops Q S rest (a.put d v) w):zh6 P ops Q S ((true,i)::rest) a w:=
 ⟨o,v,ho,.inl ⟨hg,hv⟩,by rw [hd];exact h⟩
theorem ord_skip {i:Nat} {rest:List (Bool × Nat)} {a:Act} {w:World} {o:Oper} (d:Option Tmp) (ho:ops[i]?=some o) (hd:o.dst=d) (hg:Region.wanted o (yielded ops a.tmps)=false)
  (h:zh6 P ops Q S rest (a.put d undef) w):zh6 P ops Q S ((true,i)::rest) a w:=
 ⟨o,undef,ho,.inr ⟨hg,rfl⟩,by rw [hd];exact h⟩
theorem zJ4 {i:Nat} {rest:List (Bool × Nat)} {a:Act} {w:World} {o:Oper} (d:Option Tmp) (ho:ops[i]?=some o) (hd:o.dst=d) (hg:Region.wanted o (yielded ops a.tmps)=false)
  (hS:S w) (h:zh6 P ops Q S rest (a.put d undef) w):zh6 P ops Q S ((false,i)::rest) a w:=by
 subst hd
 unfold zh6 wpOp
 simp only [ho]
 rw [if_neg (by rw [hg];decide)]
 exact ⟨hS,h⟩
end
section
variable {P:Program} {ops:Array Oper} {Q:Exit→Act→World→Prop} {S:World→Prop}

theorem wpOp_fwd {j d:Nat} {v:Value} {oj:Oper} (hj:ops[j]?=some oj) (h1:d ∉ oj.looksAt ops) (h2:oj.dst≠some d) (hs:∀ cs b,oj.op≠.select cs b)
  (hQ:∀ c (a:Act) w,Q (.panic c) a w→Q (.panic c) (a.put (some d) v) w) {K:Act→World→Prop} {a:Act} {w:World}
  (h:wpOp P ops Q j K a w):wpOp P ops Q j (fun a' w'=>∃ a₀,a'=a₀.put (some d) v∧K a₀ w') (a.put (some d) v) w:=by
 have e1:execOp (a.put (some d) v).eval oj=execOp a.eval oj:=execOp_put oj hs a (some d) v (fun d' e=>by cases e;exact h1)
 have e2:Region.wanted oj (yielded ops (a.put (some d) v).tmps)=Region.wanted oj (yielded ops a.tmps):=wanted_put oj a (some d) v (fun d' e=>by cases e;exact h1)
 have e3:∀ (a:Act) u,(a.put (some d) v).put oj.dst u=(a.put oj.dst u).put (some d) v:=fun a u=>Act.put_comm a v u (fun d' e=>by cases e;exact h2)
 unfold wpOp at*
 simp only [hj] at*
 rw [e2]
 split
 ·rename_i hw
  simp only [hw,if_true] at h
  rcases h with h | ⟨hasks,hlets⟩
  case inr=>exact .inr ⟨by unfold Oper.asks at*;rw [e1];exact hasks,hlets⟩
  refine .inl ?_
  unfold Oper.wp at*
  rw [e1]
  generalize (execOp a.eval oj).run P w=r at*
  cases r with
  | ok n w'=>
   cases n<;>simp only [Oper.upon] at h ⊢
   case value u=>exact ⟨_,e3 a u,h⟩
   case skip=>exact ⟨_,e3 a _,h⟩
   case defer dd=>exact ⟨_,by rw [← e3];rfl,h⟩
   case enter f args=>
    refine Calls.mono h fun e w'' he=>?_
    cases e with
    | returned u=>exact ⟨_,e3 a u,he⟩
    | panicked c=>exact hQ _ _ _ he
    | outgrown=>exact he
   case row row args=>exact Rows.mono h fun u w'' he=>⟨_,e3 a u,he⟩
  | halt x w'=>
   cases x<;>simp only [Oper.upon] at h ⊢
   case panic u=>exact hQ _ _ _ h
 rename_i hw
 simp only [hw] at h
 exact ⟨_,e3 a _,h⟩

structure Fl where
 op:Nat
 slot:Nat
 ty:TypeId
 zero:Array Value

def zo3 (ps:Nat→Nat) (a:Act) (f:Fl):Act:=a.put (some f.slot) (.pointer (some ⟨ps f.op,0,none⟩))
def zh8 (listed:Array Bool) (fl:List Fl):Array Bool:=fl.foldl (fun l f=>l.setIfInBounds f.op true) listed

def zo4 (P:Program) (ops:Array Oper) (Q:Exit→Act→World→Prop) (S:World→Prop) (fin:Act→World→Prop):List (Bool × Nat)→Act→World→Prop
 | [],a,w=>∀ w1,Gr w w1→S w1→fin a w1
 | (true,i)::rest,a,w=>∃ o v,ops[i]?=some o∧YieldsIf P ops S o v a∧zo4 P ops Q S fin rest (a.put o.dst v) w
 | (false,i)::rest,a,w=>∀ w1,Gr w w1→S w1→wpOp P ops Q i (fun a' w'=>Gr w1 w'∧S w'∧zo4 P ops Q S fin rest a' w') a w1

theorem zL5 {fin:Act→World→Prop}:∀ (l:List (Bool × Nat)) {a:Act} {w w':World},zo4 P ops Q S fin l a w→Gr w w'→zo4 P ops Q S fin l a w'
 | [],_,_,_,h,hg=>fun w1 h1=>h w1 (hg.trans h1)
 | (true,_)::l,_,_,_,h,hg=>by
  obtain ⟨o,v,h1,h2,h3⟩:=h
  exact ⟨o,v,h1,h2,zL5 l h3 hg⟩
 | (false,_)::_,_,_,_,h,hg=>fun w1 h1=>h w1 (hg.trans h1)

def zA7 (ops:Array Oper) (fl:List Fl) (tl:List (Bool × Nat)):List (Bool × Nat)→Array Bool→Bool
 | [],listed=>zF2 ops tl (zh8 listed fl)&&
   fl.all fun f=>(Region.ready .any ops listed).contains f.op&&decide (Region.ready .any ops (zh8 listed (fl.filter (·.op !=f.op)))=[f.op])
 | (true,i)::rest,listed=>(Region.ready .any ops listed).contains i&&Region.free .any ops listed i&&zA7 ops fl tl rest (listed.setIfInBounds i true)
 | (false,i)::rest,listed=>(Region.ready .any ops listed).contains i&&decide (Region.ready .any ops (zh8 listed fl)=[i])&&zA7 ops fl tl rest (listed.setIfInBounds i true)

def okAp (ops:Array Oper) (fl:List Fl) (l:List (Bool × Nat)):Bool:=
 l.all fun x=>match ops[x.2]? with
   | some o=>fl.all fun f=>!(o.looksAt ops).contains f.slot&&o.dst !=some f.slot&&x.2 !=f.op
   | none=>false
def okAl (ops:Array Oper) (fl:List Fl):Bool:=
 decide (fl.map Fl.op).Nodup&&decide (fl.map Fl.slot).Nodup&&fl.all fun f=>match ops[f.op]? with
  | some o=>(match o.op with | .alloc t=>t==f.ty | _=>false)&&o.guard.isNone&&o.dst==some f.slot
  | none=>false

theorem zn0 (l:Array Bool) (f:Fl) (X:List Fl):zh8 l (f::X)=zh8 (l.setIfInBounds f.op true) X:=rfl
theorem zP7 (l:Array Bool) (X:List Fl) (f:Fl):zh8 l (X++[f])=(zh8 l X).setIfInBounds f.op true:=by simp [zh8,List.foldl_append]
theorem zs3 (l:Array Bool) (X Y:List Fl):zh8 l (X++Y)=zh8 (zh8 l X) Y:=by simp [zh8,List.foldl_append]
theorem zn1 (l:Array Bool) {X Y:List Fl} (h:X.Perm Y):zh8 l X=zh8 l Y:=by
 unfold zh8
 refine List.Perm.foldl_eq' h (fun x _ y _ z=>?_) l
 by_cases e:x.op=y.op
 ·rw [e]
 exact (Array.setIfInBounds_comm _ _ e).symm ▸ rfl
theorem zE1 (l:Array Bool) (X:List Fl) (i:Nat):zh8 (l.setIfInBounds i true) X=(zh8 l X).setIfInBounds i true:=by
 induction X generalizing l with
 | nil=>rfl
 | cons f X ih=>
  rw [zn0,zn0,← ih]
  by_cases e:f.op=i
  ·rw [e]
  rw [Array.setIfInBounds_comm _ _ e]
theorem zi4 {listed:Array Bool} {j:Nat}:∀ (X:List Fl),j ∈ Region.ready .any ops listed→(∀ f ∈ X,j≠f.op)→j ∈ Region.ready .any ops (zh8 listed X):=by
 intro X
 induction X generalizing listed with
 | nil=>exact fun h _=>h
 | cons f X ih=>
  intro h hne
  rw [zn0]
  exact ih (ready_mono h (hne f (by simp))) (fun g hg=>hne g (by simp [hg]))
theorem free_set {listed:Array Bool} {i k:Nat} (h:Region.free .any ops listed i=true):Region.free .any ops (listed.setIfInBounds k true) i=true:=by
 unfold Region.free at*
 split at h
 ·cases h
 rename_i oi ho
 rw [List.all_eq_true] at h ⊢
 intro j hj
 have h1:=h j hj
 simp only [Bool.or_eq_true] at h1 ⊢
 rcases h1 with (h1 | h1) | h1
 ·exact .inl (.inl h1)
 ·by_cases e:k=j
  ·subst e
   rcases Nat.lt_or_ge k listed.size with h' | h'
   ·exact .inl (.inr (by simp [h']))
   exact .inl (.inr (by simp [h']))
  exact .inl (.inr (by rw [getD_set_ne true e];exact h1))
 exact .inr h1
theorem zP8 {listed:Array Bool} {i:Nat}:∀ (X:List Fl),Region.free .any ops listed i=true→Region.free .any ops (zh8 listed X) i=true:=by
 intro X
 induction X generalizing listed with
 | nil=>exact id
 | cons f X ih=>exact fun h=>by rw [zn0];exact ih (free_set h)

theorem zT6 {α β:Type} {g:α→β} {l:List α} (h:(l.map g).Nodup) {a b:α} (ha:a ∈ l) (hb:b ∈ l) (e:g a=g b):a=b:=by
 induction l with
 | nil=>cases ha
 | cons x l ih=>
  rw [List.map_cons,List.nodup_cons] at h
  rcases List.mem_cons.1 ha with rfl | ha'<;>rcases List.mem_cons.1 hb with rfl | hb'
  ·rfl
  ·exact absurd (List.mem_map.2 ⟨b,hb',e.symm⟩) h.1
  ·exact absurd (List.mem_map.2 ⟨a,ha',e⟩) h.1
  exact ih h.2 ha' hb'
theorem zT7 {ps:Nat→Nat} (X:List Fl) (a:Act) (d:Option Tmp) (v:Value) (h:∀ f ∈ X,d≠some f.slot):(X.foldl (zo3 ps) a).put d v=X.foldl (zo3 ps) (a.put d v):=by
 induction X generalizing a with
 | nil=>rfl
 | cons f X ih=>
  rw [List.foldl_cons,List.foldl_cons,ih _ (fun g hg=>h g (by simp [hg]))]
  congr 1
  exact Act.put_comm a _ v (fun d' e=>by cases e;exact h f (by simp))
theorem zH4 {ps ps':Nat→Nat} (X:List Fl) (a:Act) (h:∀ f ∈ X,ps f.op=ps' f.op):X.foldl (zo3 ps) a=X.foldl (zo3 ps') a:=by
 induction X generalizing a with
 | nil=>rfl
 | cons f X ih=>
  rw [List.foldl_cons,List.foldl_cons,ih _ (fun g hg=>h g (by simp [hg]))]
  congr 1
  unfold zo3
  rw [h f (by simp)]
theorem zy8 {ps:Nat→Nat} {X Y:List Fl} (h:X.Perm Y) (hn:(X.map Fl.slot).Nodup) (a:Act):X.foldl (zo3 ps) a=Y.foldl (zo3 ps) a:=by
 refine List.Perm.foldl_eq' h (fun x hx y hy z=>?_) a
 by_cases e:x=y
 ·rw [e]
 have hne:x.slot≠y.slot:=fun e'=>e (zT6 hn hx hy e')
 exact Act.put_comm z _ _ (fun d' e'=>by cases e';exact fun h=>hne (Option.some.inj h).symm)

theorem zP9 {ps:Nat→Nat} {o:Oper} {v:Value} (hs:∀ cs b,o.op≠.select cs b) (X:List Fl) (a:Act) (h:∀ f ∈ X,f.slot ∉ o.looksAt ops) (hy:YieldsIf P ops S o v a):
  YieldsIf P ops S o v (X.foldl (zo3 ps) a):=by
 induction X generalizing a with
 | nil=>exact hy
 | cons f X ih=>
  refine ih _ (fun g hg=>h g (by simp [hg])) (hy.of_same ?_ ?_)
  ·exact execOp_put o hs a (some f.slot) _ (fun d e=>by cases e;exact h f (by simp))
  exact wanted_put o a (some f.slot) _ (fun d e=>by cases e;exact h f (by simp))
theorem zT8 {ps:Nat→Nat} {j:Nat} {oj:Oper} (hj:ops[j]?=some oj) (hs:∀ cs b,oj.op≠.select cs b)
  (hQ:∀ c (a:Act) (d:Tmp) v w,Q (.panic c) a w→Q (.panic c) (a.put (some d) v) w) {K:Act→World→Prop} {w:World} (X:List Fl) (h1:∀ f ∈ X,f.slot ∉ oj.looksAt ops) (h2:∀ f ∈ X,oj.dst≠some f.slot):
  ∀ {a:Act},wpOp P ops Q j K a w→wpOp P ops Q j (fun a' w'=>∃ a₀,a'=X.foldl (zo3 ps) a₀∧K a₀ w') (X.foldl (zo3 ps) a) w:=by
 induction X generalizing K with
 | nil=>exact fun h=>wpOp_mono (fun a' w' h'=>⟨a',rfl,h'⟩) h
 | cons f X ih=>
  intro a h
  have h3:=wpOp_fwd (d:=f.slot) (v:=.pointer (some ⟨ps f.op,0,none⟩)) hj (h1 f (by simp)) (h2 f (by simp)) hs (fun c a w=>hQ c a _ _ w) h
  refine wpOp_mono (fun a' w' h'=>?_) (ih (fun g hg=>h1 g (by simp [hg])) (fun g hg=>h2 g (by simp [hg])) h3)
  obtain ⟨a₀,e,a₁,e1,hk⟩:=h'
  exact ⟨a₁,by rw [e,e1];rfl,hk⟩

def zL6 (P:Program) (ops:Array Oper) (Q:Exit→Act→World→Prop) (S:World→Prop) (B:Nat) (fl:List Fl) (tl:List (Bool × Nat)) (a:Act) (w:World):Prop:=
 ∀ ps:Nat→Nat,(∀ f ∈ fl,w.heap[ps f.op]?=some (.cells f.zero f.ty)∧B≤ps f.op)→(fl.map fun f=>ps f.op).Nodup→zh6 P ops Q S tl (fl.foldl (zo3 ps) a) w

theorem zH5 (hs:Region.noSelect ops=true) (hQ:∀ c (a:Act) (d:Tmp) v w,Q (.panic c) (a.put (some d) v) w→Q (.panic c) a w)
  (hQ':∀ c (a:Act) (d:Tmp) v w,Q (.panic c) a w→Q (.panic c) (a.put (some d) v) w) (hSa:∀ w o,S w→S (w.alloc o)) (B:Nat) (fl:List Fl) (tl:List (Bool × Nat))
  (hal:okAl ops fl=true) (hz:∀ f ∈ fl,∀ w,(Instr.alloc f.ty true (.tuple #[])).run P w=.ok (.pointer (some ⟨w.heap.size,0,none⟩)) (w.alloc (.cells f.zero f.ty))):
  ∀ (n:Nat) (l:List (Bool × Nat)) (X R:List Fl) (ps:Nat→Nat) (fuel:Nat) (listed:Array Bool) (a:Act) (w:World),l.length+R.length≤n→l.length+R.length+tl.length≤fuel→
   fl.Perm (X++R)→zA7 ops fl tl l listed=true→okAp ops fl l=true→S w→B≤w.heap.size→(∀ f ∈ X,w.heap[ps f.op]?=some (.cells f.zero f.ty)∧B≤ps f.op)→(X.map fun f=>ps f.op).Nodup→
   zo4 P ops Q S (zL6 P ops Q S B fl tl) l a w→wpAnyH P .any ops Q S fuel (zh8 listed X) (X.foldl (zo3 ps) a) w:=by
 simp only [okAl,Bool.and_eq_true,decide_eq_true_eq,List.all_eq_true] at hal
 obtain ⟨⟨hno,hns⟩,hal⟩:=hal
 intro n
 induction n with
 | zero=>
  intro l X R ps fuel listed a w hn hf hp hok hap hS hB hX hXn h
  obtain rfl:l=[]:=by cases l with | nil=>rfl | cons x l=>simp at hn
  obtain rfl:R=[]:=by cases R with | nil=>rfl | cons x l=>simp at hn
  simp only [zA7,Bool.and_eq_true] at hok
  rw [List.append_nil] at hp
  have h1:=h w (Gr.refl w) hS ps (fun f hf=>hX f (hp.mem_iff.1 hf)) ((hp.map _).nodup_iff.2 hXn)
  rw [zy8 hp hns] at h1
  have h2:=hok.1
  rw [zn1 listed hp] at h2
  exact zo9 hs hQ tl fuel _ _ w (by simpa using hf) h2 hS h1
 | succ n ih=>
  intro l X R ps fuel listed a w hn hf hp hok hap hS hB hX hXn h
  -- a new variable comes up
  have float:∀ fuel',l.length+R.length+tl.length≤fuel'+1→∀ f ∈ R,wpOp P ops Q f.op (fun a' w'=>S w'∧wpAnyH P .any ops Q S fuel' ((zh8 listed X).setIfInBounds f.op true) a' w') (X.foldl (zo3 ps) a) w:=by
   intro fuel' hf' f hfR
   have hffl:f ∈ fl:=hp.mem_iff.2 (by simp [hfR])
   have h1:=hal f hffl
   obtain ⟨R1,R2,rfl⟩:=List.append_of_mem hfR
   cases ho:ops[f.op]? with
   | none=>rw [ho] at h1;cases h1
   | some o=>
    rw [ho] at h1
    simp only [Bool.and_eq_true,Option.isNone_iff_eq_none,beq_iff_eq] at h1
    obtain ⟨⟨h2,h3⟩,h4⟩:=h1
    have hop:o.op=.alloc f.ty:=by
     cases hh:o.op<;>rw [hh] at h2<;>first | cases h2 | (simp at h2;rw [h2])
    unfold wpOp
    simp only [ho]
    rw [if_pos (by simp [Region.wanted,h3])]
    refine .inl ?_
    have hrun:(execOp (X.foldl (zo3 ps) a).eval o).run P w=.ok (.value (.pointer (some ⟨w.heap.size,0,none⟩))) (w.alloc (.cells f.zero f.ty)):=by
     simp only [execOp,hop]
     have:=hz f hffl w
     simp [this,Result.andThen]
    unfold Oper.wp
    rw [hrun]
    simp only [Oper.upon]
    refine ⟨hSa _ _ hS,?_⟩
    have hnotX:∀ g ∈ X,g.op≠f.op:=fun g hg e=>by
     have h5:((X++(R1++f::R2)).map Fl.op).Nodup:=(hp.map _).nodup_iff.1 hno
     rw [List.map_append,List.nodup_append] at h5
     exact h5.2.2 _ (List.mem_map.2 ⟨g,hg,rfl⟩) _ (List.mem_map.2 ⟨f,by simp,rfl⟩) e
    have h6:=ih l (X++[f]) (R1++R2) (fun k=>if k=f.op then w.heap.size else ps k) fuel' listed a (w.alloc (.cells f.zero f.ty)) (by simp at hn ⊢;omega) (by simp at hf' ⊢;omega)
     (hp.trans (by simpa using List.Perm.append_left X (List.perm_middle))) hok hap (hSa _ _ hS) (by simp;omega)
     (fun g hg=>by
      rcases List.mem_append.1 hg with hg | hg
      ·rw [if_neg (hnotX g hg)];exact ⟨(Gr.alloc w _).heap (hX g hg).1,(hX g hg).2⟩
      obtain rfl:g=f:=by simpa using hg
      rw [if_pos rfl];exact ⟨heap_alloc_new w _,hB⟩)
     (by
      rw [List.map_append,List.nodup_append]
      refine ⟨?_,by simp,?_⟩
      ·rw [List.map_congr_left (g:=fun f=>ps f.op) (fun g hg=>if_neg (hnotX g hg))];exact hXn
      intro x hx y hy
      obtain ⟨g,hg,rfl⟩:=List.mem_map.1 hx
      obtain rfl:y=w.heap.size:=by simpa using hy
      rw [if_neg (hnotX g hg)]
      intro e
      have h7:=(hX g hg).1
      rw [e,Array.getElem?_eq_none (Nat.le_refl _)] at h7
      cases h7)
     (zL5 l h (Gr.alloc w _))
    rw [zP7,List.foldl_append,zH4 (ps':=ps) X a (fun g hg=>if_neg (hnotX g hg))] at h6
    simp only [List.foldl_cons,List.foldl_nil,zo3,if_pos] at h6
    rw [h4]
    exact h6
  cases l with
  | nil=>
   cases R with
   | nil=>
    simp only [zA7,Bool.and_eq_true] at hok
    rw [List.append_nil] at hp
    have h1:=h w (Gr.refl w) hS ps (fun f hf=>hX f (hp.mem_iff.1 hf)) ((hp.map _).nodup_iff.2 hXn)
    rw [zy8 hp hns] at h1
    have h2:=hok.1
    rw [zn1 listed hp] at h2
    exact zo9 hs hQ tl fuel _ _ w (by simpa using hf) h2 hS h1
   | cons r R=>
    simp only [zA7,Bool.and_eq_true,List.all_eq_true,decide_eq_true_eq] at hok
    obtain ⟨fuel,rfl⟩:∃ m,fuel=m+1:=⟨fuel - 1,by simp at hf;omega⟩
    have hrfl:r ∈ fl:=hp.mem_iff.2 (by simp)
    have hnd:((X++r::R).map Fl.op).Nodup:=(hp.map _).nodup_iff.1 hno
    rw [List.map_append,List.nodup_append] at hnd
    have hr:r.op ∈ Region.ready .any ops (zh8 listed X):=zi4 X (by simpa using (hok.2 r hrfl).1)
     (fun g hg e=>hnd.2.2 _ (List.mem_map.2 ⟨g,hg,rfl⟩) _ (List.mem_map.2 ⟨r,by simp,rfl⟩) e.symm)
    refine wpAnyH_all (rs:=Region.ready .any ops (zh8 listed X)) rfl (fun e=>by rw [e] at hr;cases hr) (fun j hj=>?_)
    by_cases hjR:∃ f ∈ r::R,j=f.op
    ·obtain ⟨f,hfR,rfl⟩:=hjR
     exact float fuel hf f hfR
    -- nothing else may come up ahead of r
    refine absurd ?_ (fun e:j=r.op=>hjR ⟨r,by simp,e⟩)
    have h1:=(hok.2 r hrfl).2
    have h2:(fl.filter (·.op !=r.op)).Perm (X++R):=by
     refine (hp.filter _).trans ?_
     rw [List.filter_append,List.filter_cons_of_neg (by simp)]
     rw [List.filter_eq_self.2 (fun g hg=>by
      simp only [bne_iff_ne];exact hnd.2.2 _ (List.mem_map.2 ⟨g,hg,rfl⟩) _ (List.mem_map.2 ⟨r,by simp,rfl⟩)),
      List.filter_eq_self.2 (fun g hg=>by
       simp only [bne_iff_ne]
       have h3:=hnd.2.1
       rw [List.map_cons,List.nodup_cons] at h3
       exact fun e=>h3.1 (List.mem_map.2 ⟨g,hg,e⟩))]
    rw [zn1 listed h2,zs3] at h1
    have h3:=zi4 R hj (fun g hg e=>hjR ⟨g,by simp [hg],e⟩)
    rw [h1] at h3
    simpa using h3
  | cons x l=>
   obtain ⟨b,i⟩:=x
   obtain ⟨fuel,rfl⟩:∃ m,fuel=m+1:=⟨fuel - 1,by simp at hf;omega⟩
   have hap':=hap
   simp only [okAp,List.all_cons,Bool.and_eq_true] at hap'
   obtain ⟨hi,hapl⟩:=hap'
   cases b with
   | true=>
    simp only [zA7,Bool.and_eq_true] at hok
    obtain ⟨o,v,ho,hy,hr⟩:=h
    rw [ho] at hi
    simp only [List.all_eq_true,Bool.and_eq_true,Bool.not_eq_true',bne_iff_ne] at hi
    have hXfl:∀ f ∈ X,f ∈ fl:=fun f hf=>hp.mem_iff.2 (by simp [hf])
    refine wpAnyH_take ho hs (zP8 X hok.1.2) (by simpa using zi4 X (by simpa using hok.1.1) (fun f hf=>(hi f (hXfl f hf)).2))
     (fun c a w h=>by cases hd:o.dst with | none=>rw [hd] at h;exact h | some d=>rw [hd] at h;exact hQ c a d _ w h) (zP9 (fun cs b=>Region.noSelect_spec hs i o cs b ho) X a (fun f hf=>by simpa using (hi f (hXfl f hf)).1.1) hy) hS ?_
    rw [zT7 X a _ _ (fun f hf=>(hi f (hXfl f hf)).1.2),← zE1]
    exact ih l X R ps fuel _ _ w (by simp at hn;omega) (by simp at hf;omega) hp hok.2 hapl hS hB hX hXn hr
   | false=>
    simp only [zA7,Bool.and_eq_true,decide_eq_true_eq] at hok
    have hops:∃ o,ops[i]?=some o:=by
     cases ho:ops[i]? with
     | none=>rw [ho] at hi;cases hi
     | some o=>exact ⟨o,rfl⟩
    obtain ⟨o,ho⟩:=hops
    rw [ho] at hi
    simp only [List.all_eq_true,Bool.and_eq_true,Bool.not_eq_true',bne_iff_ne] at hi
    have hXfl:∀ f ∈ X,f ∈ fl:=fun f hf=>hp.mem_iff.2 (by simp [hf])
    have hr:i ∈ Region.ready .any ops (zh8 listed X):=zi4 X (by simpa using hok.1.1) (fun f hf=>(hi f (hXfl f hf)).2)
    refine wpAnyH_all (rs:=Region.ready .any ops (zh8 listed X)) rfl (fun e=>by rw [e] at hr;cases hr) (fun j hj=>?_)
    by_cases hjR:∃ f ∈ R,j=f.op
    ·obtain ⟨f,hfR,rfl⟩:=hjR
     exact float fuel hf f hfR
    have h3:=zi4 R hj (fun g hg e=>hjR ⟨g,hg,e⟩)
    rw [← zs3,← zn1 listed hp,hok.1.2] at h3
    obtain rfl:j=i:=by simpa using h3
    have h4:=h w (Gr.refl w) hS
    have h5:=zT8 (ps:=ps) ho (fun cs b=>Region.noSelect_spec hs j o cs b ho) hQ' X (fun f hf=>by simpa using (hi f (hXfl f hf)).1.1) (fun f hf=>(hi f (hXfl f hf)).1.2) h4
    refine wpOp_mono (fun a' w' h'=>?_) h5
    obtain ⟨a₀,rfl,hg,hS',hc⟩:=h'
    refine ⟨hS',?_⟩
    rw [← zE1]
    exact ih l X R ps fuel _ _ w' (by simp at hn;omega) (by simp at hf;omega) hp hok.2 hapl hS' (Nat.le_trans hB hg.size)
     (fun f hf=>⟨hg.heap (hX f hf).1,(hX f hf).2⟩) hXn hc

theorem zk2 {id:Nat} {a:Act} {w:World} (S:World→Prop) (l:List (Bool × Nat)) (fl:List Fl) (tl:List (Bool × Nat)) (hm:P.follows .mixedOrders=true) (hs:Region.noSelect ops=true)
  (hok:zA7 ops fl tl l (Array.replicate ops.size false)=true) (hap:okAp ops fl l=true) (hal:okAl ops fl=true) (hl:l.length+fl.length+tl.length≤ops.size)
  (hQ:∀ c (a:Act) (d:Tmp) v w,Q (.panic c) (a.put (some d) v) w→Q (.panic c) a w) (hQ':∀ c (a:Act) (d:Tmp) v w,Q (.panic c) a w→Q (.panic c) (a.put (some d) v) w) (hSa:∀ w o,S w→S (w.alloc o)) (hS:S w.drew)
  (hz:∀ f ∈ fl,∀ w,(Instr.alloc f.ty true (.tuple #[])).run P w=.ok (.pointer (some ⟨w.heap.size,0,none⟩)) (w.alloc (.cells f.zero f.ty)))
  (h:zo4 P ops Q S (zL6 P ops Q S w.heap.size fl tl) l a w.drew):(Code.region id ops true).wp P Q a w:=
 wp_region_held hm (zH5 hs hQ hQ' hSa w.heap.size fl tl hal hz _ l [] fl (fun _=>0) _ _ _ _ (Nat.le_refl _) hl (by simp) hok hap hS (Nat.le_refl _) (fun f hf=>by cases hf) (by simp) h)

theorem zH6 {fin:Act→World→Prop} {a:Act} {w:World} (h:∀ w1,Gr w w1→S w1→fin a w1):zo4 P ops Q S fin [] a w:=h
theorem flo_pure {fin:Act→World→Prop} {i:Nat} {rest:List (Bool × Nat)} {a:Act} {w:World} {o:Oper} (d:Option Tmp) (v:Value) (ho:ops[i]?=some o) (hd:o.dst=d) (hg:o.guard=none)
  (hv:∀ w,S w→(execOp a.eval o).run P w=.ok (.value v) w) (h:zo4 P ops Q S fin rest (a.put d v) w):zo4 P ops Q S fin ((true,i)::rest) a w:=
 ⟨o,v,ho,.inl ⟨by simp [Region.wanted,hg],hv⟩,by rw [hd];exact h⟩
theorem zv7 {fin:Act→World→Prop} {i:Nat} {rest:List (Bool × Nat)} {a:Act} {w:World} {o:Oper} (ho:ops[i]?=some o) (hg:o.guard=none)
  (h:∀ w1,Gr w w1→S w1→∀ K:Act→World→Prop,(∀ a w',Gr w1 w'→S w'→zo4 P ops Q S fin rest a w'→K a w')→o.wp P a w1 K Q):zo4 P ops Q S fin ((false,i)::rest) a w:=by
 intro w1 hw1 hS
 unfold wpOp
 simp only [ho]
 rw [if_pos (by simp [Region.wanted,hg])]
 exact .inl (h w1 hw1 hS _ (fun a w h1 h2 h3=>⟨h1,h2,h3⟩))
end
section
variable {P:Program} {ops:Array Oper} {Q:Exit→Act→World→Prop} {S0:World→Prop} {HS:List (List Nat × (World→Prop))}

def zg7 (f:List Nat→Bool):List (List Nat × (World→Prop))→World→Prop
 | [],_=>True
 | x::r,w=>(f x.1=true→x.2 w)∧zg7 f r w
theorem zg0 {f g:List Nat→Bool} {w:World}:∀ (HS:List (List Nat × (World→Prop))),(∀ x ∈ HS,g x.1=true→f x.1=true)→zg7 f HS w→zg7 g HS w
 | [],_,_=>trivial
 | x::r,h,hh=>⟨fun hg=>hh.1 (h x (by simp) hg),zg0 r (fun y hy=>h y (by simp [hy])) hh.2⟩
theorem zs8 {f:List Nat→Bool} {w:World}:∀ {HS:List (List Nat × (World→Prop))},zg7 (fun _=>true) HS w→zg7 f HS w:=
 fun {HS} h=>zg0 HS (fun _ _ _=>rfl) h
def zF3 (listed:Array Bool) (TL:List Nat):Bool:=TL.all fun t=>!listed.getD t true
def Till (S0:World→Prop) (HS:List (List Nat × (World→Prop))) (listed:Array Bool) (w:World):Prop:=S0 w∧zg7 (zF3 listed) HS w
theorem zF4 {listed:Array Bool} {i:Nat} {TL:List Nat} (hn:i ∉ TL):zF3 (listed.setIfInBounds i true) TL=zF3 listed TL:=by
 unfold zF3
 induction TL with
 | nil=>rfl
 | cons t r ih=>
  simp only [List.all_cons]
  rw [ih (fun h=>hn (by simp [h])),getD_set_ne true (fun e:i=t=>hn (by simp [e]))]
theorem Till.set {listed:Array Bool} {i:Nat} {w:World} (hn:∀ x ∈ HS,i ∉ x.1) (h:Till S0 HS listed w):Till S0 HS (listed.setIfInBounds i true) w:=
 ⟨h.1,zg0 HS (fun x hx hg=>by rw [zF4 (hn x hx)] at hg;exact hg) h.2⟩
theorem Till.unset {listed:Array Bool} {i:Nat} {w:World} (hn:∀ x ∈ HS,i ∉ x.1) (h:Till S0 HS (listed.setIfInBounds i true) w):Till S0 HS listed w:=
 ⟨h.1,zg0 HS (fun x hx hg=>by rw [zF4 (hn x hx)];exact hg) h.2⟩
theorem zh7 {b:Bool} {p:Prop} (hb:b=false):b=true→p:=fun h=>by rw [hb] at h;cases h

def zs9 (P:Program) (ops:Array Oper) (Q:Exit→Act→World→Prop) (S0:World→Prop) (HS:List (List Nat × (World→Prop))):Nat→Array Bool→Act→World→Prop
 | 0,listed,a,w=>Region.ready .any ops listed=[]∧Q .normal a w
 | fuel+1,listed,a,w=>
  (Region.ready .any ops listed=[]→Q .normal a w)∧
  ∀ i ∈ Region.ready .any ops listed,wpOp P ops Q i (fun a' w'=>Till S0 HS (listed.setIfInBounds i true) w'∧zs9 P ops Q S0 HS fuel (listed.setIfInBounds i true) a' w') a w

theorem zk3:∀ (fuel:Nat) (listed:Array Bool) (a:Act) (w:World),zs9 P ops Q S0 HS fuel listed a w→wpAny P .any ops Q fuel listed a w
 | 0,_,_,_,h=>h
 | fuel+1,_,_,_,h=>⟨h.1,fun i hi=>wpOp_mono (fun a' w' h'=>zk3 fuel _ a' w' h'.2) (h.2 i hi)⟩

def Closed (ops:Array Oper) (listed:Array Bool):Prop:=∀ j oj,ops[j]?=some oj→listed.getD j true=true→∀ e ∈ oj.after,Region.binds .any e=true→listed.getD e.on true=true

theorem Closed.set {listed:Array Bool} {i:Nat} (h:Closed ops listed) (hi:i ∈ Region.ready .any ops listed):Closed ops (listed.setIfInBounds i true):=by
 intro j oj hj hl e he hb
 by_cases hij:i=j
 ·subst hij
  obtain ⟨h0,o,ho,hall⟩:=mem_ready.1 hi
  rw [hj] at ho
  cases ho
  have:=hall e he hb
  rcases Nat.lt_or_ge e.on listed.size with h' | h'
  ·by_cases hie:i=e.on
   ·rw [hie];simp
   rw [getD_set_ne true hie];simpa [h'] using this
  simp [Array.getElem?_eq_none h'] at this
 rw [getD_set_ne true hij] at hl
 have:=h j oj hj hl e he hb
 by_cases hie:i=e.on
 ·rw [hie];simp
 rw [getD_set_ne true hie];exact this

def waits (ops:Array Oper):Nat→Nat→Nat→Bool
 | 0,_,_=>false
 | n+1,t,i=>match ops[t]? with
  | some o=>o.after.toList.any fun e=>Region.binds .any e&&(e.on==i||waits ops n e.on i)
  | none=>false
theorem zt0 {listed:Array Bool} {i:Nat} (h:Closed ops listed) (hi:listed.getD i true=false):∀ (n t:Nat),waits ops n t i=true→listed.getD t true=false:=by
 intro n
 induction n with
 | zero=>intro t ht;cases ht
 | succ n ih=>
  intro t ht
  unfold waits at ht
  split at ht
  ·rename_i o ho
   obtain ⟨e,he,hp⟩:=List.any_eq_true.1 ht
   simp only [Bool.and_eq_true,Bool.or_eq_true,beq_iff_eq] at hp
   cases hl:listed.getD t true with
   | false=>rfl
   | true=>
    have h1:=h t o ho hl e (by simpa using he) hp.1
    rcases hp.2 with h2 | h2
    ·rw [h2,hi] at h1;cases h1
    rw [ih _ h2] at h1;cases h1
  cases ht

theorem zt1 {i:Nat} {oi:Oper} {v:Value} {SI:World→Prop} (hi:ops[i]?=some oi) (hsel:∀ (j:Nat) (o:Oper) cs b,ops[j]?=some o→o.op≠.select cs b)
  (hQ:∀ c a w,Q (.panic c) (a.put oi.dst v) w→Q (.panic c) a w)
  (hSI:∀ listed w,Closed ops listed→listed.getD i true=false→Till S0 HS listed w→SI w):
  ∀ (fuel:Nat) (listed:Array Bool) (a:Act) (w:World),Closed ops listed→
   (∀ j oj,ops[j]?=some oj→j≠i→listed.getD j true=false→(∀ e ∈ oj.after,Region.binds .any e=true→e.on≠i)→oi.apart ops oj=true)→
   i ∈ Region.ready .any ops listed→YieldsIf P ops SI oi v a→Till S0 HS listed w→(∀ x ∈ HS,i ∉ x.1)→
   zs9 P ops Q S0 HS fuel (listed.setIfInBounds i true) (a.put oi.dst v) w→zs9 P ops Q S0 HS (fuel+1) listed a w:=by
 intro fuel
 induction fuel with
 | zero=>
  intro listed a w hcl _ hr hy hS hn H
  refine ⟨fun h=>(by rw [h] at hr;cases hr),fun j hj=>?_⟩
  by_cases hji:j=i
  ·subst hji;exact hy.wpOp hi (hSI listed w hcl (mem_ready.1 hr).1 hS) ⟨hS.set hn,H⟩
  have:=ready_mono hj hji
  rw [H.1] at this
  cases this
 | succ fuel ih=>
  intro listed a w hcl hfree hr hy hS hn H
  refine ⟨fun h=>(by rw [h] at hr;cases hr),fun j hj=>?_⟩
  by_cases hji:j=i
  ·subst hji;exact hy.wpOp hi (hSI listed w hcl (mem_ready.1 hr).1 hS) ⟨hS.set hn,H⟩
  have h1:=H.2 j (ready_mono hj hji)
  obtain ⟨hjun,oj,hoj,hall⟩:=mem_ready.1 hj
  have hnot:∀ e ∈ oj.after,Region.binds .any e=true→e.on≠i:=fun e he hb heq=>by
   have h1:=hall e he hb
   have h0:=(mem_ready.1 hr).1
   rw [heq] at h1
   rcases Nat.lt_or_ge i listed.size with h' | h'
   ·simp [h'] at h0 h1;rw [h0] at h1;cases h1
   simp [Array.getElem?_eq_none h'] at h1
  have h2:=wpOp_putIf hoj (hfree j oj hoj hji hjun hnot) (fun cs b=>hsel i oi cs b hi) (fun cs b=>hsel j oj cs b hoj) hQ hy h1
  have hfree':∀ k ok,ops[k]?=some ok→k≠i→(listed.setIfInBounds j true).getD k true=false→
    (∀ e ∈ ok.after,Region.binds .any e=true→e.on≠i)→oi.apart ops ok=true:=fun k ok hk hki hun hno=>by
   refine hfree k ok hk hki ?_ hno
   by_cases hjk:j=k
   ·subst hjk;exact hjun
   rw [getD_set_ne true hjk] at hun;exact hun
  refine wpOp_mono (fun a' w' h3=>?_) h2
  have hT:Till S0 HS (listed.setIfInBounds j true) w':=by
   have:=h3.2.1
   rw [Array.setIfInBounds_comm _ _ (Ne.symm hji)] at this
   exact this.unset hn
  refine ⟨hT,ih (listed.setIfInBounds j true) a' w' (hcl.set hj) hfree' (ready_mono hr (Ne.symm hji)) h3.1 hT hn ?_⟩
  rw [Array.setIfInBounds_comm _ _ hji]
  exact h3.2.2

def zt2 (ops:Array Oper) (TLs:List (List Nat)):List (Bool × Nat)→Array Bool→Bool
 | [],listed=>(Region.ready .any ops listed).isEmpty
 | (true,i)::rest,listed=>(Region.ready .any ops listed).contains i&&Region.free .any ops listed i&&TLs.all (fun x=>!x.contains i)&&zt2 ops TLs rest (listed.setIfInBounds i true)
 | (false,i)::rest,listed=>decide (Region.ready .any ops listed=[i])&&zt2 ops TLs rest (listed.setIfInBounds i true)

def zr7 (ops:Array Oper) (i:Nat) (TL:List Nat):Bool:=TL.all fun t=>waits ops ops.size t i
def zf7 (P:Program) (ops:Array Oper) (Q:Exit→Act→World→Prop) (S0:World→Prop) (HS:List (List Nat × (World→Prop))):List (Bool × Nat)→Array Bool→Act→World→Prop
 | [],_,a,w=>Q .normal a w
 | (true,i)::rest,listed,a,w=>∃ o v,ops[i]?=some o∧YieldsIf P ops (fun w=>S0 w∧zg7 (zr7 ops i) HS w) o v a∧zf7 P ops Q S0 HS rest (listed.setIfInBounds i true) (a.put o.dst v) w
 | (false,i)::rest,listed,a,w=>wpOp P ops Q i (fun a' w'=>Till S0 HS (listed.setIfInBounds i true) w'∧zf7 P ops Q S0 HS rest (listed.setIfInBounds i true) a' w') a w

theorem zx3 (hs:Region.noSelect ops=true) (hQ:∀ c (a:Act) (d:Tmp) v w,Q (.panic c) (a.put (some d) v) w→Q (.panic c) a w):
  ∀ (l:List (Bool × Nat)) (fuel:Nat) (listed:Array Bool) (a:Act) (w:World),l.length≤fuel→Closed ops listed→zt2 ops (HS.map (·.1)) l listed=true→Till S0 HS listed w→zf7 P ops Q S0 HS l listed a w→
   zs9 P ops Q S0 HS fuel listed a w:=by
 have hQd:∀ c (a:Act) (d:Option Tmp) v w,Q (.panic c) (a.put d v) w→Q (.panic c) a w:=by
  intro c a d v w h
  cases d with
  | none=>exact h
  | some d=>exact hQ c a d v w h
 intro l
 induction l with
 | nil=>
  intro fuel listed a w _ _ hok _ h
  have hr:Region.ready .any ops listed=[]:=by simpa [zt2] using hok
  cases fuel with
  | zero=>exact ⟨hr,h⟩
  | succ n=>exact ⟨fun _=>h,by rw [hr];simp⟩
 | cons x rest ih=>
  intro fuel listed a w hl hcl hok hS h
  obtain ⟨fuel,rfl⟩:∃ n,fuel=n+1:=⟨fuel - 1,by simp at hl;omega⟩
  obtain ⟨b,i⟩:=x
  cases b with
  | true=>
   simp only [zt2,Bool.and_eq_true,List.all_eq_true] at hok
   obtain ⟨⟨⟨hr,hf⟩,hn⟩,hrest⟩:=hok
   obtain ⟨o,v,ho,hy,hr'⟩:=h
   have hrm:i ∈ Region.ready .any ops listed:=by simpa using hr
   have hn':∀ x ∈ HS,i ∉ x.1:=fun x hx=>by simpa using hn x.1 (List.mem_map.2 ⟨x,hx,rfl⟩)
   refine zt1 ho (Region.noSelect_spec hs) (fun c a w h=>hQd c a o.dst v w h)
    (fun listed w hc h0 hT=>⟨hT.1,zg0 HS (fun x _ hg=>by
      unfold zr7 at hg
      unfold zF3
      rw [List.all_eq_true] at hg ⊢
      intro t ht
      rw [zt0 hc h0 _ t (hg t ht)];rfl) hT.2⟩) fuel listed a w hcl (Region.free_spec ho hf) hrm hy hS hn' ?_
   exact ih fuel _ _ _ (by simpa using hl) (hcl.set hrm) hrest (hS.set hn') hr'
  | false=>
   simp only [zt2,Bool.and_eq_true,decide_eq_true_eq] at hok
   refine ⟨fun h0=>(by rw [hok.1] at h0;cases h0),fun j hj=>?_⟩
   have hji:j=i:=by rw [hok.1] at hj;simpa using hj
   subst hji
   refine wpOp_mono (fun a' w' h'=>?_) h
   exact ⟨h'.1,ih fuel _ _ _ (by simpa using hl) (hcl.set hj) hok.2 h'.1 h'.2⟩

theorem zd7 {id:Nat} {a:Act} {w:World} (S0:World→Prop) (HS:List (List Nat × (World→Prop))) (l:List (Bool × Nat)) (hm:P.follows .mixedOrders=true) (hs:Region.noSelect ops=true)
  (hok:zt2 ops (HS.map (·.1)) l (Array.replicate ops.size false)=true) (hl:l.length≤ops.size) (hQ:∀ c (a:Act) (d:Tmp) v w,Q (.panic c) (a.put (some d) v) w→Q (.panic c) a w) (ac:S0 w.drew) (aa:zg7 (fun _=>true) HS w.drew)
  (h:zf7 P ops Q S0 HS l (Array.replicate ops.size false) a w.drew):(Code.region id ops true).wp P Q a w:=
 wp_region_any hm (zk3 _ _ _ _ (zx3 hs hQ l _ _ _ _ hl (fun j oj hj hlj e he _=>by
   have hjs:=(Array.getElem?_eq_some_iff.1 hj).1
   have:(Array.replicate ops.size false).getD j true=false:=by simp [hjs]
   rw [this] at hlj;cases hlj) hok ⟨ac,zs8 aa⟩ h))

theorem zi0 {a:Act} {w:World} {listed:Array Bool} (h:Q .normal a w):zf7 P ops Q S0 HS [] listed a w:=h
theorem ort_pure {i:Nat} {rest:List (Bool × Nat)} {listed:Array Bool} {a:Act} {w:World} {o:Oper} (d:Option Tmp) (v:Value) (ho:ops[i]?=some o) (hd:o.dst=d) (hg:Region.wanted o (yielded ops a.tmps)=true)
  (hv:∀ w,S0 w∧zg7 (zr7 ops i) HS w→(execOp a.eval o).run P w=.ok (.value v) w) (h:zf7 P ops Q S0 HS rest (listed.setIfInBounds i true) (a.put d v) w):zf7 P ops Q S0 HS ((true,i)::rest) listed a w:=
 ⟨o,v,ho,.inl ⟨hg,hv⟩,by rw [hd];exact h⟩
theorem ort_skip {i:Nat} {rest:List (Bool × Nat)} {listed:Array Bool} {a:Act} {w:World} {o:Oper} (d:Option Tmp) (ho:ops[i]?=some o) (hd:o.dst=d) (hg:Region.wanted o (yielded ops a.tmps)=false)
  (h:zf7 P ops Q S0 HS rest (listed.setIfInBounds i true) (a.put d undef) w):zf7 P ops Q S0 HS ((true,i)::rest) listed a w:=
 ⟨o,undef,ho,.inr ⟨hg,rfl⟩,by rw [hd];exact h⟩
theorem ort_eff {i:Nat} {rest:List (Bool × Nat)} {listed:Array Bool} {a:Act} {w:World} {o:Oper} (ho:ops[i]?=some o) (hg:Region.wanted o (yielded ops a.tmps)=true)
  (h:∀ K:Act→World→Prop,(∀ a w,S0 w→zg7 (zF3 (listed.setIfInBounds i true)) HS w→zf7 P ops Q S0 HS rest (listed.setIfInBounds i true) a w→K a w)→o.wp P a w K Q):zf7 P ops Q S0 HS ((false,i)::rest) listed a w:=by
 unfold zf7 wpOp
 simp only [ho]
 rw [if_pos hg]
 exact .inl (h _ (fun a w h0 h1 h2=>⟨⟨h0,h1⟩,h2⟩))
theorem zZ0 {B:Nat} {tl:List (Bool × Nat)} {a:Act} {w:World} {o1 s1 t1:Nat} {z1:Array Value}
  (h:∀ b1,w.heap[b1]?=some (.cells z1 t1)→B≤b1→zh6 P ops Q S0 tl (a.put (some s1) (.pointer (some ⟨b1,0,none⟩))) w):zL6 P ops Q S0 B [⟨o1,s1,t1,z1⟩] tl a w:=
 fun ps hf _=>h (ps o1) (hf ⟨o1,s1,t1,z1⟩ (by simp)).1 (hf ⟨o1,s1,t1,z1⟩ (by simp)).2
theorem floFin2 {B:Nat} {tl:List (Bool × Nat)} {a:Act} {w:World} {o1 s1 t1 o2 s2 t2:Nat} {z1 z2:Array Value}
  (h:∀ b1 b2,w.heap[b1]?=some (.cells z1 t1)→B≤b1→w.heap[b2]?=some (.cells z2 t2)→B≤b2→b1≠b2→
   zh6 P ops Q S0 tl ((a.put (some s1) (.pointer (some ⟨b1,0,none⟩))).put (some s2) (.pointer (some ⟨b2,0,none⟩))) w):zL6 P ops Q S0 B [⟨o1,s1,t1,z1⟩,⟨o2,s2,t2,z2⟩] tl a w:=
 fun ps hf hn=>h (ps o1) (ps o2) (hf ⟨o1,s1,t1,z1⟩ (by simp)).1 (hf ⟨o1,s1,t1,z1⟩ (by simp)).2 (hf ⟨o2,s2,t2,z2⟩ (by simp)).1 (hf ⟨o2,s2,t2,z2⟩ (by simp)).2 (by simp at hn;omega)
theorem zn5 {t:TypeId} {z:Value} {cs:Array Value} (hz:(P.info? t).map (·.zero)=some (some z)) (hv:z.cells=cs) (w:World):
  (Instr.alloc t true (.tuple #[])).run P w=.ok (.pointer (some ⟨w.heap.size,0,none⟩)) (w.alloc (.cells cs t)):=by
 subst hv
 obtain ⟨i,hi,hzz⟩:=Option.map_eq_some_iff.1 hz
 simp [Instr.alloc,zeroValue,typeInfo,newVar,newRow,Sem.run_bind,Result.andThen_ok,Sem.run_pure,run_program,hi,hzz]
end
section
variable {P:Program} {a:Act} {o:Oper} {w:World} {Q:Exit→Act→World→Prop} {K:Act→World→Prop} {ops:Array Oper}

def RunV (P:Program) (a:Act) (o:Oper) (w:World) (v:Value):Prop:=(execOp a.eval o).run P w=.ok (.value v) w
theorem rvk {v:Value} (h:(execOp a.eval o).run P w=.ok (.value v) w):RunV P a o w v:=h
theorem RunV.int {k:IntKind} {x y:Int} (h:RunV P a o w (.int k x)) (e:x=y):RunV P a o w (.int k y):=e ▸ h
theorem RunV.bool {x y:Bool} (h:RunV P a o w (.bool x)) (e:x=y):RunV P a o w (.bool y):=e ▸ h

def Lc (w:World) (b:Nat) (cs:Array Value) (t:TypeId):Prop:=w.heap[b]?=some (.cells cs t)
theorem Lc.gr {w w':World} {b:Nat} {cs:Array Value} {t:TypeId} (h:Lc w b cs t) (g:Gr w w'):Lc w' b cs t:=g.heap h
theorem Lc.lt {w:World} {b:Nat} {cs:Array Value} {t:TypeId} (h:Lc w b cs t):b<w.heap.size:=ze8 h
theorem Lc.ne {w:World} {b c:Nat} {cs:Array Value} {t:TypeId} (h:Lc w b cs t) (hc:w.heap.size≤c):b≠c:=fun e=>by have:=h.lt;omega

def zg9 (P:Program) (t:TypeId):Option Nat:=
 match P.underlying t with
 | some (.struct _) | some (.array _ _)=>(P.info? t).map (·.size)
 | _=>none
def zp4 (P:Program) (t:TypeId):Bool:=
 match P.underlying t with
 | some (.struct _) | some (.array _ _)=>false
 | some _=>(P.info? t).map (·.size)==some 1
 | none=>false

theorem zA0 {cs:Array Value} {t:TypeId} {b:Nat} (h:Lc w b cs t) (off:Nat) (vs:List Value) (hv:(cs.toList.drop off).take vs.length=vs):w.rangeAt b off vs:=by
 intro j v hj
 have hj':j<vs.length:=(List.getElem?_eq_some_iff.1 hj).1
 rw [zc1 h,← hj]
 have h1:((cs.toList.drop off).take vs.length)[j]?=vs[j]?:=by rw [hv]
 rw [List.getElem?_take_of_lt hj',List.getElem?_drop] at h1
 rw [← h1];simp

theorem rv_load (t:TypeId) (x:Operand) (b off:Nat) (cs:Array Value) (tt:TypeId) (vs:List Value) (hop:o.op=.load t x) (hx:a.eval x=.pointer (some ⟨b,off,none⟩))
  (hL:Lc w b cs tt) (hv:(cs.toList.drop off).take vs.length=vs) (hs:zg9 P t=some vs.length):RunV P a o w (.agg vs.toArray):=by
 unfold zg9 at hs
 have hr:=zA0 hL off vs hv
 unfold RunV
 cases hd:P.underlying t with
 | none=>rw [hd] at hs;cases hs
 | some d=>
  rw [hd] at hs
  have hrow:d.isRow=true∧(P.info? t).map (·.size)=some vs.length:=by
   cases d<;>first | cases hs | exact ⟨rfl,hs⟩
  unfold execOp
  simp only [hop,hx,Instr.loadAt,Instr.sureAddr,Sem.run_bind,Sem.run_pure,Result.andThen_ok,run_loadVar_mid w b off t vs d hr hd hrow.1 hrow.2]
theorem rv_load1 (t:TypeId) (x:Operand) (b off:Nat) (cs:Array Value) (tt:TypeId) (v:Value) (hop:o.op=.load t x) (hx:a.eval x=.pointer (some ⟨b,off,none⟩))
  (hL:Lc w b cs tt) (hv:cs[off]?=some v) (hs:zp4 P t=true):RunV P a o w v:=by
 unfold zp4 at hs
 have hc:w.cell? ⟨b,off,none⟩=some v:=by rw [zc1 hL];exact hv
 unfold RunV
 cases hd:P.underlying t with
 | none=>rw [hd] at hs;cases hs
 | some d=>
  rw [hd] at hs
  have hagg:(isAgg t).run P w=.ok false w:=by
   unfold isAgg
   rw [Sem.run_bind,run_underlying hd w]
   cases d<;>first | cases hs | rfl
  unfold execOp
  simp only [hop,hx,Instr.loadAt,Instr.sureAddr,Sem.run_bind,Sem.run_pure,Result.andThen_ok,loadVar,hagg]
  simp [load,Sem.run,hc]

theorem za0 (h:Q .normal a w):wpOps P ops Q [] a w:=h
theorem sq_val {i:Nat} {rest:List Nat} (d:Option Tmp) (v:Value) (ho:ops[i]?=some o) (hd:o.dst=d) (hw:Region.wanted o (yielded ops a.tmps)=true) (hv:RunV P a o w v)
  (h:wpOps P ops Q rest (a.put d v) w):wpOps P ops Q (i::rest) a w:=by
 rw [wpOps_cons]
 subst hd
 unfold wpOp
 simp only [ho,hw,if_true]
 refine .inl ?_
 unfold Oper.wp
 rw [hv]
 exact h
theorem sq_skip {i:Nat} {rest:List Nat} (d:Option Tmp) (ho:ops[i]?=some o) (hd:o.dst=d) (hw:Region.wanted o (yielded ops a.tmps)=false)
  (h:wpOps P ops Q rest (a.put d undef) w):wpOps P ops Q (i::rest) a w:=by
 rw [wpOps_cons]
 subst hd
 unfold wpOp
 simp only [ho,hw]
 exact h
theorem zh0 {f:FuncId} {args:Array Value} {R:Ending→World→Prop} (d:Option Tmp) (hd:o.dst=d) (hrun:(execOp a.eval o).run P w=.ok (.enter f args) w) (hc:Calls P f args w R)
  (h:∀ e w',R e w'→∃ v,e=.returned v∧K (a.put d v) w'):o.wp P a w K Q:=by
 subst hd
 unfold Oper.wp
 rw [hrun]
 simp only [Oper.upon]
 refine hc.mono fun e w' he=>?_
 obtain ⟨v,rfl,hk⟩:=h e w' he
 exact hk
theorem zr9 (w:World) (t:TypeId) (cs:Array Value):(newRow t cs).run P w=.ok ⟨w.heap.size,0,none⟩ (w.alloc (.cells cs t)):=by
 simp [newRow]
theorem zy0 (t:TypeId) (x:Operand) (v:Value) (cs:Array Value) (d:Option Tmp) (hd:o.dst=d) (hop:o.op=.box t x) (hx:a.eval x=v) (hv:v.cells=cs)
  (h:∀ b w',Gr w w'→Lc w' b cs t→w.heap.size≤b→K (a.put d (.pointer (some ⟨b,0,none⟩))) w'):o.wp P a w K Q:=by
 subst hd hx hv
 unfold Oper.wp execOp
 simp only [hop,Instr.box,newVar,Sem.run_bind,zr9,Result.andThen_ok,Sem.run_pure]
 exact h _ _ (Gr.alloc w _) (heap_alloc_new w _) (Nat.le_refl _)
theorem ze1 (t:TypeId) (z:Value) (cs:Array Value) (d:Option Tmp) (hd:o.dst=d) (hop:o.op=.alloc t) (hz:(P.info? t).map (·.zero)=some (some z)) (hv:z.cells=cs)
  (h:∀ b w',Gr w w'→Lc w' b cs t→w.heap.size≤b→K (a.put d (.pointer (some ⟨b,0,none⟩))) w'):o.wp P a w K Q:=by
 subst hd hv
 obtain ⟨i,hi,hzz⟩:=Option.map_eq_some_iff.1 hz
 unfold Oper.wp execOp
 simp only [hop,Instr.alloc,zeroValue,typeInfo,newVar,Sem.run_bind,zr9,Result.andThen_ok,Sem.run_pure,run_program,hi,hzz]
 exact h _ _ (Gr.alloc w _) (heap_alloc_new w _) (Nat.le_refl _)

structure St (w w':World) (b:Nat):Prop where
 os:w'.os=w.os
 tape:w'.tape=w.tape
 output:w'.output=w.output
 size:w'.heap.size=w.heap.size
 block:∀ k,k≠b→w'.heap[k]?=w.heap[k]?
theorem St.refl (w:World) (b:Nat):St w w b:=⟨rfl,rfl,rfl,rfl,fun _ _=>rfl⟩
theorem St.trans {w1 w2 w3:World} {b:Nat} (h:St w1 w2 b) (k:St w2 w3 b):St w1 w3 b:=
 ⟨k.os.trans h.os,k.tape.trans h.tape,k.output.trans h.output,k.size.trans h.size,fun i hi=>(k.block i hi).trans (h.block i hi)⟩
theorem St.setCell (w:World) (b i:Nat) (v:Value):St w (w.setCell ⟨b,i,none⟩ v) b:=
 ⟨rfl,rfl,rfl,by simp,fun k hk=>Below.heap_setCell _ _ _ _ hk⟩
theorem St.setCells (b:Nat):∀ (vs:List Value) (off:Nat) (w:World),St w (w.setCells b off vs) b
 | [],_,w=>St.refl w b
 | v::vs,off,w=>(St.setCell w b off v).trans (St.setCells b vs (off+1) _)
theorem St.gr {w0 w w':World} {b:Nat} (h:St w w' b) (g:Gr w0 w) (hb:w0.heap.size≤b):Gr w0 w':=
 Below.trans g ⟨h.os,h.tape,h.output,Nat.le_of_eq h.size.symm,fun k hk=>h.block k (by omega)⟩
theorem St.below {B:Nat} {w0 w w':World} {b:Nat} (h:St w w' b) (g:Below B w0 w) (hb:B≤b):Below B w0 w':=
 Below.trans g ⟨h.os,h.tape,h.output,Nat.le_of_eq h.size.symm,fun k hk=>h.block k (by omega)⟩
theorem St.lc {w w':World} {b c:Nat} {cs:Array Value} {t:TypeId} (h:St w w' b) (hL:Lc w c cs t) (hne:c≠b):Lc w' c cs t:=(h.block c hne).trans hL
theorem St.kp {w w':World} {b:Nat} {cs:Array Value} {t:TypeId} (h:St w w' b) (hL:Lc w b cs t) (ht:t≠171):Kp w w':=fun c ds fr hc=>by
 by_cases e:c=b
 ·subst e
  unfold Lc at hL
  rw [hc] at hL
  simp only [Option.some.injEq,Obj.cells.injEq] at hL
  exact absurd hL.2.1.symm ht
 exact (h.block c e).trans hc

def One1:List Value→Prop
 | []=>True
 | v::vs=>v.oneCell'=true∧One1 vs
theorem One1.all:∀ {vs:List Value},One1 vs→∀ v ∈ vs,v.oneCell'=true
 | [],_,_,h=>by cases h
 | u::vs,h,v,hv=>by
  rcases List.mem_cons.1 hv with rfl | hv
  ·exact h.1
  exact One1.all h.2 v hv
def zh1 (cs:Array Value):Nat→List Value→Array Value
 | _,[]=>cs
 | off,v::vs=>zh1 (cs.setIfInBounds off v) (off+1) vs
theorem zk8 {b:Nat} {t:TypeId} {fr:Nat × Nat}:∀ (vs:List Value) (off:Nat) {w:World} {cs:Array Value},w.heap[b]?=some (.cells cs t fr)→(w.setCells b off vs).heap[b]?=some (.cells (zh1 cs off vs) t fr)
 | [],_,_,_,h=>h
 | v::vs,off,_,_,h=>zk8 vs (off+1) (zb2 v h)

theorem zd2 (t:TypeId) (x y:Operand) (b off:Nat) (v:Value) (vs:List Value) (cs cs':Array Value) (tt:TypeId) (hop:o.op=.store t x y) (hd:o.dst=none) (hx:a.eval x=.pointer (some ⟨b,off,none⟩)) (hy:a.eval y=v) (hv:v.cells=vs.toArray)
  (hL:Lc w b cs tt) (hs:(P.info? t).map (·.size)=some vs.length) (hoff:off+vs.length≤cs.size) (h1:One1 vs) (hcs:zh1 cs off vs=cs')
  (h:∀ w',St w w' b→Lc w' b cs' tt→K a w'):o.wp P a w K Q:=by
 subst hcs
 obtain ⟨i,hi,hsz⟩:=Option.map_eq_some_iff.1 hs
 have hrun:(storeVar t ⟨b,off,none⟩ v).run P w=.ok () (w.setCells b off vs):=by
  have:=run_storeCells_cells (P:=P) b off vs 0 w (fun j hj=>by rw [Nat.add_zero,zc1 hL];simp;omega) (fun j hj=>zj0 hL _) h1.all
  simp only [Nat.add_zero] at this
  simp [storeVar,sizeOf,typeInfo,hi,hv,hsz,this]
 unfold Oper.wp execOp
 simp only [hop,hx,hy,Instr.storeAt,Instr.sureAddr,Sem.run_bind,Sem.run_pure,Result.andThen_ok,hrun,Oper.upon,hd,Act.put]
 exact h _ (St.setCells b vs off w) (zk8 vs off hL)

theorem zk9 {t:TypeId} {b:Nat} {cs:Array Value} {tt:TypeId} (hL:Lc w b cs tt) (hs:zg9 P t=some cs.size):(loadVar t ⟨b,0,none⟩).run P w=.ok (.agg cs) w:=by
 unfold zg9 at hs
 have hr:=zA0 hL 0 cs.toList (by rw [List.drop_zero,List.take_length])
 cases hd:P.underlying t with
 | none=>rw [hd] at hs;cases hs
 | some d=>
  rw [hd] at hs
  have hrow:d.isRow=true∧(P.info? t).map (·.size)=some cs.toList.length:=by
   rw [Array.length_toList]
   cases d<;>first | cases hs | exact ⟨rfl,hs⟩
  have:=run_loadVar_mid w b 0 t cs.toList d hr hd hrow.1 hrow.2
  simpa using this
theorem zc8 {fn:Func} {tmps:Array Value} {p:Tmp} {t:TypeId} (b:Nat) (cs:Array Value) (tt:TypeId) (h:fn.results=#[.cell p t]) (hp:tmps.getD p undef=.pointer (some ⟨b,0,none⟩)) (hL:Lc w b cs tt) (hs:zg9 P t=some cs.size):
  (results fn tmps).run P w=.ok (.agg cs) w:=by
 have:=zk9 hL hs
 simp only [Array.getD_eq_getD_getElem?] at hp ⊢
 simp [results,h,asAddr,hp,this]
theorem zG5 {fn:Func} {tmps:Array Value} {p u:Tmp} {t:TypeId} (b:Nat) (cs:Array Value) (tt:TypeId) (h:fn.results=#[.cell p t,.tmp u]) (hp:tmps.getD p undef=.pointer (some ⟨b,0,none⟩)) (hL:Lc w b cs tt) (hs:zg9 P t=some cs.size):
  (results fn tmps).run P w=.ok (.tuple #[.agg cs,tmps.getD u undef]) w:=by
 have:=zk9 hL hs
 simp only [Array.getD_eq_getD_getElem?] at hp ⊢
 simp [results,h,asAddr,hp,this]
theorem zC7 {fn:Func} {tmps:Array Value} {p q u:Tmp} {t t2:TypeId} (b c:Nat) (cs ds:Array Value) (tt aa:TypeId) (h:fn.results=#[.cell p t,.cell q t2,.tmp u]) (hp:tmps.getD p undef=.pointer (some ⟨b,0,none⟩)) (hq:tmps.getD q undef=.pointer (some ⟨c,0,none⟩))
  (hL:Lc w b cs tt) (hs:zg9 P t=some cs.size) (ac:Lc w c ds aa) (ad:zg9 P t2=some ds.size):
  (results fn tmps).run P w=.ok (.tuple #[.agg cs,.agg ds,tmps.getD u undef]) w:=by
 have h1:=zk9 hL hs
 have h2:=zk9 ac ad
 simp only [Array.getD_eq_getD_getElem?] at hp hq ⊢
 simp [results,h,asAddr,hp,hq,h1,h2]
end
theorem rwI {P:Program} {a:Act} {o:Oper} {w:World} (x:Int) {y:Int} (h:IntKind.i64.wrap x=y:=by first | rfl | (rw [IntKind.wrap_i64];omega)) (hv:RunV P a o w (.int .i64 (IntKind.i64.wrap x)):=by exact rvk (by kernel_rfl)):RunV P a o w (.int .i64 y):=RunV.int hv h
section
variable {P:Program} {a:Act} {o:Oper} {w:World} {Q:Exit→Act→World→Prop} {K:Act→World→Prop} {ops:Array Oper}

theorem zb1 {c:Code} (I:Nat→Act→World→Prop) (n₀:Nat) (h₀:I n₀ a w)
  (round:∀ n a w,I n a w→∀ K:Act→World→Prop,(∀ n' a' w',n'<n→I n' a' w'→K a' w')→c.wp P (Exit.then K Q) a w):(Code.loop c).wp P Q a w:=
 wp_loop_ghost I n₀ h₀ fun n a w h=>round n a w h _ fun n' _ _ hn hI=>⟨n',hn,hI⟩

theorem zc5 (e n:Nat) (cs:Array Value) (d:Option Tmp) (hd:o.dst=d)
  (hrun:∀ w,(execOp a.eval o).run P w=.ok (.value (.slice (some ⟨w.heap.size,0,none⟩) n n)) (w.alloc (.cells cs e)))
  (h:∀ b w',Gr w w'→Lc w' b cs e→w.heap.size≤b→K (a.put d (.slice (some ⟨b,0,none⟩) n n)) w'):o.wp P a w K Q:=by
 subst hd
 unfold Oper.wp
 rw [hrun]
 exact h _ _ (Gr.alloc w _) (heap_alloc_new w _) (Nat.le_refl _)

structure Wt (T:TypeId) (w w':World):Prop where
 os:w'.os=w.os
 tape:w'.tape=w.tape
 output:w'.output=w.output
 size:w.heap.size≤w'.heap.size
 block:∀ (b:Nat) (cs:Array Value) (t:TypeId) (fr:Nat × Nat),t≠T→w.heap[b]?=some (.cells cs t fr)→w'.heap[b]?=some (.cells cs t fr)
theorem Wt.kp {T:TypeId} {w w':World} (h:Wt T w w') (hT:171≠T):Kp w w':=fun b cs fr hb=>h.block b cs _ fr hT hb
theorem Wt.lc {T:TypeId} {w w':World} {b:Nat} {cs:Array Value} {t:TypeId} (h:Wt T w w') (hL:Lc w b cs t) (hT:t≠T):Lc w' b cs t:=h.block b cs t _ hT hL

def OwnS (w:World) (T B:Nat) (v:Value) (ys:List Value):Prop:=w.ownsRow B T 1 v ys.length ys
theorem OwnS.nil (w:World) (T B:Nat):OwnS w T B (.slice none 0 0) []:=World.ownsRow_nil ..
theorem OwnS.gr {w w':World} {T B:Nat} {v:Value} {ys:List Value} (h:OwnS w T B v ys) (g:Gr w w'):OwnS w' T B v ys:=by
 unfold OwnS at*
 refine ⟨h.1,?_⟩
 rcases h.2 with hn | ⟨k,cap,cur,rfl,hb,hg,hr⟩
 ·exact .inl hn
 exact .inr ⟨k,cap,cur,rfl,hb,g.heap hg,hr⟩
theorem zw6 (s x:Operand) (t:TypeId) (T B:Nat) (z:Value) (v:Value) (ys:List Value) (b:Nat) (u:Value) (c:Nat) (d:Option Tmp) (bytes:Nat) (hd:o.dst=d)
  (ho:o.op=.call {callee:=.builtin .append,args:=#[s,x],argTypes:=#[t,t]}) (hs:a.eval s=v) (hx:a.eval x=.slice (some ⟨b,0,none⟩) 1 c)
  (hown:OwnS w T B v ys) (hL:Lc w b #[u] T) (hu:u.oneCell'=true) (w0:World) (hB:Gr w0 w) (ac:w0.heap.size≤B) (hBw:B≤w.heap.size) (hn:ys.length≤1000000) (hbytes:bytes≤1000)
  (ht:P.underlying t=some (.slice T)) (hi:(P.info? T).map (fun i=>(i.zero,i.size,i.bytes))=some (some z,1,bytes)) (hzs:z.cells.size=1)
  (h:∀ v' w',OwnS w' T B v' (ys++[u])→Wt T w w'→Gr w0 w'→K (a.put d v') w'):o.wp P a w K Q:=by
 subst hd
 obtain ⟨i,hi,hz,hsize,hby⟩:=info_parts hi
 have ad:(ys.length+1)*bytes≤1000001*1000:=Nat.mul_le_mul (by omega) hbytes
 refine wp_append_own w s x t ho B T i z 1 bytes ht hi hz hsize hby hzs (by omega) v ys.length ys hs hown ⟨b,0,none⟩ 1 c [u] hx rfl (fun j y hj=>?_) (fun y hy=>?_) (by unfold maxLen;omega) (by omega) hBw ?_
 ·have aa:j=0:=by
   have:=(List.getElem?_eq_some_iff.1 hj).1
   simp at this;omega
  subst aa
  simp only [List.getElem?_cons_zero,Option.some.injEq] at hj
  subst hj
  exact zc1 hL 0
 ·simp only [List.mem_singleton] at hy
  subst hy;exact hu
 intro v' w' h2 hg _
 have hown':=hown
 have hnew:∀ k,v.ownBlock=some k→B≤k∧∃ cur,w.heap[k]?=some (.cells cur T (0,0)):=by
  intro k hk
  rcases hown'.2 with ⟨rfl,_⟩ | ⟨g,cap,cur,rfl,hb,hgg,_⟩
  ·simp [Value.ownBlock] at hk
  simp [Value.ownBlock] at hk
  subst hk;exact ⟨hb,cur,hgg⟩
 refine h v' w' ?_ ⟨hg.os,hg.tape,hg.output,hg.size,fun k cs t fr ht hk=>?_⟩ ?_
 ·unfold OwnS;simpa using h2
 ·rw [hg.block k (ze8 hk) (fun e=>?_)]
  ·exact hk
  obtain ⟨_,cur,hc⟩:=hnew k e.symm
  rw [hk] at hc
  simp only [Option.some.injEq,Obj.cells.injEq] at hc
  exact ht hc.2.1
 refine Below.trans hB ⟨hg.os,hg.tape,hg.output,hg.size,fun k hk=>hg.block k (Nat.lt_of_lt_of_le hk hB.size) (fun e=>?_)⟩
 have:=(hnew k e.symm).1
 omega
theorem OwnS.block {w:World} {T B:Nat} {v:Value} {ys:List Value} (h:OwnS w T B v ys) (hp:0<ys.length):
  ∃ g cap cur,v=.slice (some ⟨g,0,none⟩) ys.length cap∧B≤g∧w.heap[g]?=some (.cells cur T (0,0))∧ys.length≤cap∧cap≤maxLen∧cur.size=cap∧cur.toList.take ys.length=ys:=by
 rcases h.2 with ⟨rfl,hn⟩ | ⟨g,cap,cur,rfl,hb,hg,h1,h2,h3,h4⟩
 ·omega
 exact ⟨g,cap,cur,rfl,hb,hg,h1,h2,by omega,by simpa using h4⟩
theorem OwnS.snoc {w:World} {T B:Nat} {v:Value} {L:List (List UInt8)} {X:List UInt8} {f:List UInt8→Value} (h:OwnS w T B v (L.map f++[f X])):OwnS w T B v ((L++[X]).map f):=by
 simpa using h
end
theorem zE8 (x y:List UInt8):(⟨x.toArray⟩:ByteArray)++⟨y.toArray⟩=⟨(x++y).toArray⟩:=by
 apply ByteArray.ext
 rw [ByteArray.data_append]
 simp
theorem zO4 {P:Program} {a:Act} {o:Oper} {w:World} (t t2:TypeId) (x y:Operand) (A B:List UInt8) (hop:o.op=.binOp .add t x y t2) (hx:a.eval x=.string ⟨A.toArray⟩) (hy:a.eval y=.string ⟨B.toArray⟩)
  (h:A.length+B.length≤9223372036854775807):RunV P a o w (.string ⟨(A++B).toArray⟩):=by
 have hrun:=run_string_add_sum (P:=P) w ⟨A.toArray⟩ ⟨B.toArray⟩ (by show A.toArray.size+B.toArray.size≤_;simpa using h)
 rw [zE8] at hrun
 unfold RunV execOp
 simp only [hop,hx,hy]
 simp [go_sem,binOp,eqGuard,hrun]
section
variable {P:Program} {a:Act} {o:Oper} {w:World} {Q:Exit→Act→World→Prop} {K:Act→World→Prop} {ops:Array Oper} {l:List Value} {ds:List Deferred} {w0:World}

theorem rg {id:Nat} (r:List Nat) (h:wpOps P ops Q r a w) (hr:List.range ops.size=r:=by rfl):(Code.region id ops false).wp P Q a w:=
 wp_region (by rw [hr];exact h)
theorem sv {i:Nat} {rest:List Nat} (d:Nat) (v:Value) {l':List Value} (h:wpOps P ops Q rest ⟨l'.toArray,ds⟩ w) (hl:l.set d v=l':=by simp only [p3,p4]<;>rfl) (ho:ops[i]?=some o:=by rfl) (hd:o.dst=some d:=by rfl) (hw:Region.wanted o (yielded ops (⟨l.toArray,ds⟩:Act).tmps)=true:=by kernel_rfl)
  (hv:(execOp (⟨l.toArray,ds⟩:Act).eval o).run P w=.ok (.value v) w:=by kernel_rfl):wpOps P ops Q (i::rest) ⟨l.toArray,ds⟩ w:=
 sq_val _ v ho hd hw hv (by rw [p1];show wpOps P ops Q rest ⟨l.toArray.setIfInBounds d v,ds⟩ w;rw [p2];rw [hl];exact h)
theorem sw {i:Nat} {rest:List Nat} (d:Nat) (v:Value) {l':List Value} (ho:ops[i]?=some o) (hv:RunV P ⟨l.toArray,ds⟩ o w v) (h:wpOps P ops Q rest ⟨l'.toArray,ds⟩ w) (hl:l.set d v=l':=by simp only [p3,p4]<;>rfl) (hd:o.dst=some d:=by rfl) (hw:Region.wanted o (yielded ops (⟨l.toArray,ds⟩:Act).tmps)=true:=by kernel_rfl):
  wpOps P ops Q (i::rest) ⟨l.toArray,ds⟩ w:=sv d v h hl ho hd hw hv
theorem ss {i:Nat} {rest:List Nat} (d:Nat) {l':List Value} (h:wpOps P ops Q rest ⟨l'.toArray,ds⟩ w) (hl:l.set d undef=l':=by simp only [p3,p4]<;>rfl) (ho:ops[i]?=some o:=by rfl) (hd:o.dst=some d:=by rfl) (hw:Region.wanted o (yielded ops (⟨l.toArray,ds⟩:Act).tmps)=false:=by kernel_rfl):
  wpOps P ops Q (i::rest) ⟨l.toArray,ds⟩ w:=
 sq_skip _ ho hd hw (by rw [p1];show wpOps P ops Q rest ⟨l.toArray.setIfInBounds d undef,ds⟩ w;rw [p2];rw [hl];exact h)
theorem se {i:Nat} {rest:List Nat} (h:o.wp P a w (fun a w=>wpOps P ops Q rest a w) Q) (ho:ops[i]?=some o:=by rfl) (hw:Region.wanted o (yielded ops a.tmps)=true:=by kernel_rfl):wpOps P ops Q (i::rest) a w:=by
 rw [wpOps_cons]
 unfold wpOp
 simp only [ho,hw,if_true]
 exact .inl h

variable {S:World→Prop} {S0:World→Prop} {HS:List (List Nat × (World→Prop))} {listed:Array Bool} {fin:Act→World→Prop} {i:Nat} {rest:List (Bool × Nat)}
theorem zd1 (d:Nat) (v:Value):(⟨l.toArray,ds⟩:Act).put (some d) v=⟨(l.set d v).toArray,ds⟩:=by
 rw [p1];show (⟨l.toArray.setIfInBounds d v,ds⟩:Act)=_;rw [p2]
theorem ov (d:Nat) (v:Value) {l':List Value} (h:zh6 P ops Q S rest ⟨l'.toArray,ds⟩ w) (hl:l.set d v=l':=by simp only [p3,p4]<;>rfl) (ho:ops[i]?=some o:=by rfl) (hd:o.dst=some d:=by rfl) (hg:Region.wanted o (yielded ops (⟨l.toArray,ds⟩:Act).tmps)=true:=by kernel_rfl)
  (hv:∀ w,S w→(execOp (⟨l.toArray,ds⟩:Act).eval o).run P w=.ok (.value v) w:=by intro _ _;kernel_rfl):zh6 P ops Q S ((true,i)::rest) ⟨l.toArray,ds⟩ w:=
 zY9 _ v ho hd hg hv (by rw [zd1];rw [hl];exact h)
theorem ow (d:Nat) (v:Value) {l':List Value} (ho:ops[i]?=some o) (hv:∀ w,S w→RunV P ⟨l.toArray,ds⟩ o w v) (h:zh6 P ops Q S rest ⟨l'.toArray,ds⟩ w) (hl:l.set d v=l':=by simp only [p3,p4]<;>rfl) (hd:o.dst=some d:=by rfl) (hg:Region.wanted o (yielded ops (⟨l.toArray,ds⟩:Act).tmps)=true:=by kernel_rfl):
  zh6 P ops Q S ((true,i)::rest) ⟨l.toArray,ds⟩ w:=ov d v h hl ho hd hg hv
theorem os (d:Nat) {l':List Value} (h:zh6 P ops Q S rest ⟨l'.toArray,ds⟩ w) (hl:l.set d undef=l':=by simp only [p3,p4]<;>rfl) (ho:ops[i]?=some o:=by rfl) (hd:o.dst=some d:=by rfl) (hg:Region.wanted o (yielded ops (⟨l.toArray,ds⟩:Act).tmps)=false:=by kernel_rfl):
  zh6 P ops Q S ((true,i)::rest) ⟨l.toArray,ds⟩ w:=ord_skip _ ho hd hg (by rw [zd1];rw [hl];exact h)
theorem oz (d:Nat) {l':List Value} (hS:S w) (h:zh6 P ops Q S rest ⟨l'.toArray,ds⟩ w) (hl:l.set d undef=l':=by simp only [p3,p4]<;>rfl) (ho:ops[i]?=some o:=by rfl) (hd:o.dst=some d:=by rfl) (hg:Region.wanted o (yielded ops (⟨l.toArray,ds⟩:Act).tmps)=false:=by kernel_rfl):
  zh6 P ops Q S ((false,i)::rest) ⟨l.toArray,ds⟩ w:=zJ4 _ ho hd hg hS (by rw [zd1];rw [hl];exact h)
theorem oe (h:o.wp P a w (fun a w=>S w∧zh6 P ops Q S rest a w) Q) (ho:ops[i]?=some o:=by rfl) (hg:Region.wanted o (yielded ops a.tmps)=true:=by kernel_rfl):zh6 P ops Q S ((false,i)::rest) a w:=by
 unfold zh6 wpOp
 simp only [ho]
 rw [if_pos hg]
 exact .inl h
theorem tv (d:Nat) (v:Value) {l':List Value} (h:zf7 P ops Q S0 HS rest (listed.setIfInBounds i true) ⟨l'.toArray,ds⟩ w) (hl:l.set d v=l':=by simp only [p3,p4]<;>rfl) (ho:ops[i]?=some o:=by rfl) (hd:o.dst=some d:=by rfl) (hg:Region.wanted o (yielded ops (⟨l.toArray,ds⟩:Act).tmps)=true:=by kernel_rfl)
  (hv:∀ w,S0 w∧zg7 (zr7 ops i) HS w→(execOp (⟨l.toArray,ds⟩:Act).eval o).run P w=.ok (.value v) w:=by intro _ _;kernel_rfl):zf7 P ops Q S0 HS ((true,i)::rest) listed ⟨l.toArray,ds⟩ w:=
 ort_pure _ v ho hd hg hv (by rw [zd1];rw [hl];exact h)
theorem tw (d:Nat) (v:Value) {l':List Value} (ho:ops[i]?=some o) (hv:∀ w,S0 w∧zg7 (zr7 ops i) HS w→RunV P ⟨l.toArray,ds⟩ o w v) (h:zf7 P ops Q S0 HS rest (listed.setIfInBounds i true) ⟨l'.toArray,ds⟩ w) (hl:l.set d v=l':=by simp only [p3,p4]<;>rfl) (hd:o.dst=some d:=by rfl)
  (hg:Region.wanted o (yielded ops (⟨l.toArray,ds⟩:Act).tmps)=true:=by kernel_rfl):zf7 P ops Q S0 HS ((true,i)::rest) listed ⟨l.toArray,ds⟩ w:=tv d v h hl ho hd hg hv
theorem ts (d:Nat) {l':List Value} (h:zf7 P ops Q S0 HS rest (listed.setIfInBounds i true) ⟨l'.toArray,ds⟩ w) (hl:l.set d undef=l':=by simp only [p3,p4]<;>rfl) (ho:ops[i]?=some o:=by rfl) (hd:o.dst=some d:=by rfl) (hg:Region.wanted o (yielded ops (⟨l.toArray,ds⟩:Act).tmps)=false:=by kernel_rfl):
  zf7 P ops Q S0 HS ((true,i)::rest) listed ⟨l.toArray,ds⟩ w:=ort_skip _ ho hd hg (by rw [zd1];rw [hl];exact h)
theorem te (h:o.wp P a w (fun a w=>S0 w∧zg7 (zF3 (listed.setIfInBounds i true)) HS w∧zf7 P ops Q S0 HS rest (listed.setIfInBounds i true) a w) Q) (ho:ops[i]?=some o:=by rfl) (hg:Region.wanted o (yielded ops a.tmps)=true:=by kernel_rfl):
  zf7 P ops Q S0 HS ((false,i)::rest) listed a w:=
 ort_eff ho hg (fun _ hK=>Oper.wp_mono (fun a w h=>hK a w h.1 h.2.1 h.2.2) h)
theorem fv (d:Nat) (v:Value) {l':List Value} (h:zo4 P ops Q S fin rest ⟨l'.toArray,ds⟩ w) (hl:l.set d v=l':=by simp only [p3,p4]<;>rfl) (ho:ops[i]?=some o:=by rfl) (hd:o.dst=some d:=by rfl) (hg:o.guard=none:=by rfl)
  (hv:∀ w,S w→(execOp (⟨l.toArray,ds⟩:Act).eval o).run P w=.ok (.value v) w:=by intro _ _;kernel_rfl):zo4 P ops Q S fin ((true,i)::rest) ⟨l.toArray,ds⟩ w:=
 flo_pure _ v ho hd hg hv (by rw [zd1];rw [hl];exact h)
theorem fw (d:Nat) (v:Value) {l':List Value} (ho:ops[i]?=some o) (hv:∀ w,S w→RunV P ⟨l.toArray,ds⟩ o w v) (h:zo4 P ops Q S fin rest ⟨l'.toArray,ds⟩ w) (hl:l.set d v=l':=by simp only [p3,p4]<;>rfl) (hd:o.dst=some d:=by rfl) (hg:o.guard=none:=by rfl):
  zo4 P ops Q S fin ((true,i)::rest) ⟨l.toArray,ds⟩ w:=fv d v h hl ho hd hg hv

theorem ec {f:FuncId} {args:Array Value} {R:Ending→World→Prop} (d:Nat) (hc:Calls P f args w R) (h:∀ e w',R e w'→∃ v,e=.returned v∧K ⟨(l.set d v).toArray,ds⟩ w')
  (hd:o.dst=some d:=by rfl) (hrun:(execOp (⟨l.toArray,ds⟩:Act).eval o).run P w=.ok (.enter f args) w:=by kernel_rfl):o.wp P ⟨l.toArray,ds⟩ w K Q:=
 zh0 _ hd hrun hc (fun e w' he=>by obtain ⟨v,hv,hk⟩:=h e w' he;exact ⟨v,hv,by rw [zd1];exact hk⟩)
theorem eb {x:Operand} (t:TypeId) (cs:Array Value) (d:Nat) (hB:Gr w0 w) (h:∀ b w',Gr w w'→Lc w' b cs t→w.heap.size≤b→w0.heap.size≤b→Gr w0 w'→K ⟨(l.set d (.pointer (some ⟨b,0,none⟩))).toArray,ds⟩ w')
  (hd:o.dst=some d:=by rfl) (hop:o.op=.box t x:=by rfl) (hx:(⟨l.toArray,ds⟩:Act).eval x=.agg cs:=by rfl):o.wp P ⟨l.toArray,ds⟩ w K Q:=
 zy0 t x _ cs _ hd hop hx rfl (fun b w' g L q=>by rw [zd1];exact h b w' g L q (Nat.le_trans (Below.size hB) q) (hB.trans g))
theorem ea (t:TypeId) (cs:Array Value) (d:Nat) (hB:Gr w0 w) (h:∀ b w',Gr w w'→Lc w' b cs t→w.heap.size≤b→w0.heap.size≤b→Gr w0 w'→K ⟨(l.set d (.pointer (some ⟨b,0,none⟩))).toArray,ds⟩ w')
  (hd:o.dst=some d:=by rfl) (hop:o.op=.alloc t:=by rfl) (hz:(P.info? t).map (·.zero)=some (some (.agg cs)):=by kernel_rfl):o.wp P ⟨l.toArray,ds⟩ w K Q:=
 ze1 t _ cs _ hd hop hz rfl (fun b w' g L q=>by rw [zd1];exact h b w' g L q (Nat.le_trans (Below.size hB) q) (hB.trans g))
theorem es {x y:Operand} {tt b:Nat} {cs:Array Value} (t:TypeId) (off:Nat) (v:Value) (vs:List Value) (cs':Array Value) (hL:Lc w b cs tt) (hB:Gr w0 w) (q:w0.heap.size≤b) (h1:One1 vs)
  (h:∀ w',St w w' b→Kp w w'→Lc w' b cs' tt→Gr w0 w'→K ⟨l.toArray,ds⟩ w')
  (hop:o.op=.store t x y:=by rfl) (hd:o.dst=none:=by rfl) (hx:(⟨l.toArray,ds⟩:Act).eval x=.pointer (some ⟨b,off,none⟩):=by rfl) (hy:(⟨l.toArray,ds⟩:Act).eval y=v:=by rfl) (hv:v.cells=vs.toArray:=by rfl)
  (hs:(P.info? t).map (·.size)=some vs.length:=by kernel_rfl) (hoff:off+vs.length≤cs.size:=by exact Nat.le_of_ble_eq_true rfl) (hcs:zh1 cs off vs=cs':=by kernel_rfl) (ht:tt≠171:=by decide):o.wp P ⟨l.toArray,ds⟩ w K Q:=
 zd2 t x y b off v vs cs cs' tt hop hd hx hy hv hL hs hoff h1 hcs (fun w' st N=>h w' st (st.kp hL ht) N (st.gr hB q))
theorem rl {x:Operand} {cs:Array Value} {tt:TypeId} {b:Nat} (t:TypeId) (off:Nat) (vs:List Value) (hL:Lc w b cs tt) (hop:o.op=.load t x:=by rfl) (hx:a.eval x=.pointer (some ⟨b,off,none⟩):=by rfl)
  (hv:(cs.toList.drop off).take vs.length=vs:=by rfl) (hs:zg9 P t=some vs.length:=by kernel_rfl):RunV P a o w (.agg vs.toArray):=rv_load t x b off cs tt vs hop hx hL hv hs
theorem rk {x:Operand} {cs:Array Value} {tt:TypeId} {b:Nat} {v:Value} (t:TypeId) (off:Nat) (hL:Lc w b cs tt) (hop:o.op=.load t x:=by rfl) (hx:a.eval x=.pointer (some ⟨b,off,none⟩):=by rfl)
  (hv:cs[off]?=some v:=by rfl) (hs:zp4 P t=true:=by kernel_rfl):RunV P a o w v:=rv_load1 t x b off cs tt v hop hx hL hv hs
end
end Go.Proofs.YtjhflekncldflaaGreatDoor
namespace Go.Proofs.YtjhflekncldflaaGreatDoor
open Go

def padk:Nat→Nat→List UInt8
 | 0,_=>[]
 | k+1,r=>padk k (r/10)++[UInt8.ofNat (48+r % 10)]
theorem zg3 {u:Nat} (h:10≤u):Lib.decDigits u=Lib.decDigits (u/10)++[UInt8.ofNat (48+u % 10)]:=by
 rw [Lib.decDigits,dif_neg (by omega)]
theorem zd3 {u:Nat} (h:u<10):Lib.decDigits u=[UInt8.ofNat (48+u)]:=by rw [Lib.decDigits,dif_pos h]
theorem zD7:∀ (k q r:Nat),0<q→r<10 ^ k→Lib.decDigits (q*10 ^ k+r)=Lib.decDigits q++padk k r
 | 0,q,r,_,hr=>by simp at hr;subst hr;simp [padk]
 | k+1,q,r,hq,hr=>by
  have e:q*10 ^ (k+1)+r=(q*10 ^ k+r/10)*10+r % 10:=by
   rw [Nat.pow_succ,Nat.add_mul,← Nat.mul_assoc];omega
  have hp:0<10 ^ k:=Nat.pow_pos (by omega)
  have aa:1≤q*10 ^ k:=Nat.mul_pos hq hp
  rw [e,zg3 (by omega)]
  have e1:((q*10 ^ k+r/10)*10+r % 10)/10=q*10 ^ k+r/10:=by omega
  have e2:((q*10 ^ k+r/10)*10+r % 10) % 10=r % 10:=by omega
  rw [e1,e2,zD7 k q (r/10) hq (by rw [Nat.pow_succ] at hr;omega),List.append_assoc]
  rfl
theorem zy7:∀ k,padk k 0=Lib.repeatL [48] k
 | 0=>rfl
 | k+1=>by
  have h:∀ k,Lib.repeatL [48] k++[48]=[48]++Lib.repeatL [48] k:=fun k=>by
   induction k with
   | zero=>rfl
   | succ k ih=>simp only [Lib.repeatL,List.append_assoc,ih]
  rw [padk,Nat.zero_div,zy7 k]
  exact h k
theorem zr4:∀ (k u:Nat),u<10 ^ (k+1)→(Lib.decDigits u).length≤k+1
 | 0,u,h=>by rw [zd3 (by simpa using h)];simp
 | k+1,u,h=>by
  by_cases h1:u<10
  ·rw [zd3 h1];simp
  rw [zg3 (by omega)]
  have:=zr4 k (u/10) (by rw [Nat.pow_succ] at h;omega)
  simp;omega
theorem zo2 (u:Nat):0<(Lib.decDigits u).length:=by
 by_cases h1:u<10
 ·rw [zd3 h1];simp
 rw [zg3 (by omega)];simp
theorem zK6:∀ (k u:Nat),u<10 ^ (k+1)→padk (k+1) u=Lib.repeatL [48] (k+1 - (Lib.decDigits u).length)++Lib.decDigits u
 | 0,u,h=>by
  rw [zd3 (by simpa using h)]
  have:u % 10=u:=by simp at h;omega
  simp [padk,this,Lib.repeatL]
 | k+1,u,h=>by
  rw [padk]
  by_cases h1:u<10
  ·have e1:u/10=0:=by omega
   have e2:u % 10=u:=by omega
   rw [e1,e2,zy7,zd3 h1];rfl
  rw [zK6 k (u/10) (by rw [Nat.pow_succ] at h;omega),List.append_assoc,← zg3 (by omega)]
  congr 2
  rw [zg3 (u:=u) (by omega)]
  simp
def grp (u:Nat):List UInt8:=if 0<u/1000000000 then Lib.repeatL [48] (9 - (Lib.decDigits (u % 1000000000)).length)++Lib.decDigits (u % 1000000000) else Lib.decDigits (u % 1000000000)
def zH3 (u:Nat):List (List UInt8):=if h:u=0 then [] else grp u::zH3 (u/1000000000)
termination_by u
decreasing_by omega
theorem zp7:zH3 0=[]:=by rw [zH3];simp
theorem zt9 {u:Nat} (h:0<u):zH3 u=grp u::zH3 (u/1000000000):=by rw [zH3,dif_neg (by omega)]
theorem zS4:∀ (n u:Nat),u≤n→0<u→(zH3 u).reverse.flatten=Lib.decDigits u:=by
 intro n
 induction n with
 | zero=>intro u h h0;omega
 | succ n ih=>
  intro u h h0
  rw [zt9 h0,List.reverse_cons,List.flatten_append]
  simp only [List.flatten_cons,List.flatten_nil,List.append_nil]
  unfold grp
  by_cases hq:0<u/1000000000
  ·rw [if_pos hq,ih _ (by omega) hq]
   have hr:u % 1000000000<10 ^ (8+1):=by omega
   rw [← zK6 8 _ hr]
   have:=zD7 9 (u/1000000000) (u % 1000000000) hq (by omega)
   rw [← this]
   congr 1
   omega
  have e:u/1000000000=0:=by omega
  rw [if_neg hq,e,zp7]
  simp only [List.reverse_nil,List.flatten_nil,List.nil_append]
  congr 1
  omega
theorem zs1 (l:List (List UInt8)):Lib.join l []=l.flatten:=by
 unfold Lib.join List.intercalate
 induction l with
 | nil=>rfl
 | cons a l ih=>
  cases l with
  | nil=>simp
  | cons b l=>simp only [List.intersperse_cons_cons,List.flatten_cons,List.nil_append] at ih ⊢;rw [ih]
theorem zK7:∀ (k u:Nat),u<2 ^ k→(zH3 u).length≤k
 | 0,u,h=>by
  have:u=0:=by simpa using h
  subst this;rw [zp7];simp
 | k+1,u,h=>by
  by_cases h0:u=0
  ·subst h0;rw [zp7];simp
  rw [zt9 (by omega),List.length_cons]
  have:=zK7 k (u/1000000000) (by rw [Nat.pow_succ] at h;omega)
  omega
theorem zS5 {u:Nat} (h:0<u):0<(zH3 u).length:=by rw [zt9 h];simp
theorem zh5 (k u:Nat) (h:u<2 ^ k):(Lib.decDigits u).length≤k+1:=by
 refine zr4 k u ?_
 have h1:2 ^ k≤10 ^ k:=Nat.pow_le_pow_left (by omega) k
 have h2:10 ^ k≤10 ^ (k+1):=Nat.pow_le_pow_right (by omega) (by omega)
 omega
theorem dec9 (u:Nat):(Lib.decDigits (u % 1000000000)).length≤9:=zr4 8 _ (by omega)
theorem zD8 {L:List (List UInt8)} {u N:Nat} {X:List UInt8} (h:L++zH3 u=zH3 N) (h0:0<u) (hX:X=grp u):(L++[X])++zH3 (u/1000000000)=zH3 N:=by
 rw [← h,zt9 h0,hX,List.append_assoc];rfl
theorem grp_hi {u:Nat} (h:0<u/1000000000):Lib.repeatL [48] (9 - (Lib.decDigits (u % 1000000000)).length)++Lib.decDigits (u % 1000000000)=grp u:=by unfold grp;rw [if_pos h]
theorem grp_lo {u:Nat} (h:¬ 0<u/1000000000):Lib.decDigits (u % 1000000000)=grp u:=by unfold grp;rw [if_neg h]
def zd4 (q:Rat):List UInt8:=if q.den=1 then Lib.itoa q.num else Lib.itoa q.num++[47]++Lib.itoa (q.den:Int)
theorem zS6 {q:Rat} (h:q.den=1):zd4 q=Lib.itoa q.num:=if_pos h
theorem zS7 {q:Rat} (h:¬ q.den=1):zd4 q=Lib.itoa q.num++[47]++Lib.itoa (q.den:Int):=if_neg h
end Go.Proofs.YtjhflekncldflaaGreatDoor
namespace Go.Proofs.YtjhflekncldflaaGreatDoor
open Go.RowKit

def Tab (w:World):Prop:=Lib.TabIs Tryz.prog w "internal/strconv.uint64pow10" .u64 Lib.pow10Tab
theorem Tab.gr {w w':World} (h:Tab w) (g:Gr w w'):Tab w':=by
 unfold Tab Lib.TabIs World.var? at*
 cases hn:Tryz.prog.globalNamed "internal/strconv.uint64pow10" with
 | none=>rw [hn] at h;cases h
 | some k=>
  rw [hn] at h
  simp only [Option.bind_some] at h ⊢
  cases hk:w.heap[k]? with
  | none=>rw [hk] at h;cases h
  | some o=>rw [g.heap hk];rw [hk] at h;exact h
theorem itoa_t (n:Int) (h0:0≤n) (h1:n<1000000000) {w:World} (ht:Tab w):
  Calls Tryz.prog 88 #[.int .i64 n] w fun e w'=>e=.returned (.string ⟨(Lib.decDigits n.toNat).toArray⟩)∧Gr w w':=by
 refine (Tryz.strconv_Itoa n (by omega) (by omega) w ht).mono ?_
 rintro e w' ⟨he,k,os,rfl⟩
 refine ⟨?_,?_⟩
 ·rw [he];unfold Lib.itoa;rw [if_neg (by omega)]
 refine ⟨rfl,rfl,rfl,by simp [Sort.grow],fun i hi=>?_⟩
 show (w.heap++os)[i]?=w.heap[i]?
 rw [Array.getElem?_append_left hi]
theorem repeat9 (n:Nat) (h:n≤9) (w:World):
  Calls Tryz.prog 89 #[.string ⟨#[48]⟩,.int .i64 (9 - (n:Int))] w fun e w'=>e=.returned (.string ⟨(Lib.repeatL [48] (9 - n)).toArray⟩)∧Gr w w':=by
 have e:(9 - (n:Int))=((9 - n:Nat):Int):=by omega
 rw [e]
 refine (Tryz.strings_Repeat ⟨#[48]⟩ (9 - n) w (by omega) ?_).mono ?_
 ·show 1*(9 - n)≤_
  omega
 rintro e w' ⟨he,hb⟩
 exact ⟨he,hb⟩

def ze3 (l:List UInt8):Value:=.string ⟨l.toArray⟩
theorem zt6:∀ (vs:List Value) (off:Nat) (cs:Array Value),off+vs.length≤cs.size→(zh1 cs off vs).size=cs.size∧∀ i,(zh1 cs off vs)[i]?=if off≤i∧i<off+vs.length then vs[i - off]? else cs[i]?
 | [],off,cs,_=>⟨rfl,fun i=>by rw [if_neg (by simp only [List.length_nil];omega)];rfl⟩
 | v::vs,off,cs,h=>by
  simp only [List.length_cons] at h
  obtain ⟨h1,h2⟩:=zt6 vs (off+1) (cs.setIfInBounds off v) (by rw [Array.size_setIfInBounds];omega)
  refine ⟨by rw [zh1,h1];simp,fun i=>?_⟩
  rw [zh1,h2 i]
  by_cases e:off=i
  ·subst e
   have h9:off<cs.size:=by omega
   rw [if_neg (by omega),if_pos (by simp)]
   simp [h9]
  by_cases hi:off+1≤i∧i<off+1+vs.length
  ·rw [if_pos hi,if_pos (by simp;omega)]
   have:i - off=(i - (off+1))+1:=by omega
   rw [this,List.getElem?_cons_succ]
  rw [if_neg hi,if_neg (by simp;omega),Array.getElem?_setIfInBounds_ne e]
theorem zG6 {w:World} {T:Nat} {L:List (List UInt8)} {g:Nat} {cur:Array Value} (hg:w.heap[g]?=some (.cells cur T (0,0))) (ht:cur.toList.take (L.map ze3).length=L.map ze3) (i:Nat) (hi:i<L.length):
  w.cell? ⟨g,i,none⟩=some (ze3 (L.getD i [])):=by
 rw [zc1 hg]
 have h1:(cur.toList.take (L.map ze3).length)[i]?=(L.map ze3)[i]?:=by rw [ht]
 rw [List.getElem?_take_of_lt (by simpa using hi)] at h1
 rw [Array.getElem?_toList] at h1
 rw [h1]
 simp [hi]
theorem zK4 {w:World} {B:Nat} {v:Value} {L:List (List UInt8)} (h:OwnS w 9 B v (L.map ze3)) (hp:0<L.length):
  Calls Tryz.prog 90 #[v] w fun e w'=>e=.returned (.tuple #[])∧OwnS w' 9 B v (L.reverse.map ze3)∧Wt 9 w w'∧(∀ w0,Gr w0 w→w0.heap.size≤B→Gr w0 w'):=by
 obtain ⟨g,cap,cur,rfl,hb,hg,h1,h2,h3,h4⟩:=h.block (by simpa using hp)
 rw [List.length_map] at h1 ⊢
 have hlen:L.length≤9223372036854775807:=by unfold maxLen at h2;omega
 refine (Tryz.slices_Reverse_string_cells g 0 L.length cap (fun i=>⟨(L.getD i []).toArray⟩) w hlen (fun i hi=>?_) (fun i hi=>zj0 hg _)).mono ?_
 ·rw [Nat.zero_add];exact zG6 hg h4 i hi
 rintro e w' ⟨he,q,rfl⟩
 have es:(Lib.strsOf (fun i=>⟨(L.getD i []).toArray⟩) L.length)=L:=by
  unfold Lib.strsOf
  apply List.ext_getElem
  ·simp
  intro i h1 h2;simp at h1;simp [h1]
 rw [es]
 have hst:=St.setCells g (L.reverse.map encStr) 0 (w.drewN q)
 have hh:((w.drewN q).setCells g 0 (L.reverse.map encStr)).heap[g]?=some (.cells (zh1 cur 0 (L.reverse.map encStr)) 9 (0,0)):=zk8 _ 0 (w:=w.drewN q) hg
 obtain ⟨ac,aa⟩:=zt6 (L.reverse.map encStr) 0 cur (by simp;omega)
 have hbl:∀ k,k≠g→((w.drewN q).setCells g 0 (L.reverse.map encStr)).heap[k]?=w.heap[k]?:=fun k hk=>hst.block k hk
 refine ⟨he,⟨by simp,.inr ⟨g,cap,_,by simp,hb,hh,by simpa using h1,h2,by rw [ac];omega,?_⟩⟩,⟨hst.os,hst.tape,hst.output,Nat.le_of_eq hst.size.symm,fun b cs t fr ht hk=>?_⟩,fun w0 hG hB=>?_⟩
 ·apply List.ext_getElem?
  intro i
  by_cases hi:i<L.length
  ·rw [List.getElem?_take_of_lt (by simpa using hi),Array.getElem?_toList,aa i,if_pos (by simpa using hi)]
   rfl
  rw [List.getElem?_eq_none (by simp;omega),List.getElem?_eq_none (by simp;omega)]
 ·rw [hbl b (fun e=>?_)]
  ·exact hk
  subst e
  rw [hg] at hk
  simp only [Option.some.injEq,Obj.cells.injEq] at hk
  exact ht hk.2.1.symm
 exact Below.trans hG ⟨hst.os,hst.tape,hst.output,Nat.le_of_eq hst.size.symm,fun k hk=>hbl k (by omega)⟩
theorem join_own {w:World} {B:Nat} {v:Value} {L:List (List UInt8)} (h:OwnS w 9 B v (L.map ze3)) (hp:0<L.length) (hl:L.flatten.length≤140737488355328) (hn:L.length≤1000000):
  Calls Tryz.prog 91 #[v,.string ⟨#[]⟩] w fun e w'=>e=.returned (.string ⟨L.flatten.toArray⟩)∧Gr w w':=by
 obtain ⟨g,cap,cur,rfl,hb,hg,h1,h2,h3,h4⟩:=h.block (by simpa using hp)
 have em:((L.map fun l=>(⟨l.toArray⟩:ByteArray)).map fun x=>x.data.toList)=L:=by
  rw [List.map_map]
  conv=>rhs;rw [← List.map_id L]
  exact List.map_congr_left fun l _=>by simp
 have:=Tryz.strings_Join g 0 cap (L.map fun l=>⟨l.toArray⟩) ⟨#[]⟩ w (fun j x hj=>?_) (ze8 hg) (by simp;omega) (by simpa using h1) (by
  rw [em];show (Lib.join L []).length≤_;rw [zs1];exact hl)
 ·rw [em] at this
  simp only [List.length_map] at this ⊢
  refine this.mono ?_
  rintro e w' ⟨he,hb⟩
  refine ⟨?_,hb⟩
  rw [he]
  show Ending.returned (.string ⟨(Lib.join L []).toArray⟩)=_
  rw [zs1]
 rw [Nat.zero_add,zG6 hg h4 j (by have:=(List.getElem?_eq_some_iff.1 hj).1;simpa using this)]
 obtain ⟨hj',e⟩:=List.getElem?_eq_some_iff.1 hj
 subst e
 simp at hj'
 simp [hj',ze3]
end Go.Proofs.YtjhflekncldflaaGreatDoor
namespace Go.Proofs.YtjhflekncldflaaGreatDoor
open Go.ChangeShapes Go.WideShapes Go.ChangeAt Go.RowKit

theorem zs5 {H:Type} {enc:TypeId × Value→H} {P:Program} (hl:laidOutB P=true) {W W':World} (hb:Below W.heap.size W W'):
  ∀ {ts:List TypeId} {vs:List Value} {ds:List (DataW H)} {ps:List MemPlace},(∀ t ∈ ts,P.readableRec t=true∧t<P.types.size)→DataW.TrodAll enc P W 0 (fun _=>true) true ts vs ds ps→
   (∀ x ∈ ps,x.block<W.heap.size)→DataW.TrodAll enc P W' 0 (fun b=>decide (b<W.heap.size)) true ts vs ds ps
 | [],[],[],_,_,h,_=>h
 | t::ts,v::vs,d::ds,ps,ht,h,hp=>by
  obtain ⟨p,q,h1,h2,rfl⟩:=h
  exact ⟨p,q,Below.trod hl (ht t (by simp)).1 (ht t (by simp)).2 h1 hb (fun x hx=>hp x (by simp [hx])),zs5 hl hb (fun u hu=>ht u (by simp [hu])) h2 (fun x hx=>hp x (by simp [hx])),rfl⟩
 | [],[],_::_,_,_,h,_=>by cases h
 | [],_::_,_,_,_,h,_=>by cases h
 | _::_,[],_,_,_,h,_=>by cases h
 | _::_,_::_,[],_,_,h,_=>by cases h

theorem law_post {H:Type} {enc:TypeId × Value→H} {P:Program} {f:Func} {s:ChangeSpec} {W W':World} {args:Array Value} {ds gs:List (DataW H)} {before:List MemPlace} {tb:TypeId}
  (hl:laidOutB P=true) (aa:(f.params.toList.all fun t=>P.readableRec t&&decide (t<P.types.size))=true) (hres:f.resultTypes=#[tb]) (htb:P.underlying tb=some .bool) (hv:s.vars=[])
  (hW:DataW.Whole enc P f.params.toList s.vars false W args.toList ds gs before) (hfn:s.fn H (ds++gs)={results:=[.lit (.bool true)],args:=ds}) (hb:Below W.heap.size W W'):
  s.post enc P f false true false false W args (.bool true) W':=by
 have hr:∀ t ∈ f.params.toList,P.readableRec t=true∧t<P.types.size:=fun t ht=>by
  have:=List.all_eq_true.1 aa t ht
  simpa using this
 have hlt:∀ p ∈ before,p.block<W.heap.size:=fun p hp=>hW.lt p hp
 have hW':=hW
 obtain ⟨p,q,hA,hV,rfl,_,_⟩:=hW
 rw [hv] at hV
 obtain ⟨rfl,rfl⟩:=trodVars_none hV
 refine ⟨ds,[],_,[],p,[],hW',?_,?_,?_,World.keptBut_mono (fun x hx=>⟨hx,.inr (.inl (by simpa using hx))⟩) (hb.frame (· ∈ p++[])),fun h=>by cases h⟩
 ·rw [hfn,hres]
  exact trodAll_mk1 (shut_bool htb true)
 ·rw [hfn]
  exact zs5 hl hb hr hA (fun x hx=>hlt x (by simp [hx]))
 rw [hfn,hv];rfl

theorem cell_int {P:Program} {W:World} {base u:Nat} {k:IntKind} {v:Value} (hu:P.underlying u=some (.int k)) (h:Cell.okWide P W .any base u v):∃ n,v=.int k n∧k.has n:=by
 unfold Cell.okWide at h
 rw [hu] at h
 unfold Cell.ok at h
 rw [hu] at h
 cases v<;>simp at h
 obtain ⟨rfl,h⟩:=h
 exact ⟨_,rfl,h⟩
theorem zE6 {P:Program} {W:World} {base t:Nat} {k:IntKind} {v:Value} (hu:P.underlying t=some (.int k)) (h:Value.okWide P W .any base t v):∃ n,v=.int k n∧k.has n:=by
 unfold Value.okWide at h
 rw [hu] at h
 exact cell_int hu h
theorem has_u8 {n:Int} (h:IntKind.u8.has n):0≤n∧n≤255:=h
theorem own:ownKnob Tryz.prog.godebug=none:=by kernel_rfl
theorem laidOut:laidOutB Tryz.prog=true:=by kernel_rfl
end Go.Proofs.YtjhflekncldflaaGreatDoor
namespace Go.Proofs.YtjhflekncldflaaGreatDoor
open Go.ChangeShapes Go.WideShapes Go.ChangeAt Go.RowKit

section
variable {H:Type} {enc:TypeId × Value→H}
theorem zy5 {C:Checked} {os:Os} {f:FuncId} {fn:Func} {s:OpenSpec} {conds:List PathCond} {apart:Bool} {laid:List (String × DataW Unit)} (modest:Bool) (w0:World) (args:Array Value) (hos:w0.os=os)
  (hsh:(w0.forCall (fun _ _=>0) ⟨#[],args,[]⟩).Shaped C.prog)
  (hok:Input.okWideB C.prog (w0.forCall (fun _ _=>0) ⟨#[],args,[]⟩) f ⟨#[],args,[]⟩=true)
  (hrow:s.preRow enc C.prog fn conds apart laid (w0.forCall (fun _ _=>0) ⟨#[],args,[]⟩).memory args):
  ∃ (w:World) (tape:Tape) (i:Input),w.os=os∧(w.forCall tape i).Shaped C.prog∧i.vars=[]∧Input.okWide C.prog (w.forCall tape i) .any w.heap.size f i∧
   s.preRow enc C.prog fn conds apart laid (w.forCall tape i).memory i.args∧({modest:=modest}:Assume).holds C.prog (lone (Frame.enter C.prog f i.args .normal) [] (w.forCall tape i)):=
 ⟨w0,fun _ _=>0,⟨#[],args,[]⟩,hos,hsh,(Input.okWide_of_okWideB (base:=0) hok).1,(Input.okWide_of_okWideB hok).2,hrow,by
  simp only [Assume.holds]
  exact ⟨by simp,by simp,fun _=>Modest.zero,by simp,by simp⟩⟩
end
end Go.Proofs.YtjhflekncldflaaGreatDoor
namespace Go.Proofs.YtjhflekncldflaaGreatDoor
structure Ofr where
 n:Nat
 q:Nat
 nom:Nat→Int
 ol:Nat→Nat
 lo:Nat→Nat→Int
 up:Nat→Nat→Int
 co:Nat→Nat→Int
 fc:Nat→Nat→Rat
 cn:Nat→Rat
 hl:Nat→Bool
 hh:Nat→Bool
 vl:Nat→Rat
 vh:Nat→Rat
def rmin (a b:Rat):Rat:=if b<a then b else a
def rmax (a b:Rat):Rat:=if a<b then b else a
theorem rmin_le1 (a b:Rat):rmin a b≤a:=by unfold rmin;split<;>grind
theorem rmin_le2 (a b:Rat):rmin a b≤b:=by unfold rmin;split<;>grind
theorem le_rmax1 (a b:Rat):a≤rmax a b:=by unfold rmax;split<;>grind
theorem le_rmax2 (a b:Rat):b≤rmax a b:=by unfold rmax;split<;>grind
def bmax (f:Nat→Rat):Nat→Rat
 | 0=>f 0
 | k+1=>rmax (bmax f k) (f k)
def bmin (f:Nat→Rat):Nat→Rat
 | 0=>f 0
 | k+1=>rmin (bmin f k) (f k)
theorem zX3 (f:Nat→Rat):∀ {k i:Nat},i<k→f i≤bmax f k
 | k+1,i,h=>by
  rcases Nat.lt_or_eq_of_le (Nat.le_of_lt_succ h) with h1 | rfl
  ·exact Rat.le_trans (zX3 f h1) (le_rmax1 _ _)
  exact le_rmax2 _ _
theorem zX4 (f:Nat→Rat):∀ {k i:Nat},i<k→bmin f k≤f i
 | k+1,i,h=>by
  rcases Nat.lt_or_eq_of_le (Nat.le_of_lt_succ h) with h1 | rfl
  ·exact Rat.le_trans (rmin_le1 _ _) (zX4 f h1)
  exact rmin_le2 _ _
def zn3 (f:Nat→Int):Nat→Int
 | 0=>f 0
 | k+1=>if f k<zn3 f k then f k else zn3 f k
theorem zX5 (f:Nat→Int):∀ {k i:Nat},i<k→zn3 f k≤f i
 | k+1,i,h=>by
  unfold zn3
  rcases Nat.lt_or_eq_of_le (Nat.le_of_lt_succ h) with h1 | rfl
  ·have:=zX5 f h1;split<;>omega
  split<;>omega
def zD1 (f:Nat→Int):Nat→Int
 | 0=>0
 | k+1=>zD1 f k+f k
theorem zX6 {f g:Nat→Int}:∀ {k:Nat},(∀ i,i<k→f i≤g i)→zD1 f k≤zD1 g k
 | 0,_=>Int.le_refl _
 | k+1,h=>Int.add_le_add (zX6 fun i hi=>h i (by omega)) (h k (by omega))
def zw7 (c:Rat) (f:Nat→Rat):Nat→Rat
 | 0=>c
 | k+1=>zw7 c f k+f k
theorem zJ0 {c:Rat} {f g:Nat→Rat}:∀ {k:Nat},(∀ i,i<k→f i≤g i)→zw7 c f k≤zw7 c g k
 | 0,_=>Rat.le_refl
 | k+1,h=>by
  have h1:=zJ0 (c:=c) fun i hi=>h i (Nat.lt_succ_of_lt hi)
  have h2:=h k (Nat.lt_succ_self k)
  unfold zw7;grind
namespace Ofr
variable (D:Ofr)
def ea (r i k:Nat):Rat:=D.fc r i*((D.nom i+D.lo i k:Int):Rat)
def eb (r i k:Nat):Rat:=D.fc r i*((D.nom i+D.up i k:Int):Rat)
def sl (r i k:Nat):Rat:=rmin (D.ea r i k) (D.eb r i k)
def su (r i k:Nat):Rat:=rmax (D.ea r i k) (D.eb r i k)
def at_ (l:List Nat) (i:Nat):Nat:=l.getD i 0
def xl (l:List Nat) (r i:Nat):Rat:=if i<l.length then D.sl r i (at_ l i) else bmax (D.sl r i) (D.ol i)
def xu (l:List Nat) (r i:Nat):Rat:=if i<l.length then D.su r i (at_ l i) else bmin (D.su r i) (D.ol i)
def wl (l:List Nat) (r:Nat):Rat:=zw7 (D.cn r) (D.xl l r) D.n
def wu (l:List Nat) (r:Nat):Rat:=zw7 (D.cn r) (D.xu l r) D.n
def ab (l:List Nat) (r:Nat):Bool:=D.hh r&&decide (D.vh r<D.wu l r)
def be (l:List Nat) (r:Nat):Bool:=D.hl r&&decide (D.wl l r<D.vl r)
def bad (l:List Nat) (r:Nat):Bool:=D.ab l r||D.be l r
def ff (l:List Nat):Option Nat:=(List.range D.q).find? (D.bad l)
def side (l:List Nat) (r:Nat):Int:=if D.ab l r then 1 else -1
def ch (i:Nat):Int:=zn3 (D.co i) (D.ol i)
def bc (l:List Nat) (i:Nat):Int:=if i<l.length then D.co i (at_ l i) else D.ch i
def bd (l:List Nat):Int:=zD1 (D.bc l) D.n
def vp (l:List Nat):Prop:=l.length≤D.n∧∀ i,i<l.length→at_ l i<D.ol i
end Ofr
section
variable {D:Ofr} {l m:List Nat} {r i k:Nat}
theorem zE9 (h:i<l.length):Ofr.at_ (l++m) i=Ofr.at_ l i:=by
 unfold Ofr.at_;rw [List.getD_eq_getElem?_getD,List.getD_eq_getElem?_getD,List.getElem?_append_left h]
theorem at_new:Ofr.at_ (l++[k]) l.length=k:=by
 unfold Ofr.at_;rw [List.getD_eq_getElem?_getD,List.getElem?_append_right (Nat.le_refl _)];simp
theorem Ofr.vp.snoc (h:D.vp l) (hn:l.length<D.n) (hk:k<D.ol l.length):D.vp (l++[k]):=by
 refine ⟨by simp;omega,fun i hi=>?_⟩
 simp at hi
 rcases Nat.lt_or_eq_of_le (Nat.le_of_lt_succ hi) with h1 | rfl
 ·rw [zE9 h1];exact h.2 i h1
 rw [at_new];exact hk
theorem xl_app (hm:D.vp (l++m)):D.xl (l++m) r i≤D.xl l r i:=by
 unfold Ofr.xl
 by_cases h:i<l.length
 ·rw [if_pos h,if_pos (by simp;omega),zE9 h];exact Rat.le_refl
 rw [if_neg h]
 split
 ·next h2=>exact zX3 _ (hm.2 i h2)
 exact Rat.le_refl
theorem xu_app (hm:D.vp (l++m)):D.xu l r i≤D.xu (l++m) r i:=by
 unfold Ofr.xu
 by_cases h:i<l.length
 ·rw [if_pos h,if_pos (by simp;omega),zE9 h];exact Rat.le_refl
 rw [if_neg h]
 split
 ·next h2=>exact zX4 _ (hm.2 i h2)
 exact Rat.le_refl
theorem bad_app (hm:D.vp (l++m)) (h:D.bad l r=true):D.bad (l++m) r=true:=by
  unfold Ofr.bad Ofr.ab Ofr.be at*
  simp only [Bool.or_eq_true,Bool.and_eq_true,decide_eq_true_eq] at*
  rcases h with ⟨h1,h2⟩ | ⟨h1,h2⟩
  · exact .inl ⟨h1, by have : D.wu l r ≤ D.wu (l ++ m) r := zJ0 fun i _ => xu_app hm
                       grind⟩
  exact .inr ⟨h1, by have : D.wl (l ++ m) r ≤ D.wl l r := zJ0 fun i _ => xl_app hm
                     grind⟩
theorem zJ1 (h:D.ff l=some r):r<D.q∧D.bad l r=true∧∀ j,j<r→D.bad l j=false:=by
 unfold Ofr.ff at h
 have h1:=List.find?_some h
 have h2:=List.mem_of_find?_eq_some h
 refine ⟨List.mem_range.1 h2,h1,fun j hj=>?_⟩
 obtain ⟨_,as1,bs,e,hn⟩:=List.find?_eq_some_iff_append.1 h
 have hlen:as1.length=r:=by
  have:(List.range D.q)[as1.length]?=some r:=by rw [e];simp
  have h3:=(List.getElem?_eq_some_iff.1 this).1
  rw [List.getElem?_range (by simpa using h3)] at this
  exact Option.some.inj this
 have hm:j ∈ as1:=by
  have:(List.range D.q)[j]?=some j:=List.getElem?_range (by have:=List.mem_range.1 h2;omega)
  rw [e,List.getElem?_append_left (by omega)] at this
  exact List.mem_of_getElem? this
 simpa using hn j hm
theorem zX7 (h:D.ff l=none) (hr:r<D.q):D.bad l r=false:=by
 unfold Ofr.ff at h
 have:=List.find?_eq_none.1 h r (List.mem_range.2 hr)
 simpa using this
theorem ff_eq (hr:r<D.q) (h1:D.bad l r=true) (h2:∀ j,j<r→D.bad l j=false):D.ff l=some r:=by
 cases e:D.ff l with
 | none=>rw [zX7 e hr] at h1;cases h1
 | some s=>
  obtain ⟨a,b,c⟩:=zJ1 e
  rcases Nat.lt_trichotomy r s with h | h | h
  ·rw [c r h] at h1;cases h1
  ·rw [h]
  rw [h2 s h] at b;cases b
theorem ff_no (h:∀ j,j<D.q→D.bad l j=false):D.ff l=none:=by
 cases e:D.ff l with
 | none=>rfl
 | some s=>obtain ⟨a,b,_⟩:=zJ1 e;rw [h s a] at b;cases b
theorem ff_app (hm:D.vp (l++m)) (h:(D.ff l).isSome=true):(D.ff (l++m)).isSome=true:=by
 obtain ⟨r,e⟩:=Option.isSome_iff_exists.1 h
 obtain ⟨a,b,_⟩:=zJ1 e
 cases e2:D.ff (l++m) with
 | none=>have:=zX7 e2 a;rw [bad_app hm b] at this;cases this
 | some _=>rfl
theorem bd_app (hm:D.vp (l++m)):D.bd l≤D.bd (l++m):=
 zX6 fun i _=>by
  unfold Ofr.bc
  by_cases h:i<l.length
  ·rw [if_pos h,if_pos (by simp;omega),zE9 h];exact Int.le_refl _
  rw [if_neg h]
  split
  ·next h2=>exact zX5 _ (hm.2 i h2)
  exact Int.le_refl _
end
structure Bst where
 ok:Bool
 ch:List Nat
 co:Int
def Ofr.beats (D:Ofr) (s:Bst) (l:List Nat):Bool:=s.ok&&decide (s.co≤D.bd l)
def Ofr.srch (D:Ofr):Nat→List Nat→Bst→Bst
 | 0,_,s=>s
 | g+1,l,s=>if D.beats s l then s else if (D.ff l).isSome then s else if l.length=D.n then ⟨true,l,D.bd l⟩ else (List.range (D.ol l.length)).foldl (fun s k=>D.srch g (l++[k]) s) s
def Ofr.good (D:Ofr) (c:List Nat):Prop:=D.vp c∧c.length=D.n∧(D.ff c).isSome=false
structure Bst.Inv (D:Ofr) (s:Bst):Prop where
 yes:s.ok=true→D.good s.ch∧s.co=D.bd s.ch
 no:s.ok=false→s.ch=[]∧s.co=0
def Bst.le (s t:Bst):Prop:=t.ok=true→s.ok=true∧s.co≤t.co
theorem Bst.le.refl (s:Bst):s.le s:=fun h=>⟨h,Int.le_refl _⟩
theorem Bst.le.trans {s t u:Bst} (h:s.le t) (g:t.le u):s.le u:=fun hu=>by
 obtain ⟨a,b⟩:=g hu
 obtain ⟨c,d⟩:=h a
 exact ⟨c,by omega⟩
theorem zX8 {D:Ofr}:∀ (g:Nat) (l:List Nat) (s:Bst),D.n<l.length+g→D.vp l→s.Inv D→
  (D.srch g l s).Inv D∧(D.srch g l s).le s∧∀ c,D.good (l++c)→(D.srch g l s).ok=true∧(D.srch g l s).co≤D.bd (l++c)
 | 0,l,s,hg,hv,_=>absurd hv.1 (by omega)
 | g+1,l,s,hg,hv,hs=>by
  unfold Ofr.srch
  by_cases h1:D.beats s l=true
  ·rw [if_pos h1]
   refine ⟨hs,.refl s,fun c hc=>?_⟩
   unfold Ofr.beats at h1
   simp only [Bool.and_eq_true,decide_eq_true_eq] at h1
   exact ⟨h1.1,Int.le_trans h1.2 (bd_app hc.1)⟩
  rw [if_neg h1]
  by_cases h2:(D.ff l).isSome=true
  ·rw [if_pos h2]
   refine ⟨hs,.refl s,fun c hc=>?_⟩
   have:=ff_app hc.1 h2
   rw [hc.2.2] at this;cases this
  rw [if_neg h2]
  by_cases h3:l.length=D.n
  ·rw [if_pos h3]
   refine ⟨⟨fun _=>⟨⟨hv,h3,by simpa using h2⟩,rfl⟩,fun h=>by cases h⟩,fun ht=>⟨rfl,?_⟩,fun c hc=>?_⟩
   ·unfold Ofr.beats at h1
    rw [ht] at h1
    simp only [Bool.true_and,decide_eq_true_eq] at h1
    show D.bd l≤s.co
    omega
   obtain rfl:c=[]:=List.eq_nil_of_length_eq_zero (by have:=hc.2.1;simp at this;omega)
   rw [List.append_nil];exact ⟨rfl,Int.le_refl _⟩
  rw [if_neg h3]
  have hl:l.length<D.n:=by have:=hv.1;omega
  have key:∀ K,K≤D.ol l.length→((List.range K).foldl (fun s k=>D.srch g (l++[k]) s) s).Inv D∧((List.range K).foldl (fun s k=>D.srch g (l++[k]) s) s).le s∧
    ∀ k,k<K→∀ c,D.good (l++[k]++c)→((List.range K).foldl (fun s k=>D.srch g (l++[k]) s) s).ok=true∧((List.range K).foldl (fun s k=>D.srch g (l++[k]) s) s).co≤D.bd (l++[k]++c):=by
   intro K
   induction K with
   | zero=>exact fun _=>⟨hs,.refl s,fun k h=>absurd h (Nat.not_lt_zero k)⟩
   | succ K ih=>
    intro hK
    obtain ⟨a1,a2,a3⟩:=ih (by omega)
    rw [List.range_succ,List.foldl_append]
    obtain ⟨b1,b2,b3⟩:=zX8 g (l++[K]) _ (by simp;omega) (hv.snoc hl (by omega)) a1
    refine ⟨b1,b2.trans a2,fun k hk c hc=>?_⟩
    rcases Nat.lt_or_eq_of_le (Nat.le_of_lt_succ hk) with h | rfl
    ·obtain ⟨c1,c2⟩:=a3 k h c hc
     obtain ⟨d1,d2⟩:=b2 c1
     exact ⟨d1,Int.le_trans d2 c2⟩
    exact b3 c hc
  obtain ⟨a1,a2,a3⟩:=key _ (Nat.le_refl _)
  refine ⟨a1,a2,fun c hc=>?_⟩
  match c,hc with
  | [],hc=>have:=hc.2.1;simp at this;omega
  | k::c,hc=>
   have hk:k<D.ol l.length:=by
    have:=hc.1.2 l.length (by simp)
    have e:Ofr.at_ (l++k::c) l.length=k:=by
     unfold Ofr.at_;rw [List.getD_eq_getElem?_getD,List.getElem?_append_right (Nat.le_refl _)];simp
    rwa [e] at this
   have e:l++k::c=l++[k]++c:=by simp
   rw [e] at hc ⊢
   exact a3 k hk c hc
def Ofr.best (D:Ofr):Bst:=D.srch (D.n+1) [] ⟨false,[],0⟩
theorem best_ok (D:Ofr):D.best.Inv D∧∀ c,D.good c→D.best.ok=true∧D.best.co≤D.bd c:=by
 obtain ⟨a,_,b⟩:=zX8 (D:=D) (D.n+1) [] ⟨false,[],0⟩ (by simp) ⟨Nat.zero_le _,fun i h=>by simp at h⟩ ⟨fun h=>(by cases h),fun _=>⟨rfl,rfl⟩⟩
 exact ⟨a,fun c hc=>b c hc⟩
structure Leaf where
 fx:List (Int × Int)
 least:Int
 rq:Int
 du:List (List UInt8)
def pk (l:List Nat):List (Int × Int):=(List.range l.length).map fun i:Nat=>((i:Int),((Ofr.at_ l i:Nat):Int))
def sideT (z:Int):List UInt8:=if z=1 then [49] else [45,49]
def Ofr.leaves (D:Ofr) (s:Bst):Nat→List Nat→List Leaf
 | 0,_=>[]
 | g+1,l=>if D.beats s l then [⟨pk l,D.bd l,-1,[]⟩] else match D.ff l with
  | some r=>[⟨pk l,0,(r:Int),[sideT (D.side l r)]⟩]
  | none=>if l.length=D.n then [] else (List.range (D.ol l.length)).flatMap fun k=>D.leaves s g (l++[k])
def Ofr.proves (D:Ofr) (ok:Bool) (co:Int) (x:Leaf) (l:List Nat):Bool:=
 if x.rq=-1 then x.du.isEmpty&&ok&&decide (x.least=D.bd l)&&decide (co≤x.least)
 else if x.rq<0∨(D.q:Int)≤x.rq∨x.least≠0∨x.du.length≠1 then false
 else (decide (x.du.getD 0 []=[49])&&D.ab l x.rq.toNat)||(decide (x.du.getD 0 []=[45,49])&&D.be l x.rq.toNat)
def Ofr.walk (D:Ofr) (ok:Bool) (co:Int):Nat→List Nat→List Leaf→Bool × List Leaf
 | 0,_,left=>(false,left)
 | _,_,[]=>(false,[])
 | g+1,l,x::left=>if x.fx=pk l then (D.proves ok co x l,left) else if l.length=D.n then (false,x::left) else
   (List.range (D.ol l.length)).foldl (fun (st:Bool × List Leaf) k=>if st.1 then D.walk ok co g (l++[k]) st.2 else st) (true,x::left)
end Go.Proofs.YtjhflekncldflaaGreatDoor
namespace Go.Proofs.YtjhflekncldflaaGreatDoor
section
variable {D:Ofr}
def Ofr.tail (D:Ofr):Ofr:={D with q:=D.q - 1,fc:=fun r=>D.fc (r+1),cn:=fun r=>D.cn (r+1),hl:=fun r=>D.hl (r+1),hh:=fun r=>D.hh (r+1),vl:=fun r=>D.vl (r+1),vh:=fun r=>D.vh (r+1)}
end
section
variable {D:Ofr}
def Ofr.ec (D:Ofr) (r i k:Nat) (b:Bool):Rat:=if b then D.eb r i k else D.ea r i k
def Ofr.cv (D:Ofr) (c:List Nat) (r m:Nat):Rat:=zw7 (D.cn r) (fun i=>D.ec r i (Ofr.at_ c i) (m.testBit i)) D.n
def cbits (b:Nat→Bool):Nat→Nat
 | 0=>0
 | k+1=>cbits b k+if b k then 2 ^ k else 0
end
end Go.Proofs.YtjhflekncldflaaGreatDoor
namespace Go.Proofs.YtjhflekncldflaaGreatDoor
structure Alo where
 ok:Bool
 ch:List Int
 co:Int
 pf:List Leaf
section
variable (D:Ofr)
def Ofr.inb (l:List Int):Bool:=(List.range l.length).all fun i=>decide (0≤l.getD i 0)&&decide (l.getD i 0<(D.ol i:Int))
def Ofr.pe (l:List Int):Int:=if D.n<l.length then 13 else if D.inb l then 0 else 2
def Ofr.ce (l:List Int):Int:=if l.length≠D.n then 13 else if D.inb l then 0 else 2
def ze7 (l:List Int):List Nat:=l.map Int.toNat
def zs6 (l:List Nat):List Int:=l.map fun k:Nat=>(k:Int)
def Ofr.pe2 (a:Alo):Int:=if (D.walk a.ok a.co (D.n+1) [] a.pf).1=true∧(D.walk a.ok a.co (D.n+1) [] a.pf).2=[] then 0 else 27
def Ofr.ver (a:Alo):Int:=
 if a.ok then if D.ce a.ch≠0 then D.ce a.ch else if a.co≠D.bd (ze7 a.ch) then 17 else if (D.ff (ze7 a.ch)).isSome then 35 else D.pe2 a
 else if a.ch≠[]∨a.co≠0 then 3 else D.pe2 a
end
section
variable {D:Ofr}
theorem zO5 (l:List Nat):(zs6 l).length=l.length:=by simp [zs6]
theorem zX9 (l:List Nat) (i:Nat):(zs6 l).getD i 0=((Ofr.at_ l i:Nat):Int):=by
 unfold zs6 Ofr.at_
 rw [List.getD_eq_getElem?_getD,List.getD_eq_getElem?_getD,List.getElem?_map]
 cases l[i]?<;>rfl
theorem inb_ints {l:List Nat}:D.inb (zs6 l)=true↔∀ i,i<l.length→Ofr.at_ l i<D.ol i:=by
 unfold Ofr.inb
 rw [List.all_eq_true]
 constructor
 ·intro h i hi
  have:=h i (List.mem_range.2 (by rw [zO5];exact hi))
  rw [zX9] at this
  simp at this;exact this
 intro h i hi
 have:=h i (by have:=List.mem_range.1 hi;rwa [zO5] at this)
 rw [zX9]
 simp;exact this
theorem zF0 {l:List Int} (h:D.inb l=true):zs6 (ze7 l)=l:=by
 unfold Ofr.inb at h
 rw [List.all_eq_true] at h
 apply List.ext_getElem?
 intro i
 unfold zs6 ze7
 rw [List.map_map,List.getElem?_map]
 rcases Nat.lt_or_ge i l.length with hi | hi
 ·have:=h i (List.mem_range.2 hi)
  rw [List.getD_eq_getElem?_getD,List.getElem?_eq_getElem hi] at this
  simp at this
  rw [List.getElem?_eq_getElem hi]
  simp;omega
 rw [List.getElem?_eq_none hi];rfl
end
end Go.Proofs.YtjhflekncldflaaGreatDoor
namespace Go.Proofs.YtjhflekncldflaaGreatDoor
open Go.RowKit

set_option maxHeartbeats 400000 in
theorem zq4 (ao:Option Addr) (len cap:Nat) (n:Int) (w:World) (hl:len≤2000000) (hcap:len≤cap) (h0:0≤n) (h1:hi n len=0)
   (hr:Row w ao len (dg n)):
    Calls Tryz.prog 108 #[.slice ao len cap] w fun e w'=>(∃ k,e=.returned (.slice ao k cap)∧Mag w ao k cap n∧k≤len)∧w=w':=by
  go_enter Tryz.func108,Tryz.ntmps108
  go_wp2
  go_loop [0] (fun v=>∃ k:Nat,k≤len∧v=.slice ao k cap∧Hid (hi n k=0)) (fun v=>match v with | .slice _ n _=>n | _=>0)
  case atStart=>exact ⟨len,Nat.le_refl _,rfl,h1⟩
  case round=>
    obtain ⟨k,hk,rfl,hz⟩:=hrel
    by_cases hp:0<k
    · obtain ⟨b,off,rfl,hcs⟩:=hr.at_ (by omega)
      have hcell:=hcs (k-1) (by omega)
      have e1:((k:Int) - 1)=((k-1:Nat):Int):=by omega
      clear hcs
      go_wp2
      · have h2:(dg n (k - 1)==0)=true:=by assumption
        go_round
        case rel => exact ⟨k - 1, by omega, rfl, hi_trim hz.out (k - 1) (by omega) (fun j h3 h4 => by obtain rfl : j = k - 1 := by omega
                                                                                                      simpa using h2)⟩
        case measure=>simp;omega
      have h2:(dg n (k - 1)==0)=false:=by assumption
      go_ret
      exact ⟨⟨k,rfl,⟨by omega,NL.mk' h0 hz.out (fun _=>by simpa using h2),hr.shorter hk⟩,hk⟩,rfl⟩
    go_wp2
    go_ret
    obtain rfl:k=0:=by omega
    exact ⟨⟨0,rfl,⟨by omega,NL.mk' h0 hz.out (by omega),Row.nil _ _ _⟩,by omega⟩,rfl⟩

set_option maxHeartbeats 400000 in
theorem zi1 (neg:Bool) (ao:Option Addr) (len cap:Nat) (n:Int) (w:World) (hl:len≤2000000) (hcap:len≤cap) (h0:0≤n) (h1:hi n len=0)
   (hr:Row w ao len (dg n)):
    Calls Tryz.prog 105 #[.bool neg,.slice ao len cap] w fun e w'=>(∃ k,e=.returned (.agg #[.bool (neg&&decide (0<k)),.slice ao k cap])∧Mag w ao k cap n∧k≤len)∧Below w.heap.size w w':=by
  go_enter Tryz.func105,Tryz.ntmps105
  go_wp2_with fail
  refine (zq4 _ _ _ n _ hl hcap h0 h1 (hr.below ((Below.refl _ _).alloc (Nat.le_refl _) _))).mono ?_
  rintro e w1 ⟨⟨k,rfl,hm,hk⟩,rfl⟩
  cases neg
  · go_wp2
    exact bodyPost_ret (v:=.agg #[.bool false,.slice ao k cap]) (by simp [results,Tryz.results105,go_sem]) rfl ⟨⟨k,rfl,⟨hm.cap,hm.nl,hr.shorter hk⟩,hk⟩,(Below.refl _ _).alloc (Nat.le_refl _) _⟩
  go_wp2
  exact bodyPost_ret (v:=.agg #[.bool (decide (0<k)),.slice ao k cap]) (by simp [results,Tryz.results105,go_sem]) rfl ⟨⟨k,by simp,⟨hm.cap,hm.nl,hr.shorter hk⟩,hk⟩,(Below.refl _ _).alloc (Nat.le_refl _) _⟩

theorem zM9 {a b:Int} {k:Nat} (h:hi a (k+1)=hi b (k+1)) (hd:dg a k<dg b k):a<b:=by
 refine Int.lt_of_not_ge fun hge=>?_
 have h1:=zj3 hge k
 have h2:=zc6 a k
 have h3:=zc6 b k
 omega
def sgn (z:Int):Int:=if z<0 then -1 else if z=0 then 0 else 1
theorem zo6 {z:Int} (h:z<0):sgn z=-1:=by simp [sgn,h]
theorem zw2 {z:Int} (h:0<z):sgn z=1:=by unfold sgn;rw [if_neg (by omega),if_neg (by omega)]
theorem zo7 {k:IntKind} {a b:Int} (h:a=b):Ending.returned (.int k a)=.returned (.int k b):=by rw [h]

set_option maxHeartbeats 400000 in
theorem zB2 (ao bo:Option Addr) (la lb ca cb:Nat) (a b:Int) (w:World) (hla:la≤2000000) (hlb:lb≤2000000)
   (ha:Mag w ao la ca a) (hb:Mag w bo lb cb b):
    Calls Tryz.prog 107 #[.slice ao la ca,.slice bo lb cb] w fun e w'=>e=.returned (.int .i64 (sgn (a - b)))∧Below w.heap.size w w':=by
  by_cases hl:la=lb
  · subst hl
    have hne:((la:Int) !=la)=false:=by simp
    go_enter Tryz.func107,Tryz.ntmps107
    go_wp2
    go_loopw [5] (fun i wr=>∃ k:Nat,k≤la∧i=.int .i64 ((k:Int) - 1)∧Hid (hi a k=hi b k)∧Below w.heap.size w wr) (fun i _=>(intOf i+1).toNat)
    case atStart=>exact ⟨la,Nat.le_refl _,rfl,by rw [Hid,ha.nl.top,hb.nl.top],Below.refl _ _⟩
    case round=>
      obtain ⟨k,hk,rfl,hz,hB⟩:=hrel
      by_cases hp:0<k
      · obtain ⟨b1,af,rfl,ad⟩:=(ha.row.below hB).at_ (by omega)
        obtain ⟨b2,ah,rfl,ae⟩:=(hb.row.below hB).at_ (by omega)
        have ac:=ad (k-1) (by omega)
        have aa:=ae (k-1) (by omega)
        obtain ⟨j,rfl⟩:∃ j,k=j+1:=⟨k - 1,by omega⟩
        have e1:(((j+1:Nat):Int) - 1)=(j:Int):=by omega
        have e2:j+1 - 1=j:=by omega
        rw [e2] at ac aa
        simp only [e1]
        clear ad ae e1 e2
        have i0:(0:Int)≤(j:Int):=by omega
        have i1:(j:Int)<(la:Int):=by omega
        go_wp2
        go_quiet (fail)
        go_wp2
        · have h:(dg a j !=dg b j)=true:=by assumption
          go_quiet (fail)
          go_wp2
          · have h2:dg a j<dg b j:=by assumption
            go_ret
            exact ⟨zo7 (zo6 (by have:=zM9 hz.out h2;omega)).symm,hB.drewN _ |>.drewN _⟩
          have h2:dg b j≤dg a j:=by assumption
          go_ret
          have h3:dg a j≠dg b j:=by simpa using h
          exact ⟨zo7 (zw2 (by have:=zM9 hz.out.symm (show dg b j<dg a j by omega);omega)).symm,hB.drewN _ |>.drewN _⟩
        have h:(dg a j !=dg b j)=false:=by assumption
        go_roundw
        case rel=>
          refine ⟨j,by omega,rfl,?_,hB.drewN _⟩
          have h1:=zc6 a j
          have h2:=zc6 b j
          have h3:=hz.out
          have h4:dg a j=dg b j:=by simpa using h
          show hi a j=hi b j
          omega
        case measure=>simp [intOf]
      obtain rfl:k=0:=by omega
      go_wp2
      go_ret
      have h3:a=b:=hz.out
      exact ⟨zo7 (by rw [h3,Int.sub_self];rfl),hB⟩
  have hne:((la:Int) !=lb)=true:=by simp;omega
  by_cases hlt:la<lb
  · go_enter Tryz.func107,Tryz.ntmps107
    go_wp2
    go_ret
    exact ⟨zo7 (zo6 (by have:=ha.nl.lt_of_len hb.nl hlt;omega)).symm,Below.refl _ _⟩
  go_enter Tryz.func107,Tryz.ntmps107
  go_wp2
  go_ret
  exact ⟨zo7 (zw2 (by have:=hb.nl.lt_of_len ha.nl (by omega);omega)).symm,Below.refl _ _⟩
set_option maxHeartbeats 1000000 in
theorem plus_ge (ao bo:Option Addr) (la lb ca cb:Nat) (a b:Int) (w:World) (hla:la≤1000000) (hlb:lb≤la)
   (ha:Mag w ao la ca a) (hb:Mag w bo lb cb b):
    Calls Tryz.prog 130 #[.slice ao la ca,.slice bo lb cb] w fun e w'=>(∃ g,e=.returned (.slice (some ⟨g,0,none⟩) (la+1) (la+1))∧Own w' g (la+1) (dg (a+b))∧hi (a+b) (la+1)=0)∧Below w.heap.size w w':=by
  go_enter Tryz.func130,Tryz.ntmps130
  go_wp2_with (at_make;refine ze0 _ rfl _ _ rfl _ _ (la+1) rfl rfl (by omega) (by omega) (by omega) ?_)
  intro w1 hO hB hsz
  have hneg:¬ ((la:Int)<lb):=by omega
  go_wp2
  go_loopw [6,22] (fun c i wr=>∃ (k:Nat) (cr:Int) (d:Nat→Int),k≤la∧i=.int .i64 k∧c=.int .u64 cr∧0≤cr∧cr≤1∧Hid (hi (a+b) k=hi a k+hi b k+cr)∧Below w.heap.size w wr∧
      Own wr w.heap.size (la+1) d∧Hid (∀ j,j<k→d j=dg (a+b) j)) (fun _ i _=>la - (intOf i).toNat)
  case atStart=>exact ⟨0,0,_,Nat.zero_le _,rfl,rfl,by omega,by omega,by simp [Hid,zd9],hB,hO,fun j hj=>by omega⟩
  case round=>
    obtain ⟨k,cr,d,hk,rfl,rfl,ai,ah,hz,hB,hO,hd⟩:=hrel
    by_cases hlt:k<la
    · obtain ⟨b1,aj,rfl,ac⟩:=(ha.row.below hB).at_ (by omega)
      have af:=ac k hlt
      clear ac
      have d0:=zb3 a k
      have d1:=ze2 a k
      by_cases hltb:k<lb
      · obtain ⟨b2,ak,rfl,ad⟩:=(hb.row.below hB).at_ (by omega)
        have ae:=ad k hltb
        clear ad
        have e0:=zb3 b k
        have e1:=ze2 b k
        have aa:=hO.cell k (by omega)
        have hfree:=hO.free k
        go_wp2
        have hs:=zw9 hz.out ai ah
        go_roundw
        case rel=>
          refine ⟨k+1,_,_,by omega,by go_num,rfl,hs.2.2.1,hs.2.2.2,hs.2.1,hB.setCell (Nat.le_refl _) _,hO.set (by omega) _,fun j hj=>?_⟩
          by_cases e:j=k
          · subst e;rw [zd0,hs.1]
          rw [zb7 _ _ e];exact hd.out j (by omega)
        case measure=>simp [intOf];omega
      have e0:hi b k=0:=zr5 hb.nl.top (by omega)
      have HE:=Lib.hid e0
      clear e0
      have aa:=hO.cell k (by omega)
      have hfree:=hO.free k
      go_wp2
      have hs:=zr6 hz.out ai ah HE.out
      go_roundw
      case rel=>
        refine ⟨k+1,_,_,by omega,by go_num,rfl,hs.2.2.1,hs.2.2.2,hs.2.1,hB.setCell (Nat.le_refl _) _,hO.set (by omega) _,fun j hj=>?_⟩
        by_cases e:j=k
        · subst e;rw [zd0,hs.1]
        rw [zb7 _ _ e];exact hd.out j (by omega)
      case measure=>simp [intOf];omega
    obtain rfl:k=la:=by omega
    have aa:=hO.cell k (by omega)
    have hfree:=hO.free k
    go_wp2
    go_ret
    have h1:=hz.out
    rw [ha.nl.top,zr5 hb.nl.top hlb] at h1
    have h2:=zc6 (a+b) k
    refine ⟨⟨_,rfl,(hO.set (Nat.lt_succ_self k) _).congr (fun j hj=>?_),?_⟩,hB.setCell (Nat.le_refl _) _⟩
    · by_cases e:j=k
      · subst e;rw [zd0];unfold dg;omega
      rw [zb7 _ _ e];exact hd.out j (by omega)
    rw [zc9];omega
set_option maxHeartbeats 1000000 in
theorem plus_lt (ao bo:Option Addr) (la lb ca cb:Nat) (a b:Int) (w:World) (hla:la≤1000000) (hlb':lb<la)
   (ha:Mag w ao la ca a) (hb:Mag w bo lb cb b):
    Calls Tryz.prog 130 #[.slice bo lb cb,.slice ao la ca] w fun e w'=>(∃ g,e=.returned (.slice (some ⟨g,0,none⟩) (la+1) (la+1))∧Own w' g (la+1) (dg (a+b))∧hi (a+b) (la+1)=0)∧Below w.heap.size w w':=by
  go_enter Tryz.func130,Tryz.ntmps130
  have hneg:((lb:Int)<la):=by omega
  go_wp2_with (at_make;refine ze0 _ rfl _ _ rfl _ _ (la+1) rfl rfl (by omega) (by omega) (by omega) ?_)
  intro w1 hO hB hsz
  have hlb:lb≤la:=by omega
  go_wp2
  go_loopw [6,22] (fun c i wr=>∃ (k:Nat) (cr:Int) (d:Nat→Int),k≤la∧i=.int .i64 k∧c=.int .u64 cr∧0≤cr∧cr≤1∧Hid (hi (a+b) k=hi a k+hi b k+cr)∧Below w.heap.size w wr∧
      Own wr w.heap.size (la+1) d∧Hid (∀ j,j<k→d j=dg (a+b) j)) (fun _ i _=>la - (intOf i).toNat)
  case atStart=>exact ⟨0,0,_,Nat.zero_le _,rfl,rfl,by omega,by omega,by simp [Hid,zd9],hB,hO,fun j hj=>by omega⟩
  case round=>
    obtain ⟨k,cr,d,hk,rfl,rfl,ai,ah,hz,hB,hO,hd⟩:=hrel
    by_cases hlt:k<la
    · obtain ⟨b1,aj,rfl,ac⟩:=(ha.row.below hB).at_ (by omega)
      have af:=ac k hlt
      clear ac
      have d0:=zb3 a k
      have d1:=ze2 a k
      by_cases hltb:k<lb
      · obtain ⟨b2,ak,rfl,ad⟩:=(hb.row.below hB).at_ (by omega)
        have ae:=ad k hltb
        clear ad
        have e0:=zb3 b k
        have e1:=ze2 b k
        have aa:=hO.cell k (by omega)
        have hfree:=hO.free k
        go_wp2
        have hs:=zw9 hz.out ai ah
        go_roundw
        case rel=>
          refine ⟨k+1,_,_,by omega,by go_num,rfl,hs.2.2.1,hs.2.2.2,hs.2.1,hB.setCell (Nat.le_refl _) _,hO.set (by omega) _,fun j hj=>?_⟩
          by_cases e:j=k
          · subst e;rw [zd0,hs.1]
          rw [zb7 _ _ e];exact hd.out j (by omega)
        case measure=>simp [intOf];omega
      have e0:hi b k=0:=zr5 hb.nl.top (by omega)
      have HE:=Lib.hid e0
      clear e0
      have aa:=hO.cell k (by omega)
      have hfree:=hO.free k
      go_wp2
      have hs:=zr6 hz.out ai ah HE.out
      go_roundw
      case rel=>
        refine ⟨k+1,_,_,by omega,by go_num,rfl,hs.2.2.1,hs.2.2.2,hs.2.1,hB.setCell (Nat.le_refl _) _,hO.set (by omega) _,fun j hj=>?_⟩
        by_cases e:j=k
        · subst e;rw [zd0,hs.1]
        rw [zb7 _ _ e];exact hd.out j (by omega)
      case measure=>simp [intOf];omega
    obtain rfl:k=la:=by omega
    have aa:=hO.cell k (by omega)
    have hfree:=hO.free k
    go_wp2
    go_ret
    have h1:=hz.out
    rw [ha.nl.top,zr5 hb.nl.top hlb] at h1
    have h2:=zc6 (a+b) k
    refine ⟨⟨_,rfl,(hO.set (Nat.lt_succ_self k) _).congr (fun j hj=>?_),?_⟩,hB.setCell (Nat.le_refl _) _⟩
    · by_cases e:j=k
      · subst e;rw [zd0];unfold dg;omega
      rw [zb7 _ _ e];exact hd.out j (by omega)
    rw [zc9];omega
theorem plus_c (ao bo:Option Addr) (la lb ca cb:Nat) (a b:Int) (w:World) (hla:la≤1000000) (hlb:lb≤1000000)
   (ha:Mag w ao la ca a) (hb:Mag w bo lb cb b):
    Calls Tryz.prog 130 #[.slice ao la ca,.slice bo lb cb] w fun e w'=>(∃ g n,e=.returned (.slice (some ⟨g,0,none⟩) n n)∧n≤1000001∧Own w' g n (dg (a+b))∧hi (a+b) n=0)∧Below w.heap.size w w':=by
  rcases Nat.lt_or_ge la lb with h | h
  · refine (plus_lt bo ao lb la cb ca b a w hlb h hb ha).mono ?_
    rintro e w1 ⟨⟨g,he,h1,h2⟩,h3⟩
    rw [Int.add_comm] at h1 h2
    exact ⟨⟨g,_,he,by omega,h1,h2⟩,h3⟩
  refine (plus_ge ao bo la lb ca cb a b w hla h ha hb).mono ?_
  rintro e w1 ⟨⟨g,he,h1,h2⟩,h3⟩
  exact ⟨⟨g,_,he,by omega,h1,h2⟩,h3⟩

set_option maxHeartbeats 1000000 in
theorem minus_c (ao bo:Option Addr) (la lb ca cb:Nat) (a b:Int) (w:World) (hla:la≤1000000) (hlb:lb≤1000000) (hle:b≤a)
   (ha:Mag w ao la ca a) (hb:Mag w bo lb cb b):
    Calls Tryz.prog 131 #[.slice ao la ca,.slice bo lb cb] w fun e w'=>(∃ g,e=.returned (.slice (some ⟨g,0,none⟩) la la)∧Own w' g la (dg (a - b))∧hi (a - b) la=0)∧Below w.heap.size w w':=by
  have hll:=hb.nl.len_le ha.nl hle
  go_enter Tryz.func131,Tryz.ntmps131
  go_wp2_with (at_make;refine ze0 _ rfl _ _ rfl _ _ la rfl rfl (by omega) (by omega) (by omega) ?_)
  intro w1 hO hB hsz
  go_wp2
  go_loopw [6,15] (fun c i wr=>∃ (k:Nat) (cr:Int) (d:Nat→Int),k≤la∧i=.int .i64 k∧c=.int .i64 cr∧0≤cr∧cr≤1∧Hid (hi (a - b) k=hi a k - hi b k - cr)∧Below w.heap.size w wr∧
      Own wr w.heap.size la d∧Hid (∀ j,j<k→d j=dg (a - b) j)) (fun _ i _=>la - (intOf i).toNat)
  case atStart=>exact ⟨0,0,_,Nat.zero_le _,rfl,rfl,by omega,by omega,by simp [Hid,zd9],hB,hO,fun j hj=>by omega⟩
  case round=>
    obtain ⟨k,cr,d,hk,rfl,rfl,ai,ah,hz,hB,hO,hd⟩:=hrel
    by_cases hlt:k<la
    · obtain ⟨b1,aj,rfl,aa⟩:=(ha.row.below hB).at_ (by omega)
      have af:=aa k hlt
      clear aa
      have d0:=zb3 a k
      have d1:=ze2 a k
      have ae:=hO.cell k (by omega)
      have hfree:=hO.free k
      by_cases hltb:k<lb
      · obtain ⟨b2,ak,rfl,ac⟩:=(hb.row.below hB).at_ (by omega)
        have ad:=ac k hltb
        clear ac
        have e0:=zb3 b k
        have e1:=ze2 b k
        go_wp2
        all_goals
          have hs:=zz1 hz.out ai ah
          go_roundw
          case rel=>
            refine ⟨k+1,_,_,by omega,by go_num,rfl,by omega,by omega,?_,hB.setCell (Nat.le_refl _) _,hO.set (by omega) _,fun j hj=>?_⟩
            · show hi (a - b) (k+1)=_
              have h2:=hs.2
              first | rw [if_pos (by assumption)] at h2 | rw [if_neg (by omega)] at h2
              exact h2
            by_cases e:j=k
            · subst e;rw [zd0,hs.1];try omega
            rw [zb7 _ _ e];exact hd.out j (by omega)
          case measure=>simp [intOf];omega
      have e0:hi b k=0:=zr5 hb.nl.top (by omega)
      have HE:=Lib.hid e0
      clear e0
      go_wp2
      all_goals
        have hs:=zJ2 hz.out ai ah HE.out
        go_roundw
        case rel=>
          refine ⟨k+1,_,_,by omega,by go_num,rfl,by omega,by omega,?_,hB.setCell (Nat.le_refl _) _,hO.set (by omega) _,fun j hj=>?_⟩
          · show hi (a - b) (k+1)=_
            have h2:=hs.2
            first | rw [if_pos (by assumption)] at h2 | rw [if_neg (by omega)] at h2
            exact h2
          by_cases e:j=k
          · subst e;rw [zd0,hs.1];try omega
          rw [zb7 _ _ e];exact hd.out j (by omega)
        case measure=>simp [intOf];omega
    obtain rfl:k=la:=by omega
    go_wp2
    go_ret
    have h1:=hz.out
    rw [ha.nl.top,zr5 hb.nl.top hll] at h1
    have h2:=zd6 (show 0≤a - b by omega) k
    exact ⟨⟨_,rfl,hO.congr hd.out,by omega⟩,hB⟩
theorem zN0 (a b:Int) (i:Nat):low a i*b+dg a i*b*4294967296 ^ i=low a (i+1)*b:=by rw [zB8];grind
theorem mul_top {a b c:Int} {i lb:Nat} (hr:hi (low a i*b) (i+lb)=0) (hb:hi b lb=0)
  (h:hi (low a i*b+dg a i*b*4294967296 ^ i) (i+lb)=hi (low a i*b) (i+lb)+dg a i*hi b lb+c) (h0:0≤c) (h1:c<4294967296):
  dg (low a (i+1)*b) (i+lb)=c∧hi (low a (i+1)*b) (i+1+lb)=0:=by
 rw [zN0,hr,hb,Int.mul_zero] at h
 have e:i+1+lb=i+lb+1:=by omega
 rw [e,zc9]
 unfold dg
 omega

set_option maxRecDepth 100000 in
set_option maxHeartbeats 2000000 in
theorem mul_raw (s t:Bool) (a b:Int) (ao bo:Option Addr) (la lb ca cb:Nat) (w:World) (hla:la≤1000000) (hlb:lb≤1000000) (ha:Mag w ao la ca a) (hb:Mag w bo lb cb b):
  Calls Tryz.prog 93 #[.agg #[.bool s,.slice ao la ca],.agg #[.bool t,.slice bo lb cb]] w fun e w'=>
   (∃ go n cap,e=.returned (.agg #[.bool ((s !=t)&&decide (0<n)),.slice go n cap])∧Mag w' go n cap (a*b))∧Below w.heap.size w w':=by
 go_enter Tryz.func93,Tryz.ntmps93
 go_wp2_with (at_make;refine ze0 _ rfl _ _ rfl _ _ (la+lb) rfl rfl (by omega) (by omega) (by omega) ?_)
 intro w1 hO hB hsz
 obtain ⟨ak,f0,f1,f2,ap⟩:=zs2 w (.cells #[.bool s,.slice ao la ca] 60) (.cells #[.bool t,.slice bo lb cb] 60) (.cells #[.bool false,.slice none 0 0] 60)
 have hB':=(hB.mono (Nat.le_of_eq ap):Gr _ w1)
 have hG:Gr w w1:=ak.trans hB'
 have p0:=Gr.heap hB' f0
 have p1:=Gr.heap hB' f1
 have p2:=Gr.heap hB' f2
 have c0:=zc1 p0 0
 have c1:=zc1 p0 1
 have c2:=zc1 p1 0
 have c3:=zc1 p1 1
 clear hB' ak ap f0 f1 f2
 have ar:=hO
 clear hO hB hsz
 go_wp2
 go_loopw [22] (fun i wr=>∃ (k:Nat) (d:Nat→Int),k≤la∧i=.int .i64 k∧Own wr (w.heap.size+1+1+1) (la+lb) d∧Below (w.heap.size+1+1+1) w1 wr∧Hid (∀ j,j<la+lb→d j=dg (low a k*b) j)∧Hid (hi (low a k*b) (k+lb)=0)) (fun i _=>la - (intOf i).toNat)
 case atStart=>exact ⟨0,_,Nat.zero_le _,rfl,ar,Below.refl _ _,fun j _=>by rw [zu6,Int.zero_mul];unfold dg;rw [zm4];rfl,by rw [Hid,zu6,Int.zero_mul,zm4]⟩
 case round=>
  obtain ⟨k,d,hk,rfl,hO,hB,hd,htop⟩:=hrel
  by_cases hlt:k<la
  ·have hc:=zS8 hB
   have hw:Below w.heap.size w wr:=Below.trans hG (hB.mono (by omega))
   obtain ⟨b1,aw,rfl,ad⟩:=(ha.below hw).row.at_ (by omega)
   have aj:=ad k hlt
   have x0:=zb3 a k
   have x1:=ze2 a k
   clear ad hw
   go_wp2
   obtain ⟨wo,hwo⟩:∃ wo:World,wo=wr:=⟨_,rfl⟩
   subst hwo
   go_loopw [8,30] (fun c i wr=>∃ (j:Nat) (cr:Int) (e:Nat→Int),j≤lb∧i=.int .i64 j∧c=.int .u64 cr∧0≤cr∧cr<4294967296∧Own wr (w.heap.size+1+1+1) (la+lb) e∧Below (w.heap.size+1+1+1) w1 wr∧
    Hid (hi (low a k*b+dg a k*b*4294967296 ^ k) (k+j)=hi (low a k*b) (k+j)+dg a k*hi b j+cr)∧
    Hid (∀ i,i<la+lb→e i=if i<k+j then dg (low a k*b+dg a k*b*4294967296 ^ k) i else dg (low a k*b) i)) (fun _ i _=>lb - (intOf i).toNat)
   case atStart=>
    refine ⟨0,0,d,Nat.zero_le _,rfl,rfl,by omega,by omega,hO,hB,?_,fun i hi=>?_⟩
    ·rw [Hid,Nat.add_zero,zx0,zd9];omega
    rw [hd.out i hi,Nat.add_zero]
    split
    ·rw [zY2 _ _ (by assumption)]
    rfl
   case round=>
    obtain ⟨j,cr,e,hj,rfl,rfl,aq,al,ac,af,hz,he⟩:=hrel
    have hcc:=zS8 af
    by_cases hlt2:j<lb
    ·have hw:Below w.heap.size w wr:=Below.trans hG (af.mono (by omega))
     obtain ⟨b2,av,rfl,ae⟩:=(hb.below hw).row.at_ (by omega)
     have ai:=ae j hlt2
     have y0:=zb3 b j
     have y1:=ze2 b j
     have hs:=mul_step hz.out aq al x0 x1
     have z0:=hs.2.2.2.2.1
     have z1:=hs.2.2.2.2.2
     have HS:=Lib.hid hs
     clear ae hw hs
     have aa:=ac.cell (k+j) (by omega)
     have hfree:=ac.free (k+j)
     have e1:=he.out (k+j) (by omega)
     rw [if_neg (by omega)] at e1
     rw [e1] at aa
     have r0:=zb3 (low a k*b) (k+j)
     have r1:=ze2 (low a k*b) (k+j)
     clear e1
     go_wp2
     have hs:=HS.out
     go_roundw
     case rel=>
      refine ⟨j+1,_,_,by omega,by go_num,rfl,hs.2.2.1,hs.2.2.2.1,ac.set (by omega) _,af.setCell (Nat.le_refl _) _,hs.2.1,fun i hi=>?_⟩
      by_cases e1:i=k+j
      ·subst e1;rw [zd0,if_pos (by omega),hs.1]
      rw [zb7 _ _ e1,he.out i hi]
      by_cases e2:i<k+j
      ·rw [if_pos e2,if_pos (by omega)]
      rw [if_neg e2,if_neg (by omega)]
     case measure=>simp [intOf];omega
    obtain rfl:j=lb:=by omega
    have aa:=ac.cell (k+j) (by omega)
    have hfree:=ac.free (k+j)
    have ht:=mul_top htop.out hb.nl.top hz.out aq al
    have HT:=Lib.hid ht
    clear ht
    go_wp2
    have ht:=HT.out
    go_roundw
    case rel=>
     refine ⟨k+1,_,by omega,by go_num,ac.set (by omega) cr,af.setCell (Nat.le_refl _) _,fun i hi=>?_,ht.2⟩
     by_cases e1:i=k+j
     ·subst e1;rw [zd0];exact ht.1.symm
     rw [zb7 _ _ e1,he.out i hi]
     by_cases e2:i<k+j
     ·rw [if_pos e2,zN0]
     rw [if_neg e2,zz0 htop.out (by omega),zz0 ht.2 (by omega)]
    case measure=>simp [intOf];omega
  obtain rfl:k=la:=by omega
  have hc:=zS8 hB
  go_wp2_with fail
  have hlow:=low_top ha.nl.top
  have hO':=hO.congr hd.out
  have htop':=htop.out
  rw [hlow] at hO' htop'
  refine (zi1 _ _ _ _ (a*b) _ (by omega) (Nat.le_refl _) (Int.mul_nonneg ha.nl.nonneg hb.nl.nonneg) htop' hO'.row).mono ?_
  rintro e w3 ⟨⟨n,rfl,hm,hn⟩,ah⟩
  have p3:=Gr.heap ah ((Below.block hB (w.heap.size+1+1) (by omega)).trans p2)
  have d0:=zc1 p3 0
  have d1:=zc1 p3 1
  have d2:=zj0 p3
  have au:Below w.heap.size w w3:=Below.trans (Below.trans hG (hB.mono (by omega))) (Below.mono ah (Nat.le_trans (Below.size hG) (Below.size hB)))
  clear hc c0 c1 c2 c3 p0 p1 p2 hd htop hO ar hlow htop' hO'
  go_wp2
  have e0:(!s==t&&decide (0<n))=((s !=t)&&decide (0<n)):=by cases s<;>cases t<;>rfl
  have p4:=zb2 (i:=1) (.slice (some ⟨w.heap.size+1+1+1,0,none⟩) n (k+lb)) (zb2 (i:=0) (.bool (!s==t&&decide (0<n))) p3)
  have hst:=(St.setCell w3 (w.heap.size+1+1) 0 (.bool (!s==t&&decide (0<n)))).trans (St.setCell _ (w.heap.size+1+1) 1 (.slice (some ⟨w.heap.size+1+1+1,0,none⟩) n (k+lb)))
  refine bodyPost_ret (v:=.agg #[.bool (!s==t&&decide (0<n)),.slice (some ⟨w.heap.size+1+1+1,0,none⟩) n (k+lb)]) (zc8 _ _ _ rfl rfl p4 (by kernel_rfl)) rfl ⟨⟨_,_,_,by rw [e0],(hm.kp (Gr.kp ah)).kp (hst.kp p3 (by decide))⟩,hst.below au (by omega)⟩
theorem Mag.gr {w w':World} {ao:Option Addr} {len cap:Nat} {n:Int} (h:Mag w ao len cap n) (hb:Gr w w'):Mag w' ao len cap n:=h.kp hb.kp
theorem Mag.one0 {w:World} {ao:Option Addr} {len cap:Nat} {n:Int} (_h:Mag w ao len cap n):(Value.slice ao len cap).oneCell'=true:=rfl

structure Raw (w:World) (ao:Option Addr) (m cap:Nat) (n:Int):Prop where
 cap:m≤cap
 len:m≤2000000
 nonneg:0≤n
 top:hi n m=0
 row:Row w ao m (dg n)
theorem Raw.kp {w w':World} {ao:Option Addr} {len cap:Nat} {n:Int} (h:Raw w ao len cap n) (hb:Kp w w'):Raw w' ao len cap n:=⟨h.cap,h.len,h.nonneg,h.top,h.row.kp hb⟩
theorem Raw.gr {w w':World} {ao:Option Addr} {len cap:Nat} {n:Int} (h:Raw w ao len cap n) (hb:Gr w w'):Raw w' ao len cap n:=h.kp hb.kp

theorem plus_m {w:World} {ao bo:Option Addr} {la lb ca cb:Nat} {a b:Int} (ha:Mag w ao la ca a) (hb:Mag w bo lb cb b) (hla:la≤1000000) (hlb:lb≤1000000):
  Calls Tryz.prog 130 #[.slice ao la ca,.slice bo lb cb] w fun e w'=>(∃ go n,e=.returned (.slice go n n)∧Raw w' go n n (a+b))∧Gr w w':=by
 refine (plus_c ao bo la lb ca cb a b w hla hlb ha hb).mono ?_
 rintro e w1 ⟨⟨g,n,he,hn,hO,ht⟩,hB⟩
 exact ⟨⟨_,n,he,Nat.le_refl _,by omega,by have:=ha.nl.nonneg;have:=hb.nl.nonneg;omega,ht,hO.row⟩,hB⟩
theorem zW1 {w:World} {ao bo:Option Addr} {la lb ca cb:Nat} {a b:Int} (ha:Mag w ao la ca a) (hb:Mag w bo lb cb b) (hla:la≤1000000) (hlb:lb≤1000000) (hle:b≤a):
  Calls Tryz.prog 131 #[.slice ao la ca,.slice bo lb cb] w fun e w'=>(∃ go n,e=.returned (.slice go n n)∧Raw w' go n n (a - b))∧Gr w w':=by
 refine (minus_c ao bo la lb ca cb a b w hla hlb hle ha hb).mono ?_
 rintro e w1 ⟨⟨g,he,hO,ht⟩,hB⟩
 exact ⟨⟨_,la,he,Nat.le_refl _,by omega,by omega,ht,hO.row⟩,hB⟩
theorem zB3 {w:World} {ao bo:Option Addr} {la lb ca cb:Nat} {a b:Int} (ha:Mag w ao la ca a) (hb:Mag w bo lb cb b) (hla:la≤1000000) (hlb:lb≤1000000):
  Calls Tryz.prog 107 #[.slice ao la ca,.slice bo lb cb] w fun e w'=>e=.returned (.int .i64 (sgn (a - b)))∧Gr w w':=
 zB2 ao bo la lb ca cb a b w (by omega) (by omega) ha hb
theorem zB4 {w:World} {ao:Option Addr} {len cap:Nat} {n:Int} {neg:Bool} (h:Raw w ao len cap n):
  Calls Tryz.prog 105 #[.bool neg,.slice ao len cap] w fun e w'=>(∃ k,e=.returned (.agg #[.bool (neg&&decide (0<k)),.slice ao k cap])∧Mag w' ao k cap n)∧Gr w w':=by
 refine (zi1 neg ao len cap n w h.len h.cap h.nonneg h.top h.row).mono ?_
 rintro e w1 ⟨⟨k,he,hm,_⟩,hB⟩
 exact ⟨⟨k,he,hm.gr hB⟩,hB⟩
theorem zR0 {z:Int} (h:0≤z):0≤sgn z:=by unfold sgn;rw [if_neg (by omega)];split<;>omega
end Go.Proofs.YtjhflekncldflaaGreatDoor
namespace Go.Proofs.YtjhflekncldflaaGreatDoor
set_option maxRecDepth 100000
set_option maxHeartbeats 1000000
open Go.RowKit

theorem add_same {w:World} {s:Bool} {a b:Int} {ao bo:Option Addr} {la lb ca cb:Nat} (ha:Mag w ao la ca a) (hb:Mag w bo lb cb b) (hla:la≤1000000) (hlb:lb≤1000000):
    Calls Tryz.prog 104 #[.agg #[.bool (s),.slice ao la ca],.agg #[.bool (s),.slice bo lb cb]] w fun e w'=>(∃ go n cap,e=.returned (.agg #[.bool (s&&decide (0<n)),.slice go n cap])∧Mag w' go n cap (a+b))∧Gr w w':=by
 have hss:(s==s)=true:=by simp
 go_enter Tryz.func104,Tryz.ntmps104
 have hB:=Gr.refl w
 refine wp_seq_k (fun K1 k1=>rg [0,1,2] ?_)
 refine se ?_
 refine eb 60 #[.bool (s),.slice ao la ca] 2 hB fun b2 w2 g2 L2 o2 q2 hB=>?_
 simp only [p3,p4]
 refine se ?_
 refine eb 60 #[.bool (s),.slice bo lb cb] 3 hB fun b3 w3 g3 L3 o3 q3 hB=>?_
 have ar:=L2.ne o3
 simp only [p3,p4]
 refine se ?_
 refine ea 60 #[.bool false,sN] 4 hB fun b4 w4 g4 L4 o4 q4 hB=>?_
 replace L2:=L2.gr g3
 have af:=L2.ne o4
 have ah:=L3.ne o4
 simp only [p3,p4]
 refine za0 (k1 _ _ ?_)
 refine wp_seq_k (fun K5 k5=>?_)
 refine wp_block ?_
 refine wp_seq_k (fun K6 k6=>rg [0,1,2,3,4,5] (sv 6 (pT b2 0) ?_))
 replace L2:=L2.gr g4
 refine sw 7 (.bool (s)) rfl (rk 4 0 L2) ?_
 refine sv 8 (pT b3 0) ?_
 replace L3:=L3.gr g4
 refine sw 9 (.bool (s)) rfl (rk 4 0 L3) ?_
 refine sw 10 (.bool true) rfl (RunV.bool (x:=(s==s)) (rvk (by kernel_rfl)) hss) ?_
 refine sv 5 (.bool true) (za0 (k6 _ _ ?_))
 refine wp_cond_true rfl ?_
 refine wp_seq_k (fun K7 k7=>?_)
 have aa:=Gr.drew w4
 replace hB:=hB.trans aa
 replace L2:=L2.gr aa
 replace L3:=L3.gr aa
 refine za4 (fun w'=>Lc w' b2 #[.bool (s),.slice ao la ca] 60∧Lc w' b3 #[.bool (s),.slice bo lb cb] 60) [(true,0),(true,1),(true,2),(true,3),(true,4),(true,5),(false,6),(false,7),(false,8)] (by kernel_rfl) (by kernel_rfl) (by kernel_rfl) (by decide) (fun _ _ _ _ _ h=>h) ⟨L2,L3⟩ ?_
 refine ov 11 (pT b2 0) ?_
 refine ow 12 (.bool (s)) rfl (fun w' hS=>(rk 4 0 hS.1)) ?_
 refine ov 13 (pT b2 1) ?_
 refine ow 14 (.slice ao la ca) rfl (fun w' hS=>(rk 58 1 hS.1)) ?_
 refine ov 15 (pT b3 1) ?_
 refine ow 16 (.slice bo lb cb) rfl (fun w' hS=>(rk 58 1 hS.2)) ?_
 refine oe ?_
 have ae:=g2.kp.trans (g3.kp.trans (g4.kp.trans aa.kp))
 replace ha:=ha.kp ae
 replace hb:=hb.kp ae
 refine ec 17 (plus_m ha hb (by omega) (by omega)) ?_
 rintro ay av ⟨⟨ac,al,rfl,au⟩,aj⟩
 refine ⟨_,rfl,?_⟩
 replace hB:=hB.trans aj
 replace L2:=L2.gr aj
 replace L3:=L3.gr aj
 refine ⟨⟨L2,L3⟩,?_⟩
 simp only [p3,p4]
 refine oe ?_
 refine ec 18 (zB4 (neg:=s) au) ?_
 rintro az aw ⟨⟨ad,rfl,ap⟩,ak⟩
 refine ⟨_,rfl,?_⟩
 replace hB:=hB.trans ak
 replace L2:=L2.gr ak
 replace L3:=L3.gr ak
 refine ⟨⟨L2,L3⟩,?_⟩
 simp only [p3,p4]
 refine oe ?_
 replace L4:=L4.gr (aa.trans (aj.trans ak))
 refine es 60 0 (.agg #[.bool (s&&decide (0<ad)),.slice ac ad al]) [.bool (s&&decide (0<ad)),.slice ac ad al] #[.bool (s&&decide (0<ad)),.slice ac ad al] L4 hB q4 ⟨rfl,rfl,trivial⟩ fun ax ai aq L4 hB=>?_
 replace L2:=ai.lc L2 af
 replace L3:=ai.lc L3 ah
 refine ⟨⟨L2,L3⟩,?_⟩
 refine zb4 ?_
 refine k7 _ _ ?_
 refine wp_ret ?_
 simp only [Exit.then,Exit.inBlock]
 refine bodyPost_ret (v:=(.agg #[.bool (s&&decide (0<ad)),.slice ac ad al])) (zc8 _ _ _ rfl rfl L4 (by kernel_rfl)) rfl ⟨?_,hB⟩
 replace ap:=ap.kp aq
 exact ⟨_,_,_,rfl,ap⟩

theorem zH9 {w:World} {s:Bool} {a b:Int} {ao bo:Option Addr} {la lb ca cb:Nat} (ha:Mag w ao la ca a) (hb:Mag w bo lb cb b) (hla:la≤1000000) (hlb:lb≤1000000) (hle:b≤a):
    Calls Tryz.prog 104 #[.agg #[.bool (s),.slice ao la ca],.agg #[.bool (!s),.slice bo lb cb]] w fun e w'=>(∃ go n cap,e=.returned (.agg #[.bool (s&&decide (0<n)),.slice go n cap])∧Mag w' go n cap (a - b))∧Gr w w':=by
 have hss:(s==!s)=false:=by simp
 have hor:decide ((0:Int)≤sgn (a - b))=true:=by simp only [decide_eq_true_eq];exact zR0 (by omega)
 go_enter Tryz.func104,Tryz.ntmps104
 have hB:=Gr.refl w
 refine wp_seq_k (fun K1 k1=>rg [0,1,2] ?_)
 refine se ?_
 refine eb 60 #[.bool (s),.slice ao la ca] 2 hB fun b2 w2 g2 L2 o2 q2 hB=>?_
 simp only [p3,p4]
 refine se ?_
 refine eb 60 #[.bool (!s),.slice bo lb cb] 3 hB fun b3 w3 g3 L3 o3 q3 hB=>?_
 have ar:=L2.ne o3
 simp only [p3,p4]
 refine se ?_
 refine ea 60 #[.bool false,sN] 4 hB fun b4 w4 g4 L4 o4 q4 hB=>?_
 replace L2:=L2.gr g3
 have af:=L2.ne o4
 have ah:=L3.ne o4
 simp only [p3,p4]
 refine za0 (k1 _ _ ?_)
 refine wp_seq_k (fun K5 k5=>?_)
 refine wp_block ?_
 refine wp_seq_k (fun K6 k6=>rg [0,1,2,3,4,5] (sv 6 (pT b2 0) ?_))
 replace L2:=L2.gr g4
 refine sw 7 (.bool (s)) rfl (rk 4 0 L2) ?_
 refine sv 8 (pT b3 0) ?_
 replace L3:=L3.gr g4
 refine sw 9 (.bool (!s)) rfl (rk 4 0 L3) ?_
 refine sw 10 (.bool false) rfl (RunV.bool (x:=(s==!s)) (rvk (by kernel_rfl)) hss) ?_
 refine sv 5 (.bool false) (za0 (k6 _ _ ?_))
 refine wp_cond_false rfl ?_
 refine wp_seq_k (fun K7 k7=>rg [0,1,2,3,4,5,6] (sv 20 (pT b2 1) ?_))
 refine sw 21 (.slice ao la ca) rfl (rk 58 1 L2) ?_
 refine sv 22 (pT b3 1) ?_
 refine sw 23 (.slice bo lb cb) rfl (rk 58 1 L3) ?_
 refine se ?_
 have au:=g2.kp.trans (g3.kp.trans g4.kp)
 replace ha:=ha.kp au
 replace hb:=hb.kp au
 refine ec 24 (zB3 ha hb (by omega) (by omega)) ?_
 rintro e8 w8 ⟨rfl,g8⟩
 refine ⟨_,rfl,?_⟩
 replace hB:=hB.trans g8
 simp only [p3,p4]
 refine sw 25 (.bool true) rfl (RunV.bool (x:=decide ((0:Int)≤sgn (a - b))) (rvk (by kernel_rfl)) hor) ?_
 refine sv 19 (.bool true) (za0 (k7 _ _ ?_))
 refine wp_cond_true rfl ?_
 refine wp_seq_k (fun ax aw=>?_)
 have aa:=Gr.drew w8
 replace hB:=hB.trans aa
 replace L2:=L2.gr (g8.trans aa)
 replace L3:=L3.gr (g8.trans aa)
 refine za4 (fun w'=>Lc w' b2 #[.bool (s),.slice ao la ca] 60∧Lc w' b3 #[.bool (!s),.slice bo lb cb] 60) [(true,0),(true,1),(true,2),(true,3),(true,4),(true,5),(false,6),(false,7),(false,8)] (by kernel_rfl) (by kernel_rfl) (by kernel_rfl) (by decide) (fun _ _ _ _ _ h=>h) ⟨L2,L3⟩ ?_
 refine ov 26 (pT b2 0) ?_
 refine ow 27 (.bool (s)) rfl (fun w' hS=>(rk 4 0 hS.1)) ?_
 refine ov 28 (pT b2 1) ?_
 refine ow 29 (.slice ao la ca) rfl (fun w' hS=>(rk 58 1 hS.1)) ?_
 refine ov 30 (pT b3 1) ?_
 refine ow 31 (.slice bo lb cb) rfl (fun w' hS=>(rk 58 1 hS.2)) ?_
 refine oe ?_
 have ae:=g8.kp.trans aa.kp
 replace ha:=ha.kp ae
 replace hb:=hb.kp ae
 refine ec 32 (zW1 ha hb (by omega) (by omega) (by omega)) ?_
 rintro aA aB ⟨⟨ac,ak,rfl,av⟩,al⟩
 refine ⟨_,rfl,?_⟩
 replace hB:=hB.trans al
 replace L2:=L2.gr al
 replace L3:=L3.gr al
 refine ⟨⟨L2,L3⟩,?_⟩
 simp only [p3,p4]
 refine oe ?_
 refine ec 33 (zB4 (neg:=s) av) ?_
 rintro aC ay ⟨⟨ad,rfl,aq⟩,aj⟩
 refine ⟨_,rfl,?_⟩
 replace hB:=hB.trans aj
 replace L2:=L2.gr aj
 replace L3:=L3.gr aj
 refine ⟨⟨L2,L3⟩,?_⟩
 simp only [p3,p4]
 refine oe ?_
 replace L4:=L4.gr (g8.trans (aa.trans (al.trans aj)))
 refine es 60 0 (.agg #[.bool (s&&decide (0<ad)),.slice ac ad ak]) [.bool (s&&decide (0<ad)),.slice ac ad ak] #[.bool (s&&decide (0<ad)),.slice ac ad ak] L4 hB q4 ⟨rfl,rfl,trivial⟩ fun az ai ap L4 hB=>?_
 replace L2:=ai.lc L2 af
 replace L3:=ai.lc L3 ah
 refine ⟨⟨L2,L3⟩,?_⟩
 refine zb4 ?_
 refine aw _ _ ?_
 refine wp_ret ?_
 simp only [Exit.then,Exit.inBlock]
 refine bodyPost_ret (v:=(.agg #[.bool (s&&decide (0<ad)),.slice ac ad ak])) (zc8 _ _ _ rfl rfl L4 (by kernel_rfl)) rfl ⟨?_,hB⟩
 replace aq:=aq.kp ap
 exact ⟨_,_,_,rfl,aq⟩

theorem zI0 {w:World} {s:Bool} {a b:Int} {ao bo:Option Addr} {la lb ca cb:Nat} (ha:Mag w ao la ca a) (hb:Mag w bo lb cb b) (hla:la≤1000000) (hlb:lb≤1000000) (hle:a<b):
    Calls Tryz.prog 104 #[.agg #[.bool (s),.slice ao la ca],.agg #[.bool (!s),.slice bo lb cb]] w fun e w'=>(∃ go n cap,e=.returned (.agg #[.bool (!s&&decide (0<n)),.slice go n cap])∧Mag w' go n cap (b - a))∧Gr w w':=by
 have hss:(s==!s)=false:=by simp
 have hor:decide ((0:Int)≤sgn (a - b))=false:=by rw [zo6 (by omega)];rfl
 go_enter Tryz.func104,Tryz.ntmps104
 have hB:=Gr.refl w
 refine wp_seq_k (fun K1 k1=>rg [0,1,2] ?_)
 refine se ?_
 refine eb 60 #[.bool (s),.slice ao la ca] 2 hB fun b2 w2 g2 L2 o2 q2 hB=>?_
 simp only [p3,p4]
 refine se ?_
 refine eb 60 #[.bool (!s),.slice bo lb cb] 3 hB fun b3 w3 g3 L3 o3 q3 hB=>?_
 have ar:=L2.ne o3
 simp only [p3,p4]
 refine se ?_
 refine ea 60 #[.bool false,sN] 4 hB fun b4 w4 g4 L4 o4 q4 hB=>?_
 replace L2:=L2.gr g3
 have af:=L2.ne o4
 have ah:=L3.ne o4
 simp only [p3,p4]
 refine za0 (k1 _ _ ?_)
 refine wp_seq_k (fun K5 k5=>?_)
 refine wp_block ?_
 refine wp_seq_k (fun K6 k6=>rg [0,1,2,3,4,5] (sv 6 (pT b2 0) ?_))
 replace L2:=L2.gr g4
 refine sw 7 (.bool (s)) rfl (rk 4 0 L2) ?_
 refine sv 8 (pT b3 0) ?_
 replace L3:=L3.gr g4
 refine sw 9 (.bool (!s)) rfl (rk 4 0 L3) ?_
 refine sw 10 (.bool false) rfl (RunV.bool (x:=(s==!s)) (rvk (by kernel_rfl)) hss) ?_
 refine sv 5 (.bool false) (za0 (k6 _ _ ?_))
 refine wp_cond_false rfl ?_
 refine wp_seq_k (fun K7 k7=>rg [0,1,2,3,4,5,6] (sv 20 (pT b2 1) ?_))
 refine sw 21 (.slice ao la ca) rfl (rk 58 1 L2) ?_
 refine sv 22 (pT b3 1) ?_
 refine sw 23 (.slice bo lb cb) rfl (rk 58 1 L3) ?_
 refine se ?_
 have au:=g2.kp.trans (g3.kp.trans g4.kp)
 replace ha:=ha.kp au
 replace hb:=hb.kp au
 refine ec 24 (zB3 ha hb (by omega) (by omega)) ?_
 rintro e8 w8 ⟨rfl,g8⟩
 refine ⟨_,rfl,?_⟩
 replace hB:=hB.trans g8
 simp only [p3,p4]
 refine sw 25 (.bool false) rfl (RunV.bool (x:=decide ((0:Int)≤sgn (a - b))) (rvk (by kernel_rfl)) hor) ?_
 refine sv 19 (.bool false) (za0 (k7 _ _ ?_))
 refine wp_cond_false rfl ?_
 refine wp_skip ?_
 refine k5 _ _ ?_
 refine wp_seq_k (fun ax aw=>?_)
 have aa:=Gr.drew w8
 replace hB:=hB.trans aa
 replace L2:=L2.gr (g8.trans aa)
 replace L3:=L3.gr (g8.trans aa)
 refine za4 (fun w'=>Lc w' b2 #[.bool (s),.slice ao la ca] 60∧Lc w' b3 #[.bool (!s),.slice bo lb cb] 60) [(true,0),(true,1),(true,2),(true,3),(true,4),(true,5),(false,6),(false,7),(false,8)] (by kernel_rfl) (by kernel_rfl) (by kernel_rfl) (by decide) (fun _ _ _ _ _ h=>h) ⟨L2,L3⟩ ?_
 refine ov 34 (pT b3 0) ?_
 refine ow 35 (.bool (!s)) rfl (fun w' hS=>(rk 4 0 hS.2)) ?_
 refine ov 36 (pT b3 1) ?_
 refine ow 37 (.slice bo lb cb) rfl (fun w' hS=>(rk 58 1 hS.2)) ?_
 refine ov 38 (pT b2 1) ?_
 refine ow 39 (.slice ao la ca) rfl (fun w' hS=>(rk 58 1 hS.1)) ?_
 refine oe ?_
 have ae:=g8.kp.trans aa.kp
 replace hb:=hb.kp ae
 replace ha:=ha.kp ae
 refine ec 40 (zW1 hb ha (by omega) (by omega) (by omega)) ?_
 rintro aA aB ⟨⟨ac,ak,rfl,av⟩,al⟩
 refine ⟨_,rfl,?_⟩
 replace hB:=hB.trans al
 replace L2:=L2.gr al
 replace L3:=L3.gr al
 refine ⟨⟨L2,L3⟩,?_⟩
 simp only [p3,p4]
 refine oe ?_
 refine ec 41 (zB4 (neg:=!s) av) ?_
 rintro aC ay ⟨⟨ad,rfl,aq⟩,aj⟩
 refine ⟨_,rfl,?_⟩
 replace hB:=hB.trans aj
 replace L2:=L2.gr aj
 replace L3:=L3.gr aj
 refine ⟨⟨L2,L3⟩,?_⟩
 simp only [p3,p4]
 refine oe ?_
 replace L4:=L4.gr (g8.trans (aa.trans (al.trans aj)))
 refine es 60 0 (.agg #[.bool (!s&&decide (0<ad)),.slice ac ad ak]) [.bool (!s&&decide (0<ad)),.slice ac ad ak] #[.bool (!s&&decide (0<ad)),.slice ac ad ak] L4 hB q4 ⟨rfl,rfl,trivial⟩ fun az ai ap L4 hB=>?_
 replace L2:=ai.lc L2 af
 replace L3:=ai.lc L3 ah
 refine ⟨⟨L2,L3⟩,?_⟩
 refine zb4 ?_
 refine aw _ _ ?_
 refine wp_ret ?_
 refine bodyPost_ret (v:=(.agg #[.bool (!s&&decide (0<ad)),.slice ac ad ak])) (zc8 _ _ _ rfl rfl L4 (by kernel_rfl)) rfl ⟨?_,hB⟩
 replace aq:=aq.kp ap
 exact ⟨_,_,_,rfl,aq⟩

end Go.Proofs.YtjhflekncldflaaGreatDoor
namespace Go.Proofs.YtjhflekncldflaaGreatDoor
open Go.RowKit

theorem Mag.pos {w:World} {ao:Option Addr} {len cap:Nat} {n:Int} (h:Mag w ao len cap n):decide (0<len)=decide (0<n):=by
 have h1:=h.nl.len_zero
 have h2:=h.nl.nonneg
 by_cases e:len=0
 ·have e2:=h1.1 e
  simp [e,e2]
 have e2:n≠0:=fun h=>e (h1.2 h)
 simp;omega
theorem IsInt.mk' {w:World} {k:Nat} {s:Bool} {ao:Option Addr} {len cap:Nat} {n z:Int} (h:Mag w ao len cap n) (hn:n=(z.natAbs:Int)) (hs:0<n→s=decide (z<0)) (hz:Sz k z):
  IsInt w k (.bool (s&&decide (0<len))) (.slice ao len cap) z:=by
 refine ⟨ao,len,cap,?_,rfl,hn ▸ h,hz⟩
 rw [h.pos]
 by_cases e:0<n
 ·rw [hs e];simp [e]
 have:¬ z<0:=by omega
 simp [e,this]

set_option maxHeartbeats 1000000 in
theorem neg_i {k:Nat} {x y:Value} {z:Int} {w:World} (hz:IsInt w k x y z):
  Calls Tryz.prog 128 #[.agg #[x,y]] w fun e w'=>(∃ x' y',e=.returned (.agg #[x',y'])∧IsInt w' k x' y' (-z))∧Gr w w':=by
 obtain ⟨ao,len,cap,rfl,rfl,hm,hs⟩:=hz
 by_cases h0:z<0
 ·have hd:decide (z<0)=true:=by simpa using h0
  rw [hd]
  go_enter Tryz.func128,Tryz.ntmps128
  go_wp2
  exact bodyPost_ret (v:=.agg #[.bool false,.slice ao len cap]) (by simp [results,Tryz.results128,go_sem]) rfl
   ⟨⟨_,_,rfl,ao,len,cap,by simp;omega,rfl,by rw [Int.natAbs_neg];exact hm.below (((Below.refl _ _).alloc (Nat.le_refl _) _).alloc (by simp) _),hs.neg⟩,((Below.refl _ _).alloc (Nat.le_refl _) _).alloc (by simp) _⟩
 have hd:decide (z<0)=false:=by simpa using h0
 rw [hd]
 go_enter Tryz.func128,Tryz.ntmps128
 go_wp2
 have h1:=hm.nl.len_zero
 exact bodyPost_ret (v:=.agg #[.bool (decide (0<len)),.slice ao len cap]) (by simp [results,Tryz.results128,go_sem]) rfl
  ⟨⟨_,_,rfl,ao,len,cap,by simp;omega,rfl,by rw [Int.natAbs_neg];exact hm.below (((Below.refl _ _).alloc (Nat.le_refl _) _).alloc (by simp) _),hs.neg⟩,((Below.refl _ _).alloc (Nat.le_refl _) _).alloc (by simp) _⟩

set_option maxHeartbeats 1000000 in
theorem zN1 {k:Nat} {x y:Value} {z:Int} {w:World} (hz:IsInt w k x y z):
  Calls Tryz.prog 84 #[.agg #[x,y]] w fun e w'=>e=.returned (.int .i64 (sgn z))∧Gr w w':=by
 obtain ⟨ao,len,cap,rfl,rfl,hm,hs⟩:=hz
 have hp:=hm.nl.len_zero
 by_cases h0:len=0
 ·subst h0
  have e0:z=0:=by omega
  subst e0
  go_enter Tryz.func84,Tryz.ntmps84
  go_wp2
  go_ret
  exact ⟨rfl,(Below.refl _ _).alloc (Nat.le_refl _) _⟩
 have hl:((len:Int)==0)=false:=by simp;omega
 by_cases h1:z<0
 ·have hd:decide (z<0)=true:=by simpa using h1
  rw [hd]
  go_enter Tryz.func84,Tryz.ntmps84
  go_wp2
  go_ret
  exact ⟨zo7 (zo6 h1).symm,(Below.refl _ _).alloc (Nat.le_refl _) _⟩
 have hd:decide (z<0)=false:=by simpa using h1
 rw [hd]
 go_enter Tryz.func84,Tryz.ntmps84
 go_wp2
 go_ret
 exact ⟨zo7 (zw2 (by omega)).symm,(Below.refl _ _).alloc (Nat.le_refl _) _⟩

theorem zo8 {k m:Nat} {x y x2 y2:Value} {z u:Int} {w:World} (hz:IsInt w k x y z) (hu:IsInt w m x2 y2 u) (hk:k+m≤1000000):
  Calls Tryz.prog 93 #[.agg #[x,y],.agg #[x2,y2]] w fun e w'=>(∃ x' y',e=.returned (.agg #[x',y'])∧IsInt w' (k+m) x' y' (z*u))∧Gr w w':=by
 obtain ⟨ao,la,ca,rfl,rfl,ha,hs⟩:=hz
 obtain ⟨bo,lb,cb,rfl,rfl,hb,ht⟩:=hu
 have hla:=ha.nl.len_sz hs.nat
 have hlb:=hb.nl.len_sz ht.nat
 refine (mul_raw _ _ _ _ ao bo la lb ca cb w (by omega) (by omega) ha hb).mono ?_
 rintro e w1 ⟨⟨go,n,cap,he,hm⟩,hB⟩
 refine ⟨⟨_,_,he,IsInt.mk' hm (by rw [Int.natAbs_mul];simp) (fun hp=>?_) (hs.mul ht)⟩,hB⟩
 by_cases h1:z<0<;>by_cases h2:u<0
 ·have:¬ z*u<0:=by have:=Int.mul_pos_of_neg_of_neg h1 h2;omega
  simp [h1,h2,this]
 ·have h3:u≠0:=fun h=>by subst h;simp at hp
  have:z*u<0:=Int.mul_neg_of_neg_of_pos h1 (by omega)
  simp [h1,h2,this]
 ·have h3:z≠0:=fun h=>by subst h;simp at hp
  have:z*u<0:=Int.mul_neg_of_pos_of_neg (by omega) h2
  simp [h1,h2,this]
 have:¬ z*u<0:=by have:=Int.mul_nonneg (show 0≤z by omega) (show 0≤u by omega);omega
 simp [h1,h2,this]

theorem add_i {k m:Nat} {x y x2 y2:Value} {z u:Int} {w:World} (hz:IsInt w k x y z) (hu:IsInt w m x2 y2 u) (hk:k+m+1≤1000000):
  Calls Tryz.prog 104 #[.agg #[x,y],.agg #[x2,y2]] w fun e w'=>(∃ x' y',e=.returned (.agg #[x',y'])∧IsInt w' (k+m+1) x' y' (z+u))∧Gr w w':=by
 obtain ⟨ao,la,ca,rfl,rfl,ha,hs⟩:=hz
 obtain ⟨bo,lb,cb,rfl,rfl,hb,ht⟩:=hu
 have hla:=ha.nl.len_sz hs.nat
 have hlb:=hb.nl.len_sz ht.nat
 have hsz:=hs.add ht
 by_cases h:decide (z<0)=decide (u<0)
 ·rw [← h]
  refine (add_same ha hb (by omega) (by omega)).mono ?_
  rintro e w1 ⟨⟨go,n,cap,he,hm⟩,hB⟩
  have h':z<0↔u<0:=by simpa using h
  exact ⟨⟨_,_,he,IsInt.mk' hm (by omega) (fun hp=>by simp;omega) hsz⟩,hB⟩
 have h2:decide (u<0)=!decide (z<0):=by cases h3:decide (z<0)<;>cases h4:decide (u<0)<;>simp_all
 rw [h2]
 have h':¬ (z<0↔u<0):=by simpa using h
 rcases Int.lt_or_le (z.natAbs:Int) (u.natAbs:Int) with h3 | h3
 ·refine (zI0 ha hb (by omega) (by omega) h3).mono ?_
  rintro e w1 ⟨⟨go,n,cap,he,hm⟩,hB⟩
  exact ⟨⟨_,_,he,IsInt.mk' hm (by omega) (fun hp=>by rw [← h2];simp;omega) hsz⟩,hB⟩
 refine (zH9 ha hb (by omega) (by omega) h3).mono ?_
 rintro e w1 ⟨⟨go,n,cap,he,hm⟩,hB⟩
 exact ⟨⟨_,_,he,IsInt.mk' hm (by omega) (fun hp=>by simp;omega) hsz⟩,hB⟩
end Go.Proofs.YtjhflekncldflaaGreatDoor
