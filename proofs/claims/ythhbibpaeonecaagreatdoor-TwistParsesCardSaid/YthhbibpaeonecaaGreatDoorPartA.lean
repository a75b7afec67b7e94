/- Joined of: Shelf, Num, Def, Own, Ord, Flo, Ort, Sq, Loop, Short, Dec, Str, Law, Law2, Ten, TenM, TenT, Int1, R1a, R1b, R1c, R1d, R1e, R1f, Int2, Int4, Int5. -/
import Derived.Shelf.Strings.Builder1
import Derived.Shelf.Strings.Builder2
import Derived.Shelf.Strings.OnBuilder
import Derived.Shelf.Strings.Trim
import Derived.Shelf.Small.Utf8
import Derived.Shelf.Small.Bits
import Derived.Shelf.Small.Strs
import Derived.Shelf.Small.Wraps
import Derived.Shelf.Strings.BuilderF
import Derived.Shelf.Strings.BuilderK
import Derived.Shelf.Strings.Builder2Cap
import Derived.Shelf.Strconv.Itoa0
import Derived.Shelf.Strconv.Itoa1
import Derived.Shelf.LaysM
import Derived.Shelf.Strconv.Itoa2
import Derived.Shelf.Strconv.Itoa3
import Derived.Shelf.Strconv.Clone
import Derived.Shelf.Strconv.SyntaxError
import Derived.Shelf.LaysC
import Derived.Shelf.Strconv.ToError
import Derived.Shelf.Strconv.Lower
import Derived.Shelf.Strconv.ParseUint10
import Derived.Shelf.Strconv.ParseUint10Empty
import Derived.Shelf.Strconv.ParseUint10Any
import Derived.Shelf.Strconv.RangeError
import Derived.Shelf.Strconv.ToErrorRange
import Derived.Shelf.Strconv.ParseUintEmpty
import Derived.Shelf.Strconv.ParseUint10b64
import Derived.Shelf.Strconv.ParseUint10b32
import Derived.Shelf.Strconv.ParseUint10b16
import Derived.Shelf.Strconv.ParseUint10b8
import Derived.Shelf.Strconv.ParseUint10At
import Derived.Ground.MpProg
import Derived.Shelf.Pu.ParseUintPublic10
import Derived.Shelf.Pu.ErrVarParseUint
import Derived.Shelf.Strings.Search1
import Derived.Shelf.Strings.Search2
import Derived.Shelf.Strings.Cut
import Derived.Shelf.Strings.Shaped
import Derived.Shelf.GgClosure.StringsIndexFunc
import Derived.Ground.GgwProg
import Derived.Shelf.GgClosure.StringsIndexFuncTop
import Derived.Shelf.GgClosure.StringsRunes
import Derived.Shelf.Strings.Prefix
import Derived.Shelf.Unicode.Decode
import Derived.Shelf.Strings.Runes
import Derived.Shelf.Strings.AsciiSet
import Derived.Shelf.Bits.Mul64
import Derived.Shelf.Strings.Repeat
import Derived.Shelf.Unicode.DecodeSlow
import Derived.Shelf.Unicode.DecodeAny
import Derived.Shelf.Unicode.DecodeLast
import Derived.Shelf.Strings.FuncGrows
import Derived.Shelf.Strings.BuilderCap
import Derived.Ground.Names2Prog
import Derived.Shelf.Slices.ReverseS
import Derived.Shelf.Slices.Cells
import Derived.Ground.SlgnProg
import Derived.Shelf.SlicesE.Clone
import Derived.Test.YthhbibpaeonecaaGreatDoorProg
import Derived.Test.YthhbibpaeonecaaGreatDoorRows
import Derived.WalkKit
import Derived.WalkSpells
import Derived.WalkLawsBesides
import Derived.Lib.Hide
import Derived.Deep.QuietTactic
import Derived.BigQuiet
import Derived.Deep.RegionHeld3
import Derived.Deep.DrawnRows
import Derived.Deep.MidRow
import Derived.Deep.LoopGhost
import Derived.Laws.AppendOwn
import Derived.Laws.Concat
import Derived.Lib.ItoaNum
import Derived.Lib.ItoaMem
import Derived.Lib.Repeat
import Derived.Lib.Join
import Derived.ProofKit
import Derived.Below
import Derived.Deep.DeepHandedRow
import Derived.Lib.LaidTab
import Derived.Stop.LaidErr
import Derived.LaidSub
import Derived.Lay
import Derived.MakeChecks
import Derived.Laws.IdiomStrings
namespace Go.Proofs
open Go.Shelf
def Tryz.lays156_ren : Go.Shelf.Ren := ⟨fun | 156 => 86 | 165 => 116 | 166 => 117 | 169 => 119 | 240 => 139 | 241 => 140 | 276 => 161 | 277 => 162 | n => n, fun | 31 => 135 | 9 => 9 | 3 => 3 | 4 => 4 | 0 => 0 | 20 => 20 | 72 => 179 | 76 => 181 | 70 => 176 | 37 => 177 | 75 => 165 | 127 => 199 | 164 => 214 | 5 => 5 | 80 => 108 | n => n, fun | n => n⟩
theorem Tryz.lays156 : Go.Proofs.Lays.n156 Tryz.prog Tryz.lays156_ren := {
  mixed := by kernel_rfl
  f156 := Tryz.func86.trans (congrArg some (by kernel_rfl))
  f165 := Tryz.func116.trans (congrArg some (by kernel_rfl))
  f166 := Tryz.func117.trans (congrArg some (by kernel_rfl))
  f169 := Tryz.func119.trans (congrArg some (by kernel_rfl))
  f240 := Tryz.func139.trans (congrArg some (by kernel_rfl))
  f241 := Tryz.func140.trans (congrArg some (by kernel_rfl))
  f276 := Tryz.func161.trans (congrArg some (by kernel_rfl))
  f277 := Tryz.func162.trans (congrArg some (by kernel_rfl))
  t0 := Tryz.underlying0
  a0 := Tryz.isAgg0
  z0 := Tryz.sizeOf0
  v0 := Tryz.zeroValue0
  t3 := Tryz.underlying3
  a3 := Tryz.isAgg3
  z3 := Tryz.sizeOf3
  v3 := Tryz.zeroValue3
  t4 := Tryz.underlying4
  a4 := Tryz.isAgg4
  z4 := Tryz.sizeOf4
  v4 := Tryz.zeroValue4
  t9 := Tryz.underlying9
  a9 := Tryz.isAgg9
  z9 := Tryz.sizeOf9
  v9 := Tryz.zeroValue9
  t20 := Tryz.underlying20
  a20 := Tryz.isAgg20
  z20 := Tryz.sizeOf20
  v20 := Tryz.zeroValue20
  t31 := Tryz.underlying135
  a31 := Tryz.isAgg135
  z31 := Tryz.sizeOf135
  v31 := Tryz.zeroValue135
  t37 := Tryz.underlying177
  a37 := Tryz.isAgg177
  z37 := Tryz.sizeOf177
  v37 := Tryz.zeroValue177
  t70 := Tryz.underlying176
  a70 := Tryz.isAgg176
  z70 := Tryz.sizeOf176
  v70 := Tryz.zeroValue176
  t72 := Tryz.underlying179
  a72 := Tryz.isAgg179
  z72 := Tryz.sizeOf179
  v72 := Tryz.zeroValue179
  t75 := Tryz.underlying165
  a75 := Tryz.isAgg165
  z75 := Tryz.sizeOf165
  v75 := Tryz.zeroValue165
  t76 := Tryz.underlying181
  a76 := Tryz.isAgg181
  z76 := Tryz.sizeOf181
  v76 := Tryz.zeroValue181
  t127 := Tryz.underlying199
  a127 := Tryz.isAgg199
  z127 := Tryz.sizeOf199
  v127 := Tryz.zeroValue199
  t164 := Tryz.underlying214
  a164 := Tryz.isAgg214
  z164 := Tryz.sizeOf214
  v164 := Tryz.zeroValue214 }
theorem Tryz.Builder_Extra_156 : Builder.Extra Tryz.prog Tryz.lays156_ren := {
  sizeBuilder := by kernel_rfl
  liesBuilder := by kernel_rfl
  t5 := Tryz.underlying5
  a5 := Tryz.isAgg5
  z5 := Tryz.sizeOf5
  v5 := Tryz.zeroValue5
  infoByte := by kernel_rfl
  cellsByte := by kernel_rfl
  sizeByte := by kernel_rfl
  neB5 := by decide }
open Go.RowKit in
theorem Tryz.strings_Join (bk o c : Nat) (xs : List ByteArray) (sep : ByteArray) (w : World) (hcells : ∀ (j : Nat) x, xs[j]? = some x → w.cell? ⟨bk, o + j, none⟩ = some (.string x)) (hbk : bk < w.heap.size) (hN : xs.length ≤ 140737488355328) (hcap : xs.length ≤ c) (hlen : (Lib.join (xs.map (·.data.toList)) sep.data.toList).length ≤ 140737488355328) :
    Calls Tryz.prog 86 #[.slice (some ⟨bk, o, none⟩) xs.length c, .string sep] w fun e w' => e = .returned (.string ⟨(Lib.join (xs.map (·.data.toList)) sep.data.toList).toArray⟩) ∧ Below w.heap.size w w' := Any.strings_Join Tryz.lays156 Tryz.Builder_Extra_156 bk o c xs sep w hcells hbk hN hcap hlen
def Tryz.lays160_ren : Go.Shelf.Ren := ⟨fun | 160 => 72 | 232 => 98 | 231 => 97 | 227 => 99 | 234 => 101 | 233 => 100 | 236 => 103 | 235 => 102 | 228 => 124 | 271 => 127 | 151 => 126 | 197 => 125 | 120 => 147 | 152 => 146 | 260 => 145 | 137 => 165 | 119 => 166 | 224 => 143 | 225 => 142 | 217 => 141 | 266 => 163 | n => n, fun | 9 => 9 | 4 => 4 | 3 => 3 | 5 => 5 | 117 => 156 | 116 => 155 | 0 => 0 | 124 => 159 | 21 => 21 | 105 => 186 | 46 => 149 | 119 => 218 | 139 => 221 | 138 => 220 | n => n, fun | 3 => 1 | 4 => 2 | n => n⟩
theorem Tryz.lays160 : Go.Proofs.Lays.n160 Tryz.prog Tryz.lays160_ren := {
  mixed := by kernel_rfl
  f119 := Tryz.func166.trans (congrArg some (by kernel_rfl))
  f120 := Tryz.func147.trans (congrArg some (by kernel_rfl))
  f137 := Tryz.func165.trans (congrArg some (by kernel_rfl))
  f151 := Tryz.func126.trans (congrArg some (by kernel_rfl))
  f152 := Tryz.func146.trans (congrArg some (by kernel_rfl))
  f160 := Tryz.func72.trans (congrArg some (by kernel_rfl))
  f197 := Tryz.func125.trans (congrArg some (by kernel_rfl))
  f217 := Tryz.func141.trans (congrArg some (by kernel_rfl))
  f224 := Tryz.func143.trans (congrArg some (by kernel_rfl))
  f225 := Tryz.func142.trans (congrArg some (by kernel_rfl))
  f227 := Tryz.func99.trans (congrArg some (by kernel_rfl))
  f228 := Tryz.func124.trans (congrArg some (by kernel_rfl))
  f231 := Tryz.func97.trans (congrArg some (by kernel_rfl))
  f232 := Tryz.func98.trans (congrArg some (by kernel_rfl))
  f233 := Tryz.func100.trans (congrArg some (by kernel_rfl))
  f234 := Tryz.func101.trans (congrArg some (by kernel_rfl))
  f235 := Tryz.func102.trans (congrArg some (by kernel_rfl))
  f236 := Tryz.func103.trans (congrArg some (by kernel_rfl))
  f260 := Tryz.func145.trans (congrArg some (by kernel_rfl))
  f266 := Tryz.func163.trans (congrArg some (by kernel_rfl))
  f271 := Tryz.func127.trans (congrArg some (by kernel_rfl))
  t0 := Tryz.underlying0
  a0 := Tryz.isAgg0
  z0 := Tryz.sizeOf0
  v0 := Tryz.zeroValue0
  t3 := Tryz.underlying3
  a3 := Tryz.isAgg3
  z3 := Tryz.sizeOf3
  v3 := Tryz.zeroValue3
  t4 := Tryz.underlying4
  a4 := Tryz.isAgg4
  z4 := Tryz.sizeOf4
  v4 := Tryz.zeroValue4
  t5 := Tryz.underlying5
  a5 := Tryz.isAgg5
  z5 := Tryz.sizeOf5
  v5 := Tryz.zeroValue5
  t9 := Tryz.underlying9
  a9 := Tryz.isAgg9
  z9 := Tryz.sizeOf9
  v9 := Tryz.zeroValue9
  t21 := Tryz.underlying21
  a21 := Tryz.isAgg21
  z21 := Tryz.sizeOf21
  v21 := Tryz.zeroValue21
  t46 := Tryz.underlying149
  a46 := Tryz.isAgg149
  z46 := Tryz.sizeOf149
  v46 := Tryz.zeroValue149
  t105 := Tryz.underlying186
  a105 := Tryz.isAgg186
  z105 := Tryz.sizeOf186
  v105 := Tryz.zeroValue186
  t116 := Tryz.underlying155
  a116 := Tryz.isAgg155
  z116 := Tryz.sizeOf155
  t117 := Tryz.underlying156
  a117 := Tryz.isAgg156
  z117 := Tryz.sizeOf156
  v117 := Tryz.zeroValue156
  t119 := Tryz.underlying218
  a119 := Tryz.isAgg218
  z119 := Tryz.sizeOf218
  t124 := Tryz.underlying159
  a124 := Tryz.isAgg159
  z124 := Tryz.sizeOf159
  v124 := Tryz.zeroValue159
  t138 := Tryz.underlying220
  a138 := Tryz.isAgg220
  z138 := Tryz.sizeOf220
  v138 := Tryz.zeroValue220
  t139 := Tryz.underlying221
  a139 := Tryz.isAgg221
  z139 := Tryz.sizeOf221
  v139 := Tryz.zeroValue221
  g3 := by kernel_rfl
  g4 := by kernel_rfl }
def Tryz.lays133_ren : Go.Shelf.Ren := ⟨fun | 133 => 132 | 128 => 155 | n => n, fun | 51 => 136 | 3 => 3 | 4 => 4 | 46 => 149 | 5 => 5 | 9 => 9 | n => n, fun | n => n⟩
theorem Tryz.lays133 : Go.Proofs.Lays.n133 Tryz.prog Tryz.lays133_ren := {
  mixed := by kernel_rfl
  f128 := Tryz.func155.trans (congrArg some (by kernel_rfl))
  f133 := Tryz.func132.trans (congrArg some (by kernel_rfl))
  t3 := Tryz.underlying3
  a3 := Tryz.isAgg3
  z3 := Tryz.sizeOf3
  v3 := Tryz.zeroValue3
  t4 := Tryz.underlying4
  a4 := Tryz.isAgg4
  z4 := Tryz.sizeOf4
  v4 := Tryz.zeroValue4
  t5 := Tryz.underlying5
  a5 := Tryz.isAgg5
  z5 := Tryz.sizeOf5
  v5 := Tryz.zeroValue5
  t9 := Tryz.underlying9
  a9 := Tryz.isAgg9
  z9 := Tryz.sizeOf9
  v9 := Tryz.zeroValue9
  t46 := Tryz.underlying149
  a46 := Tryz.isAgg149
  z46 := Tryz.sizeOf149
  v46 := Tryz.zeroValue149
  t51 := Tryz.underlying136
  a51 := Tryz.isAgg136
  z51 := Tryz.sizeOf136
  v51 := Tryz.zeroValue136 }
theorem Tryz.bits_LeadingZeros32 (x : Int) (w : World) (h0 : 0 ≤ x) (h1 : x ≤ 4294967295) :
    Calls Tryz.prog 132 #[.int .u32 x] w fun e w' => e = .returned (.int .i64 (32 - (Lib.bitLen x.toNat : Int))) ∧ w' = w := Any.bits_LeadingZeros32 Tryz.lays133 x w h0 h1
def Tryz.lays103_ren : Go.Shelf.Ren := ⟨fun | 103 => 104 | 210 => 128 | 206 => 123 | n => n, fun | 9 => 9 | 4 => 4 | 24 => 160 | 3 => 3 | n => n, fun | n => n⟩
theorem Tryz.lays103 : Go.Proofs.Lays.n103 Tryz.prog Tryz.lays103_ren := {
  mixed := by kernel_rfl
  f103 := Tryz.func104.trans (congrArg some (by kernel_rfl))
  f206 := Tryz.func123.trans (congrArg some (by kernel_rfl))
  f210 := Tryz.func128.trans (congrArg some (by kernel_rfl))
  t3 := Tryz.underlying3
  a3 := Tryz.isAgg3
  z3 := Tryz.sizeOf3
  v3 := Tryz.zeroValue3
  t4 := Tryz.underlying4
  a4 := Tryz.isAgg4
  z4 := Tryz.sizeOf4
  v4 := Tryz.zeroValue4
  t9 := Tryz.underlying9
  a9 := Tryz.isAgg9
  z9 := Tryz.sizeOf9
  v9 := Tryz.zeroValue9
  t24 := Tryz.underlying160
  a24 := Tryz.isAgg160
  z24 := Tryz.sizeOf160
  v24 := Tryz.zeroValue160 }
open Go.RowKit in
theorem Tryz.strings_CutPrefix (s p : ByteArray) (w : World) :
    Calls Tryz.prog 104 #[.string s, .string p] w fun e w' => e = .returned (.tuple #[.string ⟨(Lib.trimPrefix s.data.toList p.data.toList).toArray⟩, .bool (Lib.hasPrefix s.data.toList p.data.toList)]) ∧ w' = w := Any.strings_CutPrefix Tryz.lays103 s p w
def Tryz.laysM171_ren : Go.Shelf.Ren := ⟨fun | 171 => 83 | 243 => 113 | 246 => 136 | 283 => 157 | 284 => 158 | 285 => 159 | 286 => 160 | 129 => 170 | 317 => 169 | 318 => 171 | 319 => 172 | 320 => 173 | 337 => 174 | 338 => 175 | n => n, fun | 3 => 3 | 9 => 9 | 2 => 2 | 4 => 4 | 171 => 209 | 0 => 0 | 53 => 148 | 37 => 177 | 5 => 5 | 173 => 212 | 212 => 227 | 51 => 136 | 20 => 20 | 213 => 228 | 46 => 149 | 232 => 234 | 233 => 235 | n => n, fun | 17 => 5 | 18 => 6 | 19 => 7 | n => n⟩
theorem Tryz.laysM171 : Go.Proofs.LaysM.n171 Tryz.prog Tryz.laysM171_ren := {
  mixed := by kernel_rfl
  f129 := Tryz.func170.trans (congrArg some (by kernel_rfl))
  f171 := Tryz.func83.trans (congrArg some (by kernel_rfl))
  f243 := Tryz.func113.trans (congrArg some (by kernel_rfl))
  f246 := Tryz.func136.trans (congrArg some (by kernel_rfl))
  f283 := Tryz.func157.trans (congrArg some (by kernel_rfl))
  f284 := Tryz.func158.trans (congrArg some (by kernel_rfl))
  f285 := Tryz.func159.trans (congrArg some (by kernel_rfl))
  f286 := Tryz.func160.trans (congrArg some (by kernel_rfl))
  f317 := Tryz.func169.trans (congrArg some (by kernel_rfl))
  f318 := Tryz.func171.trans (congrArg some (by kernel_rfl))
  f319 := Tryz.func172.trans (congrArg some (by kernel_rfl))
  f320 := Tryz.func173.trans (congrArg some (by kernel_rfl))
  f337 := Tryz.func174.trans (congrArg some (by kernel_rfl))
  f338 := Tryz.func175.trans (congrArg some (by kernel_rfl))
  t0 := Tryz.underlying0
  a0 := Tryz.isAgg0
  z0 := Tryz.sizeOf0
  v0 := Tryz.zeroValue0
  t2 := Tryz.underlying2
  a2 := Tryz.isAgg2
  z2 := Tryz.sizeOf2
  v2 := Tryz.zeroValue2
  t3 := Tryz.underlying3
  a3 := Tryz.isAgg3
  z3 := Tryz.sizeOf3
  v3 := Tryz.zeroValue3
  t4 := Tryz.underlying4
  a4 := Tryz.isAgg4
  z4 := Tryz.sizeOf4
  v4 := Tryz.zeroValue4
  t5 := Tryz.underlying5
  a5 := Tryz.isAgg5
  z5 := Tryz.sizeOf5
  v5 := Tryz.zeroValue5
  t9 := Tryz.underlying9
  a9 := Tryz.isAgg9
  z9 := Tryz.sizeOf9
  v9 := Tryz.zeroValue9
  t20 := Tryz.underlying20
  a20 := Tryz.isAgg20
  z20 := Tryz.sizeOf20
  v20 := Tryz.zeroValue20
  t37 := Tryz.underlying177
  a37 := Tryz.isAgg177
  z37 := Tryz.sizeOf177
  v37 := Tryz.zeroValue177
  t46 := Tryz.underlying149
  a46 := Tryz.isAgg149
  z46 := Tryz.sizeOf149
  v46 := Tryz.zeroValue149
  t51 := Tryz.underlying136
  a51 := Tryz.isAgg136
  z51 := Tryz.sizeOf136
  v51 := Tryz.zeroValue136
  t53 := Tryz.underlying148
  a53 := Tryz.isAgg148
  z53 := Tryz.sizeOf148
  v53 := Tryz.zeroValue148
  t171 := Tryz.underlying209
  a171 := Tryz.isAgg209
  z171 := Tryz.sizeOf209
  v171 := Tryz.zeroValue209
  t173 := Tryz.underlying212
  a173 := Tryz.isAgg212
  z173 := Tryz.sizeOf212
  v173 := Tryz.zeroValue212
  t212 := Tryz.underlying227
  a212 := Tryz.isAgg227
  z212 := Tryz.sizeOf227
  v212 := Tryz.zeroValue227
  t213 := Tryz.underlying228
  a213 := Tryz.isAgg228
  z213 := Tryz.sizeOf228
  t232 := Tryz.underlying234
  a232 := Tryz.isAgg234
  z232 := Tryz.sizeOf234
  v232 := Tryz.zeroValue234
  t233 := Tryz.underlying235
  a233 := Tryz.isAgg235
  z233 := Tryz.sizeOf235
  v233 := Tryz.zeroValue235
  g17 := by kernel_rfl
  g18 := by kernel_rfl
  g19 := by kernel_rfl
  i0 := by kernel_rfl
  i2 := by kernel_rfl
  i3 := by kernel_rfl
  i4 := by kernel_rfl
  i5 := by kernel_rfl
  i9 := by kernel_rfl
  i20 := by kernel_rfl
  i37 := by kernel_rfl
  i46 := by kernel_rfl
  i51 := by kernel_rfl
  i53 := by kernel_rfl
  i171 := by kernel_rfl
  i173 := by kernel_rfl
  i212 := by kernel_rfl
  i232 := by kernel_rfl
  i233 := by kernel_rfl
  m17 := by kernel_rfl
  m18 := by kernel_rfl
  m19 := by kernel_rfl }
open Go.RowKit Go.Sort Go.Lib in
theorem Tryz.strconv_Itoa (n : Int) (h0 : -9223372036854775808 ≤ n) (h1 : n ≤ 9223372036854775807) (w : World) (htab : Lib.TabIs Tryz.prog w "internal/strconv.uint64pow10" .u64 Lib.pow10Tab) :
    Calls Tryz.prog 83 #[.int .i64 n] w fun e w' => e = .returned (.string ⟨(Lib.itoa n).toArray⟩) ∧ ∃ k os, w' = grow (w.drewN k) os := Any.strconv_Itoa Tryz.laysM171 n h0 h1 w htab
def Tryz.laysPu14_ren : Go.Shelf.Ren := ⟨fun | 14 => 107 | 16 => 130 | 17 => 131 | 19 => 149 | 20 => 150 | 21 => 151 | 22 => 152 | 23 => 153 | 24 => 154 | 25 => 167 | 27 => 83 | 26 => 168 | 28 => 113 | 29 => 136 | 30 => 157 | 31 => 158 | 32 => 159 | 33 => 160 | 35 => 170 | 34 => 169 | 36 => 171 | 37 => 172 | 38 => 173 | 39 => 174 | 40 => 175 | n => n, fun | 9 => 9 | 3 => 3 | 22 => 148 | 24 => 165 | 25 => 166 | 4 => 4 | 34 => 204 | 5 => 5 | 36 => 149 | 37 => 177 | 0 => 0 | 39 => 206 | 21 => 21 | 44 => 224 | 47 => 199 | 50 => 233 | 48 => 231 | 2 => 2 | 52 => 209 | 55 => 212 | 59 => 227 | 60 => 136 | 20 => 20 | 61 => 228 | 65 => 234 | 66 => 235 | 67 => 108 | n => n, fun | 0 => 3 | 1 => 4 | 2 => 5 | 3 => 6 | 4 => 7 | n => n⟩
theorem Tryz.laysPu14 : Go.Proofs.LaysPu.n14 Tryz.prog Tryz.laysPu14_ren := {
  mixed := by kernel_rfl
  f14 := Tryz.func107.trans (congrArg some (by kernel_rfl))
  f16 := Tryz.func130.trans (congrArg some (by kernel_rfl))
  f17 := Tryz.func131.trans (congrArg some (by kernel_rfl))
  f19 := Tryz.func149.trans (congrArg some (by kernel_rfl))
  f20 := Tryz.func150.trans (congrArg some (by kernel_rfl))
  f21 := Tryz.func151.trans (congrArg some (by kernel_rfl))
  f22 := Tryz.func152.trans (congrArg some (by kernel_rfl))
  f23 := Tryz.func153.trans (congrArg some (by kernel_rfl))
  f24 := Tryz.func154.trans (congrArg some (by kernel_rfl))
  f25 := Tryz.func167.trans (congrArg some (by kernel_rfl))
  f26 := Tryz.func168.trans (congrArg some (by kernel_rfl))
  f27 := Tryz.func83.trans (congrArg some (by kernel_rfl))
  f28 := Tryz.func113.trans (congrArg some (by kernel_rfl))
  f29 := Tryz.func136.trans (congrArg some (by kernel_rfl))
  f30 := Tryz.func157.trans (congrArg some (by kernel_rfl))
  f31 := Tryz.func158.trans (congrArg some (by kernel_rfl))
  f32 := Tryz.func159.trans (congrArg some (by kernel_rfl))
  f33 := Tryz.func160.trans (congrArg some (by kernel_rfl))
  f34 := Tryz.func169.trans (congrArg some (by kernel_rfl))
  f35 := Tryz.func170.trans (congrArg some (by kernel_rfl))
  f36 := Tryz.func171.trans (congrArg some (by kernel_rfl))
  f37 := Tryz.func172.trans (congrArg some (by kernel_rfl))
  f38 := Tryz.func173.trans (congrArg some (by kernel_rfl))
  f39 := Tryz.func174.trans (congrArg some (by kernel_rfl))
  f40 := Tryz.func175.trans (congrArg some (by kernel_rfl))
  t0 := Tryz.underlying0
  a0 := Tryz.isAgg0
  z0 := Tryz.sizeOf0
  v0 := Tryz.zeroValue0
  i0 := by kernel_rfl
  t2 := Tryz.underlying2
  a2 := Tryz.isAgg2
  z2 := Tryz.sizeOf2
  v2 := Tryz.zeroValue2
  i2 := by kernel_rfl
  t3 := Tryz.underlying3
  a3 := Tryz.isAgg3
  z3 := Tryz.sizeOf3
  v3 := Tryz.zeroValue3
  i3 := by kernel_rfl
  t4 := Tryz.underlying4
  a4 := Tryz.isAgg4
  z4 := Tryz.sizeOf4
  v4 := Tryz.zeroValue4
  i4 := by kernel_rfl
  t5 := Tryz.underlying5
  a5 := Tryz.isAgg5
  z5 := Tryz.sizeOf5
  v5 := Tryz.zeroValue5
  i5 := by kernel_rfl
  t9 := Tryz.underlying9
  a9 := Tryz.isAgg9
  z9 := Tryz.sizeOf9
  v9 := Tryz.zeroValue9
  i9 := by kernel_rfl
  t20 := Tryz.underlying20
  a20 := Tryz.isAgg20
  z20 := Tryz.sizeOf20
  v20 := Tryz.zeroValue20
  i20 := by kernel_rfl
  t21 := Tryz.underlying21
  a21 := Tryz.isAgg21
  z21 := Tryz.sizeOf21
  v21 := Tryz.zeroValue21
  i21 := by kernel_rfl
  t22 := Tryz.underlying148
  a22 := Tryz.isAgg148
  z22 := Tryz.sizeOf148
  v22 := Tryz.zeroValue148
  i22 := by kernel_rfl
  t24 := Tryz.underlying165
  a24 := Tryz.isAgg165
  z24 := Tryz.sizeOf165
  v24 := Tryz.zeroValue165
  i24 := by kernel_rfl
  t25 := Tryz.underlying166
  a25 := Tryz.isAgg166
  z25 := Tryz.sizeOf166
  v25 := Tryz.zeroValue166
  i25 := by kernel_rfl
  t34 := Tryz.underlying204
  a34 := Tryz.isAgg204
  z34 := Tryz.sizeOf204
  v34 := Tryz.zeroValue204
  i34 := by kernel_rfl
  c34 := by kernel_rfl
  t36 := Tryz.underlying149
  a36 := Tryz.isAgg149
  z36 := Tryz.sizeOf149
  v36 := Tryz.zeroValue149
  i36 := by kernel_rfl
  t37 := Tryz.underlying177
  a37 := Tryz.isAgg177
  z37 := Tryz.sizeOf177
  v37 := Tryz.zeroValue177
  i37 := by kernel_rfl
  t39 := Tryz.underlying206
  a39 := Tryz.isAgg206
  z39 := Tryz.sizeOf206
  v39 := Tryz.zeroValue206
  i39 := by kernel_rfl
  t44 := Tryz.underlying224
  a44 := Tryz.isAgg224
  z44 := Tryz.sizeOf224
  v44 := Tryz.zeroValue224
  i44 := by kernel_rfl
  t47 := Tryz.underlying199
  a47 := Tryz.isAgg199
  z47 := Tryz.sizeOf199
  v47 := Tryz.zeroValue199
  i47 := by kernel_rfl
  t48 := Tryz.underlying231
  a48 := Tryz.isAgg231
  z48 := Tryz.sizeOf231
  v48 := Tryz.zeroValue231
  i48 := by kernel_rfl
  t50 := Tryz.underlying233
  a50 := Tryz.isAgg233
  z50 := Tryz.sizeOf233
  v50 := Tryz.zeroValue233
  i50 := by kernel_rfl
  t52 := Tryz.underlying209
  a52 := Tryz.isAgg209
  z52 := Tryz.sizeOf209
  v52 := Tryz.zeroValue209
  i52 := by kernel_rfl
  t55 := Tryz.underlying212
  a55 := Tryz.isAgg212
  z55 := Tryz.sizeOf212
  v55 := Tryz.zeroValue212
  i55 := by kernel_rfl
  t59 := Tryz.underlying227
  a59 := Tryz.isAgg227
  z59 := Tryz.sizeOf227
  v59 := Tryz.zeroValue227
  i59 := by kernel_rfl
  t60 := Tryz.underlying136
  a60 := Tryz.isAgg136
  z60 := Tryz.sizeOf136
  v60 := Tryz.zeroValue136
  i60 := by kernel_rfl
  t61 := Tryz.underlying228
  a61 := Tryz.isAgg228
  z61 := Tryz.sizeOf228
  t65 := Tryz.underlying234
  a65 := Tryz.isAgg234
  z65 := Tryz.sizeOf234
  v65 := Tryz.zeroValue234
  i65 := by kernel_rfl
  t66 := Tryz.underlying235
  a66 := Tryz.isAgg235
  z66 := Tryz.sizeOf235
  v66 := Tryz.zeroValue235
  i66 := by kernel_rfl
  t67 := Tryz.underlying108
  a67 := Tryz.isAgg108
  z67 := Tryz.sizeOf108
  v67 := Tryz.zeroValue108
  i67 := by kernel_rfl
  g0 := by kernel_rfl
  m0 := by kernel_rfl
  g1 := by kernel_rfl
  m1 := by kernel_rfl
  g2 := by kernel_rfl
  m2 := by kernel_rfl
  g3 := by kernel_rfl
  m3 := by kernel_rfl
  g4 := by kernel_rfl
  m4 := by kernel_rfl }
open Go.RowKit in
theorem Tryz.strconv_ParseUint_10_at32_ok (s : ByteArray) (hmax : s.size ≤ 9223372036854775806) (u : Nat) (h : Lib.parseUintB 32 s.data.toList = .ok u) (w : World) :
    Calls Tryz.prog 107 #[.string s, .int .i64 10, .int .i64 32] w fun e w' => e = .returned (.tuple #[.int .u64 u, .nilIface]) ∧ (w' = w ∨ w' = Lib.bytesWorld w 5 s) := Any.strconv_ParseUint_10_at32_ok Tryz.laysPu14 s hmax u h w
def Tryz.lays145_ren : Go.Shelf.Ren := ⟨fun | 145 => 69 | 220 => 95 | 219 => 122 | 217 => 141 | 225 => 142 | 224 => 143 | 267 => 144 | 266 => 163 | 314 => 164 | n => n, fun | 9 => 9 | 4 => 4 | 59 => 124 | 3 => 3 | 5 => 5 | 46 => 149 | 146 => 195 | 51 => 136 | n => n, fun | 1 => 0 | n => n⟩
theorem Tryz.lays145 : Go.Proofs.Lays.n145 Tryz.prog Tryz.lays145_ren := {
  mixed := by kernel_rfl
  f145 := Tryz.func69.trans (congrArg some (by kernel_rfl))
  f217 := Tryz.func141.trans (congrArg some (by kernel_rfl))
  f219 := Tryz.func122.trans (congrArg some (by kernel_rfl))
  f220 := Tryz.func95.trans (congrArg some (by kernel_rfl))
  f224 := Tryz.func143.trans (congrArg some (by kernel_rfl))
  f225 := Tryz.func142.trans (congrArg some (by kernel_rfl))
  f266 := Tryz.func163.trans (congrArg some (by kernel_rfl))
  f267 := Tryz.func144.trans (congrArg some (by kernel_rfl))
  f314 := Tryz.func164.trans (congrArg some (by kernel_rfl))
  t3 := Tryz.underlying3
  a3 := Tryz.isAgg3
  z3 := Tryz.sizeOf3
  v3 := Tryz.zeroValue3
  t4 := Tryz.underlying4
  a4 := Tryz.isAgg4
  z4 := Tryz.sizeOf4
  v4 := Tryz.zeroValue4
  t5 := Tryz.underlying5
  a5 := Tryz.isAgg5
  z5 := Tryz.sizeOf5
  v5 := Tryz.zeroValue5
  t9 := Tryz.underlying9
  a9 := Tryz.isAgg9
  z9 := Tryz.sizeOf9
  v9 := Tryz.zeroValue9
  t46 := Tryz.underlying149
  a46 := Tryz.isAgg149
  z46 := Tryz.sizeOf149
  v46 := Tryz.zeroValue149
  t51 := Tryz.underlying136
  a51 := Tryz.isAgg136
  z51 := Tryz.sizeOf136
  v51 := Tryz.zeroValue136
  t59 := Tryz.underlying124
  a59 := Tryz.isAgg124
  z59 := Tryz.sizeOf124
  v59 := Tryz.zeroValue124
  t146 := Tryz.underlying195
  a146 := Tryz.isAgg195
  z146 := Tryz.sizeOf195
  v146 := Tryz.zeroValue195
  g1 := by kernel_rfl }
open Go.RowKit Go.Lib in
theorem Tryz.strings_Cut (s sep : ByteArray) (m : Int) (w : World) (hs : s.size < 4294967281) (hm : w.cell? ⟨0, 0, none⟩ = some (.int .i64 m)) :
    Calls Tryz.prog 69 #[.string s, .string sep] w fun e w' => e = .returned (.tuple #[.string ⟨(Lib.cut s.data.toList sep.data.toList).1.toArray⟩, .string ⟨(Lib.cut s.data.toList sep.data.toList).2.1.toArray⟩, .bool (Lib.cut s.data.toList sep.data.toList).2.2]) ∧ ∃ n, w' = w.drewN n := Any.strings_Cut Tryz.lays145 s sep m w hs hm
def Tryz.laysGw17_ren : Go.Shelf.Ren := ⟨fun | 17 => 105 | 15 => 129 | 20 => 148 | n => n, fun | 9 => 9 | 23 => 163 | 4 => 4 | 3 => 3 | 0 => 0 | 21 => 21 | n => n, fun | n => n⟩
theorem Tryz.laysGw17 : Go.Proofs.LaysGw.n17 Tryz.prog Tryz.laysGw17_ren := {
  mixed := by kernel_rfl
  f15 := Tryz.func129.trans (congrArg some (by kernel_rfl))
  f17 := Tryz.func105.trans (congrArg some (by kernel_rfl))
  f20 := Tryz.func148.trans (congrArg some (by kernel_rfl))
  t0 := Tryz.underlying0
  a0 := Tryz.isAgg0
  z0 := Tryz.sizeOf0
  v0 := Tryz.zeroValue0
  i0 := by kernel_rfl
  t3 := Tryz.underlying3
  a3 := Tryz.isAgg3
  z3 := Tryz.sizeOf3
  v3 := Tryz.zeroValue3
  i3 := by kernel_rfl
  t4 := Tryz.underlying4
  a4 := Tryz.isAgg4
  z4 := Tryz.sizeOf4
  v4 := Tryz.zeroValue4
  i4 := by kernel_rfl
  t9 := Tryz.underlying9
  a9 := Tryz.isAgg9
  z9 := Tryz.sizeOf9
  v9 := Tryz.zeroValue9
  i9 := by kernel_rfl
  t21 := Tryz.underlying21
  a21 := Tryz.isAgg21
  z21 := Tryz.sizeOf21
  v21 := Tryz.zeroValue21
  i21 := by kernel_rfl
  t23 := Tryz.underlying163
  a23 := Tryz.isAgg163
  z23 := Tryz.sizeOf163
  v23 := Tryz.zeroValue163
  i23 := by kernel_rfl }
open Go.RowKit Go.Lib in
theorem Tryz.strings_ContainsFunc (g : Nat) (lb : Array Value) (eg : ∀ args w, (callFunc g args).run Tryz.prog w = .ok (.enter g args) w) (p : Nat → Bool) (s : ByteArray) (w : World) (hp : PredAt Tryz.prog g lb encR p w) :
    Calls Tryz.prog 105 #[.string s, .func (.func g) #[] lb] w fun e w' => e = .returned (.bool (decide (0 ≤ Lib.idxFunc p true s))) ∧ Below w.heap.size w w' := Any.strings_ContainsFunc Tryz.laysGw17 g lb eg p s w hp
def Tryz.lays101_ren : Go.Shelf.Ren := ⟨fun | 101 => 71 | 208 => 96 | 206 => 123 | n => n, fun | 9 => 9 | 4 => 4 | 3 => 3 | n => n, fun | n => n⟩
theorem Tryz.lays101 : Go.Proofs.Lays.n101 Tryz.prog Tryz.lays101_ren := {
  mixed := by kernel_rfl
  f101 := Tryz.func71.trans (congrArg some (by kernel_rfl))
  f206 := Tryz.func123.trans (congrArg some (by kernel_rfl))
  f208 := Tryz.func96.trans (congrArg some (by kernel_rfl))
  t3 := Tryz.underlying3
  a3 := Tryz.isAgg3
  z3 := Tryz.sizeOf3
  v3 := Tryz.zeroValue3
  t4 := Tryz.underlying4
  a4 := Tryz.isAgg4
  z4 := Tryz.sizeOf4
  v4 := Tryz.zeroValue4
  t9 := Tryz.underlying9
  a9 := Tryz.isAgg9
  z9 := Tryz.sizeOf9
  v9 := Tryz.zeroValue9 }
open Go.RowKit Go.Lib in
theorem Tryz.strings_TrimPrefix (s p : ByteArray) (w : World) :
    Calls Tryz.prog 71 #[.string s, .string p] w fun e w' => e = .returned (.string ⟨(Lib.trimPrefix s.data.toList p.data.toList).toArray⟩) ∧ w' = w := Any.strings_TrimPrefix Tryz.lays101 s p w
def Tryz.lays105_ren : Go.Shelf.Ren := ⟨fun | 105 => 84 | 212 => 114 | 99 => 115 | 165 => 116 | 166 => 117 | 170 => 118 | 169 => 119 | 263 => 137 | 264 => 138 | 206 => 123 | 240 => 139 | 241 => 140 | 276 => 161 | 277 => 162 | n => n, fun | 9 => 9 | 3 => 3 | 4 => 4 | 20 => 20 | 0 => 0 | 46 => 149 | 109 => 173 | 5 => 5 | 72 => 179 | 76 => 181 | 51 => 136 | 146 => 195 | 53 => 148 | 148 => 197 | 70 => 176 | 37 => 177 | 75 => 165 | 127 => 199 | 164 => 214 | 80 => 108 | n => n, fun | n => n⟩
theorem Tryz.lays105 : Go.Proofs.Lays.n105 Tryz.prog Tryz.lays105_ren := {
  mixed := by kernel_rfl
  f99 := Tryz.func115.trans (congrArg some (by kernel_rfl))
  f105 := Tryz.func84.trans (congrArg some (by kernel_rfl))
  f165 := Tryz.func116.trans (congrArg some (by kernel_rfl))
  f166 := Tryz.func117.trans (congrArg some (by kernel_rfl))
  f169 := Tryz.func119.trans (congrArg some (by kernel_rfl))
  f170 := Tryz.func118.trans (congrArg some (by kernel_rfl))
  f206 := Tryz.func123.trans (congrArg some (by kernel_rfl))
  f212 := Tryz.func114.trans (congrArg some (by kernel_rfl))
  f240 := Tryz.func139.trans (congrArg some (by kernel_rfl))
  f241 := Tryz.func140.trans (congrArg some (by kernel_rfl))
  f263 := Tryz.func137.trans (congrArg some (by kernel_rfl))
  f264 := Tryz.func138.trans (congrArg some (by kernel_rfl))
  f276 := Tryz.func161.trans (congrArg some (by kernel_rfl))
  f277 := Tryz.func162.trans (congrArg some (by kernel_rfl))
  t0 := Tryz.underlying0
  a0 := Tryz.isAgg0
  z0 := Tryz.sizeOf0
  v0 := Tryz.zeroValue0
  t3 := Tryz.underlying3
  a3 := Tryz.isAgg3
  z3 := Tryz.sizeOf3
  v3 := Tryz.zeroValue3
  t4 := Tryz.underlying4
  a4 := Tryz.isAgg4
  z4 := Tryz.sizeOf4
  v4 := Tryz.zeroValue4
  t5 := Tryz.underlying5
  a5 := Tryz.isAgg5
  z5 := Tryz.sizeOf5
  v5 := Tryz.zeroValue5
  t9 := Tryz.underlying9
  a9 := Tryz.isAgg9
  z9 := Tryz.sizeOf9
  v9 := Tryz.zeroValue9
  t20 := Tryz.underlying20
  a20 := Tryz.isAgg20
  z20 := Tryz.sizeOf20
  v20 := Tryz.zeroValue20
  t37 := Tryz.underlying177
  a37 := Tryz.isAgg177
  z37 := Tryz.sizeOf177
  v37 := Tryz.zeroValue177
  t46 := Tryz.underlying149
  a46 := Tryz.isAgg149
  z46 := Tryz.sizeOf149
  v46 := Tryz.zeroValue149
  t51 := Tryz.underlying136
  a51 := Tryz.isAgg136
  z51 := Tryz.sizeOf136
  v51 := Tryz.zeroValue136
  t53 := Tryz.underlying148
  a53 := Tryz.isAgg148
  z53 := Tryz.sizeOf148
  v53 := Tryz.zeroValue148
  t70 := Tryz.underlying176
  a70 := Tryz.isAgg176
  z70 := Tryz.sizeOf176
  v70 := Tryz.zeroValue176
  t72 := Tryz.underlying179
  a72 := Tryz.isAgg179
  z72 := Tryz.sizeOf179
  v72 := Tryz.zeroValue179
  t75 := Tryz.underlying165
  a75 := Tryz.isAgg165
  z75 := Tryz.sizeOf165
  v75 := Tryz.zeroValue165
  t76 := Tryz.underlying181
  a76 := Tryz.isAgg181
  z76 := Tryz.sizeOf181
  v76 := Tryz.zeroValue181
  t109 := Tryz.underlying173
  a109 := Tryz.isAgg173
  z109 := Tryz.sizeOf173
  v109 := Tryz.zeroValue173
  t127 := Tryz.underlying199
  a127 := Tryz.isAgg199
  z127 := Tryz.sizeOf199
  v127 := Tryz.zeroValue199
  t146 := Tryz.underlying195
  a146 := Tryz.isAgg195
  z146 := Tryz.sizeOf195
  v146 := Tryz.zeroValue195
  t148 := Tryz.underlying197
  a148 := Tryz.isAgg197
  z148 := Tryz.sizeOf197
  v148 := Tryz.zeroValue197
  t164 := Tryz.underlying214
  a164 := Tryz.isAgg214
  z164 := Tryz.sizeOf214
  v164 := Tryz.zeroValue214 }
theorem Tryz.Builder_Extra_105 : Builder.Extra Tryz.prog Tryz.lays105_ren := {
  sizeBuilder := by kernel_rfl
  liesBuilder := by kernel_rfl
  t5 := Tryz.underlying5
  a5 := Tryz.isAgg5
  z5 := Tryz.sizeOf5
  v5 := Tryz.zeroValue5
  infoByte := by kernel_rfl
  cellsByte := by kernel_rfl
  sizeByte := by kernel_rfl
  neB5 := by decide }
open Go.RowKit Go.Lib in
theorem Tryz.strings_Repeat (s : ByteArray) (c : Nat) (w : World) (hc : c ≤ 9223372036854775807) (hlen : s.size * c ≤ 140737488355328) :
    Calls Tryz.prog 84 #[.string s, .int .i64 c] w fun e w' => e = .returned (.string ⟨(Lib.repeatL s.data.toList c).toArray⟩) ∧ Below w.heap.size w w' := Any.strings_Repeat Tryz.lays105 Tryz.Builder_Extra_105 s c w hc hlen
def Tryz.laysNm217_ren : Go.Shelf.Ren := ⟨fun | 17 => 85 | n => n, fun | 24 => 135 | 9 => 9 | 3 => 3 | 4 => 4 | 0 => 0 | n => n, fun | n => n⟩
theorem Tryz.laysNm217 : Go.Proofs.Lays2.n17 Tryz.prog Tryz.laysNm217_ren := {
  mixed := by kernel_rfl
  f17 := Tryz.func85.trans (congrArg some (by kernel_rfl))
  t0 := Tryz.underlying0
  a0 := Tryz.isAgg0
  z0 := Tryz.sizeOf0
  v0 := Tryz.zeroValue0
  t3 := Tryz.underlying3
  a3 := Tryz.isAgg3
  z3 := Tryz.sizeOf3
  v3 := Tryz.zeroValue3
  t4 := Tryz.underlying4
  a4 := Tryz.isAgg4
  z4 := Tryz.sizeOf4
  v4 := Tryz.zeroValue4
  t9 := Tryz.underlying9
  a9 := Tryz.isAgg9
  z9 := Tryz.sizeOf9
  v9 := Tryz.zeroValue9
  t24 := Tryz.underlying135
  a24 := Tryz.isAgg135
  z24 := Tryz.sizeOf135
  v24 := Tryz.zeroValue135 }
open Go.RowKit Go.Lib Go.Sort in
theorem Tryz.slices_Reverse_string_cells (b off n c : Nat) (Sx : Nat → ByteArray) (w : World) (hbig : n ≤ 9223372036854775807) (hc : ∀ i, i < n → w.cell? ⟨b, off + i, none⟩ = some (.string (Sx i))) (hf : ∀ j, j < n → w.frozen? ⟨b, off + j, none⟩ = false) :
    Calls Tryz.prog 85 #[.slice (some ⟨b, off, none⟩) n c] w fun e w' => e = .returned (.tuple #[]) ∧ ∃ q, w' = (w.drewN q).setCells b off ((Lib.strsOf Sx n).reverse.map encStr) := Any.slices_Reverse_string_cells Tryz.laysNm217 b off n c Sx w hbig hc hf
end Go.Proofs
namespace Go.Proofs.YthhbibpaeonecaaGreatDoor

/-- What is left of n behind its lowest i digits. -/
def hi (n:Int):Nat→Int
  | 0=>n
  | i+1=>hi n i/4294967296
/-- Digit number i of n. -/
def dg (n:Int) (i:Nat):Int:=hi n i % 4294967296

theorem hi_zero (n:Int):hi n 0=n:=rfl
theorem hi_succ (n:Int) (i:Nat):hi n (i+1)=hi n i/4294967296:=rfl
theorem dg_nonneg (n:Int) (i:Nat):0≤dg n i:=by unfold dg;omega
theorem dg_lt (n:Int) (i:Nat):dg n i<4294967296:=by unfold dg;omega
theorem hi_split (n:Int) (i:Nat):hi n i=4294967296*hi n (i+1)+dg n i:=by unfold dg;rw [hi_succ];omega
theorem hi_nonneg {n:Int} (h:0≤n):∀ i,0≤hi n i
  | 0=>h
  | i+1=>by have:=hi_nonneg h i;rw [hi_succ];omega
theorem hi_mono {a b:Int} (h:a≤b):∀ i,hi a i≤hi b i
  | 0=>h
  | i+1=>by have:=hi_mono h i;rw [hi_succ,hi_succ];omega
theorem hi_add (n:Int) (i:Nat):∀ k,hi n (i+k)=hi (hi n i) k
  | 0=>rfl
  | k+1=>by rw [← Nat.add_assoc,hi_succ,hi_add n i k,hi_succ]
theorem hi_zero_n:∀ i,hi 0 i=0
  | 0=>rfl
  | i+1=>by rw [hi_succ,hi_zero_n i];rfl
theorem hi_ge {n:Int} {i k:Nat} (h:hi n i=0) (hk:i≤k):hi n k=0:=by
  obtain ⟨j,rfl⟩:=Nat.le.dest hk
  rw [hi_add,h,hi_zero_n]
theorem dg_zero_of {n:Int} {i k:Nat} (h:hi n i=0) (hk:i≤k):dg n k=0:=by unfold dg;rw [hi_ge h hk];rfl
theorem hi_le {n:Int} (h:0≤n) (i:Nat):hi n (i+1)≤hi n i:=by have:=hi_nonneg h i;rw [hi_succ];omega
theorem hi_le_of {n:Int} (h:0≤n) {i k:Nat} (hk:i≤k):hi n k≤hi n i:=by
  obtain ⟨j,rfl⟩:=Nat.le.dest hk
  induction j with
  | zero=>exact Int.le_refl _
  | succ j ih=>have:=hi_le h (i+j);have:=ih (by omega);rw [← Nat.add_assoc];omega

/-- n has len digits,and no zeros at the end. -/
structure NL (n:Int) (len:Nat):Prop where
  nonneg:0≤n
  top:hi n len=0
  full:0<len→hi n (len - 1)≠0

theorem NL.zero:NL 0 0:=⟨Int.le_refl _,rfl,by omega⟩
theorem NL.len_zero {n:Int} {len:Nat} (h:NL n len):len=0↔n=0:=by
  constructor
  · rintro rfl;exact h.top
  · rintro rfl
    have:=h.full
    rw [hi_zero_n] at this
    omega
theorem NL.topdig {n:Int} {len:Nat} (h:NL n len) (hl:0<len):dg n (len - 1)=hi n (len - 1)∧0<dg n (len - 1):=by
  have h1:=h.top
  have h2:=hi_split n (len - 1)
  rw [show len - 1+1=len by omega,h1] at h2
  have h3:=h.full hl
  have h4:=hi_nonneg h.nonneg (len - 1)
  omega
/-- From digits whose highest one is not 0. -/
theorem NL.mk' {n:Int} {len:Nat} (h0:0≤n) (h1:hi n len=0) (h2:0<len→dg n (len - 1)≠0):NL n len:=by
  refine ⟨h0,h1,fun hl h3=>h2 hl ?_⟩
  unfold dg;rw [h3];rfl
/-- Fewer digits,if those behind are 0. -/
theorem hi_trim {n:Int} {len:Nat} (h1:hi n len=0) (k:Nat) (hk:k≤len) (hz:∀ j,k≤j→j<len→dg n j=0):hi n k=0:=by
  obtain ⟨j,rfl⟩:=Nat.le.dest hk
  clear hk
  induction j with
  | zero=>exact h1
  | succ j ih=>
    refine ih ?_ (fun i h2 h3=>hz i h2 (by omega))
    have h2:=hi_split n (k+j)
    have h3:=hz (k+j) (by omega) (by omega)
    have h4:hi n (k+j+1)=0:=h1
    omega
/-- Two numbers with the same digits are equal. -/
theorem eq_of_dg {a b:Int}:∀ (len:Nat),hi a len=0→hi b len=0→(∀ i,i<len→dg a i=dg b i)→a=b:=by
  intro len
  have key:∀ k,k≤len→hi a len=0→hi b len=0→(∀ i,i<len→dg a i=dg b i)→hi a (len - k)=hi b (len - k):=by
    intro k
    induction k with
    | zero=>intro _ h1 h2 _;simp [h1,h2]
    | succ k ih=>
      intro hk h1 h2 h3
      have h4:=ih (by omega) h1 h2 h3
      have h5:=hi_split a (len - (k+1))
      have h6:=hi_split b (len - (k+1))
      rw [show len - (k+1)+1=len - k by omega] at h5 h6
      have h7:=h3 (len - (k+1)) (by omega)
      omega
  intro h1 h2 h3
  have:=key len (Nat.le_refl _) h1 h2 h3
  simpa [hi_zero] using this
/-- The number of digits orders. -/
theorem NL.lt_of_len {a b:Int} {la lb:Nat} (ha:NL a la) (hb:NL b lb) (h:la<lb):a<b:=by
  refine Int.lt_of_not_ge fun hge=>?_
  have h1:=hi_mono hge (lb - 1)
  have h2:=hi_ge ha.top (show la≤lb - 1 by omega)
  have h3:=hb.full (by omega)
  have h4:=hi_nonneg hb.nonneg (lb - 1)
  omega
theorem NL.len_unique {a:Int} {la lb:Nat} (ha:NL a la) (hb:NL a lb):la=lb:=by
  rcases Nat.lt_trichotomy la lb with h | h | h
  · have:=ha.lt_of_len hb h;omega
  · exact h
  · have:=hb.lt_of_len ha h;omega
theorem NL.len_le {a b:Int} {la lb:Nat} (ha:NL a la) (hb:NL b lb) (h:a≤b):la≤lb:=by
  rcases Nat.lt_or_ge lb la with h1 | h1
  · have:=hb.lt_of_len ha h1;omega
  · exact h1

/-! ### sizes in bits -/
/-- |z|<2^k -/
def Sz (k:Nat) (z:Int):Prop:=z.natAbs<2 ^ k
theorem Sz.mono {k m:Nat} {z:Int} (h:Sz k z) (hk:k≤m):Sz m z:=Nat.lt_of_lt_of_le h (Nat.pow_le_pow_right (by omega) hk)
theorem hi_sz:∀ (len k:Nat) (n:Int),0≤n→n.toNat<2 ^ (k+32*len)→(hi n len).toNat<2 ^ k:=by
  intro len
  induction len with
  | zero=>intro k n _ h;simpa [hi_zero] using h
  | succ len ih=>
    intro k n h0 h
    have h1:=ih (k+32) n h0 (by rw [show k+32+32*len=k+32*(len+1) by omega];exact h)
    rw [hi_succ]
    have h2:=hi_nonneg h0 len
    have h3:2 ^ (k+32)=2 ^ k*4294967296:=by rw [Nat.pow_add]
    rw [h3] at h1
    generalize 2 ^ k=m at*
    omega
theorem NL.len_sz {n:Int} {len k:Nat} (h:NL n len) (hs:Sz k n):len≤k:=by
  rcases Nat.lt_or_ge k len with h1 | h1
  · have h2:=h.full (by omega)
    have h3:=hi_nonneg h.nonneg (len - 1)
    have h4:n.toNat<2 ^ (0+32*(len - 1)):=by
      have h5:n.toNat<2 ^ k:=by unfold Sz at hs;omega
      refine Nat.lt_of_lt_of_le h5 (Nat.pow_le_pow_right (by omega) (by omega))
    have h5:=hi_sz (len - 1) 0 n h.nonneg h4
    omega
  · exact h1
theorem Sz.zero (k:Nat):Sz k 0:=Nat.pow_pos (by omega)
theorem Sz.add {k m:Nat} {a b:Int} (ha:Sz k a) (hb:Sz m b):Sz (k+m+1) (a+b):=by
  unfold Sz at*
  have h1:2 ^ (k+m+1)=2 ^ (k+m)+2 ^ (k+m):=by rw [Nat.pow_succ];omega
  have h2:2 ^ k≤2 ^ (k+m):=Nat.pow_le_pow_right (by omega) (by omega)
  have h3:2 ^ m≤2 ^ (k+m):=Nat.pow_le_pow_right (by omega) (by omega)
  omega
theorem Sz.add' {k:Nat} {a b:Int} (ha:Sz k a) (hb:Sz k b):Sz (k+1) (a+b):=by
  unfold Sz at*
  have h1:2 ^ (k+1)=2 ^ k+2 ^ k:=by rw [Nat.pow_succ];omega
  omega
theorem Sz.neg {k:Nat} {a:Int} (ha:Sz k a):Sz k (-a):=by unfold Sz at*;omega
theorem Sz.mul {k m:Nat} {a b:Int} (ha:Sz k a) (hb:Sz m b):Sz (k+m) (a*b):=by
  unfold Sz at*
  rw [Int.natAbs_mul,Nat.pow_add]
  exact Nat.mul_lt_mul'' ha hb
theorem Sz.of_le {k:Nat} {a b:Int} (ha:Sz k a) (h:b.natAbs≤a.natAbs):Sz k b:=Nat.lt_of_le_of_lt h ha

/-! ### addition -/
theorem plus_step {a b c:Int} {i:Nat} (h:hi (a+b) i=hi a i+hi b i+c) (h0:0≤c) (h1:c≤1):
    dg (a+b) i=(c+dg a i+dg b i) % 4294967296∧hi (a+b) (i+1)=hi a (i+1)+hi b (i+1)+(c+dg a i+dg b i)/4294967296∧
      0≤(c+dg a i+dg b i)/4294967296∧(c+dg a i+dg b i)/4294967296≤1:=by
  unfold dg;simp only [hi_succ];omega
/-- a digit behind the end of b counts as 0 -/
theorem plus_step0 {a b c:Int} {i:Nat} (h:hi (a+b) i=hi a i+hi b i+c) (h0:0≤c) (h1:c≤1) (hb:hi b i=0):
    dg (a+b) i=(c+dg a i) % 4294967296∧hi (a+b) (i+1)=hi a (i+1)+hi b (i+1)+(c+dg a i)/4294967296∧
      0≤(c+dg a i)/4294967296∧(c+dg a i)/4294967296≤1:=by
  unfold dg;simp only [hi_succ];omega

/-! ### subtraction -/
theorem minus_step {a b c:Int} {i:Nat} (h:hi (a - b) i=hi a i - hi b i - c) (h0:0≤c) (h1:c≤1):
    dg (a - b) i=(dg a i - c - dg b i) % 4294967296∧hi (a - b) (i+1)=hi a (i+1) - hi b (i+1) - (if dg a i - c - dg b i<0 then 1 else 0):=by
  unfold dg;simp only [hi_succ];split<;>omega
theorem minus_step0 {a b c:Int} {i:Nat} (h:hi (a - b) i=hi a i - hi b i - c) (h0:0≤c) (h1:c≤1) (hb:hi b i=0):
    dg (a - b) i=(dg a i - c) % 4294967296∧hi (a - b) (i+1)=hi a (i+1) - hi b (i+1) - (if dg a i - c<0 then 1 else 0):=by
  unfold dg;simp only [hi_succ];split<;>omega

/-! ### a number times a digit,plus a digit -/
theorem scale_step {m x p c:Int} {i:Nat} (h:hi (m*x+p) i=hi m i*x+c) (h0:0≤c) (h1:c<4294967296) (hx0:0≤x) (hx:x<4294967296):
    dg (m*x+p) i=(c+dg m i*x) % 4294967296∧hi (m*x+p) (i+1)=hi m (i+1)*x+(c+dg m i*x)/4294967296∧
      0≤(c+dg m i*x)/4294967296∧(c+dg m i*x)/4294967296<4294967296∧0≤dg m i*x∧c+dg m i*x≤18446744069414584320:=by
  have hs:=hi_split m i
  have hd0:=dg_nonneg m i
  have hd:=dg_lt m i
  have e:hi m i*x=4294967296*(hi m (i+1)*x)+dg m i*x:=by rw [hs];grind
  have hp0:0≤dg m i*x:=Int.mul_nonneg hd0 hx0
  have hp:dg m i*x≤4294967295*4294967295:=Int.mul_le_mul (by omega) (by omega) hx0 (by omega)
  have hdd:dg (m*x+p) i=hi (m*x+p) i % 4294967296:=rfl
  rw [hdd,hi_succ,h,e]
  generalize dg m i*x=u at*
  generalize hi m (i+1)*x=v at*
  omega

/-! ### a number divided by a digit -/
theorem hi_div (n x:Int) (hx:0<x):∀ i,hi (n/x) i=hi n i/x
  | 0=>rfl
  | i+1=>by
    rw [hi_succ,hi_succ,hi_div n x hx i,Int.ediv_ediv_of_nonneg (by omega),Int.ediv_ediv_of_nonneg (by omega),Int.mul_comm]
theorem short_step (n x:Int) (i:Nat) (hx:0<x) (_hx1:x<4294967296):
    dg (n/x) i=(hi n (i+1) % x*4294967296+dg n i)/x∧hi n i % x=(hi n (i+1) % x*4294967296+dg n i) % x∧
      (hi n (i+1) % x*4294967296+dg n i)/x<4294967296∧0≤(hi n (i+1) % x*4294967296+dg n i)/x:=by
  have hs:=hi_split n i
  have hd0:=dg_nonneg n i
  have hd:=dg_lt n i
  have h1:=Int.emod_add_mul_ediv (hi n (i+1)) x
  have h2:=Int.emod_nonneg (hi n (i+1)) (show x≠0 by omega)
  have h3:=Int.emod_lt_of_pos (hi n (i+1)) hx
  have e:hi n i=(hi n (i+1) % x*4294967296+dg n i)+x*(4294967296*(hi n (i+1)/x)):=by rw [hs];grind
  have e1:hi (n/x) i=(hi n (i+1) % x*4294967296+dg n i)/x+4294967296*(hi n (i+1)/x):=by
    rw [hi_div n x hx,e,Int.add_mul_ediv_left _ _ (show x≠0 by omega)]
  have h4:(hi n (i+1) % x*4294967296+dg n i)/x<4294967296:=by
    apply Int.ediv_lt_of_lt_mul hx
    omega
  have h5:0≤(hi n (i+1) % x*4294967296+dg n i)/x:=Int.ediv_nonneg (by omega) (by omega)
  refine ⟨?_,?_,h4,h5⟩
  · have hdd:dg (n/x) i=hi (n/x) i % 4294967296:=rfl
    rw [hdd,e1]
    omega
  · rw [e,Int.add_mul_emod_self_left]

/-! ### multiplication -/
theorem hi_addmul (r m:Int):∀ i,hi (r+m*4294967296 ^ i) i=hi r i+m
  | 0=>by simp [hi_zero]
  | i+1=>by
    have e:r+m*4294967296 ^ (i+1)=r+(m*4294967296)*4294967296 ^ i:=by rw [Int.pow_succ];grind
    rw [e,hi_succ,hi_addmul r (m*4294967296) i,hi_succ]
    omega
theorem dg_addmul (r m:Int) {i j:Nat} (hj:j<i):dg (r+m*4294967296 ^ i) j=dg r j:=by
  obtain ⟨k,rfl⟩:=Nat.le.dest hj
  have e:r+m*4294967296 ^ (j+1+k)=r+(m*4294967296 ^ k*4294967296)*4294967296 ^ j:=by
    rw [Int.pow_add,Int.pow_add];grind
  unfold dg
  rw [e,hi_addmul]
  omega
/-- what the lowest i digits of a make,times b -/
def low (a:Int) (i:Nat):Int:=a - hi a i*4294967296 ^ i
theorem low_zero (a:Int):low a 0=0:=by simp [low,hi_zero]
theorem low_succ (a:Int) (i:Nat):low a (i+1)=low a i+dg a i*4294967296 ^ i:=by
  have:=hi_split a i
  unfold low
  rw [Int.pow_succ]
  grind
theorem low_nonneg {a:Int}:∀ i,0≤low a i
  | 0=>by rw [low_zero];exact Int.le_refl _
  | i+1=>by
    rw [low_succ]
    have h1:=low_nonneg (a:=a) i
    have h2:0≤dg a i*4294967296 ^ i:=Int.mul_nonneg (dg_nonneg a i) (Int.le_of_lt (Int.pow_pos (by omega)))
    omega
theorem low_top {a:Int} {len:Nat} (h:hi a len=0):low a len=a:=by simp [low,h]
/-- The inner round of the product:r is the product till now,x the digit,b the other number. -/
theorem mul_step {r x b c:Int} {i k:Nat} (h:hi (r+x*b*4294967296 ^ i) (i+k)=hi r (i+k)+x*hi b k+c) (h0:0≤c) (h1:c<4294967296)
    (hx0:0≤x) (hx:x<4294967296):
    dg (r+x*b*4294967296 ^ i) (i+k)=(c+(x*dg b k+dg r (i+k))) % 4294967296∧
      hi (r+x*b*4294967296 ^ i) (i+(k+1))=hi r (i+(k+1))+x*hi b (k+1)+(c+(x*dg b k+dg r (i+k)))/4294967296∧
      0≤(c+(x*dg b k+dg r (i+k)))/4294967296∧(c+(x*dg b k+dg r (i+k)))/4294967296<4294967296∧0≤x*dg b k∧x*dg b k≤18446744065119617025:=by
  have hs:=hi_split b k
  have hd0:=dg_nonneg b k
  have hd:=dg_lt b k
  have hr:=hi_split r (i+k)
  have hr0:=dg_nonneg r (i+k)
  have hr1:=dg_lt r (i+k)
  have e:x*hi b k=4294967296*(x*hi b (k+1))+x*dg b k:=by rw [hs];grind
  have hp0:0≤x*dg b k:=Int.mul_nonneg hx0 hd0
  have hp:x*dg b k≤4294967295*4294967295:=Int.mul_le_mul (by omega) (by omega) hd0 (by omega)
  have hdd:dg (r+x*b*4294967296 ^ i) (i+k)=hi (r+x*b*4294967296 ^ i) (i+k) % 4294967296:=rfl
  rw [hdd,← Nat.add_assoc,hi_succ,h,e]
  generalize x*dg b k=u at*
  generalize x*hi b (k+1)=v at*
  omega

/-! ### shifts -/
theorem pow_split {s:Nat} (hs:s<32):(2:Int) ^ s*2 ^ (32 - s)=4294967296∧0<(2:Int) ^ s∧0<(2:Int) ^ (32 - s):=by
  refine ⟨?_,Int.pow_pos (by omega),Int.pow_pos (by omega)⟩
  rw [← Int.pow_add,show s+(32 - s)=32 by omega]
  rfl
theorem mul_emod_le {p t d:Int} (hp:0<p) (ht:0<t):0≤d*p % (p*t)∧d*p % (p*t)≤p*t - p∧d*p % (p*t)=(d % t)*p:=by
  have h1:d*p % (p*t)=p*(d % t):=by rw [Int.mul_comm d p,Int.mul_emod_mul_of_pos _ _ hp]
  have h2:=Int.emod_nonneg d (show t≠0 by omega)
  have h3:=Int.emod_lt_of_pos d ht
  rw [h1]
  have h4:p*(d % t)≤p*(t - 1):=Int.mul_le_mul_of_nonneg_left (by omega) (by omega)
  rw [Int.mul_sub,Int.mul_one] at h4
  exact ⟨Int.mul_nonneg (by omega) h2,h4,Int.mul_comm _ _⟩
theorem raise_step {m p t c:Int} {i:Nat} (hpt:p*t=4294967296) (hp:0<p) (ht:0<t) (h:hi (m*p) i=hi m i*p+c) (h0:0≤c) (h1:c<p):
    dg (m*p) i=c+dg m i*p % 4294967296∧hi (m*p) (i+1)=hi m (i+1)*p+dg m i*p/4294967296∧0≤dg m i*p/4294967296∧dg m i*p/4294967296<p∧
      dg m i*p % 4294967296=(dg m i % t)*p:=by
  have hs:=hi_split m i
  have hd0:=dg_nonneg m i
  have hd:=dg_lt m i
  have e:hi m i*p=4294967296*(hi m (i+1)*p)+dg m i*p:=by rw [hs];grind
  have hm:=mul_emod_le (d:=dg m i) hp ht
  rw [hpt] at hm
  have hdp:0≤dg m i*p:=Int.mul_nonneg hd0 (by omega)
  have hlt:dg m i*p/4294967296<p:=by
    apply Int.ediv_lt_of_lt_mul (by omega)
    rw [Int.mul_comm p]
    exact Int.mul_lt_mul_of_pos_right hd hp
  have hdd:dg (m*p) i=hi (m*p) i % 4294967296:=rfl
  rw [hdd,hi_succ,h,e]
  refine ⟨?_,?_,by omega,hlt,hm.2.2⟩
  · generalize dg m i*p=u at*
    generalize hi m (i+1)*p=v at*
    omega
  · generalize dg m i*p=u at*
    generalize hi m (i+1)*p=v at*
    omega
theorem lower_step {n p t:Int} {i:Nat} (hpt:p*t=4294967296) (hp:0<p) (ht:0<t):
    dg (n/p) i=dg n i/p+dg n (i+1)*t % 4294967296∧dg n (i+1)*t % 4294967296=(dg n (i+1) % p)*t∧dg n (i+1)*4294967296/p=dg n (i+1)*t∧0≤dg n i/p∧dg n i/p<t:=by
  have h1:=hi_split n i
  have h2:=hi_split n (i+1)
  have hd0:=dg_nonneg n i
  have hd:=dg_lt n i
  have htp:t*p=4294967296:=by rw [Int.mul_comm];exact hpt
  have hm:=mul_emod_le (d:=dg n (i+1)) ht hp
  rw [htp] at hm
  have e1:hi n i=dg n i+p*(t*hi n (i+1)):=by rw [h1,← hpt];grind
  have e2:hi (n/p) i=dg n i/p+t*hi n (i+1):=by
    rw [hi_div n p hp,e1,Int.add_mul_ediv_left _ _ (show p≠0 by omega)]
  have e3:t*hi n (i+1)=4294967296*(t*hi n (i+1+1))+dg n (i+1)*t:=by
    have:t*hi n (i+1)=t*(4294967296*hi n (i+1+1)+dg n (i+1)):=by rw [← h2]
    rw [this];grind
  have hq:dg n i/p<t:=by
    apply Int.ediv_lt_of_lt_mul hp
    rw [htp];exact hd
  have hq0:0≤dg n i/p:=Int.ediv_nonneg hd0 (by omega)
  refine ⟨?_,hm.2.2,?_,hq0,hq⟩
  · have hdd:dg (n/p) i=hi (n/p) i % 4294967296:=rfl
    rw [hdd,e2,e3]
    generalize dg n (i+1)*t=u at*
    generalize t*hi n (i+1+1)=v at*
    omega
  · rw [← hpt,← Int.mul_assoc,Int.mul_comm _ p,Int.mul_assoc,Int.mul_ediv_cancel_left _ (show p≠0 by omega)]
theorem lower_last {n p:Int} {i:Nat} (hp:0<p) (h:hi n (i+1)=0):dg (n/p) i=dg n i/p:=by
  have h1:=hi_split n i
  have hd0:=dg_nonneg n i
  have hd:=dg_lt n i
  rw [h,Int.mul_zero,Int.zero_add] at h1
  have hdd:dg (n/p) i=hi (n/p) i % 4294967296:=rfl
  rw [hdd,hi_div n p hp,h1]
  have h2:=Int.ediv_nonneg hd0 (show 0≤p by omega)
  have h3:dg n i/p≤dg n i:=Int.ediv_le_self _ hd0
  omega

/-! ### the digit of a quotient -/
theorem pow_pos' (i:Nat):0<(4294967296:Int) ^ i:=Int.pow_pos (by omega)
theorem low_lt {a:Int}:∀ i,low a i<4294967296 ^ i
  | 0=>by rw [low_zero];exact pow_pos' 0
  | i+1=>by
    rw [low_succ,Int.pow_succ]
    have h1:=low_lt (a:=a) i
    have h2:=pow_pos' i
    have h3:dg a i*4294967296 ^ i≤4294967295*4294967296 ^ i:=Int.mul_le_mul_of_nonneg_right (by have:=dg_lt a i;omega) (by omega)
    omega
theorem low_eq (a:Int) (i:Nat):a=hi a i*4294967296 ^ i+low a i:=by unfold low;omega
theorem knuth_lo {U V Q:Int} (m:Nat) (hQ0:0≤Q) (hQ:Q*V≤U):Q*hi V m≤hi U m:=by
  have h1:=low_eq U m
  have h2:=low_eq V m
  have h3:=low_lt (a:=U) m
  have h4:=low_nonneg (a:=V) m
  have hp:=pow_pos' m
  generalize (4294967296:Int) ^ m=p at*
  have h5:Q*V=Q*hi V m*p+Q*low V m:=by
    have:Q*V=Q*(hi V m*p+low V m):=by rw [← h2]
    rw [this];grind
  have h6:0≤Q*low V m:=Int.mul_nonneg hQ0 h4
  have h7:(Q*hi V m)*p<(hi U m+1)*p:=by rw [Int.add_mul,Int.one_mul];omega
  have h8:=Int.lt_of_mul_lt_mul_right h7 (Int.le_of_lt hp)
  omega
theorem knuth_hi {U V q:Int} (m:Nat) (_hq0:0≤q) (hq:q≤4294967295) (hV:4294967296≤hi V m) (h:q*hi V m≤hi U m):q*V<U+V:=by
  have h1:=low_eq U m
  have h2:=low_eq V m
  have h3:=low_nonneg (a:=U) m
  have h4:=low_nonneg (a:=V) m
  have h4':=low_lt (a:=V) m
  have hp:=pow_pos' m
  generalize (4294967296:Int) ^ m=p at*
  have h5:q*V=q*hi V m*p+q*low V m:=by
    have:q*V=q*(hi V m*p+low V m):=by rw [← h2]
    rw [this];grind
  have h6:q*low V m≤4294967295*p:=Int.mul_le_mul hq (by omega) h4 (by omega)
  have h7:(q*hi V m)*p≤hi U m*p:=Int.mul_le_mul_of_nonneg_right h (by omega)
  have h8:4294967296*p≤hi V m*p:=Int.mul_le_mul_of_nonneg_right hV (by omega)
  omega
theorem hi_neg {n:Int} (h:n<0):∀ i,hi n i<0
  | 0=>h
  | i+1=>by have:=hi_neg h i;rw [hi_succ];omega
/-- The loop that makes the estimate smaller. -/
theorem knuth_dec {U V Q q rest v1 v2 high u2:Int} {m:Nat} (hQ:Q*hi V m≤hi U m) (hv:hi V m=v1*4294967296+v2) (hu:hi U m=high*4294967296+u2)
    (hq:q*v1+rest=high) (h:rest*4294967296+u2<q*v2) (hV:0≤hi V m):Q<q:=by
  have h1:q*hi V m=q*v1*4294967296+q*v2:=by rw [hv];grind
  have h2:hi U m=q*v1*4294967296+rest*4294967296+u2:=by rw [hu,← hq];grind
  have h3:Q*hi V m<q*hi V m:=by omega
  exact Int.lt_of_mul_lt_mul_right h3 hV
theorem knuth_end {U V q rest v1 v2 high u2:Int} {m:Nat} (hv:hi V m=v1*4294967296+v2) (hu:hi U m=high*4294967296+u2)
    (hq:q*v1+rest=high) (h:q*v2≤rest*4294967296+u2):q*hi V m≤hi U m:=by
  have h1:q*hi V m=q*v1*4294967296+q*v2:=by rw [hv];grind
  have h2:hi U m=q*v1*4294967296+rest*4294967296+u2:=by rw [hu,← hq];grind
  omega
theorem mod_of {U V q:Int} (hV:0<V) (h0:0≤U - V*q) (h1:U/V≤q):q=U/V∧U - V*q=U % V:=by
  have h2:q≤U/V:=by
    apply (Int.le_ediv_iff_mul_le hV).2
    rw [Int.mul_comm];omega
  have h3:q=U/V:=by omega
  refine ⟨h3,?_⟩
  rw [h3]
  have:=Int.emod_add_mul_ediv U V
  omega
theorem mod_of_back {U V q:Int} (hV:0<V) (h0:U - V*q<0) (h1:q*V<U+V):q - 1=U/V∧U - V*q+V=U % V:=by
  have h2:q - 1≤U/V:=by
    apply (Int.le_ediv_iff_mul_le hV).2
    rw [Int.sub_mul,Int.one_mul];omega
  have h3:U/V<q:=by
    apply Int.ediv_lt_of_lt_mul hV
    rw [Int.mul_comm];omega
  have h4:q - 1=U/V:=by omega
  refine ⟨h4,?_⟩
  have h5:=Int.emod_add_mul_ediv U V
  rw [← h4,Int.mul_sub,Int.mul_one] at h5
  omega
end Go.Proofs.YthhbibpaeonecaaGreatDoor
namespace Go.Proofs.YthhbibpaeonecaaGreatDoor
open Go.RowKit

theorem p1 (a:Act) (d:Tmp) (v:Value):a.put (some d) v={a with tmps:=a.tmps.setIfInBounds d v}:=rfl
theorem p2 {α:Type} (l:List α) (i:Nat) (x:α):l.toArray.setIfInBounds i x=(l.set i x).toArray:=List.setIfInBounds_toArray ..
theorem p3 {α:Type} (x y:α) (l:List α):(x::l).set 0 y=y::l:=rfl
theorem p4 {α:Type} (x y:α) (l:List α) (n:Nat):(x::l).set (n+1) y=x::l.set n y:=rfl
/-- A number of draws turns no block. -/
theorem _root_.Go.RowKit.Below.drewN {B:Nat} {a w:World} (h:Below B a w) (n:Nat):Below B a (w.drewN n):=⟨h.os,h.tape,h.output,h.size,h.block⟩

/-- w' is w with new blocks -/
def Gr (w w':World):Prop:=Below w.heap.size w w'
theorem Gr.refl (w:World):Gr w w:=Below.refl _ _
theorem Gr.trans {a b c:World} (h:Gr a b) (k:Gr b c):Gr a c:=Below.trans h (Below.mono k h.size)
theorem Gr.alloc (w:World) (o:Obj):Gr w (w.alloc o):=(Below.refl _ _).alloc (Nat.le_refl _) o
theorem Gr.drew (w:World):Gr w w.drew:=(Below.refl _ _).drew
theorem heap_lt {w:World} {k:Nat} {o:Obj} (hk:w.heap[k]?=some o):k<w.heap.size:=by
  rcases Nat.lt_or_ge k w.heap.size with h' | h'
  · exact h'
  · rw [Array.getElem?_eq_none h'] at hk;cases hk
theorem bcell {B:Nat} {W w1:World} (hb:Below B W w1):(∀ b o,b<B→w1.cell? ⟨b,o,none⟩=W.cell? ⟨b,o,none⟩)∧(∀ b o,b<B→w1.frozen? ⟨b,o,none⟩=W.frozen? ⟨b,o,none⟩):=
  ⟨fun b o h=>hb.cell (p:=⟨b,o,none⟩) h,fun b o h=>hb.frozen (p:=⟨b,o,none⟩) h⟩
theorem Gr.heap {a b:World} (h:Gr a b) {k:Nat} {o:Obj} (hk:a.heap[k]?=some o):b.heap[k]?=some o:=by
  rw [Below.block h k (heap_lt hk)];exact hk

theorem alloc1_facts (w:World) (o1:Obj):Gr w (w.alloc o1)∧(w.alloc o1).heap[w.heap.size]?=some o1∧(w.alloc o1).heap.size=w.heap.size+1:=
  ⟨Gr.alloc w o1,heap_alloc_new _ _,by simp⟩
theorem alloc2_facts (w:World) (o1 o2:Obj):Gr w ((w.alloc o1).alloc o2)∧((w.alloc o1).alloc o2).heap[w.heap.size]?=some o1∧((w.alloc o1).alloc o2).heap[w.heap.size+1]?=some o2∧((w.alloc o1).alloc o2).heap.size=w.heap.size+1+1:=by
  obtain ⟨g,h1,h2⟩:=alloc1_facts w o1
  have:=heap_alloc_new (w.alloc o1) o2
  rw [h2] at this
  exact ⟨g.trans (Gr.alloc _ _),(Gr.alloc _ _).heap h1,this,by simp⟩
theorem alloc3_facts (w:World) (o1 o2 o3:Obj):Gr w (((w.alloc o1).alloc o2).alloc o3)∧(((w.alloc o1).alloc o2).alloc o3).heap[w.heap.size]?=some o1∧(((w.alloc o1).alloc o2).alloc o3).heap[w.heap.size+1]?=some o2∧
    (((w.alloc o1).alloc o2).alloc o3).heap[w.heap.size+1+1]?=some o3∧(((w.alloc o1).alloc o2).alloc o3).heap.size=w.heap.size+1+1+1:=by
  obtain ⟨g,h1,h2,h3⟩:=alloc2_facts w o1 o2
  have:=heap_alloc_new ((w.alloc o1).alloc o2) o3
  rw [h3] at this
  exact ⟨g.trans (Gr.alloc _ _),(Gr.alloc _ _).heap h1,(Gr.alloc _ _).heap h2,this,by simp⟩
/-- what a block's cells are,for the walk -/
theorem cells_of {w:World} {b:Nat} {cs:Array Value} {t:TypeId} {fr:Nat × Nat} (h:w.heap[b]?=some (.cells cs t fr)) (i:Nat):w.cell? ⟨b,i,none⟩=cs[i]?:=by
  simp only [World.cell?,h,Option.isSome_none];rfl
theorem free_of {w:World} {b:Nat} {cs:Array Value} {t:TypeId} (h:w.heap[b]?=some (.cells cs t)) (i:Nat):w.frozen? ⟨b,i,none⟩=false:=by
  simp [World.frozen?,h]

/-- all rows of digits are as they were -/
def Kp (w w':World):Prop:=∀ (b:Nat) (cs:Array Value) (fr:Nat × Nat),w.heap[b]?=some (Obj.cells cs 136 fr)→w'.heap[b]?=some (Obj.cells cs 136 fr)
theorem Kp.refl (w:World):Kp w w:=fun _ _ _ h=>h
theorem Kp.trans {a b c:World} (h:Kp a b) (k:Kp b c):Kp a c:=fun b cs fr hb=>k b cs fr (h b cs fr hb)
theorem Gr.kp {w w':World} (h:Gr w w'):Kp w w':=fun _ _ _ hk=>h.heap hk
theorem Below.kp {w w':World} (h:Below w.heap.size w w'):Kp w w':=Gr.kp h

/-- the cells of a slice of digits -/
structure Row (w:World) (ao:Option Addr) (len:Nat) (d:Nat→Int):Prop where
  raw:0<len→∃ (b off:Nat) (cs:Array Value) (fr:Nat × Nat),ao=some ⟨b,off,none⟩∧w.heap[b]?=some (.cells cs 136 fr)∧∀ i,i<len→cs[off+i]?=some (.int .u32 (d i))

theorem Row.at_ {w:World} {ao:Option Addr} {len:Nat} {d:Nat→Int} (h:Row w ao len d) (hp:0<len):
    ∃ b off,ao=some ⟨b,off,none⟩∧∀ i,i<len→w.cell? ⟨b,off+i,none⟩=some (.int .u32 (d i)):=by
  obtain ⟨b,off,cs,fr,e,hb,hc⟩:=h.raw hp
  exact ⟨b,off,e,fun i hi=>by simp only [World.cell?,hb,Option.isSome_none];exact hc i hi⟩
theorem Row.nil (w:World) (ao:Option Addr) (d:Nat→Int):Row w ao 0 d:=⟨fun h=>by omega⟩
theorem Row.shorter {w:World} {ao:Option Addr} {len k:Nat} {d:Nat→Int} (h:Row w ao len d) (hk:k≤len):Row w ao k d:=
  ⟨fun hp=>by
    obtain ⟨b,off,cs,fr,e,hb,hc⟩:=h.raw (by omega)
    exact ⟨b,off,cs,fr,e,hb,fun i hi=>hc i (by omega)⟩⟩
theorem Row.congr {w:World} {ao:Option Addr} {len:Nat} {d d':Nat→Int} (h:Row w ao len d) (e:∀ i,i<len→d i=d' i):Row w ao len d':=
  ⟨fun hp=>by
    obtain ⟨b,off,cs,fr,e',hb,hc⟩:=h.raw hp
    exact ⟨b,off,cs,fr,e',hb,fun i hi=>by rw [hc i hi,e i hi]⟩⟩
theorem Row.kp {w w':World} {ao:Option Addr} {len:Nat} {d:Nat→Int} (h:Row w ao len d) (hk:Kp w w'):Row w' ao len d:=
  ⟨fun hp=>by
    obtain ⟨b,off,cs,fr,e,hb,hc⟩:=h.raw hp
    exact ⟨b,off,cs,fr,e,hk _ _ _ hb,hc⟩⟩
theorem Row.below {w w':World} {ao:Option Addr} {len:Nat} {d:Nat→Int} (h:Row w ao len d) (hb:Below w.heap.size w w'):Row w' ao len d:=h.kp (Gr.kp hb)
/-- the block of a slice's cells lies below any bound above the heap -/
theorem Row.lt {w:World} {b off len:Nat} {d:Nat→Int} (h:Row w (some ⟨b,off,none⟩) len d) (hl:0<len):b<w.heap.size:=by
  obtain ⟨b',off',e,hc⟩:=h.at_ hl
  have:=World.block_lt_of_cell? w _ (hc 0 hl)
  simp only [Option.some.injEq,Addr.mk.injEq] at e
  obtain ⟨rfl,rfl,_⟩:=e
  exact this

/-- a slice of the digits of n,none of them 0 at the end -/
structure Mag (w:World) (ao:Option Addr) (len cap:Nat) (n:Int):Prop where
  cap:len≤cap
  nl:NL n len
  row:Row w ao len (dg n)
theorem Mag.below {w w':World} {ao:Option Addr} {len cap:Nat} {n:Int} (h:Mag w ao len cap n) (hb:Below w.heap.size w w'):Mag w' ao len cap n:=⟨h.cap,h.nl,h.row.below hb⟩

/-- the two cells of an integer z of less than k bits -/
def IsInt (w:World) (k:Nat) (x y:Value) (z:Int):Prop:=
  ∃ ao len cap,x=.bool (decide (z<0))∧y=.slice ao len cap∧Mag w ao len cap (z.natAbs:Int)∧Sz k z

theorem Mag.kp {w w':World} {ao:Option Addr} {len cap:Nat} {n:Int} (h:Mag w ao len cap n) (hb:Kp w w'):Mag w' ao len cap n:=⟨h.cap,h.nl,h.row.kp hb⟩
theorem IsInt.kp {w w':World} {k:Nat} {x y:Value} {z:Int} (h:IsInt w k x y z) (hb:Kp w w'):IsInt w' k x y z:=by
  obtain ⟨ao,len,cap,h1,h2,h3,h4⟩:=h
  exact ⟨ao,len,cap,h1,h2,h3.kp hb,h4⟩
theorem IsInt.gr {w w':World} {k:Nat} {x y:Value} {z:Int} (h:IsInt w k x y z) (hb:Gr w w'):IsInt w' k x y z:=h.kp hb.kp
theorem IsInt.one0 {w:World} {k:Nat} {x y:Value} {z:Int} (h:IsInt w k x y z):x.oneCell'=true:=by
  obtain ⟨ao,len,cap,rfl,rfl,h3,h4⟩:=h;rfl
theorem IsInt.one1 {w:World} {k:Nat} {x y:Value} {z:Int} (h:IsInt w k x y z):y.oneCell'=true:=by
  obtain ⟨ao,len,cap,rfl,rfl,h3,h4⟩:=h;rfl
theorem IsInt.below {w w':World} {k:Nat} {x y:Value} {z:Int} (h:IsInt w k x y z) (hb:Below w.heap.size w w'):IsInt w' k x y z:=by
  obtain ⟨ao,len,cap,h1,h2,h3,h4⟩:=h
  exact ⟨ao,len,cap,h1,h2,h3.below hb,h4⟩
theorem IsInt.mono {w:World} {k m:Nat} {x y:Value} {z:Int} (h:IsInt w k x y z) (hk:k≤m):IsInt w m x y z:=by
  obtain ⟨ao,len,cap,h1,h2,h3,h4⟩:=h
  exact ⟨ao,len,cap,h1,h2,h3,h4.mono hk⟩
theorem IsInt.sz {w:World} {k:Nat} {x y:Value} {z:Int} (h:IsInt w k x y z):Sz k z:=by
  obtain ⟨ao,len,cap,h1,h2,h3,h4⟩:=h
  exact h4
theorem Sz.nat {k:Nat} {z:Int} (h:Sz k z):Sz k (z.natAbs:Int):=by unfold Sz at*;simpa using h
/-- the zero value -/
theorem IsInt.zero (w:World) (k:Nat):IsInt w k (.bool false) (.slice none 0 0) 0:=
  ⟨none,0,0,rfl,rfl,⟨Nat.le_refl _,NL.zero,Row.nil _ _ _⟩,Sz.zero k⟩

/-- block b is a row of n digits that may be written -/
structure Own (w:World) (b n:Nat) (d:Nat→Int):Prop where
  raw:∃ cs,w.heap[b]?=some (.cells cs 136)∧∀ i,i<n→cs[i]?=some (.int .u32 (d i))
theorem Own.lt {w:World} {b n:Nat} {d:Nat→Int} (h:Own w b n d):b<w.heap.size:=by
  obtain ⟨cs,hb,hc⟩:=h.raw;exact heap_lt hb
theorem Own.cell {w:World} {b n:Nat} {d:Nat→Int} (h:Own w b n d):∀ i,i<n→w.cell? ⟨b,i,none⟩=some (.int .u32 (d i)):=by
  obtain ⟨cs,hb,hc⟩:=h.raw
  exact fun i hi=>by simp only [World.cell?,hb,Option.isSome_none];exact hc i hi
theorem Own.free {w:World} {b n:Nat} {d:Nat→Int} (h:Own w b n d):∀ i,w.frozen? ⟨b,i,none⟩=false:=by
  obtain ⟨cs,hb,hc⟩:=h.raw
  exact fun i=>by simp [World.frozen?,hb]

/-- d with another value at place i -/
def upd (d:Nat→Int) (i:Nat) (v:Int):Nat→Int:=fun j=>if j=i then v else d j
theorem upd_same (d:Nat→Int) (i:Nat) (v:Int):upd d i v i=v:=by simp [upd]
theorem upd_other (d:Nat→Int) {i j:Nat} (v:Int) (h:j≠i):upd d i v j=d j:=by simp [upd,h]

theorem heap_setCell_at {w:World} {b i:Nat} {cs:Array Value} {t:TypeId} {fr:Nat × Nat} (v:Value) (h:w.heap[b]?=some (.cells cs t fr)):
    (w.setCell ⟨b,i,none⟩ v).heap[b]?=some (.cells (cs.setIfInBounds i v) t fr):=by
  simp [World.setCell,Array.getElem?_modify,h]
theorem Own.set {w:World} {b n:Nat} {d:Nat→Int} (h:Own w b n d) {i:Nat} (_hi:i<n) (v:Int):Own (w.setCell ⟨b,i,none⟩ (.int .u32 v)) b n (upd d i v):=by
  obtain ⟨cs,hb,hc⟩:=h.raw
  refine ⟨_,heap_setCell_at _ hb,fun j hj=>?_⟩
  by_cases e:i=j
  · subst e
    have:=(Array.getElem?_eq_some_iff.1 (hc i hj)).1
    rw [upd_same];simp [this]
  · rw [upd_other d v (Ne.symm e),Array.getElem?_setIfInBounds_ne e];exact hc j hj
theorem Own.gr {w w':World} {b n:Nat} {d:Nat→Int} (h:Own w b n d) (hb:Gr w w'):Own w' b n d:=by
  obtain ⟨cs,hb',hc⟩:=h.raw
  exact ⟨cs,hb.heap hb',hc⟩
theorem Own.below {w w':World} {b n:Nat} {d:Nat→Int} (h:Own w b n d) (hb:Below w.heap.size w w'):Own w' b n d:=h.gr hb
theorem Own.congr {w:World} {b n:Nat} {d d':Nat→Int} (h:Own w b n d) (e:∀ i,i<n→d i=d' i):Own w b n d':=by
  obtain ⟨cs,hb',hc⟩:=h.raw
  exact ⟨cs,hb',fun i hi=>by rw [hc i hi,e i hi]⟩
theorem Own.row {w:World} {b n:Nat} {d:Nat→Int} (h:Own w b n d):Row w (some ⟨b,0,none⟩) n d:=by
  obtain ⟨cs,hb',hc⟩:=h.raw
  exact ⟨fun _=>⟨b,0,cs,(0,0),rfl,hb',fun i hi=>by rw [Nat.zero_add];exact hc i hi⟩⟩
theorem Own.shorter {w:World} {b n k:Nat} {d:Nat→Int} (h:Own w b n d) (hk:k≤n):Own w b k d:=by
  obtain ⟨cs,hb',hc⟩:=h.raw
  exact ⟨cs,hb',fun i hi=>hc i (by omega)⟩

theorem u32_info:(Tryz.prog.info? 136).map (fun i=>(i.zero,i.size,i.bytes))=some (some (.int .u32 0),1,4):=by kernel_rfl

/-- 'make([]uint32,n)' -/
theorem wpList_make32 (w:World) {ops:Array Oper} {rest:List Oper} {o:Oper} {a:Act} {Q:Exit→Act→World→Prop}
    (hg:o.guard=none) (l c:Operand) (hop:o.op=Op.makeSlice 29 l c) (L C:Int) (n:Nat) (hl:a.eval l=.int .i64 L) (hc:a.eval c=.int .i64 C) (hL:L=(n:Int)) (hC:C=(n:Int)) (hn:n≤8000000)
    (hK:∀ w',Own w' w.heap.size n (fun _=>0)→Below w.heap.size w w'→w'.heap.size=w.heap.size+1→wpList Tryz.prog ops Q rest (a.put o.dst (.slice (some ⟨w.heap.size,0,none⟩) n n)) w'):
    wpList Tryz.prog ops Q (o::rest) a w:=by
  refine wpList_plain hg fun K hK'=>?_
  obtain ⟨i,hi,hz,hs,hb⟩:=info_parts u32_info
  have hrun:=run_make (P:=Tryz.prog) w 29 136 i _ Tryz.underlying29 hi hz .i64 .i64 (n:Int) (n:Int) (by omega) (Int.le_refl _) (by rw [hb];omega) (by omega)
  simp only [Int.toNat_natCast] at hrun
  rw [hs,Nat.mul_one] at hrun
  subst hL hC
  unfold Oper.wp
  simp [execOp,hop,hl,hc,hrun,Result.andThen]
  refine hK' _ _ (hK _ ⟨_,heap_alloc_new w _,fun j hj=>?_⟩ ((Below.refl _ _).alloc (Nat.le_refl _) _) (by simp))
  simp [madeCells,Value.cells,hj,Nat.mod_one]
section
variable {P:Program} {ops:Array Oper} {Q:Exit→Act→World→Prop} {S:World→Prop}

/-- Is this list of operations (true:it only reads) an order that speaks for all? -/
def okOrd (ops:Array Oper):List (Bool × Nat)→Array Bool→Bool
  | [],listed=>(Region.ready .any ops listed).isEmpty
  | (true,i)::rest,listed=>(Region.ready .any ops listed).contains i&&Region.free .any ops listed i&&okOrd ops rest (listed.setIfInBounds i true)
  | (false,i)::rest,listed=>decide (Region.ready .any ops listed=[i])&&okOrd ops rest (listed.setIfInBounds i true)

/-- The walk in that order. -/
def wpOrd (P:Program) (ops:Array Oper) (Q:Exit→Act→World→Prop) (S:World→Prop):List (Bool × Nat)→Act→World→Prop
  | [],a,w=>Q .normal a w
  | (true,i)::rest,a,w=>∃ o v,ops[i]?=some o∧YieldsIf P ops S o v a∧wpOrd P ops Q S rest (a.put o.dst v) w
  | (false,i)::rest,a,w=>wpOp P ops Q i (fun a' w'=>S w'∧wpOrd P ops Q S rest a' w') a w

theorem wpOrd_sound (hs:Region.noSelect ops=true) (hQ:∀ c (a:Act) (d:Tmp) v w,Q (.panic c) (a.put (some d) v) w→Q (.panic c) a w):
    ∀ (l:List (Bool × Nat)) (fuel:Nat) (listed:Array Bool) (a:Act) (w:World),l.length≤fuel→okOrd ops l listed=true→S w→wpOrd P ops Q S l a w→
      wpAnyH P .any ops Q S fuel listed a w:=by
  intro l
  induction l with
  | nil=>
    intro fuel listed a w _ hok _ h
    exact wpAnyH_done (by simpa [okOrd] using hok) h _
  | cons x rest ih=>
    intro fuel listed a w hl hok hS h
    obtain ⟨fuel,rfl⟩:∃ n,fuel=n+1:=⟨fuel - 1,by simp at hl;omega⟩
    obtain ⟨b,i⟩:=x
    cases b with
    | true=>
      simp only [okOrd,Bool.and_eq_true] at hok
      obtain ⟨o,v,ho,hy,hr⟩:=h
      exact wpAnyH_take ho hs hok.1.2 hok.1.1 (fun c a w h=>by cases hd:o.dst with | none=>rw [hd] at h;exact h | some d=>rw [hd] at h;exact hQ c a d _ w h) hy hS (ih fuel _ _ _ (by simpa using hl) hok.2 hS hr)
    | false=>
      simp only [okOrd,Bool.and_eq_true,decide_eq_true_eq] at hok
      refine wpAnyH_all hok.1 (by simp) (fun j hj=>?_)
      obtain rfl:j=i:=by simpa using hj
      refine wpOp_mono (fun a' w' h'=>?_) h
      exact ⟨h'.1,ih fuel _ _ _ (by simpa using hl) hok.2 h'.1 h'.2⟩

theorem wp_region_ord {id:Nat} {a:Act} {w:World} (S:World→Prop) (l:List (Bool × Nat)) (hm:P.follows .mixedOrders=true) (hs:Region.noSelect ops=true)
    (hok:okOrd ops l (Array.replicate ops.size false)=true) (hl:l.length≤ops.size) (hQ:∀ c (a:Act) (d:Tmp) v w,Q (.panic c) (a.put (some d) v) w→Q (.panic c) a w) (hS:S w.drew)
    (h:wpOrd P ops Q S l a w.drew):(Code.region id ops true).wp P Q a w:=
  wp_region_held hm (wpOrd_sound hs hQ l _ _ _ _ hl hok hS h)

theorem ord_nil {a:Act} {w:World} (h:Q .normal a w):wpOrd P ops Q S [] a w:=h

/-- one that is guarded,and wanted -/
theorem ord_pureg {i:Nat} {rest:List (Bool × Nat)} {a:Act} {w:World} {o:Oper} (d:Option Tmp) (v:Value) (ho:ops[i]?=some o) (hd:o.dst=d) (hg:Region.wanted o (yielded ops a.tmps)=true)
    (hv:∀ w,S w→(execOp a.eval o).run P w=.ok (.value v) w) (h:wpOrd P ops Q S rest (a.put d v) w):wpOrd P ops Q S ((true,i)::rest) a w:=
  ⟨o,v,ho,.inl ⟨hg,hv⟩,by rw [hd];exact h⟩
/-- one that is not wanted -/
theorem ord_skip {i:Nat} {rest:List (Bool × Nat)} {a:Act} {w:World} {o:Oper} (d:Option Tmp) (ho:ops[i]?=some o) (hd:o.dst=d) (hg:Region.wanted o (yielded ops a.tmps)=false)
    (h:wpOrd P ops Q S rest (a.put d undef) w):wpOrd P ops Q S ((true,i)::rest) a w:=
  ⟨o,undef,ho,.inr ⟨hg,rfl⟩,by rw [hd];exact h⟩
theorem ord_effskip {i:Nat} {rest:List (Bool × Nat)} {a:Act} {w:World} {o:Oper} (d:Option Tmp) (ho:ops[i]?=some o) (hd:o.dst=d) (hg:Region.wanted o (yielded ops a.tmps)=false)
    (hS:S w) (h:wpOrd P ops Q S rest (a.put d undef) w):wpOrd P ops Q S ((false,i)::rest) a w:=by
  subst hd
  unfold wpOrd wpOp
  simp only [ho]
  rw [if_neg (by rw [hg];decide)]
  exact ⟨hS,h⟩
end
section
variable {P:Program} {ops:Array Oper} {Q:Exit→Act→World→Prop} {S:World→Prop}

/-- another operation does not see what a slot holds that it does not look at -/
theorem wpOp_fwd {j d:Nat} {v:Value} {oj:Oper} (hj:ops[j]?=some oj) (h1:d ∉ oj.looksAt ops) (h2:oj.dst≠some d) (hs:∀ cs b,oj.op≠.select cs b)
    (hQ:∀ c (a:Act) w,Q (.panic c) a w→Q (.panic c) (a.put (some d) v) w) {K:Act→World→Prop} {a:Act} {w:World}
    (h:wpOp P ops Q j K a w):wpOp P ops Q j (fun a' w'=>∃ a₀,a'=a₀.put (some d) v∧K a₀ w') (a.put (some d) v) w:=by
  have e1:execOp (a.put (some d) v).eval oj=execOp a.eval oj:=execOp_put oj hs a (some d) v (fun d' e=>by cases e;exact h1)
  have e2:Region.wanted oj (yielded ops (a.put (some d) v).tmps)=Region.wanted oj (yielded ops a.tmps):=wanted_put oj a (some d) v (fun d' e=>by cases e;exact h1)
  have e3:∀ (a:Act) u,(a.put (some d) v).put oj.dst u=(a.put oj.dst u).put (some d) v:=fun a u=>Act.put_comm a v u (fun d' e=>by cases e;exact h2)
  unfold wpOp at*
  simp only [hj] at*
  rw [e2]
  split
  · rename_i hw
    simp only [hw,if_true] at h
    rcases h with h | ⟨hasks,hlets⟩
    case inr=>exact .inr ⟨by unfold Oper.asks at*;rw [e1];exact hasks,hlets⟩
    refine .inl ?_
    unfold Oper.wp at*
    rw [e1]
    generalize (execOp a.eval oj).run P w=r at*
    cases r with
    | ok n w'=>
      cases n<;>simp only [Oper.upon] at h ⊢
      case value u=>exact ⟨_,e3 a u,h⟩
      case skip=>exact ⟨_,e3 a _,h⟩
      case defer dd=>exact ⟨_,by rw [← e3];rfl,h⟩
      case enter f args=>
        refine Calls.mono h fun e w'' he=>?_
        cases e with
        | returned u=>exact ⟨_,e3 a u,he⟩
        | panicked c=>exact hQ _ _ _ he
        | outgrown=>exact he
      case row row args=>exact Rows.mono h fun u w'' he=>⟨_,e3 a u,he⟩
    | halt x w'=>
      cases x<;>simp only [Oper.upon] at h ⊢
      case panic u=>exact hQ _ _ _ h
  · rename_i hw
    simp only [hw] at h
    exact ⟨_,e3 a _,h⟩

/-- a new variable of the region:its operation,its slot,what it holds at first -/
structure Fl where
  op:Nat
  slot:Nat
  ty:TypeId
  zero:Array Value

def putFl (ps:Nat→Nat) (a:Act) (f:Fl):Act:=a.put (some f.slot) (.pointer (some ⟨ps f.op,0,none⟩))
def setFl (listed:Array Bool) (fl:List Fl):Array Bool:=fl.foldl (fun l f=>l.setIfInBounds f.op true) listed

def wpFlo (P:Program) (ops:Array Oper) (Q:Exit→Act→World→Prop) (S:World→Prop) (fin:Act→World→Prop):List (Bool × Nat)→Act→World→Prop
  | [],a,w=>∀ w1,Gr w w1→S w1→fin a w1
  | (true,i)::rest,a,w=>∃ o v,ops[i]?=some o∧YieldsIf P ops S o v a∧wpFlo P ops Q S fin rest (a.put o.dst v) w
  | (false,i)::rest,a,w=>∀ w1,Gr w w1→S w1→wpOp P ops Q i (fun a' w'=>Gr w1 w'∧S w'∧wpFlo P ops Q S fin rest a' w') a w1

theorem wpFlo_gr {fin:Act→World→Prop}:∀ (l:List (Bool × Nat)) {a:Act} {w w':World},wpFlo P ops Q S fin l a w→Gr w w'→wpFlo P ops Q S fin l a w'
  | [],_,_,_,h,hg=>fun w1 h1=>h w1 (hg.trans h1)
  | (true,_)::l,_,_,_,h,hg=>by
    obtain ⟨o,v,h1,h2,h3⟩:=h
    exact ⟨o,v,h1,h2,wpFlo_gr l h3 hg⟩
  | (false,_)::_,_,_,_,h,hg=>fun w1 h1=>h w1 (hg.trans h1)

/-- all that is asked of the region's edges,closed -/
def okFlo (ops:Array Oper) (fl:List Fl) (tl:List (Bool × Nat)):List (Bool × Nat)→Array Bool→Bool
  | [],listed=>okOrd ops tl (setFl listed fl)&&
      fl.all fun f=>(Region.ready .any ops listed).contains f.op&&decide (Region.ready .any ops (setFl listed (fl.filter (·.op !=f.op)))=[f.op])
  | (true,i)::rest,listed=>(Region.ready .any ops listed).contains i&&Region.free .any ops listed i&&okFlo ops fl tl rest (listed.setIfInBounds i true)
  | (false,i)::rest,listed=>(Region.ready .any ops listed).contains i&&decide (Region.ready .any ops (setFl listed fl)=[i])&&okFlo ops fl tl rest (listed.setIfInBounds i true)

/-- no operation ahead of the tail looks at the new variables' slots -/
def okAp (ops:Array Oper) (fl:List Fl) (l:List (Bool × Nat)):Bool:=
  l.all fun x=>match ops[x.2]? with
      | some o=>fl.all fun f=>!(o.looksAt ops).contains f.slot&&o.dst !=some f.slot&&x.2 !=f.op
      | none=>false
/-- the new variables' operations -/
def okAl (ops:Array Oper) (fl:List Fl):Bool:=
  decide (fl.map Fl.op).Nodup&&decide (fl.map Fl.slot).Nodup&&fl.all fun f=>match ops[f.op]? with
    | some o=>(match o.op with | .alloc t=>t==f.ty | _=>false)&&o.guard.isNone&&o.dst==some f.slot
    | none=>false

theorem setFl_cons (l:Array Bool) (f:Fl) (X:List Fl):setFl l (f::X)=setFl (l.setIfInBounds f.op true) X:=rfl
theorem setFl_snoc (l:Array Bool) (X:List Fl) (f:Fl):setFl l (X++[f])=(setFl l X).setIfInBounds f.op true:=by simp [setFl,List.foldl_append]
theorem setFl_append (l:Array Bool) (X Y:List Fl):setFl l (X++Y)=setFl (setFl l X) Y:=by simp [setFl,List.foldl_append]
theorem setFl_perm (l:Array Bool) {X Y:List Fl} (h:X.Perm Y):setFl l X=setFl l Y:=by
  unfold setFl
  refine List.Perm.foldl_eq' h (fun x _ y _ z=>?_) l
  by_cases e:x.op=y.op
  · rw [e]
  · exact (Array.setIfInBounds_comm _ _ e).symm ▸ rfl
theorem setFl_set (l:Array Bool) (X:List Fl) (i:Nat):setFl (l.setIfInBounds i true) X=(setFl l X).setIfInBounds i true:=by
  induction X generalizing l with
  | nil=>rfl
  | cons f X ih=>
    rw [setFl_cons,setFl_cons,← ih]
    by_cases e:f.op=i
    · rw [e]
    · rw [Array.setIfInBounds_comm _ _ e]
theorem ready_setFl {listed:Array Bool} {j:Nat}:∀ (X:List Fl),j ∈ Region.ready .any ops listed→(∀ f ∈ X,j≠f.op)→j ∈ Region.ready .any ops (setFl listed X):=by
  intro X
  induction X generalizing listed with
  | nil=>exact fun h _=>h
  | cons f X ih=>
    intro h hne
    rw [setFl_cons]
    exact ih (ready_mono h (hne f (by simp))) (fun g hg=>hne g (by simp [hg]))
theorem free_set {listed:Array Bool} {i k:Nat} (h:Region.free .any ops listed i=true):Region.free .any ops (listed.setIfInBounds k true) i=true:=by
  unfold Region.free at*
  split at h
  · cases h
  · rename_i oi ho
    rw [List.all_eq_true] at h ⊢
    intro j hj
    have h1:=h j hj
    simp only [Bool.or_eq_true] at h1 ⊢
    rcases h1 with (h1 | h1) | h1
    · exact .inl (.inl h1)
    · by_cases e:k=j
      · subst e
        rcases Nat.lt_or_ge k listed.size with h' | h'
        · exact .inl (.inr (by simp [h']))
        · exact .inl (.inr (by simp [h']))
      · exact .inl (.inr (by rw [getD_set_ne true e];exact h1))
    · exact .inr h1
theorem free_setFl {listed:Array Bool} {i:Nat}:∀ (X:List Fl),Region.free .any ops listed i=true→Region.free .any ops (setFl listed X) i=true:=by
  intro X
  induction X generalizing listed with
  | nil=>exact id
  | cons f X ih=>exact fun h=>by rw [setFl_cons];exact ih (free_set h)

theorem nodup_inj {α β:Type} {g:α→β} {l:List α} (h:(l.map g).Nodup) {a b:α} (ha:a ∈ l) (hb:b ∈ l) (e:g a=g b):a=b:=by
  induction l with
  | nil=>cases ha
  | cons x l ih=>
    rw [List.map_cons,List.nodup_cons] at h
    rcases List.mem_cons.1 ha with rfl | ha'<;>rcases List.mem_cons.1 hb with rfl | hb'
    · rfl
    · exact absurd (List.mem_map.2 ⟨b,hb',e.symm⟩) h.1
    · exact absurd (List.mem_map.2 ⟨a,ha',e⟩) h.1
    · exact ih h.2 ha' hb'
theorem putFl_put {ps:Nat→Nat} (X:List Fl) (a:Act) (d:Option Tmp) (v:Value) (h:∀ f ∈ X,d≠some f.slot):(X.foldl (putFl ps) a).put d v=X.foldl (putFl ps) (a.put d v):=by
  induction X generalizing a with
  | nil=>rfl
  | cons f X ih=>
    rw [List.foldl_cons,List.foldl_cons,ih _ (fun g hg=>h g (by simp [hg]))]
    congr 1
    exact Act.put_comm a _ v (fun d' e=>by cases e;exact h f (by simp))
theorem putFl_congr {ps ps':Nat→Nat} (X:List Fl) (a:Act) (h:∀ f ∈ X,ps f.op=ps' f.op):X.foldl (putFl ps) a=X.foldl (putFl ps') a:=by
  induction X generalizing a with
  | nil=>rfl
  | cons f X ih=>
    rw [List.foldl_cons,List.foldl_cons,ih _ (fun g hg=>h g (by simp [hg]))]
    congr 1
    unfold putFl
    rw [h f (by simp)]
theorem putFl_perm {ps:Nat→Nat} {X Y:List Fl} (h:X.Perm Y) (hn:(X.map Fl.slot).Nodup) (a:Act):X.foldl (putFl ps) a=Y.foldl (putFl ps) a:=by
  refine List.Perm.foldl_eq' h (fun x hx y hy z=>?_) a
  by_cases e:x=y
  · rw [e]
  · have hne:x.slot≠y.slot:=fun e'=>e (nodup_inj hn hx hy e')
    exact Act.put_comm z _ _ (fun d' e'=>by cases e';exact fun h=>hne (Option.some.inj h).symm)

theorem yields_put {ps:Nat→Nat} {o:Oper} {v:Value} (hs:∀ cs b,o.op≠.select cs b) (X:List Fl) (a:Act) (h:∀ f ∈ X,f.slot ∉ o.looksAt ops) (hy:YieldsIf P ops S o v a):
    YieldsIf P ops S o v (X.foldl (putFl ps) a):=by
  induction X generalizing a with
  | nil=>exact hy
  | cons f X ih=>
    refine ih _ (fun g hg=>h g (by simp [hg])) (hy.of_same ?_ ?_)
    · exact execOp_put o hs a (some f.slot) _ (fun d e=>by cases e;exact h f (by simp))
    · exact wanted_put o a (some f.slot) _ (fun d e=>by cases e;exact h f (by simp))
theorem wpOp_fwds {ps:Nat→Nat} {j:Nat} {oj:Oper} (hj:ops[j]?=some oj) (hs:∀ cs b,oj.op≠.select cs b)
    (hQ:∀ c (a:Act) (d:Tmp) v w,Q (.panic c) a w→Q (.panic c) (a.put (some d) v) w) {K:Act→World→Prop} {w:World} (X:List Fl) (h1:∀ f ∈ X,f.slot ∉ oj.looksAt ops) (h2:∀ f ∈ X,oj.dst≠some f.slot):
    ∀ {a:Act},wpOp P ops Q j K a w→wpOp P ops Q j (fun a' w'=>∃ a₀,a'=X.foldl (putFl ps) a₀∧K a₀ w') (X.foldl (putFl ps) a) w:=by
  induction X generalizing K with
  | nil=>exact fun h=>wpOp_mono (fun a' w' h'=>⟨a',rfl,h'⟩) h
  | cons f X ih=>
    intro a h
    have h3:=wpOp_fwd (d:=f.slot) (v:=.pointer (some ⟨ps f.op,0,none⟩)) hj (h1 f (by simp)) (h2 f (by simp)) hs (fun c a w=>hQ c a _ _ w) h
    refine wpOp_mono (fun a' w' h'=>?_) (ih (fun g hg=>h1 g (by simp [hg])) (fun g hg=>h2 g (by simp [hg])) h3)
    obtain ⟨a₀,e,a₁,e1,hk⟩:=h'
    exact ⟨a₁,by rw [e,e1];rfl,hk⟩

/-- what is left for the tail:the new variables are there,and hold their zeros -/
def FloFin (P:Program) (ops:Array Oper) (Q:Exit→Act→World→Prop) (S:World→Prop) (B:Nat) (fl:List Fl) (tl:List (Bool × Nat)) (a:Act) (w:World):Prop:=
  ∀ ps:Nat→Nat,(∀ f ∈ fl,w.heap[ps f.op]?=some (.cells f.zero f.ty)∧B≤ps f.op)→(fl.map fun f=>ps f.op).Nodup→wpOrd P ops Q S tl (fl.foldl (putFl ps) a) w

theorem wpFlo_sound (hs:Region.noSelect ops=true) (hQ:∀ c (a:Act) (d:Tmp) v w,Q (.panic c) (a.put (some d) v) w→Q (.panic c) a w)
    (hQ':∀ c (a:Act) (d:Tmp) v w,Q (.panic c) a w→Q (.panic c) (a.put (some d) v) w) (hSa:∀ w o,S w→S (w.alloc o)) (B:Nat) (fl:List Fl) (tl:List (Bool × Nat))
    (hal:okAl ops fl=true) (hz:∀ f ∈ fl,∀ w,(Instr.alloc f.ty true (.tuple #[])).run P w=.ok (.pointer (some ⟨w.heap.size,0,none⟩)) (w.alloc (.cells f.zero f.ty))):
    ∀ (n:Nat) (l:List (Bool × Nat)) (X R:List Fl) (ps:Nat→Nat) (fuel:Nat) (listed:Array Bool) (a:Act) (w:World),l.length+R.length≤n→l.length+R.length+tl.length≤fuel→
      fl.Perm (X++R)→okFlo ops fl tl l listed=true→okAp ops fl l=true→S w→B≤w.heap.size→(∀ f ∈ X,w.heap[ps f.op]?=some (.cells f.zero f.ty)∧B≤ps f.op)→(X.map fun f=>ps f.op).Nodup→
      wpFlo P ops Q S (FloFin P ops Q S B fl tl) l a w→wpAnyH P .any ops Q S fuel (setFl listed X) (X.foldl (putFl ps) a) w:=by
  simp only [okAl,Bool.and_eq_true,decide_eq_true_eq,List.all_eq_true] at hal
  obtain ⟨⟨hno,hns⟩,hal⟩:=hal
  intro n
  induction n with
  | zero=>
    intro l X R ps fuel listed a w hn hf hp hok hap hS hB hX hXn h
    obtain rfl:l=[]:=by cases l with | nil=>rfl | cons x l=>simp at hn
    obtain rfl:R=[]:=by cases R with | nil=>rfl | cons x l=>simp at hn
    simp only [okFlo,Bool.and_eq_true] at hok
    rw [List.append_nil] at hp
    have h1:=h w (Gr.refl w) hS ps (fun f hf=>hX f (hp.mem_iff.1 hf)) ((hp.map _).nodup_iff.2 hXn)
    rw [putFl_perm hp hns] at h1
    have h2:=hok.1
    rw [setFl_perm listed hp] at h2
    exact wpOrd_sound hs hQ tl fuel _ _ w (by simpa using hf) h2 hS h1
  | succ n ih=>
    intro l X R ps fuel listed a w hn hf hp hok hap hS hB hX hXn h
    -- a new variable comes up
    have float:∀ fuel',l.length+R.length+tl.length≤fuel'+1→∀ f ∈ R,wpOp P ops Q f.op (fun a' w'=>S w'∧wpAnyH P .any ops Q S fuel' ((setFl listed X).setIfInBounds f.op true) a' w') (X.foldl (putFl ps) a) w:=by
      intro fuel' hf' f hfR
      have hffl:f ∈ fl:=hp.mem_iff.2 (by simp [hfR])
      have h1:=hal f hffl
      obtain ⟨R1,R2,rfl⟩:=List.append_of_mem hfR
      cases ho:ops[f.op]? with
      | none=>rw [ho] at h1;cases h1
      | some o=>
        rw [ho] at h1
        simp only [Bool.and_eq_true,Option.isNone_iff_eq_none,beq_iff_eq] at h1
        obtain ⟨⟨h2,h3⟩,h4⟩:=h1
        have hop:o.op=.alloc f.ty:=by
          cases hh:o.op<;>rw [hh] at h2<;>first | cases h2 | (simp at h2;rw [h2])
        unfold wpOp
        simp only [ho]
        rw [if_pos (by simp [Region.wanted,h3])]
        refine .inl ?_
        have hrun:(execOp (X.foldl (putFl ps) a).eval o).run P w=.ok (.value (.pointer (some ⟨w.heap.size,0,none⟩))) (w.alloc (.cells f.zero f.ty)):=by
          simp only [execOp,hop]
          have:=hz f hffl w
          simp [this,Result.andThen]
        unfold Oper.wp
        rw [hrun]
        simp only [Oper.upon]
        refine ⟨hSa _ _ hS,?_⟩
        have hnotX:∀ g ∈ X,g.op≠f.op:=fun g hg e=>by
          have h5:((X++(R1++f::R2)).map Fl.op).Nodup:=(hp.map _).nodup_iff.1 hno
          rw [List.map_append,List.nodup_append] at h5
          exact h5.2.2 _ (List.mem_map.2 ⟨g,hg,rfl⟩) _ (List.mem_map.2 ⟨f,by simp,rfl⟩) e
        have h6:=ih l (X++[f]) (R1++R2) (fun k=>if k=f.op then w.heap.size else ps k) fuel' listed a (w.alloc (.cells f.zero f.ty)) (by simp at hn ⊢;omega) (by simp at hf' ⊢;omega)
          (hp.trans (by simpa using List.Perm.append_left X (List.perm_middle))) hok hap (hSa _ _ hS) (by simp;omega)
          (fun g hg=>by
            rcases List.mem_append.1 hg with hg | hg
            · rw [if_neg (hnotX g hg)];exact ⟨(Gr.alloc w _).heap (hX g hg).1,(hX g hg).2⟩
            · obtain rfl:g=f:=by simpa using hg
              rw [if_pos rfl];exact ⟨heap_alloc_new w _,hB⟩)
          (by
            rw [List.map_append,List.nodup_append]
            refine ⟨?_,by simp,?_⟩
            · rw [List.map_congr_left (g:=fun f=>ps f.op) (fun g hg=>if_neg (hnotX g hg))];exact hXn
            · intro x hx y hy
              obtain ⟨g,hg,rfl⟩:=List.mem_map.1 hx
              obtain rfl:y=w.heap.size:=by simpa using hy
              rw [if_neg (hnotX g hg)]
              intro e
              have h7:=(hX g hg).1
              rw [e,Array.getElem?_eq_none (Nat.le_refl _)] at h7
              cases h7)
          (wpFlo_gr l h (Gr.alloc w _))
        rw [setFl_snoc,List.foldl_append,putFl_congr (ps':=ps) X a (fun g hg=>if_neg (hnotX g hg))] at h6
        simp only [List.foldl_cons,List.foldl_nil,putFl,if_pos] at h6
        rw [h4]
        exact h6
    cases l with
    | nil=>
      cases R with
      | nil=>
        simp only [okFlo,Bool.and_eq_true] at hok
        rw [List.append_nil] at hp
        have h1:=h w (Gr.refl w) hS ps (fun f hf=>hX f (hp.mem_iff.1 hf)) ((hp.map _).nodup_iff.2 hXn)
        rw [putFl_perm hp hns] at h1
        have h2:=hok.1
        rw [setFl_perm listed hp] at h2
        exact wpOrd_sound hs hQ tl fuel _ _ w (by simpa using hf) h2 hS h1
      | cons r R=>
        simp only [okFlo,Bool.and_eq_true,List.all_eq_true,decide_eq_true_eq] at hok
        obtain ⟨fuel,rfl⟩:∃ m,fuel=m+1:=⟨fuel - 1,by simp at hf;omega⟩
        have hrfl:r ∈ fl:=hp.mem_iff.2 (by simp)
        have hnd:((X++r::R).map Fl.op).Nodup:=(hp.map _).nodup_iff.1 hno
        rw [List.map_append,List.nodup_append] at hnd
        have hr:r.op ∈ Region.ready .any ops (setFl listed X):=ready_setFl X (by simpa using (hok.2 r hrfl).1)
          (fun g hg e=>hnd.2.2 _ (List.mem_map.2 ⟨g,hg,rfl⟩) _ (List.mem_map.2 ⟨r,by simp,rfl⟩) e.symm)
        refine wpAnyH_all (rs:=Region.ready .any ops (setFl listed X)) rfl (fun e=>by rw [e] at hr;cases hr) (fun j hj=>?_)
        by_cases hjR:∃ f ∈ r::R,j=f.op
        · obtain ⟨f,hfR,rfl⟩:=hjR
          exact float fuel hf f hfR
        · -- nothing else may come up ahead of r
          refine absurd ?_ (fun e:j=r.op=>hjR ⟨r,by simp,e⟩)
          have h1:=(hok.2 r hrfl).2
          have h2:(fl.filter (·.op !=r.op)).Perm (X++R):=by
            refine (hp.filter _).trans ?_
            rw [List.filter_append,List.filter_cons_of_neg (by simp)]
            rw [List.filter_eq_self.2 (fun g hg=>by
              simp only [bne_iff_ne];exact hnd.2.2 _ (List.mem_map.2 ⟨g,hg,rfl⟩) _ (List.mem_map.2 ⟨r,by simp,rfl⟩)),
              List.filter_eq_self.2 (fun g hg=>by
                simp only [bne_iff_ne]
                have h3:=hnd.2.1
                rw [List.map_cons,List.nodup_cons] at h3
                exact fun e=>h3.1 (List.mem_map.2 ⟨g,hg,e⟩))]
          rw [setFl_perm listed h2,setFl_append] at h1
          have h3:=ready_setFl R hj (fun g hg e=>hjR ⟨g,by simp [hg],e⟩)
          rw [h1] at h3
          simpa using h3
    | cons x l=>
      obtain ⟨b,i⟩:=x
      obtain ⟨fuel,rfl⟩:∃ m,fuel=m+1:=⟨fuel - 1,by simp at hf;omega⟩
      have hap':=hap
      simp only [okAp,List.all_cons,Bool.and_eq_true] at hap'
      obtain ⟨hi,hapl⟩:=hap'
      cases b with
      | true=>
        simp only [okFlo,Bool.and_eq_true] at hok
        obtain ⟨o,v,ho,hy,hr⟩:=h
        rw [ho] at hi
        simp only [List.all_eq_true,Bool.and_eq_true,Bool.not_eq_true',bne_iff_ne] at hi
        have hXfl:∀ f ∈ X,f ∈ fl:=fun f hf=>hp.mem_iff.2 (by simp [hf])
        refine wpAnyH_take ho hs (free_setFl X hok.1.2) (by simpa using ready_setFl X (by simpa using hok.1.1) (fun f hf=>(hi f (hXfl f hf)).2))
          (fun c a w h=>by cases hd:o.dst with | none=>rw [hd] at h;exact h | some d=>rw [hd] at h;exact hQ c a d _ w h) (yields_put (fun cs b=>Region.noSelect_spec hs i o cs b ho) X a (fun f hf=>by simpa using (hi f (hXfl f hf)).1.1) hy) hS ?_
        rw [putFl_put X a _ _ (fun f hf=>(hi f (hXfl f hf)).1.2),← setFl_set]
        exact ih l X R ps fuel _ _ w (by simp at hn;omega) (by simp at hf;omega) hp hok.2 hapl hS hB hX hXn hr
      | false=>
        simp only [okFlo,Bool.and_eq_true,decide_eq_true_eq] at hok
        have hops:∃ o,ops[i]?=some o:=by
          cases ho:ops[i]? with
          | none=>rw [ho] at hi;cases hi
          | some o=>exact ⟨o,rfl⟩
        obtain ⟨o,ho⟩:=hops
        rw [ho] at hi
        simp only [List.all_eq_true,Bool.and_eq_true,Bool.not_eq_true',bne_iff_ne] at hi
        have hXfl:∀ f ∈ X,f ∈ fl:=fun f hf=>hp.mem_iff.2 (by simp [hf])
        have hr:i ∈ Region.ready .any ops (setFl listed X):=ready_setFl X (by simpa using hok.1.1) (fun f hf=>(hi f (hXfl f hf)).2)
        refine wpAnyH_all (rs:=Region.ready .any ops (setFl listed X)) rfl (fun e=>by rw [e] at hr;cases hr) (fun j hj=>?_)
        by_cases hjR:∃ f ∈ R,j=f.op
        · obtain ⟨f,hfR,rfl⟩:=hjR
          exact float fuel hf f hfR
        · have h3:=ready_setFl R hj (fun g hg e=>hjR ⟨g,hg,e⟩)
          rw [← setFl_append,← setFl_perm listed hp,hok.1.2] at h3
          obtain rfl:j=i:=by simpa using h3
          have h4:=h w (Gr.refl w) hS
          have h5:=wpOp_fwds (ps:=ps) ho (fun cs b=>Region.noSelect_spec hs j o cs b ho) hQ' X (fun f hf=>by simpa using (hi f (hXfl f hf)).1.1) (fun f hf=>(hi f (hXfl f hf)).1.2) h4
          refine wpOp_mono (fun a' w' h'=>?_) h5
          obtain ⟨a₀,rfl,hg,hS',hc⟩:=h'
          refine ⟨hS',?_⟩
          rw [← setFl_set]
          exact ih l X R ps fuel _ _ w' (by simp at hn;omega) (by simp at hf;omega) hp hok.2 hapl hS' (Nat.le_trans hB hg.size)
            (fun f hf=>⟨hg.heap (hX f hf).1,(hX f hf).2⟩) hXn hc

theorem wp_region_flo {id:Nat} {a:Act} {w:World} (S:World→Prop) (l:List (Bool × Nat)) (fl:List Fl) (tl:List (Bool × Nat)) (hm:P.follows .mixedOrders=true) (hs:Region.noSelect ops=true)
    (hok:okFlo ops fl tl l (Array.replicate ops.size false)=true) (hap:okAp ops fl l=true) (hal:okAl ops fl=true) (hl:l.length+fl.length+tl.length≤ops.size)
    (hQ:∀ c (a:Act) (d:Tmp) v w,Q (.panic c) (a.put (some d) v) w→Q (.panic c) a w) (hQ':∀ c (a:Act) (d:Tmp) v w,Q (.panic c) a w→Q (.panic c) (a.put (some d) v) w) (hSa:∀ w o,S w→S (w.alloc o)) (hS:S w.drew)
    (hz:∀ f ∈ fl,∀ w,(Instr.alloc f.ty true (.tuple #[])).run P w=.ok (.pointer (some ⟨w.heap.size,0,none⟩)) (w.alloc (.cells f.zero f.ty)))
    (h:wpFlo P ops Q S (FloFin P ops Q S w.heap.size fl tl) l a w.drew):(Code.region id ops true).wp P Q a w:=
  wp_region_held hm (wpFlo_sound hs hQ hQ' hSa w.heap.size fl tl hal hz _ l [] fl (fun _=>0) _ _ _ _ (Nat.le_refl _) hl (by simp) hok hap hS (Nat.le_refl _) (fun f hf=>by cases hf) (by simp) h)

theorem flo_nil {fin:Act→World→Prop} {a:Act} {w:World} (h:∀ w1,Gr w w1→S w1→fin a w1):wpFlo P ops Q S fin [] a w:=h
theorem flo_pure {fin:Act→World→Prop} {i:Nat} {rest:List (Bool × Nat)} {a:Act} {w:World} {o:Oper} (d:Option Tmp) (v:Value) (ho:ops[i]?=some o) (hd:o.dst=d) (hg:o.guard=none)
    (hv:∀ w,S w→(execOp a.eval o).run P w=.ok (.value v) w) (h:wpFlo P ops Q S fin rest (a.put d v) w):wpFlo P ops Q S fin ((true,i)::rest) a w:=
  ⟨o,v,ho,.inl ⟨by simp [Region.wanted,hg],hv⟩,by rw [hd];exact h⟩
theorem flo_eff {fin:Act→World→Prop} {i:Nat} {rest:List (Bool × Nat)} {a:Act} {w:World} {o:Oper} (ho:ops[i]?=some o) (hg:o.guard=none)
    (h:∀ w1,Gr w w1→S w1→∀ K:Act→World→Prop,(∀ a w',Gr w1 w'→S w'→wpFlo P ops Q S fin rest a w'→K a w')→o.wp P a w1 K Q):wpFlo P ops Q S fin ((false,i)::rest) a w:=by
  intro w1 hw1 hS
  unfold wpOp
  simp only [ho]
  rw [if_pos (by simp [Region.wanted,hg])]
  exact .inl (h w1 hw1 hS _ (fun a w h1 h2 h3=>⟨h1,h2,h3⟩))
end
section
variable {P:Program} {ops:Array Oper} {Q:Exit→Act→World→Prop} {S0:World→Prop} {HS:List (List Nat × (World→Prop))}

/-- what is held of those entries that f says yes to -/
def heldAll (f:List Nat→Bool):List (List Nat × (World→Prop))→World→Prop
  | [],_=>True
  | x::r,w=>(f x.1=true→x.2 w)∧heldAll f r w
theorem heldAll_mono {f g:List Nat→Bool} {w:World}:∀ (HS:List (List Nat × (World→Prop))),(∀ x ∈ HS,g x.1=true→f x.1=true)→heldAll f HS w→heldAll g HS w
  | [],_,_=>trivial
  | x::r,h,hh=>⟨fun hg=>hh.1 (h x (by simp) hg),heldAll_mono r (fun y hy=>h y (by simp [hy])) hh.2⟩
theorem heldAll_true {f:List Nat→Bool} {w:World}:∀ {HS:List (List Nat × (World→Prop))},heldAll (fun _=>true) HS w→heldAll f HS w:=
  fun {HS} h=>heldAll_mono HS (fun _ _ _=>rfl) h
/-- none of these has come up -/
def fresh (listed:Array Bool) (TL:List Nat):Bool:=TL.all fun t=>!listed.getD t true
/-- S0 holds always,what an entry says till one of its operations has come up -/
def Till (S0:World→Prop) (HS:List (List Nat × (World→Prop))) (listed:Array Bool) (w:World):Prop:=S0 w∧heldAll (fresh listed) HS w
theorem fresh_set {listed:Array Bool} {i:Nat} {TL:List Nat} (hn:i ∉ TL):fresh (listed.setIfInBounds i true) TL=fresh listed TL:=by
  unfold fresh
  induction TL with
  | nil=>rfl
  | cons t r ih=>
    simp only [List.all_cons]
    rw [ih (fun h=>hn (by simp [h])),getD_set_ne true (fun e:i=t=>hn (by simp [e]))]
theorem Till.set {listed:Array Bool} {i:Nat} {w:World} (hn:∀ x ∈ HS,i ∉ x.1) (h:Till S0 HS listed w):Till S0 HS (listed.setIfInBounds i true) w:=
  ⟨h.1,heldAll_mono HS (fun x hx hg=>by rw [fresh_set (hn x hx)] at hg;exact hg) h.2⟩
theorem Till.unset {listed:Array Bool} {i:Nat} {w:World} (hn:∀ x ∈ HS,i ∉ x.1) (h:Till S0 HS (listed.setIfInBounds i true) w):Till S0 HS listed w:=
  ⟨h.1,heldAll_mono HS (fun x hx hg=>by rw [fresh_set (hn x hx)];exact hg) h.2⟩
theorem cameT {b:Bool} {p:Prop} (hb:b=false):b=true→p:=fun h=>by rw [hb] at h;cases h

/-- Whatever order is picked from here on,and Till holds behind every operation. -/
def wpTill (P:Program) (ops:Array Oper) (Q:Exit→Act→World→Prop) (S0:World→Prop) (HS:List (List Nat × (World→Prop))):Nat→Array Bool→Act→World→Prop
  | 0,listed,a,w=>Region.ready .any ops listed=[]∧Q .normal a w
  | fuel+1,listed,a,w=>
    (Region.ready .any ops listed=[]→Q .normal a w)∧
    ∀ i ∈ Region.ready .any ops listed,wpOp P ops Q i (fun a' w'=>Till S0 HS (listed.setIfInBounds i true) w'∧wpTill P ops Q S0 HS fuel (listed.setIfInBounds i true) a' w') a w

theorem wpAny_of_till:∀ (fuel:Nat) (listed:Array Bool) (a:Act) (w:World),wpTill P ops Q S0 HS fuel listed a w→wpAny P .any ops Q fuel listed a w
  | 0,_,_,_,h=>h
  | fuel+1,_,_,_,h=>⟨h.1,fun i hi=>wpOp_mono (fun a' w' h'=>wpAny_of_till fuel _ a' w' h'.2) (h.2 i hi)⟩

/-- what has come up has waited for what it waits for -/
def Closed (ops:Array Oper) (listed:Array Bool):Prop:=∀ j oj,ops[j]?=some oj→listed.getD j true=true→∀ e ∈ oj.after,Region.binds .any e=true→listed.getD e.on true=true

theorem Closed.set {listed:Array Bool} {i:Nat} (h:Closed ops listed) (hi:i ∈ Region.ready .any ops listed):Closed ops (listed.setIfInBounds i true):=by
  intro j oj hj hl e he hb
  by_cases hij:i=j
  · subst hij
    obtain ⟨h0,o,ho,hall⟩:=mem_ready.1 hi
    rw [hj] at ho
    cases ho
    have:=hall e he hb
    rcases Nat.lt_or_ge e.on listed.size with h' | h'
    · by_cases hie:i=e.on
      · rw [hie];simp
      · rw [getD_set_ne true hie];simpa [h'] using this
    · simp [Array.getElem?_eq_none h'] at this
  · rw [getD_set_ne true hij] at hl
    have:=h j oj hj hl e he hb
    by_cases hie:i=e.on
    · rw [hie];simp
    · rw [getD_set_ne true hie];exact this

/-- t waits for i -/
def waits (ops:Array Oper):Nat→Nat→Nat→Bool
  | 0,_,_=>false
  | n+1,t,i=>match ops[t]? with
    | some o=>o.after.toList.any fun e=>Region.binds .any e&&(e.on==i||waits ops n e.on i)
    | none=>false
theorem waits_closed {listed:Array Bool} {i:Nat} (h:Closed ops listed) (hi:listed.getD i true=false):∀ (n t:Nat),waits ops n t i=true→listed.getD t true=false:=by
  intro n
  induction n with
  | zero=>intro t ht;cases ht
  | succ n ih=>
    intro t ht
    unfold waits at ht
    split at ht
    · rename_i o ho
      obtain ⟨e,he,hp⟩:=List.any_eq_true.1 ht
      simp only [Bool.and_eq_true,Bool.or_eq_true,beq_iff_eq] at hp
      cases hl:listed.getD t true with
      | false=>rfl
      | true=>
        have h1:=h t o ho hl e (by simpa using he) hp.1
        rcases hp.2 with h2 | h2
        · rw [h2,hi] at h1;cases h1
        · rw [ih _ h2] at h1;cases h1
    · cases ht

/-- An operation that only reads may be taken first,under what those who wait for it would end. -/
theorem wpTill_first {i:Nat} {oi:Oper} {v:Value} {SI:World→Prop} (hi:ops[i]?=some oi) (hsel:∀ (j:Nat) (o:Oper) cs b,ops[j]?=some o→o.op≠.select cs b)
    (hQ:∀ c a w,Q (.panic c) (a.put oi.dst v) w→Q (.panic c) a w)
    (hSI:∀ listed w,Closed ops listed→listed.getD i true=false→Till S0 HS listed w→SI w):
    ∀ (fuel:Nat) (listed:Array Bool) (a:Act) (w:World),Closed ops listed→
      (∀ j oj,ops[j]?=some oj→j≠i→listed.getD j true=false→(∀ e ∈ oj.after,Region.binds .any e=true→e.on≠i)→oi.apart ops oj=true)→
      i ∈ Region.ready .any ops listed→YieldsIf P ops SI oi v a→Till S0 HS listed w→(∀ x ∈ HS,i ∉ x.1)→
      wpTill P ops Q S0 HS fuel (listed.setIfInBounds i true) (a.put oi.dst v) w→wpTill P ops Q S0 HS (fuel+1) listed a w:=by
  intro fuel
  induction fuel with
  | zero=>
    intro listed a w hcl _ hr hy hS hn H
    refine ⟨fun h=>(by rw [h] at hr;cases hr),fun j hj=>?_⟩
    by_cases hji:j=i
    · subst hji;exact hy.wpOp hi (hSI listed w hcl (mem_ready.1 hr).1 hS) ⟨hS.set hn,H⟩
    · have:=ready_mono hj hji
      rw [H.1] at this
      cases this
  | succ fuel ih=>
    intro listed a w hcl hfree hr hy hS hn H
    refine ⟨fun h=>(by rw [h] at hr;cases hr),fun j hj=>?_⟩
    by_cases hji:j=i
    · subst hji;exact hy.wpOp hi (hSI listed w hcl (mem_ready.1 hr).1 hS) ⟨hS.set hn,H⟩
    · have h1:=H.2 j (ready_mono hj hji)
      obtain ⟨hjun,oj,hoj,hall⟩:=mem_ready.1 hj
      have hnot:∀ e ∈ oj.after,Region.binds .any e=true→e.on≠i:=fun e he hb heq=>by
        have h1:=hall e he hb
        have h0:=(mem_ready.1 hr).1
        rw [heq] at h1
        rcases Nat.lt_or_ge i listed.size with h' | h'
        · simp [h'] at h0 h1;rw [h0] at h1;cases h1
        · simp [Array.getElem?_eq_none h'] at h1
      have h2:=wpOp_putIf hoj (hfree j oj hoj hji hjun hnot) (fun cs b=>hsel i oi cs b hi) (fun cs b=>hsel j oj cs b hoj) hQ hy h1
      have hfree':∀ k ok,ops[k]?=some ok→k≠i→(listed.setIfInBounds j true).getD k true=false→
          (∀ e ∈ ok.after,Region.binds .any e=true→e.on≠i)→oi.apart ops ok=true:=fun k ok hk hki hun hno=>by
        refine hfree k ok hk hki ?_ hno
        by_cases hjk:j=k
        · subst hjk;exact hjun
        · rw [getD_set_ne true hjk] at hun;exact hun
      refine wpOp_mono (fun a' w' h3=>?_) h2
      have hT:Till S0 HS (listed.setIfInBounds j true) w':=by
        have:=h3.2.1
        rw [Array.setIfInBounds_comm _ _ (Ne.symm hji)] at this
        exact this.unset hn
      refine ⟨hT,ih (listed.setIfInBounds j true) a' w' (hcl.set hj) hfree' (ready_mono hr (Ne.symm hji)) h3.1 hT hn ?_⟩
      rw [Array.setIfInBounds_comm _ _ hji]
      exact h3.2.2

/-- Is this an order that speaks for all? (false:an operation with an effect;true:one that only reads) -/
def okTill (ops:Array Oper) (TLs:List (List Nat)):List (Bool × Nat)→Array Bool→Bool
  | [],listed=>(Region.ready .any ops listed).isEmpty
  | (true,i)::rest,listed=>(Region.ready .any ops listed).contains i&&Region.free .any ops listed i&&TLs.all (fun x=>!x.contains i)&&okTill ops TLs rest (listed.setIfInBounds i true)
  | (false,i)::rest,listed=>decide (Region.ready .any ops listed=[i])&&okTill ops TLs rest (listed.setIfInBounds i true)

/-- all of these wait for i -/
def allWait (ops:Array Oper) (i:Nat) (TL:List Nat):Bool:=TL.all fun t=>waits ops ops.size t i
/-- The walk in that order. -/
def wpOrt (P:Program) (ops:Array Oper) (Q:Exit→Act→World→Prop) (S0:World→Prop) (HS:List (List Nat × (World→Prop))):List (Bool × Nat)→Array Bool→Act→World→Prop
  | [],_,a,w=>Q .normal a w
  | (true,i)::rest,listed,a,w=>∃ o v,ops[i]?=some o∧YieldsIf P ops (fun w=>S0 w∧heldAll (allWait ops i) HS w) o v a∧wpOrt P ops Q S0 HS rest (listed.setIfInBounds i true) (a.put o.dst v) w
  | (false,i)::rest,listed,a,w=>wpOp P ops Q i (fun a' w'=>Till S0 HS (listed.setIfInBounds i true) w'∧wpOrt P ops Q S0 HS rest (listed.setIfInBounds i true) a' w') a w

theorem wpOrt_sound (hs:Region.noSelect ops=true) (hQ:∀ c (a:Act) (d:Tmp) v w,Q (.panic c) (a.put (some d) v) w→Q (.panic c) a w):
    ∀ (l:List (Bool × Nat)) (fuel:Nat) (listed:Array Bool) (a:Act) (w:World),l.length≤fuel→Closed ops listed→okTill ops (HS.map (·.1)) l listed=true→Till S0 HS listed w→wpOrt P ops Q S0 HS l listed a w→
      wpTill P ops Q S0 HS fuel listed a w:=by
  have hQd:∀ c (a:Act) (d:Option Tmp) v w,Q (.panic c) (a.put d v) w→Q (.panic c) a w:=by
    intro c a d v w h
    cases d with
    | none=>exact h
    | some d=>exact hQ c a d v w h
  intro l
  induction l with
  | nil=>
    intro fuel listed a w _ _ hok _ h
    have hr:Region.ready .any ops listed=[]:=by simpa [okTill] using hok
    cases fuel with
    | zero=>exact ⟨hr,h⟩
    | succ n=>exact ⟨fun _=>h,by rw [hr];simp⟩
  | cons x rest ih=>
    intro fuel listed a w hl hcl hok hS h
    obtain ⟨fuel,rfl⟩:∃ n,fuel=n+1:=⟨fuel - 1,by simp at hl;omega⟩
    obtain ⟨b,i⟩:=x
    cases b with
    | true=>
      simp only [okTill,Bool.and_eq_true,List.all_eq_true] at hok
      obtain ⟨⟨⟨hr,hf⟩,hn⟩,hrest⟩:=hok
      obtain ⟨o,v,ho,hy,hr'⟩:=h
      have hrm:i ∈ Region.ready .any ops listed:=by simpa using hr
      have hn':∀ x ∈ HS,i ∉ x.1:=fun x hx=>by simpa using hn x.1 (List.mem_map.2 ⟨x,hx,rfl⟩)
      refine wpTill_first ho (Region.noSelect_spec hs) (fun c a w h=>hQd c a o.dst v w h)
        (fun listed w hc h0 hT=>⟨hT.1,heldAll_mono HS (fun x _ hg=>by
            unfold allWait at hg
            unfold fresh
            rw [List.all_eq_true] at hg ⊢
            intro t ht
            rw [waits_closed hc h0 _ t (hg t ht)];rfl) hT.2⟩) fuel listed a w hcl (Region.free_spec ho hf) hrm hy hS hn' ?_
      exact ih fuel _ _ _ (by simpa using hl) (hcl.set hrm) hrest (hS.set hn') hr'
    | false=>
      simp only [okTill,Bool.and_eq_true,decide_eq_true_eq] at hok
      refine ⟨fun h0=>(by rw [hok.1] at h0;cases h0),fun j hj=>?_⟩
      have hji:j=i:=by rw [hok.1] at hj;simpa using hj
      subst hji
      refine wpOp_mono (fun a' w' h'=>?_) h
      exact ⟨h'.1,ih fuel _ _ _ (by simpa using hl) (hcl.set hj) hok.2 h'.1 h'.2⟩

theorem wp_region_ort {id:Nat} {a:Act} {w:World} (S0:World→Prop) (HS:List (List Nat × (World→Prop))) (l:List (Bool × Nat)) (hm:P.follows .mixedOrders=true) (hs:Region.noSelect ops=true)
    (hok:okTill ops (HS.map (·.1)) l (Array.replicate ops.size false)=true) (hl:l.length≤ops.size) (hQ:∀ c (a:Act) (d:Tmp) v w,Q (.panic c) (a.put (some d) v) w→Q (.panic c) a w) (hS0:S0 w.drew) (hS1:heldAll (fun _=>true) HS w.drew)
    (h:wpOrt P ops Q S0 HS l (Array.replicate ops.size false) a w.drew):(Code.region id ops true).wp P Q a w:=
  wp_region_any hm (wpAny_of_till _ _ _ _ (wpOrt_sound hs hQ l _ _ _ _ hl (fun j oj hj hlj e he _=>by
      have hjs:=(Array.getElem?_eq_some_iff.1 hj).1
      have:(Array.replicate ops.size false).getD j true=false:=by simp [hjs]
      rw [this] at hlj;cases hlj) hok ⟨hS0,heldAll_true hS1⟩ h))

theorem ort_nil {a:Act} {w:World} {listed:Array Bool} (h:Q .normal a w):wpOrt P ops Q S0 HS [] listed a w:=h
theorem ort_pure {i:Nat} {rest:List (Bool × Nat)} {listed:Array Bool} {a:Act} {w:World} {o:Oper} (d:Option Tmp) (v:Value) (ho:ops[i]?=some o) (hd:o.dst=d) (hg:Region.wanted o (yielded ops a.tmps)=true)
    (hv:∀ w,S0 w∧heldAll (allWait ops i) HS w→(execOp a.eval o).run P w=.ok (.value v) w) (h:wpOrt P ops Q S0 HS rest (listed.setIfInBounds i true) (a.put d v) w):wpOrt P ops Q S0 HS ((true,i)::rest) listed a w:=
  ⟨o,v,ho,.inl ⟨hg,hv⟩,by rw [hd];exact h⟩
theorem ort_skip {i:Nat} {rest:List (Bool × Nat)} {listed:Array Bool} {a:Act} {w:World} {o:Oper} (d:Option Tmp) (ho:ops[i]?=some o) (hd:o.dst=d) (hg:Region.wanted o (yielded ops a.tmps)=false)
    (h:wpOrt P ops Q S0 HS rest (listed.setIfInBounds i true) (a.put d undef) w):wpOrt P ops Q S0 HS ((true,i)::rest) listed a w:=
  ⟨o,undef,ho,.inr ⟨hg,rfl⟩,by rw [hd];exact h⟩
theorem ort_eff {i:Nat} {rest:List (Bool × Nat)} {listed:Array Bool} {a:Act} {w:World} {o:Oper} (ho:ops[i]?=some o) (hg:Region.wanted o (yielded ops a.tmps)=true)
    (h:∀ K:Act→World→Prop,(∀ a w,S0 w→heldAll (fresh (listed.setIfInBounds i true)) HS w→wpOrt P ops Q S0 HS rest (listed.setIfInBounds i true) a w→K a w)→o.wp P a w K Q):wpOrt P ops Q S0 HS ((false,i)::rest) listed a w:=by
  unfold wpOrt wpOp
  simp only [ho]
  rw [if_pos hg]
  exact .inl (h _ (fun a w h0 h1 h2=>⟨⟨h0,h1⟩,h2⟩))
theorem ort_effskip {i:Nat} {rest:List (Bool × Nat)} {listed:Array Bool} {a:Act} {w:World} {o:Oper} (d:Option Tmp) (ho:ops[i]?=some o) (hd:o.dst=d) (hg:Region.wanted o (yielded ops a.tmps)=false)
    (hS0:S0 w) (hS1:heldAll (fresh (listed.setIfInBounds i true)) HS w) (h:wpOrt P ops Q S0 HS rest (listed.setIfInBounds i true) (a.put d undef) w):wpOrt P ops Q S0 HS ((false,i)::rest) listed a w:=by
  subst hd
  unfold wpOrt wpOp
  simp only [ho]
  rw [if_neg (by rw [hg];decide)]
  exact ⟨⟨hS0,hS1⟩,h⟩

/-! ### floating variables:what the tail is given -/
theorem floFin1 {B:Nat} {tl:List (Bool × Nat)} {a:Act} {w:World} {o1 s1 t1:Nat} {z1:Array Value}
    (h:∀ b1,w.heap[b1]?=some (.cells z1 t1)→B≤b1→wpOrd P ops Q S0 tl (a.put (some s1) (.pointer (some ⟨b1,0,none⟩))) w):FloFin P ops Q S0 B [⟨o1,s1,t1,z1⟩] tl a w:=
  fun ps hf _=>h (ps o1) (hf ⟨o1,s1,t1,z1⟩ (by simp)).1 (hf ⟨o1,s1,t1,z1⟩ (by simp)).2
theorem floFin2 {B:Nat} {tl:List (Bool × Nat)} {a:Act} {w:World} {o1 s1 t1 o2 s2 t2:Nat} {z1 z2:Array Value}
    (h:∀ b1 b2,w.heap[b1]?=some (.cells z1 t1)→B≤b1→w.heap[b2]?=some (.cells z2 t2)→B≤b2→b1≠b2→
      wpOrd P ops Q S0 tl ((a.put (some s1) (.pointer (some ⟨b1,0,none⟩))).put (some s2) (.pointer (some ⟨b2,0,none⟩))) w):FloFin P ops Q S0 B [⟨o1,s1,t1,z1⟩,⟨o2,s2,t2,z2⟩] tl a w:=
  fun ps hf hn=>h (ps o1) (ps o2) (hf ⟨o1,s1,t1,z1⟩ (by simp)).1 (hf ⟨o1,s1,t1,z1⟩ (by simp)).2 (hf ⟨o2,s2,t2,z2⟩ (by simp)).1 (hf ⟨o2,s2,t2,z2⟩ (by simp)).2 (by simp at hn;omega)
/-- a new variable's zero -/
theorem alloc_zero {t:TypeId} {z:Value} {cs:Array Value} (hz:(P.info? t).map (·.zero)=some (some z)) (hv:z.cells=cs) (w:World):
    (Instr.alloc t true (.tuple #[])).run P w=.ok (.pointer (some ⟨w.heap.size,0,none⟩)) (w.alloc (.cells cs t)):=by
  subst hv
  obtain ⟨i,hi,hzz⟩:=Option.map_eq_some_iff.1 hz
  simp [Instr.alloc,zeroValue,typeInfo,newVar,newRow,Sem.run_bind,Result.andThen_ok,Sem.run_pure,run_program,hi,hzz]
theorem flo_pureg {fin:Act→World→Prop} {i:Nat} {rest:List (Bool × Nat)} {a:Act} {w:World} {o:Oper} (d:Option Tmp) (v:Value) (ho:ops[i]?=some o) (hd:o.dst=d) (hg:Region.wanted o (yielded ops a.tmps)=true)
    (hv:∀ w,S0 w→(execOp a.eval o).run P w=.ok (.value v) w) (h:wpFlo P ops Q S0 fin rest (a.put d v) w):wpFlo P ops Q S0 fin ((true,i)::rest) a w:=
  ⟨o,v,ho,.inl ⟨hg,hv⟩,by rw [hd];exact h⟩
end
section
variable {P:Program} {a:Act} {o:Oper} {w:World} {Q:Exit→Act→World→Prop} {K:Act→World→Prop} {ops:Array Oper}

/-- an operation leaves v and nothing else -/
def RunV (P:Program) (a:Act) (o:Oper) (w:World) (v:Value):Prop:=(execOp a.eval o).run P w=.ok (.value v) w
theorem rvk {v:Value} (h:(execOp a.eval o).run P w=.ok (.value v) w):RunV P a o w v:=h
theorem RunV.int {k:IntKind} {x y:Int} (h:RunV P a o w (.int k x)) (e:x=y):RunV P a o w (.int k y):=e ▸ h
theorem RunV.bool {x y:Bool} (h:RunV P a o w (.bool x)) (e:x=y):RunV P a o w (.bool y):=e ▸ h

/-- a variable of the call's own:the whole block -/
def Lc (w:World) (b:Nat) (cs:Array Value) (t:TypeId):Prop:=w.heap[b]?=some (.cells cs t)
theorem Lc.gr {w w':World} {b:Nat} {cs:Array Value} {t:TypeId} (h:Lc w b cs t) (g:Gr w w'):Lc w' b cs t:=g.heap h
theorem Lc.lt {w:World} {b:Nat} {cs:Array Value} {t:TypeId} (h:Lc w b cs t):b<w.heap.size:=heap_lt h
theorem Lc.ne {w:World} {b c:Nat} {cs:Array Value} {t:TypeId} (h:Lc w b cs t) (hc:w.heap.size≤c):b≠c:=fun e=>by have:=h.lt;omega

/-- is it a row of k cells? -/
def aggSize (P:Program) (t:TypeId):Option Nat:=
  match P.underlying t with
  | some (.struct _) | some (.array _ _)=>(P.info? t).map (·.size)
  | _=>none
def oneSize (P:Program) (t:TypeId):Bool:=
  match P.underlying t with
  | some (.struct _) | some (.array _ _)=>false
  | some _=>(P.info? t).map (·.size)==some 1
  | none=>false

theorem rangeAt_of {cs:Array Value} {t:TypeId} {b:Nat} (h:Lc w b cs t) (off:Nat) (vs:List Value) (hv:(cs.toList.drop off).take vs.length=vs):w.rangeAt b off vs:=by
  intro j v hj
  have hj':j<vs.length:=(List.getElem?_eq_some_iff.1 hj).1
  rw [cells_of h,← hj]
  have h1:((cs.toList.drop off).take vs.length)[j]?=vs[j]?:=by rw [hv]
  rw [List.getElem?_take_of_lt hj',List.getElem?_drop] at h1
  rw [← h1];simp

theorem rv_load (t:TypeId) (x:Operand) (b off:Nat) (cs:Array Value) (tt:TypeId) (vs:List Value) (hop:o.op=.load t x) (hx:a.eval x=.pointer (some ⟨b,off,none⟩))
    (hL:Lc w b cs tt) (hv:(cs.toList.drop off).take vs.length=vs) (hs:aggSize P t=some vs.length):RunV P a o w (.agg vs.toArray):=by
  unfold aggSize at hs
  have hr:=rangeAt_of hL off vs hv
  unfold RunV
  cases hd:P.underlying t with
  | none=>rw [hd] at hs;cases hs
  | some d=>
    rw [hd] at hs
    have hrow:d.isRow=true∧(P.info? t).map (·.size)=some vs.length:=by
      cases d<;>first | cases hs | exact ⟨rfl,hs⟩
    unfold execOp
    simp only [hop,hx,Instr.loadAt,Instr.sureAddr,Sem.run_bind,Sem.run_pure,Result.andThen_ok,run_loadVar_mid w b off t vs d hr hd hrow.1 hrow.2]
theorem rv_load1 (t:TypeId) (x:Operand) (b off:Nat) (cs:Array Value) (tt:TypeId) (v:Value) (hop:o.op=.load t x) (hx:a.eval x=.pointer (some ⟨b,off,none⟩))
    (hL:Lc w b cs tt) (hv:cs[off]?=some v) (hs:oneSize P t=true):RunV P a o w v:=by
  unfold oneSize at hs
  have hc:w.cell? ⟨b,off,none⟩=some v:=by rw [cells_of hL];exact hv
  unfold RunV
  cases hd:P.underlying t with
  | none=>rw [hd] at hs;cases hs
  | some d=>
    rw [hd] at hs
    have hagg:(isAgg t).run P w=.ok false w:=by
      unfold isAgg
      rw [Sem.run_bind,run_underlying hd w]
      cases d<;>first | cases hs | rfl
    unfold execOp
    simp only [hop,hx,Instr.loadAt,Instr.sureAddr,Sem.run_bind,Sem.run_pure,Result.andThen_ok,loadVar,hagg]
    simp [load,Sem.run,hc]

/-! ### plain regions -/
theorem sq_nil (h:Q .normal a w):wpOps P ops Q [] a w:=h
theorem sq_val {i:Nat} {rest:List Nat} (d:Option Tmp) (v:Value) (ho:ops[i]?=some o) (hd:o.dst=d) (hw:Region.wanted o (yielded ops a.tmps)=true) (hv:RunV P a o w v)
    (h:wpOps P ops Q rest (a.put d v) w):wpOps P ops Q (i::rest) a w:=by
  rw [wpOps_cons]
  subst hd
  unfold wpOp
  simp only [ho,hw,if_true]
  refine .inl ?_
  unfold Oper.wp
  rw [hv]
  exact h
theorem sq_skip {i:Nat} {rest:List Nat} (d:Option Tmp) (ho:ops[i]?=some o) (hd:o.dst=d) (hw:Region.wanted o (yielded ops a.tmps)=false)
    (h:wpOps P ops Q rest (a.put d undef) w):wpOps P ops Q (i::rest) a w:=by
  rw [wpOps_cons]
  subst hd
  unfold wpOp
  simp only [ho,hw]
  exact h
theorem eff_call {f:FuncId} {args:Array Value} {R:Ending→World→Prop} (d:Option Tmp) (hd:o.dst=d) (hrun:(execOp a.eval o).run P w=.ok (.enter f args) w) (hc:Calls P f args w R)
    (h:∀ e w',R e w'→∃ v,e=.returned v∧K (a.put d v) w'):o.wp P a w K Q:=by
  subst hd
  unfold Oper.wp
  rw [hrun]
  simp only [Oper.upon]
  refine hc.mono fun e w' he=>?_
  obtain ⟨v,rfl,hk⟩:=h e w' he
  exact hk
theorem run_newRow (w:World) (t:TypeId) (cs:Array Value):(newRow t cs).run P w=.ok ⟨w.heap.size,0,none⟩ (w.alloc (.cells cs t)):=by
  simp [newRow]
theorem eff_box (t:TypeId) (x:Operand) (v:Value) (cs:Array Value) (d:Option Tmp) (hd:o.dst=d) (hop:o.op=.box t x) (hx:a.eval x=v) (hv:v.cells=cs)
    (h:∀ b w',Gr w w'→Lc w' b cs t→w.heap.size≤b→K (a.put d (.pointer (some ⟨b,0,none⟩))) w'):o.wp P a w K Q:=by
  subst hd hx hv
  unfold Oper.wp execOp
  simp only [hop,Instr.box,newVar,Sem.run_bind,run_newRow,Result.andThen_ok,Sem.run_pure]
  exact h _ _ (Gr.alloc w _) (heap_alloc_new w _) (Nat.le_refl _)
theorem eff_alloc (t:TypeId) (z:Value) (cs:Array Value) (d:Option Tmp) (hd:o.dst=d) (hop:o.op=.alloc t) (hz:(P.info? t).map (·.zero)=some (some z)) (hv:z.cells=cs)
    (h:∀ b w',Gr w w'→Lc w' b cs t→w.heap.size≤b→K (a.put d (.pointer (some ⟨b,0,none⟩))) w'):o.wp P a w K Q:=by
  subst hd hv
  obtain ⟨i,hi,hzz⟩:=Option.map_eq_some_iff.1 hz
  unfold Oper.wp execOp
  simp only [hop,Instr.alloc,zeroValue,typeInfo,newVar,Sem.run_bind,run_newRow,Result.andThen_ok,Sem.run_pure,run_program,hi,hzz]
  exact h _ _ (Gr.alloc w _) (heap_alloc_new w _) (Nat.le_refl _)

theorem eff_make (t e:TypeId) (z:Value) (L C sz:Nat) (cs:Array Value) (d:Option Tmp) {x y:Operand} (hd:o.dst=d) (hop:o.op=.makeSlice t x y) (hx:a.eval x=.int .i64 L) (hy:a.eval y=.int .i64 C) (hu:P.underlying t=some (.slice e))
    (hi:(P.info? e).map (fun i=>(i.zero,i.size,decide (i.bytes*C≤281474976710656)))=some (some z,sz,true)) (hL:decide (L≤C∧C≤9223372036854775807)=true) (hcs:madeCells z.cells (C*sz)=cs)
    (h:∀ b w',Gr w w'→Lc w' b cs e→w.heap.size≤b→K (a.put d (.slice (some ⟨b,0,none⟩) L C)) w'):o.wp P a w K Q:=by
  subst hd hcs
  obtain ⟨i,hi,hzz⟩:=Option.map_eq_some_iff.1 hi
  simp only [Prod.mk.injEq,decide_eq_true_eq] at hzz hL
  have hrun:=run_make (P:=P) w t e i z hu hi hzz.1 .i64 .i64 (L:Int) (C:Int) (by omega) (by omega) (by have h3:=hzz.2.2;rw [← Int.natCast_mul];generalize i.bytes*C=q at*;omega) (by omega)
  rw [hzz.2.1] at hrun
  unfold Oper.wp execOp
  simp only [hop,hx,hy,Sem.run_bind,hrun,Result.andThen_ok,Sem.run_pure,Int.toNat_natCast]
  exact h _ _ (Gr.alloc w _) (heap_alloc_new w _) (Nat.le_refl _)

/-- w' is w but for block b -/
structure St (w w':World) (b:Nat):Prop where
  os:w'.os=w.os
  tape:w'.tape=w.tape
  output:w'.output=w.output
  size:w'.heap.size=w.heap.size
  block:∀ k,k≠b→w'.heap[k]?=w.heap[k]?
theorem St.refl (w:World) (b:Nat):St w w b:=⟨rfl,rfl,rfl,rfl,fun _ _=>rfl⟩
theorem St.trans {w1 w2 w3:World} {b:Nat} (h:St w1 w2 b) (k:St w2 w3 b):St w1 w3 b:=
  ⟨k.os.trans h.os,k.tape.trans h.tape,k.output.trans h.output,k.size.trans h.size,fun i hi=>(k.block i hi).trans (h.block i hi)⟩
theorem St.setCell (w:World) (b i:Nat) (v:Value):St w (w.setCell ⟨b,i,none⟩ v) b:=
  ⟨rfl,rfl,rfl,by simp,fun k hk=>Below.heap_setCell _ _ _ _ hk⟩
theorem St.setCells (b:Nat):∀ (vs:List Value) (off:Nat) (w:World),St w (w.setCells b off vs) b
  | [],_,w=>St.refl w b
  | v::vs,off,w=>(St.setCell w b off v).trans (St.setCells b vs (off+1) _)
/-- a store into a block that is newer than w0 -/
theorem St.gr {w0 w w':World} {b:Nat} (h:St w w' b) (g:Gr w0 w) (hb:w0.heap.size≤b):Gr w0 w':=
  Below.trans g ⟨h.os,h.tape,h.output,Nat.le_of_eq h.size.symm,fun k hk=>h.block k (by omega)⟩
theorem St.below {B:Nat} {w0 w w':World} {b:Nat} (h:St w w' b) (g:Below B w0 w) (hb:B≤b):Below B w0 w':=
  Below.trans g ⟨h.os,h.tape,h.output,Nat.le_of_eq h.size.symm,fun k hk=>h.block k (by omega)⟩
theorem St.lc {w w':World} {b c:Nat} {cs:Array Value} {t:TypeId} (h:St w w' b) (hL:Lc w c cs t) (hne:c≠b):Lc w' c cs t:=(h.block c hne).trans hL
theorem St.kp {w w':World} {b:Nat} {cs:Array Value} {t:TypeId} (h:St w w' b) (hL:Lc w b cs t) (ht:t≠136):Kp w w':=fun c ds fr hc=>by
  by_cases e:c=b
  · subst e
    unfold Lc at hL
    rw [hc] at hL
    simp only [Option.some.injEq,Obj.cells.injEq] at hL
    exact absurd hL.2.1.symm ht
  · exact (h.block c e).trans hc

/-- each is one cell -/
def One1:List Value→Prop
  | []=>True
  | v::vs=>v.oneCell'=true∧One1 vs
theorem One1.all:∀ {vs:List Value},One1 vs→∀ v ∈ vs,v.oneCell'=true
  | [],_,_,h=>by cases h
  | u::vs,h,v,hv=>by
    rcases List.mem_cons.1 hv with rfl | hv
    · exact h.1
    · exact One1.all h.2 v hv
def writeAt (cs:Array Value):Nat→List Value→Array Value
  | _,[]=>cs
  | off,v::vs=>writeAt (cs.setIfInBounds off v) (off+1) vs
theorem heap_setCells {b:Nat} {t:TypeId} {fr:Nat × Nat}:∀ (vs:List Value) (off:Nat) {w:World} {cs:Array Value},w.heap[b]?=some (.cells cs t fr)→(w.setCells b off vs).heap[b]?=some (.cells (writeAt cs off vs) t fr)
  | [],_,_,_,h=>h
  | v::vs,off,_,_,h=>heap_setCells vs (off+1) (heap_setCell_at v h)

theorem eff_store (t:TypeId) (x y:Operand) (b off:Nat) (v:Value) (vs:List Value) (cs cs':Array Value) (tt:TypeId) (hop:o.op=.store t x y) (hd:o.dst=none) (hx:a.eval x=.pointer (some ⟨b,off,none⟩)) (hy:a.eval y=v) (hv:v.cells=vs.toArray)
    (hL:Lc w b cs tt) (hs:(P.info? t).map (·.size)=some vs.length) (hoff:off+vs.length≤cs.size) (h1:One1 vs) (hcs:writeAt cs off vs=cs')
    (h:∀ w',St w w' b→Lc w' b cs' tt→K a w'):o.wp P a w K Q:=by
  subst hcs
  obtain ⟨i,hi,hsz⟩:=Option.map_eq_some_iff.1 hs
  have hrun:(storeVar t ⟨b,off,none⟩ v).run P w=.ok () (w.setCells b off vs):=by
    have:=run_storeCells_cells (P:=P) b off vs 0 w (fun j hj=>by rw [Nat.add_zero,cells_of hL];simp;omega) (fun j hj=>free_of hL _) h1.all
    simp only [Nat.add_zero] at this
    simp [storeVar,sizeOf,typeInfo,hi,hv,hsz,this]
  unfold Oper.wp execOp
  simp only [hop,hx,hy,Instr.storeAt,Instr.sureAddr,Sem.run_bind,Sem.run_pure,Result.andThen_ok,hrun,Oper.upon,hd,Act.put]
  exact h _ (St.setCells b vs off w) (heap_setCells vs off hL)

/-! ### results -/
theorem run_load_lc {t:TypeId} {b:Nat} {cs:Array Value} {tt:TypeId} (hL:Lc w b cs tt) (hs:aggSize P t=some cs.size):(loadVar t ⟨b,0,none⟩).run P w=.ok (.agg cs) w:=by
  unfold aggSize at hs
  have hr:=rangeAt_of hL 0 cs.toList (by rw [List.drop_zero,List.take_length])
  cases hd:P.underlying t with
  | none=>rw [hd] at hs;cases hs
  | some d=>
    rw [hd] at hs
    have hrow:d.isRow=true∧(P.info? t).map (·.size)=some cs.toList.length:=by
      rw [Array.length_toList]
      cases d<;>first | cases hs | exact ⟨rfl,hs⟩
    have:=run_loadVar_mid w b 0 t cs.toList d hr hd hrow.1 hrow.2
    simpa using this
theorem ret_cell {fn:Func} {tmps:Array Value} {p:Tmp} {t:TypeId} (b:Nat) (cs:Array Value) (tt:TypeId) (h:fn.results=#[.cell p t]) (hp:tmps.getD p undef=.pointer (some ⟨b,0,none⟩)) (hL:Lc w b cs tt) (hs:aggSize P t=some cs.size):
    (results fn tmps).run P w=.ok (.agg cs) w:=by
  have:=run_load_lc hL hs
  simp only [Array.getD_eq_getD_getElem?] at hp ⊢
  simp [results,h,asAddr,hp,this]
theorem ret_cell_tmp {fn:Func} {tmps:Array Value} {p u:Tmp} {t:TypeId} (b:Nat) (cs:Array Value) (tt:TypeId) (h:fn.results=#[.cell p t,.tmp u]) (hp:tmps.getD p undef=.pointer (some ⟨b,0,none⟩)) (hL:Lc w b cs tt) (hs:aggSize P t=some cs.size):
    (results fn tmps).run P w=.ok (.tuple #[.agg cs,tmps.getD u undef]) w:=by
  have:=run_load_lc hL hs
  simp only [Array.getD_eq_getD_getElem?] at hp ⊢
  simp [results,h,asAddr,hp,this]
theorem ret_cell2_tmp {fn:Func} {tmps:Array Value} {p q u:Tmp} {t t2:TypeId} (b c:Nat) (cs ds:Array Value) (tt tt2:TypeId) (h:fn.results=#[.cell p t,.cell q t2,.tmp u]) (hp:tmps.getD p undef=.pointer (some ⟨b,0,none⟩)) (hq:tmps.getD q undef=.pointer (some ⟨c,0,none⟩))
    (hL:Lc w b cs tt) (hs:aggSize P t=some cs.size) (hL2:Lc w c ds tt2) (hs2:aggSize P t2=some ds.size):
    (results fn tmps).run P w=.ok (.tuple #[.agg cs,.agg ds,tmps.getD u undef]) w:=by
  have h1:=run_load_lc hL hs
  have h2:=run_load_lc hL2 hs2
  simp only [Array.getD_eq_getD_getElem?] at hp hq ⊢
  simp [results,h,asAddr,hp,hq,h1,h2]
end
section
variable {P:Program} {a:Act} {o:Oper} {w:World} {Q:Exit→Act→World→Prop} {K:Act→World→Prop} {ops:Array Oper}

theorem wp_loop_inv {c:Code} (I:Nat→Act→World→Prop) (n₀:Nat) (h₀:I n₀ a w)
    (round:∀ n a w,I n a w→∀ K:Act→World→Prop,(∀ n' a' w',n'<n→I n' a' w'→K a' w')→c.wp P (Exit.then K Q) a w):(Code.loop c).wp P Q a w:=
  wp_loop_ghost I n₀ h₀ fun n a w h=>round n a w h _ fun n' _ _ hn hI=>⟨n',hn,hI⟩

/-- a slice literal -/
theorem eff_bs (e n:Nat) (cs:Array Value) (d:Option Tmp) (hd:o.dst=d)
    (hrun:∀ w,(execOp a.eval o).run P w=.ok (.value (.slice (some ⟨w.heap.size,0,none⟩) n n)) (w.alloc (.cells cs e)))
    (h:∀ b w',Gr w w'→Lc w' b cs e→w.heap.size≤b→K (a.put d (.slice (some ⟨b,0,none⟩) n n)) w'):o.wp P a w K Q:=by
  subst hd
  unfold Oper.wp
  rw [hrun]
  exact h _ _ (Gr.alloc w _) (heap_alloc_new w _) (Nat.le_refl _)

/-- w' is w but for blocks of element type T (and new ones) -/
structure Wt (T:TypeId) (w w':World):Prop where
  os:w'.os=w.os
  tape:w'.tape=w.tape
  output:w'.output=w.output
  size:w.heap.size≤w'.heap.size
  block:∀ (b:Nat) (cs:Array Value) (t:TypeId) (fr:Nat × Nat),t≠T→w.heap[b]?=some (.cells cs t fr)→w'.heap[b]?=some (.cells cs t fr)
theorem Wt.kp {T:TypeId} {w w':World} (h:Wt T w w') (hT:136≠T):Kp w w':=fun b cs fr hb=>h.block b cs _ fr hT hb
theorem Wt.lc {T:TypeId} {w w':World} {b:Nat} {cs:Array Value} {t:TypeId} (h:Wt T w w') (hL:Lc w b cs t) (hT:t≠T):Lc w' b cs t:=h.block b cs t _ hT hL

/-- a row of one-cell values that the call owns,in a slice of its own making -/
def OwnS (w:World) (T B:Nat) (v:Value) (ys:List Value):Prop:=w.ownsRow B T 1 v ys.length ys
theorem OwnS.nil (w:World) (T B:Nat):OwnS w T B (.slice none 0 0) []:=World.ownsRow_nil ..
theorem OwnS.gr {w w':World} {T B:Nat} {v:Value} {ys:List Value} (h:OwnS w T B v ys) (g:Gr w w'):OwnS w' T B v ys:=by
  unfold OwnS at*
  refine ⟨h.1,?_⟩
  rcases h.2 with hn | ⟨k,cap,cur,rfl,hb,hg,hr⟩
  · exact .inl hn
  · exact .inr ⟨k,cap,cur,rfl,hb,g.heap hg,hr⟩
/-- append of one value -/
theorem eff_append1 (s x:Operand) (t:TypeId) (T B:Nat) (z:Value) (v:Value) (ys:List Value) (b:Nat) (u:Value) (c:Nat) (d:Option Tmp) (bytes:Nat) (hd:o.dst=d)
    (ho:o.op=.call {callee:=.builtin .append,args:=#[s,x],argTypes:=#[t,t]}) (hs:a.eval s=v) (hx:a.eval x=.slice (some ⟨b,0,none⟩) 1 c)
    (hown:OwnS w T B v ys) (hL:Lc w b #[u] T) (hu:u.oneCell'=true) (w0:World) (hB:Gr w0 w) (hB0:w0.heap.size≤B) (hBw:B≤w.heap.size) (hn:ys.length≤1000000) (hbytes:bytes≤1000)
    (ht:P.underlying t=some (.slice T)) (hi:(P.info? T).map (fun i=>(i.zero,i.size,i.bytes))=some (some z,1,bytes)) (hzs:z.cells.size=1)
    (h:∀ v' w',OwnS w' T B v' (ys++[u])→Wt T w w'→Gr w0 w'→K (a.put d v') w'):o.wp P a w K Q:=by
  subst hd
  obtain ⟨i,hi,hz,hsize,hby⟩:=info_parts hi
  have hb1:(ys.length+1)*bytes≤1000001*1000:=Nat.mul_le_mul (by omega) hbytes
  refine wp_append_own w s x t ho B T i z 1 bytes ht hi hz hsize hby hzs (by omega) v ys.length ys hs hown ⟨b,0,none⟩ 1 c [u] hx rfl (fun j y hj=>?_) (fun y hy=>?_) (by unfold maxLen;omega) (by omega) hBw ?_
  · have hj0:j=0:=by
      have:=(List.getElem?_eq_some_iff.1 hj).1
      simp at this;omega
    subst hj0
    simp only [List.getElem?_cons_zero,Option.some.injEq] at hj
    subst hj
    exact cells_of hL 0
  · simp only [List.mem_singleton] at hy
    subst hy;exact hu
  · intro v' w' h2 hg _
    have hown':=hown
    have hnew:∀ k,v.ownBlock=some k→B≤k∧∃ cur,w.heap[k]?=some (.cells cur T (0,0)):=by
      intro k hk
      rcases hown'.2 with ⟨rfl,_⟩ | ⟨g,cap,cur,rfl,hb,hgg,_⟩
      · simp [Value.ownBlock] at hk
      · simp [Value.ownBlock] at hk
        subst hk;exact ⟨hb,cur,hgg⟩
    refine h v' w' ?_ ⟨hg.os,hg.tape,hg.output,hg.size,fun k cs t fr ht hk=>?_⟩ ?_
    · unfold OwnS;simpa using h2
    · rw [hg.block k (heap_lt hk) (fun e=>?_)]
      · exact hk
      · obtain ⟨_,cur,hc⟩:=hnew k e.symm
        rw [hk] at hc
        simp only [Option.some.injEq,Obj.cells.injEq] at hc
        exact ht hc.2.1
    · refine Below.trans hB ⟨hg.os,hg.tape,hg.output,hg.size,fun k hk=>hg.block k (Nat.lt_of_lt_of_le hk hB.size) (fun e=>?_)⟩
      have:=(hnew k e.symm).1
      omega
/-- a contract that turns a block of type T of the call's own -/
theorem OwnS.block {w:World} {T B:Nat} {v:Value} {ys:List Value} (h:OwnS w T B v ys) (hp:0<ys.length):
    ∃ g cap cur,v=.slice (some ⟨g,0,none⟩) ys.length cap∧B≤g∧w.heap[g]?=some (.cells cur T (0,0))∧ys.length≤cap∧cap≤maxLen∧cur.size=cap∧cur.toList.take ys.length=ys:=by
  rcases h.2 with ⟨rfl,hn⟩ | ⟨g,cap,cur,rfl,hb,hg,h1,h2,h3,h4⟩
  · omega
  · exact ⟨g,cap,cur,rfl,hb,hg,h1,h2,by omega,by simpa using h4⟩
theorem OwnS.snoc {w:World} {T B:Nat} {v:Value} {L:List (List UInt8)} {X:List UInt8} {f:List UInt8→Value} (h:OwnS w T B v (L.map f++[f X])):OwnS w T B v ((L++[X]).map f):=by
  simpa using h
end
theorem bytes_append (x y:List UInt8):(⟨x.toArray⟩:ByteArray)++⟨y.toArray⟩=⟨(x++y).toArray⟩:=by
  apply ByteArray.ext
  rw [ByteArray.data_append]
  simp
theorem rv_cat {P:Program} {a:Act} {o:Oper} {w:World} (t t2:TypeId) (x y:Operand) (A B:List UInt8) (hop:o.op=.binOp .add t x y t2) (hx:a.eval x=.string ⟨A.toArray⟩) (hy:a.eval y=.string ⟨B.toArray⟩)
    (h:A.length+B.length≤9223372036854775807):RunV P a o w (.string ⟨(A++B).toArray⟩):=by
  have hrun:=run_string_add_sum (P:=P) w ⟨A.toArray⟩ ⟨B.toArray⟩ (by show A.toArray.size+B.toArray.size≤_;simpa using h)
  rw [bytes_append] at hrun
  unfold RunV execOp
  simp only [hop,hx,hy]
  simp [go_sem,binOp,eqGuard,hrun]
section
variable {P:Program} {a:Act} {o:Oper} {w:World} {Q:Exit→Act→World→Prop} {K:Act→World→Prop} {ops:Array Oper} {l:List Value} {ds:List Deferred} {w0:World}

theorem rg {id:Nat} (r:List Nat) (h:wpOps P ops Q r a w) (hr:List.range ops.size=r:=by rfl):(Code.region id ops false).wp P Q a w:=
  wp_region (by rw [hr];exact h)
theorem sv {i:Nat} {rest:List Nat} (d:Nat) (v:Value) {l':List Value} (h:wpOps P ops Q rest ⟨l'.toArray,ds⟩ w) (hl:l.set d v=l':=by simp only [p3,p4]<;>rfl) (ho:ops[i]?=some o:=by rfl) (hd:o.dst=some d:=by rfl) (hw:Region.wanted o (yielded ops (⟨l.toArray,ds⟩:Act).tmps)=true:=by kernel_rfl)
    (hv:(execOp (⟨l.toArray,ds⟩:Act).eval o).run P w=.ok (.value v) w:=by kernel_rfl):wpOps P ops Q (i::rest) ⟨l.toArray,ds⟩ w:=
  sq_val _ v ho hd hw hv (by rw [p1];show wpOps P ops Q rest ⟨l.toArray.setIfInBounds d v,ds⟩ w;rw [p2];rw [hl];exact h)
theorem sw {i:Nat} {rest:List Nat} (d:Nat) (v:Value) {l':List Value} (ho:ops[i]?=some o) (hv:RunV P ⟨l.toArray,ds⟩ o w v) (h:wpOps P ops Q rest ⟨l'.toArray,ds⟩ w) (hl:l.set d v=l':=by simp only [p3,p4]<;>rfl) (hd:o.dst=some d:=by rfl) (hw:Region.wanted o (yielded ops (⟨l.toArray,ds⟩:Act).tmps)=true:=by kernel_rfl):
    wpOps P ops Q (i::rest) ⟨l.toArray,ds⟩ w:=sv d v h hl ho hd hw hv
theorem ss {i:Nat} {rest:List Nat} (d:Nat) {l':List Value} (h:wpOps P ops Q rest ⟨l'.toArray,ds⟩ w) (hl:l.set d undef=l':=by simp only [p3,p4]<;>rfl) (ho:ops[i]?=some o:=by rfl) (hd:o.dst=some d:=by rfl) (hw:Region.wanted o (yielded ops (⟨l.toArray,ds⟩:Act).tmps)=false:=by kernel_rfl):
    wpOps P ops Q (i::rest) ⟨l.toArray,ds⟩ w:=
  sq_skip _ ho hd hw (by rw [p1];show wpOps P ops Q rest ⟨l.toArray.setIfInBounds d undef,ds⟩ w;rw [p2];rw [hl];exact h)
theorem se {i:Nat} {rest:List Nat} (h:o.wp P a w (fun a w=>wpOps P ops Q rest a w) Q) (ho:ops[i]?=some o:=by rfl) (hw:Region.wanted o (yielded ops a.tmps)=true:=by kernel_rfl):wpOps P ops Q (i::rest) a w:=by
  rw [wpOps_cons]
  unfold wpOp
  simp only [ho,hw,if_true]
  exact .inl h

/-! ### regions that draw their order -/
variable {S:World→Prop} {S0:World→Prop} {HS:List (List Nat × (World→Prop))} {listed:Array Bool} {fin:Act→World→Prop} {i:Nat} {rest:List (Bool × Nat)}
theorem putl (d:Nat) (v:Value):(⟨l.toArray,ds⟩:Act).put (some d) v=⟨(l.set d v).toArray,ds⟩:=by
  rw [p1];show (⟨l.toArray.setIfInBounds d v,ds⟩:Act)=_;rw [p2]
theorem ov (d:Nat) (v:Value) {l':List Value} (h:wpOrd P ops Q S rest ⟨l'.toArray,ds⟩ w) (hl:l.set d v=l':=by simp only [p3,p4]<;>rfl) (ho:ops[i]?=some o:=by rfl) (hd:o.dst=some d:=by rfl) (hg:Region.wanted o (yielded ops (⟨l.toArray,ds⟩:Act).tmps)=true:=by kernel_rfl)
    (hv:∀ w,S w→(execOp (⟨l.toArray,ds⟩:Act).eval o).run P w=.ok (.value v) w:=by intro _ _;kernel_rfl):wpOrd P ops Q S ((true,i)::rest) ⟨l.toArray,ds⟩ w:=
  ord_pureg _ v ho hd hg hv (by rw [putl];rw [hl];exact h)
theorem ow (d:Nat) (v:Value) {l':List Value} (ho:ops[i]?=some o) (hv:∀ w,S w→RunV P ⟨l.toArray,ds⟩ o w v) (h:wpOrd P ops Q S rest ⟨l'.toArray,ds⟩ w) (hl:l.set d v=l':=by simp only [p3,p4]<;>rfl) (hd:o.dst=some d:=by rfl) (hg:Region.wanted o (yielded ops (⟨l.toArray,ds⟩:Act).tmps)=true:=by kernel_rfl):
    wpOrd P ops Q S ((true,i)::rest) ⟨l.toArray,ds⟩ w:=ov d v h hl ho hd hg hv
theorem os (d:Nat) {l':List Value} (h:wpOrd P ops Q S rest ⟨l'.toArray,ds⟩ w) (hl:l.set d undef=l':=by simp only [p3,p4]<;>rfl) (ho:ops[i]?=some o:=by rfl) (hd:o.dst=some d:=by rfl) (hg:Region.wanted o (yielded ops (⟨l.toArray,ds⟩:Act).tmps)=false:=by kernel_rfl):
    wpOrd P ops Q S ((true,i)::rest) ⟨l.toArray,ds⟩ w:=ord_skip _ ho hd hg (by rw [putl];rw [hl];exact h)
theorem oz (d:Nat) {l':List Value} (hS:S w) (h:wpOrd P ops Q S rest ⟨l'.toArray,ds⟩ w) (hl:l.set d undef=l':=by simp only [p3,p4]<;>rfl) (ho:ops[i]?=some o:=by rfl) (hd:o.dst=some d:=by rfl) (hg:Region.wanted o (yielded ops (⟨l.toArray,ds⟩:Act).tmps)=false:=by kernel_rfl):
    wpOrd P ops Q S ((false,i)::rest) ⟨l.toArray,ds⟩ w:=ord_effskip _ ho hd hg hS (by rw [putl];rw [hl];exact h)
theorem oe (h:o.wp P a w (fun a w=>S w∧wpOrd P ops Q S rest a w) Q) (ho:ops[i]?=some o:=by rfl) (hg:Region.wanted o (yielded ops a.tmps)=true:=by kernel_rfl):wpOrd P ops Q S ((false,i)::rest) a w:=by
  unfold wpOrd wpOp
  simp only [ho]
  rw [if_pos hg]
  exact .inl h
theorem tv (d:Nat) (v:Value) {l':List Value} (h:wpOrt P ops Q S0 HS rest (listed.setIfInBounds i true) ⟨l'.toArray,ds⟩ w) (hl:l.set d v=l':=by simp only [p3,p4]<;>rfl) (ho:ops[i]?=some o:=by rfl) (hd:o.dst=some d:=by rfl) (hg:Region.wanted o (yielded ops (⟨l.toArray,ds⟩:Act).tmps)=true:=by kernel_rfl)
    (hv:∀ w,S0 w∧heldAll (allWait ops i) HS w→(execOp (⟨l.toArray,ds⟩:Act).eval o).run P w=.ok (.value v) w:=by intro _ _;kernel_rfl):wpOrt P ops Q S0 HS ((true,i)::rest) listed ⟨l.toArray,ds⟩ w:=
  ort_pure _ v ho hd hg hv (by rw [putl];rw [hl];exact h)
theorem tw (d:Nat) (v:Value) {l':List Value} (ho:ops[i]?=some o) (hv:∀ w,S0 w∧heldAll (allWait ops i) HS w→RunV P ⟨l.toArray,ds⟩ o w v) (h:wpOrt P ops Q S0 HS rest (listed.setIfInBounds i true) ⟨l'.toArray,ds⟩ w) (hl:l.set d v=l':=by simp only [p3,p4]<;>rfl) (hd:o.dst=some d:=by rfl)
    (hg:Region.wanted o (yielded ops (⟨l.toArray,ds⟩:Act).tmps)=true:=by kernel_rfl):wpOrt P ops Q S0 HS ((true,i)::rest) listed ⟨l.toArray,ds⟩ w:=tv d v h hl ho hd hg hv
theorem ts (d:Nat) {l':List Value} (h:wpOrt P ops Q S0 HS rest (listed.setIfInBounds i true) ⟨l'.toArray,ds⟩ w) (hl:l.set d undef=l':=by simp only [p3,p4]<;>rfl) (ho:ops[i]?=some o:=by rfl) (hd:o.dst=some d:=by rfl) (hg:Region.wanted o (yielded ops (⟨l.toArray,ds⟩:Act).tmps)=false:=by kernel_rfl):
    wpOrt P ops Q S0 HS ((true,i)::rest) listed ⟨l.toArray,ds⟩ w:=ort_skip _ ho hd hg (by rw [putl];rw [hl];exact h)
theorem te (h:o.wp P a w (fun a w=>S0 w∧heldAll (fresh (listed.setIfInBounds i true)) HS w∧wpOrt P ops Q S0 HS rest (listed.setIfInBounds i true) a w) Q) (ho:ops[i]?=some o:=by rfl) (hg:Region.wanted o (yielded ops a.tmps)=true:=by kernel_rfl):
    wpOrt P ops Q S0 HS ((false,i)::rest) listed a w:=
  ort_eff ho hg (fun _ hK=>Oper.wp_mono (fun a w h=>hK a w h.1 h.2.1 h.2.2) h)
theorem fv (d:Nat) (v:Value) {l':List Value} (h:wpFlo P ops Q S fin rest ⟨l'.toArray,ds⟩ w) (hl:l.set d v=l':=by simp only [p3,p4]<;>rfl) (ho:ops[i]?=some o:=by rfl) (hd:o.dst=some d:=by rfl) (hg:o.guard=none:=by rfl)
    (hv:∀ w,S w→(execOp (⟨l.toArray,ds⟩:Act).eval o).run P w=.ok (.value v) w:=by intro _ _;kernel_rfl):wpFlo P ops Q S fin ((true,i)::rest) ⟨l.toArray,ds⟩ w:=
  flo_pure _ v ho hd hg hv (by rw [putl];rw [hl];exact h)
theorem fw (d:Nat) (v:Value) {l':List Value} (ho:ops[i]?=some o) (hv:∀ w,S w→RunV P ⟨l.toArray,ds⟩ o w v) (h:wpFlo P ops Q S fin rest ⟨l'.toArray,ds⟩ w) (hl:l.set d v=l':=by simp only [p3,p4]<;>rfl) (hd:o.dst=some d:=by rfl) (hg:o.guard=none:=by rfl):
    wpFlo P ops Q S fin ((true,i)::rest) ⟨l.toArray,ds⟩ w:=fv d v h hl ho hd hg hv

/-! ### effects -/
theorem ec {f:FuncId} {args:Array Value} {R:Ending→World→Prop} (d:Nat) (hc:Calls P f args w R) (h:∀ e w',R e w'→∃ v,e=.returned v∧K ⟨(l.set d v).toArray,ds⟩ w')
    (hd:o.dst=some d:=by rfl) (hrun:(execOp (⟨l.toArray,ds⟩:Act).eval o).run P w=.ok (.enter f args) w:=by kernel_rfl):o.wp P ⟨l.toArray,ds⟩ w K Q:=
  eff_call _ hd hrun hc (fun e w' he=>by obtain ⟨v,hv,hk⟩:=h e w' he;exact ⟨v,hv,by rw [putl];exact hk⟩)
theorem eb {x:Operand} (t:TypeId) (cs:Array Value) (d:Nat) (hB:Gr w0 w) (h:∀ b w',Gr w w'→Lc w' b cs t→w.heap.size≤b→w0.heap.size≤b→Gr w0 w'→K ⟨(l.set d (.pointer (some ⟨b,0,none⟩))).toArray,ds⟩ w')
    (hd:o.dst=some d:=by rfl) (hop:o.op=.box t x:=by rfl) (hx:(⟨l.toArray,ds⟩:Act).eval x=.agg cs:=by rfl):o.wp P ⟨l.toArray,ds⟩ w K Q:=
  eff_box t x _ cs _ hd hop hx rfl (fun b w' g L q=>by rw [putl];exact h b w' g L q (Nat.le_trans (Below.size hB) q) (hB.trans g))
theorem ea (t:TypeId) (cs:Array Value) (d:Nat) (hB:Gr w0 w) (h:∀ b w',Gr w w'→Lc w' b cs t→w.heap.size≤b→w0.heap.size≤b→Gr w0 w'→K ⟨(l.set d (.pointer (some ⟨b,0,none⟩))).toArray,ds⟩ w')
    (hd:o.dst=some d:=by rfl) (hop:o.op=.alloc t:=by rfl) (hz:(P.info? t).map (·.zero)=some (some (.agg cs)):=by kernel_rfl):o.wp P ⟨l.toArray,ds⟩ w K Q:=
  eff_alloc t _ cs _ hd hop hz rfl (fun b w' g L q=>by rw [putl];exact h b w' g L q (Nat.le_trans (Below.size hB) q) (hB.trans g))
theorem es {x y:Operand} {tt b:Nat} {cs:Array Value} (t:TypeId) (off:Nat) (v:Value) (vs:List Value) (cs':Array Value) (hL:Lc w b cs tt) (hB:Gr w0 w) (q:w0.heap.size≤b) (h1:One1 vs)
    (h:∀ w',St w w' b→Kp w w'→Lc w' b cs' tt→Gr w0 w'→K ⟨l.toArray,ds⟩ w')
    (hop:o.op=.store t x y:=by rfl) (hd:o.dst=none:=by rfl) (hx:(⟨l.toArray,ds⟩:Act).eval x=.pointer (some ⟨b,off,none⟩):=by rfl) (hy:(⟨l.toArray,ds⟩:Act).eval y=v:=by rfl) (hv:v.cells=vs.toArray:=by rfl)
    (hs:(P.info? t).map (·.size)=some vs.length:=by kernel_rfl) (hoff:off+vs.length≤cs.size:=by exact Nat.le_of_ble_eq_true rfl) (hcs:writeAt cs off vs=cs':=by kernel_rfl) (ht:tt≠136:=by decide):o.wp P ⟨l.toArray,ds⟩ w K Q:=
  eff_store t x y b off v vs cs cs' tt hop hd hx hy hv hL hs hoff h1 hcs (fun w' st N=>h w' st (st.kp hL ht) N (st.gr hB q))
theorem rl {x:Operand} {cs:Array Value} {tt:TypeId} {b:Nat} (t:TypeId) (off:Nat) (vs:List Value) (hL:Lc w b cs tt) (hop:o.op=.load t x:=by rfl) (hx:a.eval x=.pointer (some ⟨b,off,none⟩):=by rfl)
    (hv:(cs.toList.drop off).take vs.length=vs:=by rfl) (hs:aggSize P t=some vs.length:=by kernel_rfl):RunV P a o w (.agg vs.toArray):=rv_load t x b off cs tt vs hop hx hL hv hs
theorem rk {x:Operand} {cs:Array Value} {tt:TypeId} {b:Nat} {v:Value} (t:TypeId) (off:Nat) (hL:Lc w b cs tt) (hop:o.op=.load t x:=by rfl) (hx:a.eval x=.pointer (some ⟨b,off,none⟩):=by rfl)
    (hv:cs[off]?=some v:=by rfl) (hs:oneSize P t=true:=by kernel_rfl):RunV P a o w v:=rv_load1 t x b off cs tt v hop hx hL hv hs
end
end Go.Proofs.YthhbibpaeonecaaGreatDoor
namespace Go.Proofs.YthhbibpaeonecaaGreatDoor
open Go

/-- r in k digits -/
def padk:Nat→Nat→List UInt8
  | 0,_=>[]
  | k+1,r=>padk k (r/10)++[UInt8.ofNat (48+r % 10)]
theorem dec_step {u:Nat} (h:10≤u):Lib.decDigits u=Lib.decDigits (u/10)++[UInt8.ofNat (48+u % 10)]:=by
  rw [Lib.decDigits,dif_neg (by omega)]
theorem dec_small {u:Nat} (h:u<10):Lib.decDigits u=[UInt8.ofNat (48+u)]:=by rw [Lib.decDigits,dif_pos h]
theorem dec_split:∀ (k q r:Nat),0<q→r<10 ^ k→Lib.decDigits (q*10 ^ k+r)=Lib.decDigits q++padk k r
  | 0,q,r,_,hr=>by simp at hr;subst hr;simp [padk]
  | k+1,q,r,hq,hr=>by
    have e:q*10 ^ (k+1)+r=(q*10 ^ k+r/10)*10+r % 10:=by
      rw [Nat.pow_succ,Nat.add_mul,← Nat.mul_assoc];omega
    have hp:0<10 ^ k:=Nat.pow_pos (by omega)
    have hq1:1≤q*10 ^ k:=Nat.mul_pos hq hp
    rw [e,dec_step (by omega)]
    have e1:((q*10 ^ k+r/10)*10+r % 10)/10=q*10 ^ k+r/10:=by omega
    have e2:((q*10 ^ k+r/10)*10+r % 10) % 10=r % 10:=by omega
    rw [e1,e2,dec_split k q (r/10) hq (by rw [Nat.pow_succ] at hr;omega),List.append_assoc]
    rfl
theorem padk_zeros:∀ k,padk k 0=Lib.repeatL [48] k
  | 0=>rfl
  | k+1=>by
    have h:∀ k,Lib.repeatL [48] k++[48]=[48]++Lib.repeatL [48] k:=fun k=>by
      induction k with
      | zero=>rfl
      | succ k ih=>simp only [Lib.repeatL,List.append_assoc,ih]
    rw [padk,Nat.zero_div,padk_zeros k]
    exact h k
theorem dec_len_le:∀ (k u:Nat),u<10 ^ (k+1)→(Lib.decDigits u).length≤k+1
  | 0,u,h=>by rw [dec_small (by simpa using h)];simp
  | k+1,u,h=>by
    by_cases h1:u<10
    · rw [dec_small h1];simp
    · rw [dec_step (by omega)]
      have:=dec_len_le k (u/10) (by rw [Nat.pow_succ] at h;omega)
      simp;omega
theorem dec_pos (u:Nat):0<(Lib.decDigits u).length:=by
  by_cases h1:u<10
  · rw [dec_small h1];simp
  · rw [dec_step (by omega)];simp
theorem padk_dec:∀ (k u:Nat),u<10 ^ (k+1)→padk (k+1) u=Lib.repeatL [48] (k+1 - (Lib.decDigits u).length)++Lib.decDigits u
  | 0,u,h=>by
    rw [dec_small (by simpa using h)]
    have:u % 10=u:=by simp at h;omega
    simp [padk,this,Lib.repeatL]
  | k+1,u,h=>by
    rw [padk]
    by_cases h1:u<10
    · have e1:u/10=0:=by omega
      have e2:u % 10=u:=by omega
      rw [e1,e2,padk_zeros,dec_small h1];rfl
    · rw [padk_dec k (u/10) (by rw [Nat.pow_succ] at h;omega),List.append_assoc,← dec_step (by omega)]
      congr 2
      rw [dec_step (u:=u) (by omega)]
      simp
/-- a group of nine digits,or the highest digits -/
def grp (u:Nat):List UInt8:=if 0<u/1000000000 then Lib.repeatL [48] (9 - (Lib.decDigits (u % 1000000000)).length)++Lib.decDigits (u % 1000000000) else Lib.decDigits (u % 1000000000)
/-- the groups of a number,the lowest one first -/
def grps (u:Nat):List (List UInt8):=if h:u=0 then [] else grp u::grps (u/1000000000)
termination_by u
decreasing_by omega
theorem grps_zero:grps 0=[]:=by rw [grps];simp
theorem grps_pos {u:Nat} (h:0<u):grps u=grp u::grps (u/1000000000):=by rw [grps,dif_neg (by omega)]
theorem grps_text:∀ (n u:Nat),u≤n→0<u→(grps u).reverse.flatten=Lib.decDigits u:=by
  intro n
  induction n with
  | zero=>intro u h h0;omega
  | succ n ih=>
    intro u h h0
    rw [grps_pos h0,List.reverse_cons,List.flatten_append]
    simp only [List.flatten_cons,List.flatten_nil,List.append_nil]
    unfold grp
    by_cases hq:0<u/1000000000
    · rw [if_pos hq,ih _ (by omega) hq]
      have hr:u % 1000000000<10 ^ (8+1):=by omega
      rw [← padk_dec 8 _ hr]
      have:=dec_split 9 (u/1000000000) (u % 1000000000) hq (by omega)
      rw [← this]
      congr 1
      omega
    · have e:u/1000000000=0:=by omega
      rw [if_neg hq,e,grps_zero]
      simp only [List.reverse_nil,List.flatten_nil,List.nil_append]
      congr 1
      omega
theorem join_nil_sep (l:List (List UInt8)):Lib.join l []=l.flatten:=by
  unfold Lib.join List.intercalate
  induction l with
  | nil=>rfl
  | cons a l ih=>
    cases l with
    | nil=>simp
    | cons b l=>simp only [List.intersperse_cons_cons,List.flatten_cons,List.nil_append] at ih ⊢;rw [ih]
theorem grps_len:∀ (k u:Nat),u<2 ^ k→(grps u).length≤k
  | 0,u,h=>by
    have:u=0:=by simpa using h
    subst this;rw [grps_zero];simp
  | k+1,u,h=>by
    by_cases h0:u=0
    · subst h0;rw [grps_zero];simp
    · rw [grps_pos (by omega),List.length_cons]
      have:=grps_len k (u/1000000000) (by rw [Nat.pow_succ] at h;omega)
      omega
theorem grps_len0 {u:Nat} (h:0<u):0<(grps u).length:=by rw [grps_pos h];simp
theorem dec_len_bits (k u:Nat) (h:u<2 ^ k):(Lib.decDigits u).length≤k+1:=by
  refine dec_len_le k u ?_
  have h1:2 ^ k≤10 ^ k:=Nat.pow_le_pow_left (by omega) k
  have h2:10 ^ k≤10 ^ (k+1):=Nat.pow_le_pow_right (by omega) (by omega)
  omega
theorem dec9 (u:Nat):(Lib.decDigits (u % 1000000000)).length≤9:=dec_len_le 8 _ (by omega)
theorem grps_step {L:List (List UInt8)} {u N:Nat} {X:List UInt8} (h:L++grps u=grps N) (h0:0<u) (hX:X=grp u):(L++[X])++grps (u/1000000000)=grps N:=by
  rw [← h,grps_pos h0,hX,List.append_assoc];rfl
theorem grp_hi {u:Nat} (h:0<u/1000000000):Lib.repeatL [48] (9 - (Lib.decDigits (u % 1000000000)).length)++Lib.decDigits (u % 1000000000)=grp u:=by unfold grp;rw [if_pos h]
theorem grp_lo {u:Nat} (h:¬ 0<u/1000000000):Lib.decDigits (u % 1000000000)=grp u:=by unfold grp;rw [if_neg h]
/-- the text of a rational -/
def ratL (q:Rat):List UInt8:=if q.den=1 then Lib.itoa q.num else Lib.itoa q.num++[47]++Lib.itoa (q.den:Int)
theorem ratL_w {q:Rat} (h:q.den=1):ratL q=Lib.itoa q.num:=if_pos h
theorem ratL_f {q:Rat} (h:¬ q.den=1):ratL q=Lib.itoa q.num++[47]++Lib.itoa (q.den:Int):=if_neg h
end Go.Proofs.YthhbibpaeonecaaGreatDoor
namespace Go.Proofs.YthhbibpaeonecaaGreatDoor
open Go.RowKit

/-- the library's table of powers of ten -/
def Tab (w:World):Prop:=Lib.TabIs Tryz.prog w "internal/strconv.uint64pow10" .u64 Lib.pow10Tab
theorem Tab.gr {w w':World} (h:Tab w) (g:Gr w w'):Tab w':=by
  unfold Tab Lib.TabIs World.var? at*
  cases hn:Tryz.prog.globalNamed "internal/strconv.uint64pow10" with
  | none=>rw [hn] at h;cases h
  | some k=>
    rw [hn] at h
    simp only [Option.bind_some] at h ⊢
    cases hk:w.heap[k]? with
    | none=>rw [hk] at h;cases h
    | some o=>rw [g.heap hk];rw [hk] at h;exact h
theorem itoa_t (n:Int) (h0:0≤n) (h1:n<1000000000) {w:World} (ht:Tab w):
    Calls Tryz.prog 83 #[.int .i64 n] w fun e w'=>e=.returned (.string ⟨(Lib.decDigits n.toNat).toArray⟩)∧Gr w w':=by
  refine (Tryz.strconv_Itoa n (by omega) (by omega) w ht).mono ?_
  rintro e w' ⟨he,k,os,rfl⟩
  refine ⟨?_,?_⟩
  · rw [he];unfold Lib.itoa;rw [if_neg (by omega)]
  · refine ⟨rfl,rfl,rfl,by simp [Sort.grow],fun i hi=>?_⟩
    show (w.heap++os)[i]?=w.heap[i]?
    rw [Array.getElem?_append_left hi]
theorem repeat9 (n:Nat) (h:n≤9) (w:World):
    Calls Tryz.prog 84 #[.string ⟨#[48]⟩,.int .i64 (9 - (n:Int))] w fun e w'=>e=.returned (.string ⟨(Lib.repeatL [48] (9 - n)).toArray⟩)∧Gr w w':=by
  have e:(9 - (n:Int))=((9 - n:Nat):Int):=by omega
  rw [e]
  refine (Tryz.strings_Repeat ⟨#[48]⟩ (9 - n) w (by omega) ?_).mono ?_
  · show 1*(9 - n)≤_
    omega
  · rintro e w' ⟨he,hb⟩
    exact ⟨he,hb⟩

/-- a string in a cell -/
def strV (l:List UInt8):Value:=.string ⟨l.toArray⟩
theorem writeAt_take:∀ (vs:List Value) (off:Nat) (cs:Array Value),off+vs.length≤cs.size→(writeAt cs off vs).size=cs.size∧∀ i,(writeAt cs off vs)[i]?=if off≤i∧i<off+vs.length then vs[i - off]? else cs[i]?
  | [],off,cs,_=>⟨rfl,fun i=>by rw [if_neg (by simp only [List.length_nil];omega)];rfl⟩
  | v::vs,off,cs,h=>by
    simp only [List.length_cons] at h
    obtain ⟨h1,h2⟩:=writeAt_take vs (off+1) (cs.setIfInBounds off v) (by rw [Array.size_setIfInBounds];omega)
    refine ⟨by rw [writeAt,h1];simp,fun i=>?_⟩
    rw [writeAt,h2 i]
    by_cases e:off=i
    · subst e
      have h9:off<cs.size:=by omega
      rw [if_neg (by omega),if_pos (by simp)]
      simp [h9]
    · by_cases hi:off+1≤i∧i<off+1+vs.length
      · rw [if_pos hi,if_pos (by simp;omega)]
        have:i - off=(i - (off+1))+1:=by omega
        rw [this,List.getElem?_cons_succ]
      · rw [if_neg hi,if_neg (by simp;omega),Array.getElem?_setIfInBounds_ne e]
theorem own_cells {w:World} {T:Nat} {L:List (List UInt8)} {g:Nat} {cur:Array Value} (hg:w.heap[g]?=some (.cells cur T (0,0))) (ht:cur.toList.take (L.map strV).length=L.map strV) (i:Nat) (hi:i<L.length):
    w.cell? ⟨g,i,none⟩=some (strV (L.getD i [])):=by
  rw [cells_of hg]
  have h1:(cur.toList.take (L.map strV).length)[i]?=(L.map strV)[i]?:=by rw [ht]
  rw [List.getElem?_take_of_lt (by simpa using hi)] at h1
  rw [Array.getElem?_toList] at h1
  rw [h1]
  simp [hi]
theorem reverse_own {w:World} {B:Nat} {v:Value} {L:List (List UInt8)} (h:OwnS w 9 B v (L.map strV)) (hp:0<L.length):
    Calls Tryz.prog 85 #[v] w fun e w'=>e=.returned (.tuple #[])∧OwnS w' 9 B v (L.reverse.map strV)∧Wt 9 w w'∧(∀ w0,Gr w0 w→w0.heap.size≤B→Gr w0 w'):=by
  obtain ⟨g,cap,cur,rfl,hb,hg,h1,h2,h3,h4⟩:=h.block (by simpa using hp)
  rw [List.length_map] at h1 ⊢
  have hlen:L.length≤9223372036854775807:=by unfold maxLen at h2;omega
  refine (Tryz.slices_Reverse_string_cells g 0 L.length cap (fun i=>⟨(L.getD i []).toArray⟩) w hlen (fun i hi=>?_) (fun i hi=>free_of hg _)).mono ?_
  · rw [Nat.zero_add];exact own_cells hg h4 i hi
  rintro e w' ⟨he,q,rfl⟩
  have es:(Lib.strsOf (fun i=>⟨(L.getD i []).toArray⟩) L.length)=L:=by
    unfold Lib.strsOf
    apply List.ext_getElem
    · simp
    · intro i h1 h2;simp at h1;simp [h1]
  rw [es]
  have hst:=St.setCells g (L.reverse.map encStr) 0 (w.drewN q)
  have hh:((w.drewN q).setCells g 0 (L.reverse.map encStr)).heap[g]?=some (.cells (writeAt cur 0 (L.reverse.map encStr)) 9 (0,0)):=heap_setCells _ 0 (w:=w.drewN q) hg
  obtain ⟨hw1,hw2⟩:=writeAt_take (L.reverse.map encStr) 0 cur (by simp;omega)
  have hbl:∀ k,k≠g→((w.drewN q).setCells g 0 (L.reverse.map encStr)).heap[k]?=w.heap[k]?:=fun k hk=>hst.block k hk
  refine ⟨he,⟨by simp,.inr ⟨g,cap,_,by simp,hb,hh,by simpa using h1,h2,by rw [hw1];omega,?_⟩⟩,⟨hst.os,hst.tape,hst.output,Nat.le_of_eq hst.size.symm,fun b cs t fr ht hk=>?_⟩,fun w0 hG hB=>?_⟩
  · apply List.ext_getElem?
    intro i
    by_cases hi:i<L.length
    · rw [List.getElem?_take_of_lt (by simpa using hi),Array.getElem?_toList,hw2 i,if_pos (by simpa using hi)]
      rfl
    · rw [List.getElem?_eq_none (by simp;omega),List.getElem?_eq_none (by simp;omega)]
  · rw [hbl b (fun e=>?_)]
    · exact hk
    · subst e
      rw [hg] at hk
      simp only [Option.some.injEq,Obj.cells.injEq] at hk
      exact ht hk.2.1.symm
  · exact Below.trans hG ⟨hst.os,hst.tape,hst.output,Nat.le_of_eq hst.size.symm,fun k hk=>hbl k (by omega)⟩
theorem join_own {w:World} {B:Nat} {v:Value} {L:List (List UInt8)} (h:OwnS w 9 B v (L.map strV)) (hp:0<L.length) (hl:L.flatten.length≤140737488355328) (hn:L.length≤1000000):
    Calls Tryz.prog 86 #[v,.string ⟨#[]⟩] w fun e w'=>e=.returned (.string ⟨L.flatten.toArray⟩)∧Gr w w':=by
  obtain ⟨g,cap,cur,rfl,hb,hg,h1,h2,h3,h4⟩:=h.block (by simpa using hp)
  have em:((L.map fun l=>(⟨l.toArray⟩:ByteArray)).map fun x=>x.data.toList)=L:=by
    rw [List.map_map]
    conv=>rhs;rw [← List.map_id L]
    exact List.map_congr_left fun l _=>by simp
  have:=Tryz.strings_Join g 0 cap (L.map fun l=>⟨l.toArray⟩) ⟨#[]⟩ w (fun j x hj=>?_) (heap_lt hg) (by simp;omega) (by simpa using h1) (by
    rw [em];show (Lib.join L []).length≤_;rw [join_nil_sep];exact hl)
  · rw [em] at this
    simp only [List.length_map] at this ⊢
    refine this.mono ?_
    rintro e w' ⟨he,hb⟩
    refine ⟨?_,hb⟩
    rw [he]
    show Ending.returned (.string ⟨(Lib.join L []).toArray⟩)=_
    rw [join_nil_sep]
  · rw [Nat.zero_add,own_cells hg h4 j (by have:=(List.getElem?_eq_some_iff.1 hj).1;simpa using this)]
    obtain ⟨hj',e⟩:=List.getElem?_eq_some_iff.1 hj
    subst e
    simp at hj'
    simp [hj',strV]
end Go.Proofs.YthhbibpaeonecaaGreatDoor
namespace Go.Proofs.YthhbibpaeonecaaGreatDoor
open Go.ChangeShapes Go.WideShapes Go.ChangeAt Go.RowKit

theorem trodAll_kept {H:Type} {enc:TypeId × Value→H} {P:Program} (hl:laidOutB P=true) {W W':World} (hb:Below W.heap.size W W'):
    ∀ {ts:List TypeId} {vs:List Value} {ds:List (DataW H)} {ps:List MemPlace},(∀ t ∈ ts,P.readableRec t=true∧t<P.types.size)→DataW.TrodAll enc P W 0 (fun _=>true) true ts vs ds ps→
      (∀ x ∈ ps,x.block<W.heap.size)→DataW.TrodAll enc P W' 0 (fun b=>decide (b<W.heap.size)) true ts vs ds ps
  | [],[],[],_,_,h,_=>h
  | t::ts,v::vs,d::ds,ps,ht,h,hp=>by
    obtain ⟨p,q,h1,h2,rfl⟩:=h
    exact ⟨p,q,Below.trod hl (ht t (by simp)).1 (ht t (by simp)).2 h1 hb (fun x hx=>hp x (by simp [hx])),trodAll_kept hl hb (fun u hu=>ht u (by simp [hu])) h2 (fun x hx=>hp x (by simp [hx])),rfl⟩
  | [],[],_::_,_,_,h,_=>by cases h
  | [],_::_,_,_,_,h,_=>by cases h
  | _::_,[],_,_,_,h,_=>by cases h
  | _::_,_::_,[],_,_,h,_=>by cases h

/-- the row's last step:the law has returned true,and nothing of what was there has turned -/
theorem law_post {H:Type} {enc:TypeId × Value→H} {P:Program} {f:Func} {s:ChangeSpec} {W W':World} {args:Array Value} {ds gs:List (DataW H)} {before:List MemPlace} {tb:TypeId}
    (hl:laidOutB P=true) (hr0:(f.params.toList.all fun t=>P.readableRec t&&decide (t<P.types.size))=true) (hres:f.resultTypes=#[tb]) (htb:P.underlying tb=some .bool) (hv:s.vars=[])
    (hW:DataW.Whole enc P f.params.toList s.vars false W args.toList ds gs before) (hfn:s.fn H (ds++gs)={results:=[.lit (.bool true)],args:=ds}) (hb:Below W.heap.size W W'):
    s.post enc P f false true false false W args (.bool true) W':=by
  have hr:∀ t ∈ f.params.toList,P.readableRec t=true∧t<P.types.size:=fun t ht=>by
    have:=List.all_eq_true.1 hr0 t ht
    simpa using this
  have hlt:∀ p ∈ before,p.block<W.heap.size:=fun p hp=>hW.lt p hp
  have hW':=hW
  obtain ⟨p,q,hA,hV,rfl,_,_⟩:=hW
  rw [hv] at hV
  obtain ⟨rfl,rfl⟩:=trodVars_none hV
  refine ⟨ds,[],_,[],p,[],hW',?_,?_,?_,World.keptBut_mono (fun x hx=>⟨hx,.inr (.inl (by simpa using hx))⟩) (hb.frame (· ∈ p++[])),fun h=>by cases h⟩
  · rw [hfn,hres]
    exact trodAll_mk1 (shut_bool htb true)
  · rw [hfn]
    exact trodAll_kept hl hb hr hA (fun x hx=>hlt x (by simp [hx]))
  · rw [hfn,hv];rfl

theorem cell_int {P:Program} {W:World} {base u:Nat} {k:IntKind} {v:Value} (hu:P.underlying u=some (.int k)) (h:Cell.okWide P W .any base u v):∃ n,v=.int k n∧k.has n:=by
  unfold Cell.okWide at h
  rw [hu] at h
  unfold Cell.ok at h
  rw [hu] at h
  cases v<;>simp at h
  obtain ⟨rfl,h⟩:=h
  exact ⟨_,rfl,h⟩
theorem own:ownKnob Tryz.prog.godebug=none:=by kernel_rfl
theorem laidOut:laidOutB Tryz.prog=true:=by kernel_rfl
end Go.Proofs.YthhbibpaeonecaaGreatDoor
namespace Go.Proofs.YthhbibpaeonecaaGreatDoor
open Go.ChangeShapes Go.WideShapes Go.ChangeAt Go.RowKit

section
variable {H:Type} {enc:TypeId × Value→H}
/-- there is an input that fits,at a world of which the shape is known -/
theorem witness_row_sh {C:Checked} {os:Os} {f:FuncId} {fn:Func} {s:OpenSpec} {conds:List PathCond} {apart:Bool} {laid:List (String × DataW Unit)} (modest:Bool) (w0:World) (args:Array Value) (hos:w0.os=os)
    (hsh:(w0.forCall (fun _ _=>0) ⟨#[],args,[]⟩).Shaped C.prog)
    (hok:Input.okWideB C.prog (w0.forCall (fun _ _=>0) ⟨#[],args,[]⟩) f ⟨#[],args,[]⟩=true)
    (hrow:s.preRow enc C.prog fn conds apart laid (w0.forCall (fun _ _=>0) ⟨#[],args,[]⟩).memory args):
    ∃ (w:World) (tape:Tape) (i:Input),w.os=os∧(w.forCall tape i).Shaped C.prog∧i.vars=[]∧Input.okWide C.prog (w.forCall tape i) .any w.heap.size f i∧
      s.preRow enc C.prog fn conds apart laid (w.forCall tape i).memory i.args∧({modest:=modest}:Assume).holds C.prog (lone (Frame.enter C.prog f i.args .normal) [] (w.forCall tape i)):=
  ⟨w0,fun _ _=>0,⟨#[],args,[]⟩,hos,hsh,(Input.okWide_of_okWideB (base:=0) hok).1,(Input.okWide_of_okWideB hok).2,hrow,by
    simp only [Assume.holds]
    exact ⟨by simp,by simp,fun _=>Modest.zero,by simp,by simp⟩⟩
end
theorem cell_str {P:Program} {W:World} {base u:Nat} {v:Value} (hu:P.underlying u=some .string) (h:Cell.okWide P W .any base u v):∃ X:List UInt8,v=.string ⟨X.toArray⟩∧(X.length:Int)≤9223372036854775807:=by
  unfold Cell.okWide at h
  rw [hu] at h
  unfold Cell.ok at h
  rw [hu] at h
  cases v<;>simp at h
  next s=>exact ⟨s.data.toList,by simp,by simpa using h⟩
def kindD:Option IntKind→TypeDesc
  | some k=>.int k
  | none=>.string
def kindV (k:Option IntKind) (v:Option Value):Prop:=
  match k with
  | some k=>∃ n:Int,v=some (.int k n)∧k.has n
  | none=>∃ X:List UInt8,v=some (.string ⟨X.toArray⟩)∧(X.length:Int)≤9223372036854775807
/-- a parameter of cells that are integers or strings -/
theorem open_mixed {P:Program} {W:World} {base t:Nat} {v:Value} {ts:List TypeId} (ks:List (Option IntKind)) (hagg:(match P.underlying t with | some (.struct _) | some (.array _ _)=>true | _=>false)=true)
    (hct:P.cellTypes P.depth t=some ts) (hC:P.cellsOf t=ts.length) (hk:ts.map (fun u=>P.underlying u)=ks.map fun k=>some (kindD k)) (h:Value.okWide P W .any base t v):
    ∃ cs,v=.agg cs∧cs.size=ks.length∧∀ (i:Nat) (k:Option IntKind),ks[i]?=some k→kindV k cs[i]?:=by
  have hlen:ts.length=ks.length:=by have:=congrArg List.length hk;simpa using this
  have h':∃ cs,v=.agg cs∧cs.size=P.cellsOf t∧Row.okWide P W .any base t cs:=by
    unfold Value.okWide at h
    split at h<;>first | exact h | (rename_i h1 h2;revert hagg;split<;>simp_all)
  obtain ⟨cs,hv,hs,ts',hct',_,hc⟩:=h'
  rw [hct] at hct'
  obtain rfl:=Option.some.inj hct'
  refine ⟨cs,hv,by omega,fun i k hi=>?_⟩
  have hil:i<ks.length:=(List.getElem?_eq_some_iff.1 hi).1
  have hic:i<cs.size:=by omega
  obtain ⟨u,hu,hcell⟩:=hc i cs[i] (Array.getElem?_eq_getElem hic)
  rw [Nat.mod_eq_of_lt (by omega)] at hu
  have:(ts.map (fun u=>P.underlying u))[i]?=some (P.underlying u):=by simp [hu]
  rw [hk] at this
  simp only [List.getElem?_map,hi,Option.map_some,Option.some.injEq] at this
  unfold kindV
  rw [Array.getElem?_eq_getElem hic]
  cases k with
  | some k=>
    obtain ⟨n,hn,hh⟩:=cell_int this.symm hcell
    exact ⟨n,by rw [hn],hh⟩
  | none=>
    obtain ⟨X,hX,hl⟩:=cell_str this.symm hcell
    exact ⟨X,by rw [hX],hl⟩
end Go.Proofs.YthhbibpaeonecaaGreatDoor
namespace Go.Proofs.YthhbibpaeonecaaGreatDoor

/-- What is left of n behind its lowest i digits. -/
def tn (n:Int):Nat→Int
  | 0=>n
  | i+1=>tn n i/10
/-- Digit number i of n. -/
def td (n:Int) (i:Nat):Int:=tn n i % 10
theorem tn_zero (n:Int):tn n 0=n:=rfl
theorem tn_succ (n:Int) (i:Nat):tn n (i+1)=tn n i/10:=rfl
theorem td_nonneg (n:Int) (i:Nat):0≤td n i:=by unfold td;omega
theorem td_lt (n:Int) (i:Nat):td n i<10:=by unfold td;omega
theorem tn_split (n:Int) (i:Nat):tn n i=10*tn n (i+1)+td n i:=by unfold td;rw [tn_succ];omega
theorem tn_nonneg {n:Int} (h:0≤n):∀ i,0≤tn n i
  | 0=>h
  | i+1=>by have:=tn_nonneg h i;rw [tn_succ];omega
theorem tn_mono {a b:Int} (h:a≤b):∀ i,tn a i≤tn b i
  | 0=>h
  | i+1=>by have:=tn_mono h i;rw [tn_succ,tn_succ];omega
theorem tn_add (n:Int) (i:Nat):∀ k,tn n (i+k)=tn (tn n i) k
  | 0=>rfl
  | k+1=>by rw [← Nat.add_assoc,tn_succ,tn_add n i k,tn_succ]
theorem tn_zero_n:∀ i,tn 0 i=0
  | 0=>rfl
  | i+1=>by rw [tn_succ,tn_zero_n i];rfl
theorem tn_ge {n:Int} {i k:Nat} (h:tn n i=0) (hk:i≤k):tn n k=0:=by
  obtain ⟨j,rfl⟩:=Nat.le.dest hk
  rw [tn_add,h,tn_zero_n]
/-- n has len digits,and no zeros at the end. -/
structure NX (n:Int) (len:Nat):Prop where
  nonneg:0≤n
  top:tn n len=0
  full:0<len→tn n (len - 1)≠0
theorem NX.zero:NX 0 0:=⟨Int.le_refl _,rfl,by omega⟩
theorem NX.len_zero {n:Int} {len:Nat} (h:NX n len):len=0↔n=0:=by
  constructor
  · rintro rfl;exact h.top
  · rintro rfl
    have:=h.full
    rw [tn_zero_n] at this
    omega
theorem NX.topdig {n:Int} {len:Nat} (h:NX n len) (hl:0<len):td n (len - 1)=tn n (len - 1)∧0<td n (len - 1):=by
  have h1:=h.top
  have h2:=tn_split n (len - 1)
  rw [show len - 1+1=len by omega,h1] at h2
  have h3:=h.full hl
  have h4:=tn_nonneg h.nonneg (len - 1)
  omega
/-- From digits whose highest one is not 0. -/
theorem NX.mk' {n:Int} {len:Nat} (h0:0≤n) (h1:tn n len=0) (h2:0<len→td n (len - 1)≠0):NX n len:=by
  refine ⟨h0,h1,fun hl h3=>h2 hl ?_⟩
  unfold td;rw [h3];rfl
/-- The number of digits orders. -/
theorem NX.lt_of_len {a b:Int} {la lb:Nat} (ha:NX a la) (hb:NX b lb) (h:la<lb):a<b:=by
  refine Int.lt_of_not_ge fun hge=>?_
  have h1:=tn_mono hge (lb - 1)
  have h2:=tn_ge ha.top (show la≤lb - 1 by omega)
  have h3:=hb.full (by omega)
  have h4:=tn_nonneg hb.nonneg (lb - 1)
  omega
theorem NX.len_unique {a:Int} {la lb:Nat} (ha:NX a la) (hb:NX a lb):la=lb:=by
  rcases Nat.lt_trichotomy la lb with h | h | h
  · have:=ha.lt_of_len hb h;omega
  · exact h
  · have:=hb.lt_of_len ha h;omega
theorem NX.len_le {a b:Int} {la lb:Nat} (ha:NX a la) (hb:NX b lb) (h:a≤b):la≤lb:=by
  rcases Nat.lt_or_ge lb la with h1 | h1
  · have:=hb.lt_of_len ha h1;omega
  · exact h1
end Go.Proofs.YthhbibpaeonecaaGreatDoor
namespace Go.Proofs.YthhbibpaeonecaaGreatDoor
open Go.RowKit

/-- the cells of a slice of ints -/
structure DRow (w:World) (ao:Option Addr) (len:Nat) (d:Nat→Int):Prop where
  raw:0<len→∃ (b off:Nat) (cs:Array Value) (fr:Nat × Nat),ao=some ⟨b,off,none⟩∧w.heap[b]?=some (.cells cs 3 fr)∧∀ i,i<len→cs[off+i]?=some (.int .i64 (d i))
theorem DRow.at_ {w:World} {ao:Option Addr} {len:Nat} {d:Nat→Int} (h:DRow w ao len d) (hp:0<len):
    ∃ b off,ao=some ⟨b,off,none⟩∧∀ i,i<len→w.cell? ⟨b,off+i,none⟩=some (.int .i64 (d i)):=by
  obtain ⟨b,off,cs,fr,e,hb,hc⟩:=h.raw hp
  exact ⟨b,off,e,fun i hi=>by simp only [World.cell?,hb,Option.isSome_none];exact hc i hi⟩
theorem DRow.nil (w:World) (ao:Option Addr) (d:Nat→Int):DRow w ao 0 d:=⟨fun h=>by omega⟩
theorem DRow.shorter {w:World} {ao:Option Addr} {len k:Nat} {d:Nat→Int} (h:DRow w ao len d) (hk:k≤len):DRow w ao k d:=
  ⟨fun hp=>by
    obtain ⟨b,off,cs,fr,e,hb,hc⟩:=h.raw (by omega)
    exact ⟨b,off,cs,fr,e,hb,fun i hi=>hc i (by omega)⟩⟩
theorem DRow.congr {w:World} {ao:Option Addr} {len:Nat} {d d':Nat→Int} (h:DRow w ao len d) (e:∀ i,i<len→d i=d' i):DRow w ao len d':=
  ⟨fun hp=>by
    obtain ⟨b,off,cs,fr,e',hb,hc⟩:=h.raw hp
    exact ⟨b,off,cs,fr,e',hb,fun i hi=>by rw [hc i hi,e i hi]⟩⟩
theorem DRow.gr {w w':World} {ao:Option Addr} {len:Nat} {d:Nat→Int} (h:DRow w ao len d) (hk:Gr w w'):DRow w' ao len d:=
  ⟨fun hp=>by
    obtain ⟨b,off,cs,fr,e,hb,hc⟩:=h.raw hp
    exact ⟨b,off,cs,fr,e,hk.heap hb,hc⟩⟩
theorem DRow.below {w w':World} {ao:Option Addr} {len:Nat} {d:Nat→Int} (h:DRow w ao len d) (hb:Below w.heap.size w w'):DRow w' ao len d:=h.gr hb

/-- a slice of the decimal digits of n,none of them 0 at the end -/
def TenS (w:World) (v:Value) (n:Int):Prop:=∃ ao len cap,v=.slice ao len cap∧len≤cap∧NX n len∧DRow w ao len (td n)
/-- a slice of decimal digits of n,with zeros perhaps -/
def TenZ (w:World) (v:Value) (n:Int):Prop:=∃ ao len cap,v=.slice ao len cap∧len≤cap∧len≤900001∧tn n len=0∧DRow w ao len (td n)
theorem TenS.gr {w w':World} {v:Value} {n:Int} (h:TenS w v n) (g:Gr w w'):TenS w' v n:=by
  obtain ⟨ao,len,cap,h1,h2,h3,h4⟩:=h
  exact ⟨ao,len,cap,h1,h2,h3,h4.gr g⟩
theorem TenZ.gr {w w':World} {v:Value} {n:Int} (h:TenZ w v n) (g:Gr w w'):TenZ w' v n:=by
  obtain ⟨ao,len,cap,h1,h2,h3,h4,h5⟩:=h
  exact ⟨ao,len,cap,h1,h2,h3,h4,h5.gr g⟩
theorem OwnS.cells {w:World} {T B:Nat} {v:Value} {ys:List Value} (h:OwnS w T B v ys) (hp:0<ys.length):
    ∃ g cap cur,v=.slice (some ⟨g,0,none⟩) ys.length cap∧B≤g∧w.heap[g]?=some (.cells cur T (0,0))∧ys.length≤cap∧cap≤maxLen∧∀ i,i<ys.length→cur[i]?=ys[i]?:=by
  obtain ⟨g,cap,cur,e,hb,hg,h1,h2,h3,h4⟩:=h.block hp
  refine ⟨g,cap,cur,e,hb,hg,h1,h2,fun i hi=>?_⟩
  rw [← h4,List.getElem?_take_of_lt hi];simp
/-- the same,in a block of its own at least as new as B -/
def TenF (w:World) (B:Nat) (v:Value) (n:Int):Prop:=∃ ao len cap,v=.slice ao len cap∧len≤cap∧NX n len∧DRow w ao len (td n)∧∀ ad,ao=some ad→B≤ad.block
theorem TenF.s {w:World} {B:Nat} {v:Value} {n:Int} (h:TenF w B v n):TenS w v n:=by
  obtain ⟨ao,len,cap,h1,h2,h3,h4,_⟩:=h
  exact ⟨ao,len,cap,h1,h2,h3,h4⟩
theorem TenF.gr {w w':World} {B:Nat} {v:Value} {n:Int} (h:TenF w B v n) (g:Gr w w'):TenF w' B v n:=by
  obtain ⟨ao,len,cap,h1,h2,h3,h4,h5⟩:=h
  exact ⟨ao,len,cap,h1,h2,h3,h4.gr g,h5⟩
theorem TenF.mono {w:World} {B C:Nat} {v:Value} {n:Int} (h:TenF w B v n) (hC:C≤B):TenF w C v n:=by
  obtain ⟨ao,len,cap,h1,h2,h3,h4,h5⟩:=h
  exact ⟨ao,len,cap,h1,h2,h3,h4,fun ad e=>Nat.le_trans hC (h5 ad e)⟩
theorem TenF.set {w:World} {B g:Nat} {v:Value} {n:Int} (h:TenF w B v n) (hg:g<B) (i:Nat) (u:Value):TenF (w.setCell ⟨g,i,none⟩ u) B v n:=by
  obtain ⟨ao,len,cap,h1,h2,h3,h4,h5⟩:=h
  refine ⟨ao,len,cap,h1,h2,h3,⟨fun hp=>?_⟩,h5⟩
  obtain ⟨b,off,cs,fr,e,hb,hc⟩:=h4.raw hp
  have:=h5 _ e
  exact ⟨b,off,cs,fr,e,(Below.heap_setCell _ _ _ _ (by show b≠g;simp at this;omega)).trans hb,hc⟩
/-- block b is a row of n digits that may be written -/
structure DOwn (w:World) (b n:Nat) (d:Nat→Int):Prop where
  raw:∃ cs,w.heap[b]?=some (.cells cs 3)∧∀ i,i<n→cs[i]?=some (.int .i64 (d i))
theorem DOwn.lt {w:World} {b n:Nat} {d:Nat→Int} (h:DOwn w b n d):b<w.heap.size:=by
  obtain ⟨cs,hb,hc⟩:=h.raw;exact heap_lt hb
theorem DOwn.cell {w:World} {b n:Nat} {d:Nat→Int} (h:DOwn w b n d):∀ i,i<n→w.cell? ⟨b,i,none⟩=some (.int .i64 (d i)):=by
  obtain ⟨cs,hb,hc⟩:=h.raw
  exact fun i hi=>by simp only [World.cell?,hb,Option.isSome_none];exact hc i hi
theorem DOwn.free {w:World} {b n:Nat} {d:Nat→Int} (h:DOwn w b n d):∀ i,w.frozen? ⟨b,i,none⟩=false:=by
  obtain ⟨cs,hb,hc⟩:=h.raw
  exact fun i=>by simp [World.frozen?,hb]
theorem DOwn.set {w:World} {b n:Nat} {d:Nat→Int} (h:DOwn w b n d) {i:Nat} (_hi:i<n) (v:Int):DOwn (w.setCell ⟨b,i,none⟩ (.int .i64 v)) b n (upd d i v):=by
  obtain ⟨cs,hb,hc⟩:=h.raw
  refine ⟨_,heap_setCell_at _ hb,fun j hj=>?_⟩
  by_cases e:i=j
  · subst e
    have:=(Array.getElem?_eq_some_iff.1 (hc i hj)).1
    rw [upd_same];simp [this]
  · rw [upd_other d v (Ne.symm e),Array.getElem?_setIfInBounds_ne e];exact hc j hj
theorem DOwn.gr {w w':World} {b n:Nat} {d:Nat→Int} (h:DOwn w b n d) (hb:Gr w w'):DOwn w' b n d:=by
  obtain ⟨cs,hb',hc⟩:=h.raw
  exact ⟨cs,hb.heap hb',hc⟩
theorem DOwn.below {w w':World} {b n:Nat} {d:Nat→Int} (h:DOwn w b n d) (hb:Below w.heap.size w w'):DOwn w' b n d:=h.gr hb
theorem DOwn.congr {w:World} {b n:Nat} {d d':Nat→Int} (h:DOwn w b n d) (e:∀ i,i<n→d i=d' i):DOwn w b n d':=by
  obtain ⟨cs,hb',hc⟩:=h.raw
  exact ⟨cs,hb',fun i hi=>by rw [hc i hi,e i hi]⟩
theorem DOwn.row {w:World} {b n:Nat} {d:Nat→Int} (h:DOwn w b n d):DRow w (some ⟨b,0,none⟩) n d:=by
  obtain ⟨cs,hb',hc⟩:=h.raw
  exact ⟨fun _=>⟨b,0,cs,(0,0),rfl,hb',fun i hi=>by rw [Nat.zero_add];exact hc i hi⟩⟩
theorem DOwn.shorter {w:World} {b n k:Nat} {d:Nat→Int} (h:DOwn w b n d) (hk:k≤n):DOwn w b k d:=by
  obtain ⟨cs,hb',hc⟩:=h.raw
  exact ⟨cs,hb',fun i hi=>hc i (by omega)⟩
-- LEFT OUT:wpList_makeI
end Go.Proofs.YthhbibpaeonecaaGreatDoor
namespace Go.Proofs.YthhbibpaeonecaaGreatDoor
open Go

theorem tn_tenth (n:Int) (i:Nat):tn (n/10) i=tn n (i+1):=by
  rw [Nat.add_comm i 1,tn_add];rfl
theorem td_tenth (n:Int) (i:Nat):td (n/10) i=td n (i+1):=by unfold td;rw [tn_tenth]
theorem NX.small {n:Int} (h0:0<n) (h1:n<10):NX n 1:=⟨by omega,by rw [tn_succ,tn_zero];omega,fun _=>by show tn n 0≠0;rw [tn_zero];omega⟩
theorem NX.div {n:Int} {len:Nat} (h:NX n (len+1)):NX (n/10) len:=by
  refine ⟨by have:=h.nonneg;omega,by rw [tn_tenth];exact h.top,fun hl=>?_⟩
  rw [tn_tenth]
  have:=h.full (by omega)
  rwa [show len+1 - 1=len - 1+1 by omega] at this
theorem NX.exists (n:Nat):∃ len,NX (n:Int) len:=by
  induction n using Nat.strongRecOn with
  | _ n ih=>
    rcases Nat.eq_zero_or_pos n with e | hp
    · exact ⟨0,by subst e;exact NX.zero⟩
    · obtain ⟨k,hk⟩:=ih (n/10) (by omega)
      refine ⟨k+1,by omega,by rw [← tn_tenth];exact_mod_cast hk.top,fun _=>?_⟩
      rw [Nat.add_sub_cancel]
      rcases Nat.eq_zero_or_pos k with e | hk0
      · subst e;rw [tn_zero];omega
      · have:=hk.full hk0
        rw [Int.natCast_ediv,show ((10:Nat):Int)=10 from rfl,tn_tenth] at this
        rwa [show k - 1+1=k by omega] at this
/-- the digits of a text -/
theorem dec_td:∀ (len n:Nat),NX (n:Int) len→0<n→(Lib.decDigits n).length=len∧∀ i,i<len→(Lib.decDigits n)[len - 1 - i]?=some (UInt8.ofNat (48+(td (n:Int) i).toNat))
  | 0,n,h,hp=>by have:=h.len_zero.1 rfl;omega
  | len+1,n,h,hp=>by
    by_cases h1:n<10
    · have e:len+1=1:=h.len_unique (NX.small (by omega) (by omega))
      have e0:len=0:=by omega
      subst e0
      rw [dec_small h1]
      refine ⟨rfl,fun i hi=>?_⟩
      have e2:i=0:=by omega
      subst e2
      have:(td (n:Int) 0).toNat=n:=by unfold td;rw [tn_zero];omega
      rw [this];rfl
    · have hd:NX ((n/10:Nat):Int) len:=by
        have:=h.div
        rwa [show ((n:Int)/10)=((n/10:Nat):Int) by omega] at this
      obtain ⟨l1,l2⟩:=dec_td len (n/10) hd (by omega)
      rw [dec_step (by omega)]
      refine ⟨by simp [l1],fun i hi=>?_⟩
      cases i with
      | zero=>
        rw [Nat.sub_zero,Nat.add_sub_cancel,← l1,List.getElem?_append_right (Nat.le_refl _),Nat.sub_self]
        have:(td (n:Int) 0).toNat=n % 10:=by unfold td;rw [tn_zero];omega
        rw [this];rfl
      | succ i=>
        have hi':i<len:=by omega
        have e:len+1 - 1 - (i+1)=len - 1 - i:=by omega
        rw [e,List.getElem?_append_left (by omega),l2 i hi',← td_tenth]
        rw [show ((n/10:Nat):Int)=(n:Int)/10 by omega]
theorem dec_get {n len:Nat} (h:NX (n:Int) len) (hp:0<n) {k:Nat} (hk:k<len):(Lib.decDigits n)[k]?=some (UInt8.ofNat (48+(td (n:Int) (len - 1 - k)).toNat)):=by
  have:=(dec_td len n h hp).2 (len - 1 - k) (by omega)
  rwa [show len - 1 - (len - 1 - k)=k by omega] at this
theorem td_char (n:Int) (i:Nat):((UInt8.ofNat (48+(td n i).toNat)).toNat:Int)=48+td n i:=by
  have h0:=td_nonneg n i
  have h1:=td_lt n i
  rw [UInt8.toNat_ofNat']
  omega
theorem itoa_nonneg {z:Int} (h:0≤z):Lib.itoa z=Lib.decDigits z.natAbs:=by
  unfold Lib.itoa
  rw [if_neg (by omega)]
  congr 1
  omega
theorem itoa_neg {z:Int} (h:z<0):Lib.itoa z=45::Lib.decDigits z.natAbs:=by unfold Lib.itoa;rw [if_pos h]
theorem itoa_one:Lib.itoa 1=[49]:=by rw [itoa_nonneg (by omega)];exact dec_small (by decide)
theorem dec_head {n:Nat} (hp:0<n):∃ c,(Lib.decDigits n)[0]?=some c∧49≤c.toNat∧c.toNat≤57:=by
  obtain ⟨len,h⟩:=NX.exists n
  have hl:0<len:=by
    rcases Nat.eq_zero_or_pos len with e | e
    · have:=h.len_zero.1 e;omega
    · exact e
  refine ⟨_,dec_get h hp hl,?_⟩
  have h1:=h.topdig hl
  have h2:=td_char (n:Int) (len - 1)
  have h3:=td_lt (n:Int) (len - 1)
  rw [Nat.sub_zero]
  omega
theorem dec_zero:Lib.decDigits 0=[48]:=dec_small (by omega)
/-- every byte of the digits is a digit -/
theorem dec_all (n:Nat):∀ c ∈ Lib.decDigits n,48≤c.toNat∧c.toNat≤57:=by
  induction n using Nat.strongRecOn with
  | _ n ih=>
    by_cases h1:n<10
    · rw [dec_small h1]
      intro c hc
      simp only [List.mem_singleton] at hc
      subst hc
      rw [UInt8.toNat_ofNat'];omega
    · rw [dec_step (by omega)]
      intro c hc
      rcases List.mem_append.1 hc with hc | hc
      · exact ih _ (by omega) c hc
      · simp only [List.mem_singleton] at hc
        subst hc
        rw [UInt8.toNat_ofNat'];omega
/-- the value of digits -/
def valL (l:List UInt8):Nat:=l.foldl (fun a c=>a*10+(c.toNat - 48)) 0
theorem valL_snoc (l:List UInt8) (c:UInt8):valL (l++[c])=valL l*10+(c.toNat - 48):=by simp [valL,List.foldl_append]
theorem valL_dec (n:Nat):valL (Lib.decDigits n)=n:=by
  induction n using Nat.strongRecOn with
  | _ n ih=>
    by_cases h1:n<10
    · rw [dec_small h1]
      show 0*10+((UInt8.ofNat (48+n)).toNat - 48)=n
      rw [UInt8.toNat_ofNat'];omega
    · rw [dec_step (by omega),valL_snoc,ih _ (by omega),UInt8.toNat_ofNat'];omega
/-- digits without a zero in front are the text of their value -/
theorem dec_valL':∀ (n:Nat) (l:List UInt8),l.length=n→(∀ c ∈ l,48≤c.toNat∧c.toNat≤57)→l≠[]→(∀ c,l[0]?=some c→c.toNat≠48)→Lib.decDigits (valL l)=l∧0<valL l
  | 0,l,hl,_,hne,_=>absurd (List.length_eq_zero_iff.1 hl) hne
  | n+1,l,hl,hd,hne,h0=>by
    rcases List.eq_nil_or_concat l with e | ⟨l',c,e⟩
    · exact absurd e hne
    · rw [List.concat_eq_append] at e
      subst e
      have hc:=hd c (by simp)
      rw [valL_snoc]
      rcases List.eq_nil_or_concat l' with e | ⟨l2,c',e⟩
      · subst e
        have:=h0 c rfl
        have e1:valL []*10+(c.toNat - 48)=c.toNat - 48:=by simp [valL]
        rw [e1]
        refine ⟨?_,by omega⟩
        rw [dec_small (by omega),show 48+(c.toNat - 48)=c.toNat by omega]
        simp
      · have hne':l'≠[]:=by rw [e];simp
        obtain ⟨h1,h2⟩:=dec_valL' n l' (by simpa using hl) (fun x hx=>hd x (by simp [hx])) hne' (fun x hx=>h0 x (by
          rw [List.getElem?_append_left (List.length_pos_iff.2 hne')];exact hx))
        refine ⟨?_,by omega⟩
        rw [dec_step (by omega),show (valL l'*10+(c.toNat - 48))/10=valL l' by omega,h1,show 48+(valL l'*10+(c.toNat - 48)) % 10=c.toNat by omega]
        simp
theorem dec_valL (l:List UInt8) (h1:∀ c ∈ l,48≤c.toNat∧c.toNat≤57) (h2:l≠[]) (h3:∀ c,l[0]?=some c→c.toNat≠48):Lib.decDigits (valL l)=l∧0<valL l:=dec_valL' _ l rfl h1 h2 h3
theorem decDigits_inj {a b:Nat} (h:Lib.decDigits a=Lib.decDigits b):a=b:=by rw [← valL_dec a,← valL_dec b,h]
theorem itoa_inj {a b:Int} (h:Lib.itoa a=Lib.itoa b):a=b:=by
  have key:∀ n:Nat,∀ l,45::l≠Lib.decDigits n:=fun n l e=>by
    have:=dec_all n 45 (by rw [← e];simp)
    simp at this
  by_cases h1:a<0<;>by_cases h2:b<0
  · rw [itoa_neg h1,itoa_neg h2] at h
    have:=decDigits_inj (List.cons.inj h).2
    omega
  · rw [itoa_neg h1,itoa_nonneg (by omega)] at h
    exact absurd h (key _ _)
  · rw [itoa_nonneg (by omega),itoa_neg h2] at h
    exact absurd h.symm (key _ _)
  · rw [itoa_nonneg (by omega),itoa_nonneg (by omega)] at h
    have:=decDigits_inj h
    omega
end Go.Proofs.YthhbibpaeonecaaGreatDoor
namespace Go.Proofs.YthhbibpaeonecaaGreatDoor
open Go.RowKit

set_option maxHeartbeats 400000 in
theorem trim_c (ao:Option Addr) (len cap:Nat) (n:Int) (w:World) (hl:len≤2000000) (hcap:len≤cap) (h0:0≤n) (h1:hi n len=0)
   (hr:Row w ao len (dg n)):
    Calls Tryz.prog 112 #[.slice ao len cap] w fun e w'=>(∃ k,e=.returned (.slice ao k cap)∧Mag w ao k cap n∧k≤len)∧w=w':=by
  go_enter Tryz.func112,Tryz.ntmps112
  go_wp2
  go_loop [0] (fun v=>∃ k:Nat,k≤len∧v=.slice ao k cap∧Hid (hi n k=0)) (fun v=>match v with | .slice _ n _=>n | _=>0)
  case atStart=>exact ⟨len,Nat.le_refl _,rfl,h1⟩
  case round=>
    obtain ⟨k,hk,rfl,hz⟩:=hrel
    by_cases hp:0<k
    · obtain ⟨b,off,rfl,hcs⟩:=hr.at_ (by omega)
      have hcell:=hcs (k-1) (by omega)
      have e1:((k:Int) - 1)=((k-1:Nat):Int):=by omega
      clear hcs
      go_wp2
      · have h2:(dg n (k - 1)==0)=true:=by assumption
        go_round
        case rel => exact ⟨k - 1, by omega, rfl, hi_trim hz.out (k - 1) (by omega) (fun j h3 h4 => by obtain rfl : j = k - 1 := by omega
                                                                                                      simpa using h2)⟩
        case measure=>simp;omega
      · have h2:(dg n (k - 1)==0)=false:=by assumption
        go_ret
        exact ⟨⟨k,rfl,⟨by omega,NL.mk' h0 hz.out (fun _=>by simpa using h2),hr.shorter hk⟩,hk⟩,rfl⟩
    · go_wp2
      go_ret
      obtain rfl:k=0:=by omega
      exact ⟨⟨0,rfl,⟨by omega,NL.mk' h0 hz.out (by omega),Row.nil _ _ _⟩,by omega⟩,rfl⟩

set_option maxHeartbeats 400000 in
theorem signed_c (neg:Bool) (ao:Option Addr) (len cap:Nat) (n:Int) (w:World) (hl:len≤2000000) (hcap:len≤cap) (h0:0≤n) (h1:hi n len=0)
   (hr:Row w ao len (dg n)):
    Calls Tryz.prog 91 #[.bool neg,.slice ao len cap] w fun e w'=>(∃ k,e=.returned (.agg #[.bool (neg&&decide (0<k)),.slice ao k cap])∧Mag w ao k cap n∧k≤len)∧Below w.heap.size w w':=by
  go_enter Tryz.func91,Tryz.ntmps91
  go_wp2_with fail
  refine (trim_c _ _ _ n _ hl hcap h0 h1 (hr.below ((Below.refl _ _).alloc (Nat.le_refl _) _))).mono ?_
  rintro e w1 ⟨⟨k,rfl,hm,hk⟩,rfl⟩
  cases neg
  · go_wp2
    exact bodyPost_ret (v:=.agg #[.bool false,.slice ao k cap]) (by simp [results,Tryz.results91,go_sem]) rfl ⟨⟨k,rfl,⟨hm.cap,hm.nl,hr.shorter hk⟩,hk⟩,(Below.refl _ _).alloc (Nat.le_refl _) _⟩
  · go_wp2
    exact bodyPost_ret (v:=.agg #[.bool (decide (0<k)),.slice ao k cap]) (by simp [results,Tryz.results91,go_sem]) rfl ⟨⟨k,by simp,⟨hm.cap,hm.nl,hr.shorter hk⟩,hk⟩,(Below.refl _ _).alloc (Nat.le_refl _) _⟩

theorem lt_of_dg {a b:Int} {k:Nat} (h:hi a (k+1)=hi b (k+1)) (hd:dg a k<dg b k):a<b:=by
  refine Int.lt_of_not_ge fun hge=>?_
  have h1:=hi_mono hge k
  have h2:=hi_split a k
  have h3:=hi_split b k
  omega
/-- Go's order of two magnitudes -/
def sgn (z:Int):Int:=if z<0 then -1 else if z=0 then 0 else 1
theorem sgn_neg {z:Int} (h:z<0):sgn z=-1:=by simp [sgn,h]
theorem sgn_pos {z:Int} (h:0<z):sgn z=1:=by unfold sgn;rw [if_neg (by omega),if_neg (by omega)]
theorem ret_int {k:IntKind} {a b:Int} (h:a=b):Ending.returned (.int k a)=.returned (.int k b):=by rw [h]

set_option maxHeartbeats 400000 in
theorem order_c (ao bo:Option Addr) (la lb ca cb:Nat) (a b:Int) (w:World) (hla:la≤2000000) (hlb:lb≤2000000)
   (ha:Mag w ao la ca a) (hb:Mag w bo lb cb b):
    Calls Tryz.prog 92 #[.slice ao la ca,.slice bo lb cb] w fun e w'=>e=.returned (.int .i64 (sgn (a - b)))∧Below w.heap.size w w':=by
  by_cases hl:la=lb
  · subst hl
    have hne:((la:Int) !=la)=false:=by simp
    go_enter Tryz.func92,Tryz.ntmps92
    go_wp2
    go_loopw [5] (fun i wr=>∃ k:Nat,k≤la∧i=.int .i64 ((k:Int) - 1)∧Hid (hi a k=hi b k)∧Below w.heap.size w wr) (fun i _=>(intOf i+1).toNat)
    case atStart=>exact ⟨la,Nat.le_refl _,rfl,by rw [Hid,ha.nl.top,hb.nl.top],Below.refl _ _⟩
    case round=>
      obtain ⟨k,hk,rfl,hz,hB⟩:=hrel
      by_cases hp:0<k
      · obtain ⟨b1,off1,rfl,hc1⟩:=(ha.row.below hB).at_ (by omega)
        obtain ⟨b2,off2,rfl,hc2⟩:=(hb.row.below hB).at_ (by omega)
        have hcell1:=hc1 (k-1) (by omega)
        have hcell2:=hc2 (k-1) (by omega)
        obtain ⟨j,rfl⟩:∃ j,k=j+1:=⟨k - 1,by omega⟩
        have e1:(((j+1:Nat):Int) - 1)=(j:Int):=by omega
        have e2:j+1 - 1=j:=by omega
        rw [e2] at hcell1 hcell2
        simp only [e1]
        clear hc1 hc2 e1 e2
        have i0:(0:Int)≤(j:Int):=by omega
        have i1:(j:Int)<(la:Int):=by omega
        go_wp2
        go_quiet (fail)
        go_wp2
        · have h:(dg a j !=dg b j)=true:=by assumption
          go_quiet (fail)
          go_wp2
          · have h2:dg a j<dg b j:=by assumption
            go_ret
            exact ⟨ret_int (sgn_neg (by have:=lt_of_dg hz.out h2;omega)).symm,hB.drewN _ |>.drewN _⟩
          · have h2:dg b j≤dg a j:=by assumption
            go_ret
            have h3:dg a j≠dg b j:=by simpa using h
            exact ⟨ret_int (sgn_pos (by have:=lt_of_dg hz.out.symm (show dg b j<dg a j by omega);omega)).symm,hB.drewN _ |>.drewN _⟩
        · have h:(dg a j !=dg b j)=false:=by assumption
          go_roundw
          case rel=>
            refine ⟨j,by omega,rfl,?_,hB.drewN _⟩
            have h1:=hi_split a j
            have h2:=hi_split b j
            have h3:=hz.out
            have h4:dg a j=dg b j:=by simpa using h
            show hi a j=hi b j
            omega
          case measure=>simp [intOf]
      · obtain rfl:k=0:=by omega
        go_wp2
        go_ret
        have h3:a=b:=hz.out
        exact ⟨ret_int (by rw [h3,Int.sub_self];rfl),hB⟩
  · have hne:((la:Int) !=lb)=true:=by simp;omega
    by_cases hlt:la<lb
    · go_enter Tryz.func92,Tryz.ntmps92
      go_wp2
      go_ret
      exact ⟨ret_int (sgn_neg (by have:=ha.nl.lt_of_len hb.nl hlt;omega)).symm,Below.refl _ _⟩
    · go_enter Tryz.func92,Tryz.ntmps92
      go_wp2
      go_ret
      exact ⟨ret_int (sgn_pos (by have:=hb.nl.lt_of_len ha.nl (by omega);omega)).symm,Below.refl _ _⟩
theorem getElem_toList {s:ByteArray} {l:List UInt8} (h:s.data.toList=l) {q:Nat} (hq:q<s.size) {c:UInt8} (hc:l[q]?=some c):s[q]=c:=by
  have h1:s.data.toList[q]?=some c:=by rw [h];exact hc
  rw [Array.getElem?_toList] at h1
  obtain ⟨h2,h3⟩:=Array.getElem?_eq_some_iff.1 h1
  exact h3
-- LEFT OUT:r1_digits r1_order r1_sign_n r1_sign_p r1_sign_z r1_trim wpList_makeI
def bvals (l:List UInt8):List Value:=l.map fun c=>.int .u8 (c.toNat:Int)
theorem bvals_length (l:List UInt8):(bvals l).length=l.length:=by simp [bvals]
theorem OwnS.conv {w:World} {B:Nat} {v:Value} {l:List UInt8} (h:OwnS w 5 B v (bvals l)) (hp:l≠[]):
    ∃ g cap,v=.slice (some ⟨g,0,none⟩) l.length cap∧(convert 177 9 (.slice (some ⟨g,0,none⟩) l.length cap)).run Tryz.prog w=.ok (.string ⟨l.toArray⟩) w:=by
  obtain ⟨g,cap,cur,e,hb,hg,h1,h2,hc⟩:=h.cells (by rw [bvals_length];exact List.length_pos_iff.2 hp)
  rw [bvals_length] at e h1 hc
  refine ⟨g,cap,e,run_convert_bytes_back w _ _ 5 ⟨g,0,none⟩ cap l (by kernel_rfl) (by kernel_rfl) (by kernel_rfl) (fun j hj=>?_)⟩
  have e0:(⟨g,0,none⟩:Addr).add j=⟨g,j,none⟩:=by
    unfold Addr.add
    by_cases h0:j=0<;>simp [h0]
  rw [e0,cells_of hg,hc j hj]
  simp [bvals,hj]
theorem dec_ne' (n:Nat):Lib.decDigits n≠[]:=fun e=>by have:=dec_pos n;rw [e] at this;simp at this
theorem dec_len_sz {k:Nat} {z:Int} (h:Sz k z):(Lib.decDigits z.natAbs).length≤k+1:=dec_len_bits k _ h
theorem NX.len_bits {n len k:Nat} (h:NX (n:Int) len) (hn:n<2 ^ k):len≤k+1:=by
  rcases Nat.eq_zero_or_pos n with e | hp
  · have:=h.len_zero.2 (by omega);omega
  · have h1:=(dec_td len n h hp).1
    have h2:=dec_len_bits k n hn
    omega
theorem itoa_pos (z:Int):0<(Lib.itoa z).length:=by
  by_cases h:z<0
  · rw [itoa_neg h];simp
  · rw [itoa_nonneg (by omega)];exact dec_pos _
theorem TenS.len {w:World} {v:Value} {n k:Nat} (h:TenS w v (n:Int)) (hn:n<2 ^ k):∃ ao len cap,v=.slice ao len cap∧len≤cap∧NX (n:Int) len∧DRow w ao len (td (n:Int))∧len≤k+1:=by
  obtain ⟨ao,len,cap,h1,h2,h3,h4⟩:=h
  exact ⟨ao,len,cap,h1,h2,h3,h4,h3.len_bits hn⟩
theorem rv_seq {P:Program} {a:Act} {o:Oper} {w:World} (t t2:TypeId) (x y:Operand) (A B:List UInt8) (hop:o.op=.binOp .eql t x y t2) (hx:a.eval x=.string ⟨A.toArray⟩) (hy:a.eval y=.string ⟨B.toArray⟩):RunV P a o w (.bool (A==B)):=by
  unfold RunV execOp
  simp only [hop,hx,hy]
  simp [go_sem,eqGuard,ByteArray.toList_eq]
theorem rv_sne {P:Program} {a:Act} {o:Oper} {w:World} (t t2:TypeId) (x y:Operand) (A B:List UInt8) (hop:o.op=.binOp .neq t x y t2) (hx:a.eval x=.string ⟨A.toArray⟩) (hy:a.eval y=.string ⟨B.toArray⟩):RunV P a o w (.bool (A !=B)):=by
  unfold RunV execOp
  simp only [hop,hx,hy]
  simp [go_sem,eqGuard,ByteArray.toList_eq,bne]
set_option maxHeartbeats 1000000 in
/-- plus of two magnitudes,the first one not shorter -/
theorem plus_ge (ao bo:Option Addr) (la lb ca cb:Nat) (a b:Int) (w:World) (hla:la≤1000000) (hlb:lb≤la)
   (ha:Mag w ao la ca a) (hb:Mag w bo lb cb b):
    Calls Tryz.prog 93 #[.slice ao la ca,.slice bo lb cb] w fun e w'=>(∃ g,e=.returned (.slice (some ⟨g,0,none⟩) (la+1) (la+1))∧Own w' g (la+1) (dg (a+b))∧hi (a+b) (la+1)=0)∧Below w.heap.size w w':=by
  go_enter Tryz.func93,Tryz.ntmps93
  go_wp2_with (at_make;refine wpList_make32 _ rfl _ _ rfl _ _ (la+1) rfl rfl (by omega) (by omega) (by omega) ?_)
  intro w1 hO hB hsz
  have hneg:¬ ((la:Int)<lb):=by omega
  go_wp2
  go_loopw [6,22] (fun c i wr=>∃ (k:Nat) (cr:Int) (d:Nat→Int),k≤la∧i=.int .i64 k∧c=.int .u64 cr∧0≤cr∧cr≤1∧Hid (hi (a+b) k=hi a k+hi b k+cr)∧Below w.heap.size w wr∧
      Own wr w.heap.size (la+1) d∧Hid (∀ j,j<k→d j=dg (a+b) j)) (fun _ i _=>la - (intOf i).toNat)
  case atStart=>exact ⟨0,0,_,Nat.zero_le _,rfl,rfl,by omega,by omega,by simp [Hid,hi_zero],hB,hO,fun j hj=>by omega⟩
  case round=>
    obtain ⟨k,cr,d,hk,rfl,rfl,hc0,hc1,hz,hB,hO,hd⟩:=hrel
    by_cases hlt:k<la
    · obtain ⟨b1,off1,rfl,hcs1⟩:=(ha.row.below hB).at_ (by omega)
      have hcell1:=hcs1 k hlt
      clear hcs1
      have d0:=dg_nonneg a k
      have d1:=dg_lt a k
      by_cases hltb:k<lb
      · obtain ⟨b2,off2,rfl,hcs2⟩:=(hb.row.below hB).at_ (by omega)
        have hcell2:=hcs2 k hltb
        clear hcs2
        have e0:=dg_nonneg b k
        have e1:=dg_lt b k
        have hcell3:=hO.cell k (by omega)
        have hfree:=hO.free k
        go_wp2
        have hs:=plus_step hz.out hc0 hc1
        go_roundw
        case rel=>
          refine ⟨k+1,_,_,by omega,by go_num,rfl,hs.2.2.1,hs.2.2.2,hs.2.1,hB.setCell (Nat.le_refl _) _,hO.set (by omega) _,fun j hj=>?_⟩
          by_cases e:j=k
          · subst e;rw [upd_same,hs.1]
          · rw [upd_other _ _ e];exact hd.out j (by omega)
        case measure=>simp [intOf];omega
      · have e0:hi b k=0:=hi_ge hb.nl.top (by omega)
        have HE:=Lib.hid e0
        clear e0
        have hcell3:=hO.cell k (by omega)
        have hfree:=hO.free k
        go_wp2
        have hs:=plus_step0 hz.out hc0 hc1 HE.out
        go_roundw
        case rel=>
          refine ⟨k+1,_,_,by omega,by go_num,rfl,hs.2.2.1,hs.2.2.2,hs.2.1,hB.setCell (Nat.le_refl _) _,hO.set (by omega) _,fun j hj=>?_⟩
          by_cases e:j=k
          · subst e;rw [upd_same,hs.1]
          · rw [upd_other _ _ e];exact hd.out j (by omega)
        case measure=>simp [intOf];omega
    · obtain rfl:k=la:=by omega
      have hcell3:=hO.cell k (by omega)
      have hfree:=hO.free k
      go_wp2
      go_ret
      have h1:=hz.out
      rw [ha.nl.top,hi_ge hb.nl.top hlb] at h1
      have h2:=hi_split (a+b) k
      refine ⟨⟨_,rfl,(hO.set (Nat.lt_succ_self k) _).congr (fun j hj=>?_),?_⟩,hB.setCell (Nat.le_refl _) _⟩
      · by_cases e:j=k
        · subst e;rw [upd_same];unfold dg;omega
        · rw [upd_other _ _ e];exact hd.out j (by omega)
      · rw [hi_succ];omega
set_option maxHeartbeats 1000000 in
/-- plus of two magnitudes,the first one shorter -/
theorem plus_lt (ao bo:Option Addr) (la lb ca cb:Nat) (a b:Int) (w:World) (hla:la≤1000000) (hlb':lb<la)
   (ha:Mag w ao la ca a) (hb:Mag w bo lb cb b):
    Calls Tryz.prog 93 #[.slice bo lb cb,.slice ao la ca] w fun e w'=>(∃ g,e=.returned (.slice (some ⟨g,0,none⟩) (la+1) (la+1))∧Own w' g (la+1) (dg (a+b))∧hi (a+b) (la+1)=0)∧Below w.heap.size w w':=by
  go_enter Tryz.func93,Tryz.ntmps93
  have hneg:((lb:Int)<la):=by omega
  go_wp2_with (at_make;refine wpList_make32 _ rfl _ _ rfl _ _ (la+1) rfl rfl (by omega) (by omega) (by omega) ?_)
  intro w1 hO hB hsz
  have hlb:lb≤la:=by omega
  go_wp2
  go_loopw [6,22] (fun c i wr=>∃ (k:Nat) (cr:Int) (d:Nat→Int),k≤la∧i=.int .i64 k∧c=.int .u64 cr∧0≤cr∧cr≤1∧Hid (hi (a+b) k=hi a k+hi b k+cr)∧Below w.heap.size w wr∧
      Own wr w.heap.size (la+1) d∧Hid (∀ j,j<k→d j=dg (a+b) j)) (fun _ i _=>la - (intOf i).toNat)
  case atStart=>exact ⟨0,0,_,Nat.zero_le _,rfl,rfl,by omega,by omega,by simp [Hid,hi_zero],hB,hO,fun j hj=>by omega⟩
  case round=>
    obtain ⟨k,cr,d,hk,rfl,rfl,hc0,hc1,hz,hB,hO,hd⟩:=hrel
    by_cases hlt:k<la
    · obtain ⟨b1,off1,rfl,hcs1⟩:=(ha.row.below hB).at_ (by omega)
      have hcell1:=hcs1 k hlt
      clear hcs1
      have d0:=dg_nonneg a k
      have d1:=dg_lt a k
      by_cases hltb:k<lb
      · obtain ⟨b2,off2,rfl,hcs2⟩:=(hb.row.below hB).at_ (by omega)
        have hcell2:=hcs2 k hltb
        clear hcs2
        have e0:=dg_nonneg b k
        have e1:=dg_lt b k
        have hcell3:=hO.cell k (by omega)
        have hfree:=hO.free k
        go_wp2
        have hs:=plus_step hz.out hc0 hc1
        go_roundw
        case rel=>
          refine ⟨k+1,_,_,by omega,by go_num,rfl,hs.2.2.1,hs.2.2.2,hs.2.1,hB.setCell (Nat.le_refl _) _,hO.set (by omega) _,fun j hj=>?_⟩
          by_cases e:j=k
          · subst e;rw [upd_same,hs.1]
          · rw [upd_other _ _ e];exact hd.out j (by omega)
        case measure=>simp [intOf];omega
      · have e0:hi b k=0:=hi_ge hb.nl.top (by omega)
        have HE:=Lib.hid e0
        clear e0
        have hcell3:=hO.cell k (by omega)
        have hfree:=hO.free k
        go_wp2
        have hs:=plus_step0 hz.out hc0 hc1 HE.out
        go_roundw
        case rel=>
          refine ⟨k+1,_,_,by omega,by go_num,rfl,hs.2.2.1,hs.2.2.2,hs.2.1,hB.setCell (Nat.le_refl _) _,hO.set (by omega) _,fun j hj=>?_⟩
          by_cases e:j=k
          · subst e;rw [upd_same,hs.1]
          · rw [upd_other _ _ e];exact hd.out j (by omega)
        case measure=>simp [intOf];omega
    · obtain rfl:k=la:=by omega
      have hcell3:=hO.cell k (by omega)
      have hfree:=hO.free k
      go_wp2
      go_ret
      have h1:=hz.out
      rw [ha.nl.top,hi_ge hb.nl.top hlb] at h1
      have h2:=hi_split (a+b) k
      refine ⟨⟨_,rfl,(hO.set (Nat.lt_succ_self k) _).congr (fun j hj=>?_),?_⟩,hB.setCell (Nat.le_refl _) _⟩
      · by_cases e:j=k
        · subst e;rw [upd_same];unfold dg;omega
        · rw [upd_other _ _ e];exact hd.out j (by omega)
      · rw [hi_succ];omega
theorem plus_c (ao bo:Option Addr) (la lb ca cb:Nat) (a b:Int) (w:World) (hla:la≤1000000) (hlb:lb≤1000000)
   (ha:Mag w ao la ca a) (hb:Mag w bo lb cb b):
    Calls Tryz.prog 93 #[.slice ao la ca,.slice bo lb cb] w fun e w'=>(∃ g n,e=.returned (.slice (some ⟨g,0,none⟩) n n)∧n≤1000001∧Own w' g n (dg (a+b))∧hi (a+b) n=0)∧Below w.heap.size w w':=by
  rcases Nat.lt_or_ge la lb with h | h
  · refine (plus_lt bo ao lb la cb ca b a w hlb h hb ha).mono ?_
    rintro e w1 ⟨⟨g,he,h1,h2⟩,h3⟩
    rw [Int.add_comm] at h1 h2
    exact ⟨⟨g,_,he,by omega,h1,h2⟩,h3⟩
  · refine (plus_ge ao bo la lb ca cb a b w hla h ha hb).mono ?_
    rintro e w1 ⟨⟨g,he,h1,h2⟩,h3⟩
    exact ⟨⟨g,_,he,by omega,h1,h2⟩,h3⟩

set_option maxHeartbeats 1000000 in
theorem minus_c (ao bo:Option Addr) (la lb ca cb:Nat) (a b:Int) (w:World) (hla:la≤1000000) (hlb:lb≤1000000) (hle:b≤a)
   (ha:Mag w ao la ca a) (hb:Mag w bo lb cb b):
    Calls Tryz.prog 94 #[.slice ao la ca,.slice bo lb cb] w fun e w'=>(∃ g,e=.returned (.slice (some ⟨g,0,none⟩) la la)∧Own w' g la (dg (a - b))∧hi (a - b) la=0)∧Below w.heap.size w w':=by
  have hll:=hb.nl.len_le ha.nl hle
  go_enter Tryz.func94,Tryz.ntmps94
  go_wp2_with (at_make;refine wpList_make32 _ rfl _ _ rfl _ _ la rfl rfl (by omega) (by omega) (by omega) ?_)
  intro w1 hO hB hsz
  go_wp2
  go_loopw [6,15] (fun c i wr=>∃ (k:Nat) (cr:Int) (d:Nat→Int),k≤la∧i=.int .i64 k∧c=.int .i64 cr∧0≤cr∧cr≤1∧Hid (hi (a - b) k=hi a k - hi b k - cr)∧Below w.heap.size w wr∧
      Own wr w.heap.size la d∧Hid (∀ j,j<k→d j=dg (a - b) j)) (fun _ i _=>la - (intOf i).toNat)
  case atStart=>exact ⟨0,0,_,Nat.zero_le _,rfl,rfl,by omega,by omega,by simp [Hid,hi_zero],hB,hO,fun j hj=>by omega⟩
  case round=>
    obtain ⟨k,cr,d,hk,rfl,rfl,hc0,hc1,hz,hB,hO,hd⟩:=hrel
    by_cases hlt:k<la
    · obtain ⟨b1,off1,rfl,hcs1⟩:=(ha.row.below hB).at_ (by omega)
      have hcell1:=hcs1 k hlt
      clear hcs1
      have d0:=dg_nonneg a k
      have d1:=dg_lt a k
      have hcell3:=hO.cell k (by omega)
      have hfree:=hO.free k
      by_cases hltb:k<lb
      · obtain ⟨b2,off2,rfl,hcs2⟩:=(hb.row.below hB).at_ (by omega)
        have hcell2:=hcs2 k hltb
        clear hcs2
        have e0:=dg_nonneg b k
        have e1:=dg_lt b k
        go_wp2
        all_goals
          have hs:=minus_step hz.out hc0 hc1
          go_roundw
          case rel=>
            refine ⟨k+1,_,_,by omega,by go_num,rfl,by omega,by omega,?_,hB.setCell (Nat.le_refl _) _,hO.set (by omega) _,fun j hj=>?_⟩
            · show hi (a - b) (k+1)=_
              have h2:=hs.2
              first | rw [if_pos (by assumption)] at h2 | rw [if_neg (by omega)] at h2
              exact h2
            by_cases e:j=k
            · subst e;rw [upd_same,hs.1];try omega
            · rw [upd_other _ _ e];exact hd.out j (by omega)
          case measure=>simp [intOf];omega
      · have e0:hi b k=0:=hi_ge hb.nl.top (by omega)
        have HE:=Lib.hid e0
        clear e0
        go_wp2
        all_goals
          have hs:=minus_step0 hz.out hc0 hc1 HE.out
          go_roundw
          case rel=>
            refine ⟨k+1,_,_,by omega,by go_num,rfl,by omega,by omega,?_,hB.setCell (Nat.le_refl _) _,hO.set (by omega) _,fun j hj=>?_⟩
            · show hi (a - b) (k+1)=_
              have h2:=hs.2
              first | rw [if_pos (by assumption)] at h2 | rw [if_neg (by omega)] at h2
              exact h2
            by_cases e:j=k
            · subst e;rw [upd_same,hs.1];try omega
            · rw [upd_other _ _ e];exact hd.out j (by omega)
          case measure=>simp [intOf];omega
    · obtain rfl:k=la:=by omega
      go_wp2
      go_ret
      have h1:=hz.out
      rw [ha.nl.top,hi_ge hb.nl.top hll] at h1
      have h2:=hi_nonneg (show 0≤a - b by omega) k
      exact ⟨⟨_,rfl,hO.congr hd.out,by omega⟩,hB⟩
theorem mul_next (a b:Int) (i:Nat):low a i*b+dg a i*b*4294967296 ^ i=low a (i+1)*b:=by rw [low_succ];grind
theorem mul_top {a b c:Int} {i lb:Nat} (hr:hi (low a i*b) (i+lb)=0) (hb:hi b lb=0)
    (h:hi (low a i*b+dg a i*b*4294967296 ^ i) (i+lb)=hi (low a i*b) (i+lb)+dg a i*hi b lb+c) (h0:0≤c) (h1:c<4294967296):
    dg (low a (i+1)*b) (i+lb)=c∧hi (low a (i+1)*b) (i+1+lb)=0:=by
  rw [mul_next,hr,hb,Int.mul_zero] at h
  have e:i+1+lb=i+lb+1:=by omega
  rw [e,hi_succ]
  unfold dg
  omega

set_option maxRecDepth 100000 in
set_option maxHeartbeats 2000000 in
theorem mul_raw (s t:Bool) (a b:Int) (ao bo:Option Addr) (la lb ca cb:Nat) (w:World) (hla:la≤1000000) (hlb:lb≤1000000) (ha:Mag w ao la ca a) (hb:Mag w bo lb cb b):
    Calls Tryz.prog 64 #[.agg #[.bool s,.slice ao la ca],.agg #[.bool t,.slice bo lb cb]] w fun e w'=>
      (∃ go n cap,e=.returned (.agg #[.bool ((s !=t)&&decide (0<n)),.slice go n cap])∧Mag w' go n cap (a*b))∧Below w.heap.size w w':=by
  go_enter Tryz.func64,Tryz.ntmps64
  go_wp2_with (at_make;refine wpList_make32 _ rfl _ _ rfl _ _ (la+lb) rfl rfl (by omega) (by omega) (by omega) ?_)
  intro w1 hO hB hsz
  obtain ⟨hG0,f0,f1,f2,hS3⟩:=alloc3_facts w (.cells #[.bool s,.slice ao la ca] 31) (.cells #[.bool t,.slice bo lb cb] 31) (.cells #[.bool false,.slice none 0 0] 31)
  have hB':=(hB.mono (Nat.le_of_eq hS3):Gr _ w1)
  have hG:Gr w w1:=hG0.trans hB'
  have p0:=Gr.heap hB' f0
  have p1:=Gr.heap hB' f1
  have p2:=Gr.heap hB' f2
  have c0:=cells_of p0 0
  have c1:=cells_of p0 1
  have c2:=cells_of p1 0
  have c3:=cells_of p1 1
  clear hB' hG0 hS3 f0 f1 f2
  have hO1:=hO
  clear hO hB hsz
  go_wp2
  go_loopw [22] (fun i wr=>∃ (k:Nat) (d:Nat→Int),k≤la∧i=.int .i64 k∧Own wr (w.heap.size+1+1+1) (la+lb) d∧Below (w.heap.size+1+1+1) w1 wr∧Hid (∀ j,j<la+lb→d j=dg (low a k*b) j)∧Hid (hi (low a k*b) (k+lb)=0)) (fun i _=>la - (intOf i).toNat)
  case atStart=>exact ⟨0,_,Nat.zero_le _,rfl,hO1,Below.refl _ _,fun j _=>by rw [low_zero,Int.zero_mul];unfold dg;rw [hi_zero_n];rfl,by rw [Hid,low_zero,Int.zero_mul,hi_zero_n]⟩
  case round=>
    obtain ⟨k,d,hk,rfl,hO,hB,hd,htop⟩:=hrel
    by_cases hlt:k<la
    · have hc:=bcell hB
      have hw:Below w.heap.size w wr:=Below.trans hG (hB.mono (by omega))
      obtain ⟨b1,off1,rfl,hcs1⟩:=(ha.below hw).row.at_ (by omega)
      have hcell1:=hcs1 k hlt
      have x0:=dg_nonneg a k
      have x1:=dg_lt a k
      clear hcs1 hw
      go_wp2
      obtain ⟨wo,hwo⟩:∃ wo:World,wo=wr:=⟨_,rfl⟩
      subst hwo
      go_loopw [8,30] (fun c i wr=>∃ (j:Nat) (cr:Int) (e:Nat→Int),j≤lb∧i=.int .i64 j∧c=.int .u64 cr∧0≤cr∧cr<4294967296∧Own wr (w.heap.size+1+1+1) (la+lb) e∧Below (w.heap.size+1+1+1) w1 wr∧
        Hid (hi (low a k*b+dg a k*b*4294967296 ^ k) (k+j)=hi (low a k*b) (k+j)+dg a k*hi b j+cr)∧
        Hid (∀ i,i<la+lb→e i=if i<k+j then dg (low a k*b+dg a k*b*4294967296 ^ k) i else dg (low a k*b) i)) (fun _ i _=>lb - (intOf i).toNat)
      case atStart=>
        refine ⟨0,0,d,Nat.zero_le _,rfl,rfl,by omega,by omega,hO,hB,?_,fun i hi=>?_⟩
        · rw [Hid,Nat.add_zero,hi_addmul,hi_zero];omega
        · rw [hd.out i hi,Nat.add_zero]
          split
          · rw [dg_addmul _ _ (by assumption)]
          · rfl
      case round=>
        obtain ⟨j,cr,e,hj,rfl,rfl,hc0,hc1,hO2,hB2,hz,he⟩:=hrel
        have hcc:=bcell hB2
        by_cases hlt2:j<lb
        · have hw:Below w.heap.size w wr:=Below.trans hG (hB2.mono (by omega))
          obtain ⟨b2,off2,rfl,hcs2⟩:=(hb.below hw).row.at_ (by omega)
          have hcell2:=hcs2 j hlt2
          have y0:=dg_nonneg b j
          have y1:=dg_lt b j
          have hs:=mul_step hz.out hc0 hc1 x0 x1
          have z0:=hs.2.2.2.2.1
          have z1:=hs.2.2.2.2.2
          have HS:=Lib.hid hs
          clear hcs2 hw hs
          have hcell3:=hO2.cell (k+j) (by omega)
          have hfree:=hO2.free (k+j)
          have e1:=he.out (k+j) (by omega)
          rw [if_neg (by omega)] at e1
          rw [e1] at hcell3
          have r0:=dg_nonneg (low a k*b) (k+j)
          have r1:=dg_lt (low a k*b) (k+j)
          clear e1
          go_wp2
          have hs:=HS.out
          go_roundw
          case rel=>
            refine ⟨j+1,_,_,by omega,by go_num,rfl,hs.2.2.1,hs.2.2.2.1,hO2.set (by omega) _,hB2.setCell (Nat.le_refl _) _,hs.2.1,fun i hi=>?_⟩
            by_cases e1:i=k+j
            · subst e1;rw [upd_same,if_pos (by omega),hs.1]
            · rw [upd_other _ _ e1,he.out i hi]
              by_cases e2:i<k+j
              · rw [if_pos e2,if_pos (by omega)]
              · rw [if_neg e2,if_neg (by omega)]
          case measure=>simp [intOf];omega
        · obtain rfl:j=lb:=by omega
          have hcell3:=hO2.cell (k+j) (by omega)
          have hfree:=hO2.free (k+j)
          have ht:=mul_top htop.out hb.nl.top hz.out hc0 hc1
          have HT:=Lib.hid ht
          clear ht
          go_wp2
          have ht:=HT.out
          go_roundw
          case rel=>
            refine ⟨k+1,_,by omega,by go_num,hO2.set (by omega) cr,hB2.setCell (Nat.le_refl _) _,fun i hi=>?_,ht.2⟩
            by_cases e1:i=k+j
            · subst e1;rw [upd_same];exact ht.1.symm
            · rw [upd_other _ _ e1,he.out i hi]
              by_cases e2:i<k+j
              · rw [if_pos e2,mul_next]
              · rw [if_neg e2,dg_zero_of htop.out (by omega),dg_zero_of ht.2 (by omega)]
          case measure=>simp [intOf];omega
    · obtain rfl:k=la:=by omega
      have hc:=bcell hB
      go_wp2_with fail
      have hlow:=low_top ha.nl.top
      have hO':=hO.congr hd.out
      have htop':=htop.out
      rw [hlow] at hO' htop'
      refine (signed_c _ _ _ _ (a*b) _ (by omega) (Nat.le_refl _) (Int.mul_nonneg ha.nl.nonneg hb.nl.nonneg) htop' hO'.row).mono ?_
      rintro e w3 ⟨⟨n,rfl,hm,hn⟩,hB3⟩
      have p3:=Gr.heap hB3 ((Below.block hB (w.heap.size+1+1) (by omega)).trans p2)
      have d0:=cells_of p3 0
      have d1:=cells_of p3 1
      have d2:=free_of p3
      have hw3:Below w.heap.size w w3:=Below.trans (Below.trans hG (hB.mono (by omega))) (Below.mono hB3 (Nat.le_trans (Below.size hG) (Below.size hB)))
      clear hc c0 c1 c2 c3 p0 p1 p2 hd htop hO hO1 hlow htop' hO'
      go_wp2
      have e0:(!s==t&&decide (0<n))=((s !=t)&&decide (0<n)):=by cases s<;>cases t<;>rfl
      have p4:=heap_setCell_at (i:=1) (.slice (some ⟨w.heap.size+1+1+1,0,none⟩) n (k+lb)) (heap_setCell_at (i:=0) (.bool (!s==t&&decide (0<n))) p3)
      have hst:=(St.setCell w3 (w.heap.size+1+1) 0 (.bool (!s==t&&decide (0<n)))).trans (St.setCell _ (w.heap.size+1+1) 1 (.slice (some ⟨w.heap.size+1+1+1,0,none⟩) n (k+lb)))
      refine bodyPost_ret (v:=.agg #[.bool (!s==t&&decide (0<n)),.slice (some ⟨w.heap.size+1+1+1,0,none⟩) n (k+lb)]) (ret_cell _ _ _ rfl rfl p4 (by kernel_rfl)) rfl ⟨⟨_,_,_,by rw [e0],(hm.kp (Gr.kp hB3)).kp (hst.kp p3 (by decide))⟩,hst.below hw3 (by omega)⟩
theorem Mag.gr {w w':World} {ao:Option Addr} {len cap:Nat} {n:Int} (h:Mag w ao len cap n) (hb:Gr w w'):Mag w' ao len cap n:=h.kp hb.kp
theorem Mag.one0 {w:World} {ao:Option Addr} {len cap:Nat} {n:Int} (_h:Mag w ao len cap n):(Value.slice ao len cap).oneCell'=true:=rfl

/-- digits,perhaps with zeros at the end -/
structure Raw (w:World) (ao:Option Addr) (m cap:Nat) (n:Int):Prop where
  cap:m≤cap
  len:m≤2000000
  nonneg:0≤n
  top:hi n m=0
  row:Row w ao m (dg n)
theorem Raw.kp {w w':World} {ao:Option Addr} {len cap:Nat} {n:Int} (h:Raw w ao len cap n) (hb:Kp w w'):Raw w' ao len cap n:=⟨h.cap,h.len,h.nonneg,h.top,h.row.kp hb⟩
theorem Raw.gr {w w':World} {ao:Option Addr} {len cap:Nat} {n:Int} (h:Raw w ao len cap n) (hb:Gr w w'):Raw w' ao len cap n:=h.kp hb.kp

theorem plus_m {w:World} {ao bo:Option Addr} {la lb ca cb:Nat} {a b:Int} (ha:Mag w ao la ca a) (hb:Mag w bo lb cb b) (hla:la≤1000000) (hlb:lb≤1000000):
    Calls Tryz.prog 93 #[.slice ao la ca,.slice bo lb cb] w fun e w'=>(∃ go n,e=.returned (.slice go n n)∧Raw w' go n n (a+b))∧Gr w w':=by
  refine (plus_c ao bo la lb ca cb a b w hla hlb ha hb).mono ?_
  rintro e w1 ⟨⟨g,n,he,hn,hO,ht⟩,hB⟩
  exact ⟨⟨_,n,he,Nat.le_refl _,by omega,by have:=ha.nl.nonneg;have:=hb.nl.nonneg;omega,ht,hO.row⟩,hB⟩
theorem minus_m {w:World} {ao bo:Option Addr} {la lb ca cb:Nat} {a b:Int} (ha:Mag w ao la ca a) (hb:Mag w bo lb cb b) (hla:la≤1000000) (hlb:lb≤1000000) (hle:b≤a):
    Calls Tryz.prog 94 #[.slice ao la ca,.slice bo lb cb] w fun e w'=>(∃ go n,e=.returned (.slice go n n)∧Raw w' go n n (a - b))∧Gr w w':=by
  refine (minus_c ao bo la lb ca cb a b w hla hlb hle ha hb).mono ?_
  rintro e w1 ⟨⟨g,he,hO,ht⟩,hB⟩
  exact ⟨⟨_,la,he,Nat.le_refl _,by omega,by omega,ht,hO.row⟩,hB⟩
theorem order_m {w:World} {ao bo:Option Addr} {la lb ca cb:Nat} {a b:Int} (ha:Mag w ao la ca a) (hb:Mag w bo lb cb b) (hla:la≤1000000) (hlb:lb≤1000000):
    Calls Tryz.prog 92 #[.slice ao la ca,.slice bo lb cb] w fun e w'=>e=.returned (.int .i64 (sgn (a - b)))∧Gr w w':=
  order_c ao bo la lb ca cb a b w (by omega) (by omega) ha hb
theorem signed_m {w:World} {ao:Option Addr} {len cap:Nat} {n:Int} {neg:Bool} (h:Raw w ao len cap n):
    Calls Tryz.prog 91 #[.bool neg,.slice ao len cap] w fun e w'=>(∃ k,e=.returned (.agg #[.bool (neg&&decide (0<k)),.slice ao k cap])∧Mag w' ao k cap n)∧Gr w w':=by
  refine (signed_c neg ao len cap n w h.len h.cap h.nonneg h.top h.row).mono ?_
  rintro e w1 ⟨⟨k,he,hm,_⟩,hB⟩
  exact ⟨⟨k,he,hm.gr hB⟩,hB⟩
theorem sgn_nonneg {z:Int} (h:0≤z):0≤sgn z:=by unfold sgn;rw [if_neg (by omega)];split<;>omega
end Go.Proofs.YthhbibpaeonecaaGreatDoor
