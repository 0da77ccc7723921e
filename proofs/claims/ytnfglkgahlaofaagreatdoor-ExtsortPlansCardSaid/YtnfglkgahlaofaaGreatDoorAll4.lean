/- Sh44, GvM, GvR, GvT, GvN, GvI in one text. -/
import Derived.Shelf.Strings.Builder1
import Derived.Shelf.Strings.Builder2
import Derived.Shelf.Strings.OnBuilder
import Derived.Shelf.Strings.Trim
import Derived.Shelf.Small.Utf8
import Derived.Shelf.Small.Strs
import Derived.Shelf.Small.Wraps
import Derived.Shelf.Strings.BuilderF
import Derived.Shelf.Strings.BuilderK
import Derived.Shelf.Utf8.RuneCount
import Derived.Shelf.Strings.Builder2Cap
import Derived.Shelf.Strconv.Atoi
import Derived.Shelf.Strconv.Itoa0
import Derived.Shelf.Strconv.Itoa1
import Derived.Shelf.LaysM
import Derived.Shelf.Strconv.Itoa2
import Derived.Shelf.Strconv.Itoa3
import Derived.Shelf.Strconv.AtoiErrFast
import Derived.Shelf.Strconv.ParseIntEmpty
import Derived.Shelf.Strconv.AtoiFail
import Derived.Shelf.Strconv.Clone
import Derived.Shelf.Strconv.SyntaxError
import Derived.Shelf.LaysC
import Derived.Shelf.Strconv.ToError
import Derived.Shelf.Strconv.AtoiErr
import Derived.Shelf.Strconv.Lower
import Derived.Shelf.Strconv.ParseUint10
import Derived.Shelf.Strconv.ParseUint10Empty
import Derived.Shelf.Strconv.ParseUint10Any
import Derived.Shelf.Strconv.ParseInt10
import Derived.Shelf.Strconv.AtoiLong
import Derived.Shelf.Strconv.AtoiInnerAll
import Derived.Shelf.Strconv.RangeError
import Derived.Shelf.Strconv.ToErrorRange
import Derived.Shelf.Strconv.AtoiAll
import Derived.Shelf.Strconv.ErrVarAll
import Derived.Shelf.Strings.Search1
import Derived.Shelf.Strings.Search2
import Derived.Shelf.Strings.Search3
import Derived.Shelf.Strings.Count
import Derived.Shelf.Strings.Shaped
import Derived.Shelf.Strings.Prefix
import Derived.Shelf.Strings.Split
import Derived.Shelf.Strings.SplitShaped
import Derived.Shelf.Unicode.Decode
import Derived.Shelf.Strings.Runes
import Derived.Shelf.Strings.RuneCount
import Derived.Shelf.Strings.AsciiSet
import Derived.Shelf.Strings.Explode
import Derived.Shelf.Bits.Mul64
import Derived.Shelf.Strings.Repeat
import Derived.Shelf.Unicode.DecodeSlow
import Derived.Shelf.Unicode.DecodeAny
import Derived.Shelf.Unicode.DecodeLast
import Derived.Shelf.Strings.FieldsFuncAny
import Derived.Shelf.Strings.FieldsFuncGrows
import Derived.Shelf.Slices.Turned
import Derived.Shelf.Slices.Clone
import Derived.Shelf.Slices.SearchI
import Derived.Shelf.SlicesG.SearchI
import Derived.Shelf.SlicesE.Clone
import Derived.Test.YtnfglkgahlaofaaGreatDoorRows
import Derived.Test.YtnfglkgahlaofaaGreatDoorAll3
import Derived.MapKept
import Derived.Laws.IdiomRangeMap
import Derived.Sort.Row
import Derived.Sort.Grow
import Derived.ChangeKeysEq
set_option linter.unusedVariables false
set_option linter.unusedSimpArgs false
namespace Go.Proofs
open Go.Shelf
open Go.RowKit Go.Lib Go.Sort
def Tryz.lays156_ren : Go.Shelf.Ren := ⟨fun | 156 => 51 | 165 => 75 | 166 => 76 | 169 => 77 | 240 => 89 | 241 => 90 | 276 => 105 | 277 => 106 | n => n, fun | 31 => 22 | 9 => 9 | 3 => 3 | 4 => 4 | 0 => 0 | 20 => 20 | 72 => 122 | 76 => 126 | 70 => 119 | 37 => 120 | 75 => 125 | 127 => 136 | 164 => 152 | 5 => 5 | 80 => 128 | n => n, fun | n => n⟩
def Tryz.lays160_ren : Go.Shelf.Ren := ⟨fun | 160 => 97 | 232 => 120 | 231 => 119 | 227 => 121 | 234 => 123 | 233 => 122 | 236 => 125 | 235 => 124 | 228 => 144 | 271 => 146 | 151 => 145 | 197 => 108 | 120 => 154 | 152 => 153 | 260 => 133 | 137 => 155 | 119 => 156 | 224 => 136 | 225 => 135 | 217 => 134 | 266 => 149 | n => n, fun | 9 => 9 | 4 => 4 | 3 => 3 | 5 => 5 | 117 => 172 | 116 => 171 | 0 => 0 | 124 => 175 | 21 => 21 | 105 => 156 | 46 => 145 | 119 => 195 | 139 => 198 | 138 => 197 | n => n, fun | 3 => 4 | 4 => 5 | n => n⟩
theorem Tryz.lays160 : Go.Proofs.Lays.n160 Tryz.prog Tryz.lays160_ren := {
  mixed := by kernel_rfl
  f119 := Tryz.func156.trans (congrArg some (by kernel_rfl))
  f120 := Tryz.func154.trans (congrArg some (by kernel_rfl))
  f137 := Tryz.func155.trans (congrArg some (by kernel_rfl))
  f151 := Tryz.func145.trans (congrArg some (by kernel_rfl))
  f152 := Tryz.func153.trans (congrArg some (by kernel_rfl))
  f160 := Tryz.func97.trans (congrArg some (by kernel_rfl))
  f197 := Tryz.func108.trans (congrArg some (by kernel_rfl))
  f217 := Tryz.func134.trans (congrArg some (by kernel_rfl))
  f224 := Tryz.func136.trans (congrArg some (by kernel_rfl))
  f225 := Tryz.func135.trans (congrArg some (by kernel_rfl))
  f227 := Tryz.func121.trans (congrArg some (by kernel_rfl))
  f228 := Tryz.func144.trans (congrArg some (by kernel_rfl))
  f231 := Tryz.func119.trans (congrArg some (by kernel_rfl))
  f232 := Tryz.func120.trans (congrArg some (by kernel_rfl))
  f233 := Tryz.func122.trans (congrArg some (by kernel_rfl))
  f234 := Tryz.func123.trans (congrArg some (by kernel_rfl))
  f235 := Tryz.func124.trans (congrArg some (by kernel_rfl))
  f236 := Tryz.func125.trans (congrArg some (by kernel_rfl))
  f260 := Tryz.func133.trans (congrArg some (by kernel_rfl))
  f266 := Tryz.func149.trans (congrArg some (by kernel_rfl))
  f271 := Tryz.func146.trans (congrArg some (by kernel_rfl))
  t0 := Tryz.underlying0
  a0 := Tryz.isAgg0
  z0 := Tryz.sizeOf0
  v0 := Tryz.zeroValue0
  t3 := Tryz.underlying3
  a3 := Tryz.isAgg3
  z3 := Tryz.sizeOf3
  v3 := Tryz.zeroValue3
  t4 := Tryz.underlying4
  a4 := Tryz.isAgg4
  z4 := Tryz.sizeOf4
  v4 := Tryz.zeroValue4
  t5 := Tryz.underlying5
  a5 := Tryz.isAgg5
  z5 := Tryz.sizeOf5
  v5 := Tryz.zeroValue5
  t9 := Tryz.underlying9
  a9 := Tryz.isAgg9
  z9 := Tryz.sizeOf9
  v9 := Tryz.zeroValue9
  t21 := Tryz.underlying21
  a21 := Tryz.isAgg21
  z21 := Tryz.sizeOf21
  v21 := Tryz.zeroValue21
  t46 := Tryz.underlying145
  a46 := Tryz.isAgg145
  z46 := Tryz.sizeOf145
  v46 := Tryz.zeroValue145
  t105 := Tryz.underlying156
  a105 := Tryz.isAgg156
  z105 := Tryz.sizeOf156
  v105 := Tryz.zeroValue156
  t116 := Tryz.underlying171
  a116 := Tryz.isAgg171
  z116 := Tryz.sizeOf171
  t117 := Tryz.underlying172
  a117 := Tryz.isAgg172
  z117 := Tryz.sizeOf172
  v117 := Tryz.zeroValue172
  t119 := Tryz.underlying195
  a119 := Tryz.isAgg195
  z119 := Tryz.sizeOf195
  t124 := Tryz.underlying175
  a124 := Tryz.isAgg175
  z124 := Tryz.sizeOf175
  v124 := Tryz.zeroValue175
  t138 := Tryz.underlying197
  a138 := Tryz.isAgg197
  z138 := Tryz.sizeOf197
  v138 := Tryz.zeroValue197
  t139 := Tryz.underlying198
  a139 := Tryz.isAgg198
  z139 := Tryz.sizeOf198
  v139 := Tryz.zeroValue198
  g3 := by kernel_rfl
  g4 := by kernel_rfl }
theorem Tryz.strings_Trim_one (s : ByteArray) (c : UInt8) (hc : c.toNat < 128) (w : World) (hs : s.size ≤ 9223372036854775807) :
    Calls Tryz.prog 97 #[.string s, .string ⟨#[c]⟩] w fun e w' => e = .returned (.string ⟨(Lib.trimB s.data.toList c).toArray⟩) ∧ (w' = w ∨ w' = w.drew) := Any.strings_Trim_one Tryz.lays160 s c hc w hs
def Tryz.lays106_ren : Go.Shelf.Ren := ⟨fun | 106 => 87 | 213 => 100 | 265 => 127 | n => n, fun | 9 => 9 | 3 => 3 | n => n, fun | n => n⟩
theorem Tryz.lays106 : Go.Proofs.Lays.n106 Tryz.prog Tryz.lays106_ren := {
  mixed := by kernel_rfl
  f106 := Tryz.func87.trans (congrArg some (by kernel_rfl))
  f213 := Tryz.func100.trans (congrArg some (by kernel_rfl))
  f265 := Tryz.func127.trans (congrArg some (by kernel_rfl))
  t3 := Tryz.underlying3
  a3 := Tryz.isAgg3
  z3 := Tryz.sizeOf3
  v3 := Tryz.zeroValue3
  t9 := Tryz.underlying9
  a9 := Tryz.isAgg9
  z9 := Tryz.sizeOf9
  v9 := Tryz.zeroValue9 }
theorem Tryz.strings_Compare (a b : ByteArray) (w : World) :
    Calls Tryz.prog 87 #[.string a, .string b] w fun e w' => e = .returned (.int .i64 (Lib.compareBytes a.data.toList b.data.toList)) ∧ w' = w := Any.strings_Compare Tryz.lays106 a b w
def Tryz.lays103_ren : Go.Shelf.Ren := ⟨fun | 103 => 98 | 210 => 126 | 206 => 143 | n => n, fun | 9 => 9 | 4 => 4 | 24 => 89 | 3 => 3 | n => n, fun | n => n⟩
theorem Tryz.lays103 : Go.Proofs.Lays.n103 Tryz.prog Tryz.lays103_ren := {
  mixed := by kernel_rfl
  f103 := Tryz.func98.trans (congrArg some (by kernel_rfl))
  f206 := Tryz.func143.trans (congrArg some (by kernel_rfl))
  f210 := Tryz.func126.trans (congrArg some (by kernel_rfl))
  t3 := Tryz.underlying3
  a3 := Tryz.isAgg3
  z3 := Tryz.sizeOf3
  v3 := Tryz.zeroValue3
  t4 := Tryz.underlying4
  a4 := Tryz.isAgg4
  z4 := Tryz.sizeOf4
  v4 := Tryz.zeroValue4
  t9 := Tryz.underlying9
  a9 := Tryz.isAgg9
  z9 := Tryz.sizeOf9
  v9 := Tryz.zeroValue9
  t24 := Tryz.underlying89
  a24 := Tryz.isAgg89
  z24 := Tryz.sizeOf89
  v24 := Tryz.zeroValue89 }
theorem Tryz.strings_CutPrefix (s p : ByteArray) (w : World) :
    Calls Tryz.prog 98 #[.string s, .string p] w fun e w' => e = .returned (.tuple #[.string ⟨(Lib.trimPrefix s.data.toList p.data.toList).toArray⟩, .bool (Lib.hasPrefix s.data.toList p.data.toList)]) ∧ w' = w := Any.strings_CutPrefix Tryz.lays103 s p w
def Tryz.laysM171_ren : Go.Shelf.Ren := ⟨fun | 171 => 50 | 243 => 74 | 246 => 88 | 283 => 101 | 284 => 102 | 285 => 103 | 286 => 104 | 129 => 129 | 317 => 128 | 318 => 130 | 319 => 131 | 320 => 132 | 337 => 147 | 338 => 148 | n => n, fun | 3 => 3 | 9 => 9 | 2 => 2 | 4 => 4 | 171 => 146 | 0 => 0 | 53 => 147 | 37 => 120 | 5 => 5 | 173 => 150 | 212 => 178 | 51 => 179 | 20 => 20 | 213 => 180 | 46 => 145 | 232 => 205 | 233 => 206 | n => n, fun | 17 => 1 | 18 => 6 | 19 => 7 | n => n⟩
theorem Tryz.laysM171 : Go.Proofs.LaysM.n171 Tryz.prog Tryz.laysM171_ren := {
  mixed := by kernel_rfl
  f129 := Tryz.func129.trans (congrArg some (by kernel_rfl))
  f171 := Tryz.func50.trans (congrArg some (by kernel_rfl))
  f243 := Tryz.func74.trans (congrArg some (by kernel_rfl))
  f246 := Tryz.func88.trans (congrArg some (by kernel_rfl))
  f283 := Tryz.func101.trans (congrArg some (by kernel_rfl))
  f284 := Tryz.func102.trans (congrArg some (by kernel_rfl))
  f285 := Tryz.func103.trans (congrArg some (by kernel_rfl))
  f286 := Tryz.func104.trans (congrArg some (by kernel_rfl))
  f317 := Tryz.func128.trans (congrArg some (by kernel_rfl))
  f318 := Tryz.func130.trans (congrArg some (by kernel_rfl))
  f319 := Tryz.func131.trans (congrArg some (by kernel_rfl))
  f320 := Tryz.func132.trans (congrArg some (by kernel_rfl))
  f337 := Tryz.func147.trans (congrArg some (by kernel_rfl))
  f338 := Tryz.func148.trans (congrArg some (by kernel_rfl))
  t0 := Tryz.underlying0
  a0 := Tryz.isAgg0
  z0 := Tryz.sizeOf0
  v0 := Tryz.zeroValue0
  t2 := Tryz.underlying2
  a2 := Tryz.isAgg2
  z2 := Tryz.sizeOf2
  v2 := Tryz.zeroValue2
  t3 := Tryz.underlying3
  a3 := Tryz.isAgg3
  z3 := Tryz.sizeOf3
  v3 := Tryz.zeroValue3
  t4 := Tryz.underlying4
  a4 := Tryz.isAgg4
  z4 := Tryz.sizeOf4
  v4 := Tryz.zeroValue4
  t5 := Tryz.underlying5
  a5 := Tryz.isAgg5
  z5 := Tryz.sizeOf5
  v5 := Tryz.zeroValue5
  t9 := Tryz.underlying9
  a9 := Tryz.isAgg9
  z9 := Tryz.sizeOf9
  v9 := Tryz.zeroValue9
  t20 := Tryz.underlying20
  a20 := Tryz.isAgg20
  z20 := Tryz.sizeOf20
  v20 := Tryz.zeroValue20
  t37 := Tryz.underlying120
  a37 := Tryz.isAgg120
  z37 := Tryz.sizeOf120
  v37 := Tryz.zeroValue120
  t46 := Tryz.underlying145
  a46 := Tryz.isAgg145
  z46 := Tryz.sizeOf145
  v46 := Tryz.zeroValue145
  t51 := Tryz.underlying179
  a51 := Tryz.isAgg179
  z51 := Tryz.sizeOf179
  v51 := Tryz.zeroValue179
  t53 := Tryz.underlying147
  a53 := Tryz.isAgg147
  z53 := Tryz.sizeOf147
  v53 := Tryz.zeroValue147
  t171 := Tryz.underlying146
  a171 := Tryz.isAgg146
  z171 := Tryz.sizeOf146
  v171 := Tryz.zeroValue146
  t173 := Tryz.underlying150
  a173 := Tryz.isAgg150
  z173 := Tryz.sizeOf150
  v173 := Tryz.zeroValue150
  t212 := Tryz.underlying178
  a212 := Tryz.isAgg178
  z212 := Tryz.sizeOf178
  v212 := Tryz.zeroValue178
  t213 := Tryz.underlying180
  a213 := Tryz.isAgg180
  z213 := Tryz.sizeOf180
  t232 := Tryz.underlying205
  a232 := Tryz.isAgg205
  z232 := Tryz.sizeOf205
  v232 := Tryz.zeroValue205
  t233 := Tryz.underlying206
  a233 := Tryz.isAgg206
  z233 := Tryz.sizeOf206
  v233 := Tryz.zeroValue206
  g17 := by kernel_rfl
  g18 := by kernel_rfl
  g19 := by kernel_rfl
  i0 := by kernel_rfl
  i2 := by kernel_rfl
  i3 := by kernel_rfl
  i4 := by kernel_rfl
  i5 := by kernel_rfl
  i9 := by kernel_rfl
  i20 := by kernel_rfl
  i37 := by kernel_rfl
  i46 := by kernel_rfl
  i51 := by kernel_rfl
  i53 := by kernel_rfl
  i171 := by kernel_rfl
  i173 := by kernel_rfl
  i212 := by kernel_rfl
  i232 := by kernel_rfl
  i233 := by kernel_rfl
  m17 := by kernel_rfl
  m18 := by kernel_rfl
  m19 := by kernel_rfl }
theorem Tryz.strconv_Itoa (n : Int) (h0 : -9223372036854775808 ≤ n) (h1 : n ≤ 9223372036854775807) (w : World) (htab : Lib.TabIs Tryz.prog w "internal/strconv.uint64pow10" .u64 Lib.pow10Tab) :
    Calls Tryz.prog 50 #[.int .i64 n] w fun e w' => e = .returned (.string ⟨(Lib.itoa n).toArray⟩) ∧ ∃ k os, w' = grow (w.drewN k) os := Any.strconv_Itoa Tryz.laysM171 n h0 h1 w htab
def Tryz.laysC172_ren : Go.Shelf.Ren := ⟨fun | 172 => 81 | 244 => 94 | 245 => 95 | 247 => 111 | 279 => 112 | 280 => 113 | 281 => 114 | 282 => 115 | 287 => 138 | 316 => 139 | 171 => 50 | 205 => 140 | 321 => 151 | 322 => 152 | 243 => 74 | 246 => 88 | 283 => 101 | 284 => 102 | 285 => 103 | 286 => 104 | 129 => 129 | 317 => 128 | 318 => 130 | 319 => 131 | 320 => 132 | 337 => 147 | 338 => 148 | n => n, fun | 9 => 9 | 3 => 3 | 75 => 125 | 76 => 126 | 4 => 4 | 5 => 5 | 167 => 159 | 37 => 120 | 0 => 0 | 85 => 160 | 2 => 2 | 168 => 162 | 53 => 147 | 175 => 182 | 46 => 145 | 210 => 186 | 127 => 136 | 145 => 203 | 143 => 201 | 21 => 21 | 171 => 146 | 173 => 150 | 212 => 178 | 51 => 179 | 20 => 20 | 213 => 180 | 232 => 205 | 233 => 206 | 80 => 128 | n => n, fun | 15 => 2 | 16 => 3 | 17 => 1 | 18 => 6 | 19 => 7 | n => n⟩
theorem Tryz.laysC172 : Go.Proofs.LaysC.n172 Tryz.prog Tryz.laysC172_ren := {
  mixed := by kernel_rfl
  f129 := Tryz.func129.trans (congrArg some (by kernel_rfl))
  f171 := Tryz.func50.trans (congrArg some (by kernel_rfl))
  f172 := Tryz.func81.trans (congrArg some (by kernel_rfl))
  f205 := Tryz.func140.trans (congrArg some (by kernel_rfl))
  f243 := Tryz.func74.trans (congrArg some (by kernel_rfl))
  f244 := Tryz.func94.trans (congrArg some (by kernel_rfl))
  f245 := Tryz.func95.trans (congrArg some (by kernel_rfl))
  f246 := Tryz.func88.trans (congrArg some (by kernel_rfl))
  f247 := Tryz.func111.trans (congrArg some (by kernel_rfl))
  f279 := Tryz.func112.trans (congrArg some (by kernel_rfl))
  f280 := Tryz.func113.trans (congrArg some (by kernel_rfl))
  f281 := Tryz.func114.trans (congrArg some (by kernel_rfl))
  f282 := Tryz.func115.trans (congrArg some (by kernel_rfl))
  f283 := Tryz.func101.trans (congrArg some (by kernel_rfl))
  f284 := Tryz.func102.trans (congrArg some (by kernel_rfl))
  f285 := Tryz.func103.trans (congrArg some (by kernel_rfl))
  f286 := Tryz.func104.trans (congrArg some (by kernel_rfl))
  f287 := Tryz.func138.trans (congrArg some (by kernel_rfl))
  f316 := Tryz.func139.trans (congrArg some (by kernel_rfl))
  f317 := Tryz.func128.trans (congrArg some (by kernel_rfl))
  f318 := Tryz.func130.trans (congrArg some (by kernel_rfl))
  f319 := Tryz.func131.trans (congrArg some (by kernel_rfl))
  f320 := Tryz.func132.trans (congrArg some (by kernel_rfl))
  f321 := Tryz.func151.trans (congrArg some (by kernel_rfl))
  f322 := Tryz.func152.trans (congrArg some (by kernel_rfl))
  f337 := Tryz.func147.trans (congrArg some (by kernel_rfl))
  f338 := Tryz.func148.trans (congrArg some (by kernel_rfl))
  t0 := Tryz.underlying0
  a0 := Tryz.isAgg0
  z0 := Tryz.sizeOf0
  v0 := Tryz.zeroValue0
  t2 := Tryz.underlying2
  a2 := Tryz.isAgg2
  z2 := Tryz.sizeOf2
  v2 := Tryz.zeroValue2
  t3 := Tryz.underlying3
  a3 := Tryz.isAgg3
  z3 := Tryz.sizeOf3
  v3 := Tryz.zeroValue3
  t4 := Tryz.underlying4
  a4 := Tryz.isAgg4
  z4 := Tryz.sizeOf4
  v4 := Tryz.zeroValue4
  t5 := Tryz.underlying5
  a5 := Tryz.isAgg5
  z5 := Tryz.sizeOf5
  v5 := Tryz.zeroValue5
  t9 := Tryz.underlying9
  a9 := Tryz.isAgg9
  z9 := Tryz.sizeOf9
  v9 := Tryz.zeroValue9
  t20 := Tryz.underlying20
  a20 := Tryz.isAgg20
  z20 := Tryz.sizeOf20
  v20 := Tryz.zeroValue20
  t21 := Tryz.underlying21
  a21 := Tryz.isAgg21
  z21 := Tryz.sizeOf21
  v21 := Tryz.zeroValue21
  t37 := Tryz.underlying120
  a37 := Tryz.isAgg120
  z37 := Tryz.sizeOf120
  v37 := Tryz.zeroValue120
  t46 := Tryz.underlying145
  a46 := Tryz.isAgg145
  z46 := Tryz.sizeOf145
  v46 := Tryz.zeroValue145
  t51 := Tryz.underlying179
  a51 := Tryz.isAgg179
  z51 := Tryz.sizeOf179
  v51 := Tryz.zeroValue179
  t53 := Tryz.underlying147
  a53 := Tryz.isAgg147
  z53 := Tryz.sizeOf147
  v53 := Tryz.zeroValue147
  t75 := Tryz.underlying125
  a75 := Tryz.isAgg125
  z75 := Tryz.sizeOf125
  v75 := Tryz.zeroValue125
  t76 := Tryz.underlying126
  a76 := Tryz.isAgg126
  z76 := Tryz.sizeOf126
  v76 := Tryz.zeroValue126
  t85 := Tryz.underlying160
  a85 := Tryz.isAgg160
  z85 := Tryz.sizeOf160
  v85 := Tryz.zeroValue160
  t127 := Tryz.underlying136
  a127 := Tryz.isAgg136
  z127 := Tryz.sizeOf136
  v127 := Tryz.zeroValue136
  t143 := Tryz.underlying201
  a143 := Tryz.isAgg201
  z143 := Tryz.sizeOf201
  v143 := Tryz.zeroValue201
  t145 := Tryz.underlying203
  a145 := Tryz.isAgg203
  z145 := Tryz.sizeOf203
  v145 := Tryz.zeroValue203
  t167 := Tryz.underlying159
  a167 := Tryz.isAgg159
  z167 := Tryz.sizeOf159
  v167 := Tryz.zeroValue159
  t168 := Tryz.underlying162
  a168 := Tryz.isAgg162
  z168 := Tryz.sizeOf162
  v168 := Tryz.zeroValue162
  t171 := Tryz.underlying146
  a171 := Tryz.isAgg146
  z171 := Tryz.sizeOf146
  v171 := Tryz.zeroValue146
  t173 := Tryz.underlying150
  a173 := Tryz.isAgg150
  z173 := Tryz.sizeOf150
  v173 := Tryz.zeroValue150
  t175 := Tryz.underlying182
  a175 := Tryz.isAgg182
  z175 := Tryz.sizeOf182
  v175 := Tryz.zeroValue182
  t210 := Tryz.underlying186
  a210 := Tryz.isAgg186
  z210 := Tryz.sizeOf186
  v210 := Tryz.zeroValue186
  t212 := Tryz.underlying178
  a212 := Tryz.isAgg178
  z212 := Tryz.sizeOf178
  v212 := Tryz.zeroValue178
  t213 := Tryz.underlying180
  a213 := Tryz.isAgg180
  z213 := Tryz.sizeOf180
  t232 := Tryz.underlying205
  a232 := Tryz.isAgg205
  z232 := Tryz.sizeOf205
  v232 := Tryz.zeroValue205
  t233 := Tryz.underlying206
  a233 := Tryz.isAgg206
  z233 := Tryz.sizeOf206
  v233 := Tryz.zeroValue206
  g15 := by kernel_rfl
  g16 := by kernel_rfl
  g17 := by kernel_rfl
  g18 := by kernel_rfl
  g19 := by kernel_rfl
  t80 := Tryz.underlying128
  a80 := Tryz.isAgg128
  z80 := Tryz.sizeOf128
  v80 := Tryz.zeroValue128
  i0 := by kernel_rfl
  i2 := by kernel_rfl
  i3 := by kernel_rfl
  i4 := by kernel_rfl
  i5 := by kernel_rfl
  i9 := by kernel_rfl
  i20 := by kernel_rfl
  i21 := by kernel_rfl
  i37 := by kernel_rfl
  i46 := by kernel_rfl
  i51 := by kernel_rfl
  i53 := by kernel_rfl
  i75 := by kernel_rfl
  i76 := by kernel_rfl
  i80 := by kernel_rfl
  i85 := by kernel_rfl
  i127 := by kernel_rfl
  i143 := by kernel_rfl
  i145 := by kernel_rfl
  i167 := by kernel_rfl
  i168 := by kernel_rfl
  i171 := by kernel_rfl
  i173 := by kernel_rfl
  i175 := by kernel_rfl
  i210 := by kernel_rfl
  i212 := by kernel_rfl
  i232 := by kernel_rfl
  i233 := by kernel_rfl
  m15 := by kernel_rfl
  m16 := by kernel_rfl
  m17 := by kernel_rfl
  m18 := by kernel_rfl
  m19 := by kernel_rfl
  c0 := by kernel_rfl
  c2 := by kernel_rfl
  c3 := by kernel_rfl
  c4 := by kernel_rfl
  c5 := by kernel_rfl
  c9 := by kernel_rfl
  c20 := by kernel_rfl
  c21 := by kernel_rfl
  c37 := by kernel_rfl
  c46 := by kernel_rfl
  c51 := by kernel_rfl
  c53 := by kernel_rfl
  c75 := by kernel_rfl
  c76 := by kernel_rfl
  c80 := by kernel_rfl
  c85 := by kernel_rfl
  c127 := by kernel_rfl
  c143 := by kernel_rfl
  c145 := by kernel_rfl
  c167 := by kernel_rfl
  c168 := by kernel_rfl
  c171 := by kernel_rfl
  c173 := by kernel_rfl
  c175 := by kernel_rfl
  c210 := by kernel_rfl
  c212 := by kernel_rfl
  c213 := by kernel_rfl
  c232 := by kernel_rfl
  c233 := by kernel_rfl }
theorem Tryz.strconv_Atoi_ok (s : ByteArray) (hmax : s.size ≤ 9223372036854775806) (v : Int) (h : Lib.atoiAll s.data.toList = .ok v) (w : World) :
    Calls Tryz.prog 81 #[.string s] w fun e w' => e = .returned (.tuple #[.int .i64 v, .nilIface]) ∧ (w' = w ∨ ∃ t, w' = Lib.bytesWorld w 5 t) := Any.strconv_Atoi_ok Tryz.laysC172 s hmax v h w
theorem Tryz.strconv_Atoi_syntax (s : ByteArray) (hlim : s.size ≤ 281474976710656) (h : (∀ v, Lib.atoiAll s.data.toList ≠ .ok v) ∧ Lib.atoiAll s.data.toList ≠ .range) (ev : Value) (w : World) (hv : w.cell? ⟨2, 0, none⟩ = some ev) (hev : ev = .nilIface ∨ ∃ te pe, ev = .iface te pe) :
    Calls Tryz.prog 81 #[.string s] w fun e w' => ∃ N, e = .returned (.tuple #[.int .i64 (0), .iface 162 (.pointer (some ⟨N, 0, none⟩))]) ∧ w.heap.size ≤ N ∧ w'.heap[N]? = some (.cells #[.string ⟨#[65, 116, 111, 105]⟩, .string s, ev] 186 (0, 0)) ∧ Below w.heap.size w w' := Any.strconv_Atoi_syntax Tryz.laysC172 s hlim (by cases e : Lib.atoiAll s.data.toList <;> first | rfl | exact absurd e (h.1 _) | exact absurd e h.2) ev w hv hev
theorem Tryz.strconv_Atoi_range (s : ByteArray) (hlim : s.size ≤ 281474976710656) (h : Lib.atoiAll s.data.toList = .range) (ev : Value) (w : World) (hv : w.cell? ⟨3, 0, none⟩ = some ev) (hev : ev = .nilIface ∨ ∃ te pe, ev = .iface te pe) :
    Calls Tryz.prog 81 #[.string s] w fun e w' => ∃ N, e = .returned (.tuple #[.int .i64 (Lib.atoiSat s.data.toList), .iface 162 (.pointer (some ⟨N, 0, none⟩))]) ∧ w.heap.size ≤ N ∧ w'.heap[N]? = some (.cells #[.string ⟨#[65, 116, 111, 105]⟩, .string s, ev] 186 (0, 0)) ∧ Below w.heap.size w w' := Any.strconv_Atoi_range Tryz.laysC172 s hlim h ev w hv hev
def Tryz.lays146_ren : Go.Shelf.Ren := ⟨fun | 146 => 54 | 221 => 80 | 268 => 91 | 138 => 92 | 143 => 93 | 195 => 107 | 197 => 108 | 218 => 109 | 219 => 110 | 260 => 133 | 217 => 134 | 225 => 135 | 224 => 136 | 267 => 137 | 266 => 149 | 314 => 150 | n => n, fun | 9 => 9 | 31 => 22 | 3 => 3 | 4 => 4 | 0 => 0 | 105 => 156 | 21 => 21 | 5 => 5 | 46 => 145 | 119 => 195 | 139 => 198 | 138 => 197 | 146 => 188 | 51 => 179 | n => n, fun | 1 => 0 | 3 => 4 | 4 => 5 | n => n⟩
theorem Tryz.lays146 : Go.Proofs.Lays.n146 Tryz.prog Tryz.lays146_ren := {
  mixed := by kernel_rfl
  f138 := Tryz.func92.trans (congrArg some (by kernel_rfl))
  f143 := Tryz.func93.trans (congrArg some (by kernel_rfl))
  f146 := Tryz.func54.trans (congrArg some (by kernel_rfl))
  f195 := Tryz.func107.trans (congrArg some (by kernel_rfl))
  f197 := Tryz.func108.trans (congrArg some (by kernel_rfl))
  f217 := Tryz.func134.trans (congrArg some (by kernel_rfl))
  f218 := Tryz.func109.trans (congrArg some (by kernel_rfl))
  f219 := Tryz.func110.trans (congrArg some (by kernel_rfl))
  f221 := Tryz.func80.trans (congrArg some (by kernel_rfl))
  f224 := Tryz.func136.trans (congrArg some (by kernel_rfl))
  f225 := Tryz.func135.trans (congrArg some (by kernel_rfl))
  f260 := Tryz.func133.trans (congrArg some (by kernel_rfl))
  f266 := Tryz.func149.trans (congrArg some (by kernel_rfl))
  f267 := Tryz.func137.trans (congrArg some (by kernel_rfl))
  f268 := Tryz.func91.trans (congrArg some (by kernel_rfl))
  f314 := Tryz.func150.trans (congrArg some (by kernel_rfl))
  t0 := Tryz.underlying0
  a0 := Tryz.isAgg0
  z0 := Tryz.sizeOf0
  v0 := Tryz.zeroValue0
  t3 := Tryz.underlying3
  a3 := Tryz.isAgg3
  z3 := Tryz.sizeOf3
  v3 := Tryz.zeroValue3
  t4 := Tryz.underlying4
  a4 := Tryz.isAgg4
  z4 := Tryz.sizeOf4
  v4 := Tryz.zeroValue4
  t5 := Tryz.underlying5
  a5 := Tryz.isAgg5
  z5 := Tryz.sizeOf5
  v5 := Tryz.zeroValue5
  t9 := Tryz.underlying9
  a9 := Tryz.isAgg9
  z9 := Tryz.sizeOf9
  v9 := Tryz.zeroValue9
  t21 := Tryz.underlying21
  a21 := Tryz.isAgg21
  z21 := Tryz.sizeOf21
  v21 := Tryz.zeroValue21
  t31 := Tryz.underlying22
  a31 := Tryz.isAgg22
  z31 := Tryz.sizeOf22
  v31 := Tryz.zeroValue22
  t46 := Tryz.underlying145
  a46 := Tryz.isAgg145
  z46 := Tryz.sizeOf145
  v46 := Tryz.zeroValue145
  t51 := Tryz.underlying179
  a51 := Tryz.isAgg179
  z51 := Tryz.sizeOf179
  v51 := Tryz.zeroValue179
  t105 := Tryz.underlying156
  a105 := Tryz.isAgg156
  z105 := Tryz.sizeOf156
  v105 := Tryz.zeroValue156
  t119 := Tryz.underlying195
  a119 := Tryz.isAgg195
  z119 := Tryz.sizeOf195
  t138 := Tryz.underlying197
  a138 := Tryz.isAgg197
  z138 := Tryz.sizeOf197
  v138 := Tryz.zeroValue197
  t139 := Tryz.underlying198
  a139 := Tryz.isAgg198
  z139 := Tryz.sizeOf198
  v139 := Tryz.zeroValue198
  t146 := Tryz.underlying188
  a146 := Tryz.isAgg188
  z146 := Tryz.sizeOf188
  v146 := Tryz.zeroValue188
  g1 := by kernel_rfl
  g3 := by kernel_rfl
  g4 := by kernel_rfl }
theorem Tryz.strings_Split (s sep : ByteArray) (m : Int) (w : World) (hs : s.size < 4294967281) (hm : w.cell? ⟨0, 0, none⟩ = some (.int .i64 m)) (h1 : 1 ≤ sep.size) :
    Calls Tryz.prog 54 #[.string s, .string sep] w fun e w' =>
      e = .returned (.slice (some ⟨w.heap.size, 0, none⟩) (Lib.countB s sep + 1) (Lib.countB s sep + 1)) ∧ w' = w.alloc (.cells ((Lib.splitB sep 0 (Lib.countB s sep) s).map Value.string).toArray 9) := Any.strings_Split Tryz.lays146 (by kernel_rfl) s sep m w hs hm h1
def Tryz.lays105_ren : Go.Shelf.Ren := ⟨fun | 105 => 96 | 212 => 116 | 99 => 117 | 165 => 75 | 166 => 76 | 170 => 118 | 169 => 77 | 263 => 141 | 264 => 142 | 206 => 143 | 240 => 89 | 241 => 90 | 276 => 105 | 277 => 106 | n => n, fun | 9 => 9 | 3 => 3 | 4 => 4 | 20 => 20 | 0 => 0 | 46 => 145 | 109 => 165 | 5 => 5 | 72 => 122 | 76 => 126 | 51 => 179 | 146 => 188 | 53 => 147 | 148 => 190 | 70 => 119 | 37 => 120 | 75 => 125 | 127 => 136 | 164 => 152 | 80 => 128 | n => n, fun | n => n⟩
theorem Tryz.lays105 : Go.Proofs.Lays.n105 Tryz.prog Tryz.lays105_ren := {
  mixed := by kernel_rfl
  f99 := Tryz.func117.trans (congrArg some (by kernel_rfl))
  f105 := Tryz.func96.trans (congrArg some (by kernel_rfl))
  f165 := Tryz.func75.trans (congrArg some (by kernel_rfl))
  f166 := Tryz.func76.trans (congrArg some (by kernel_rfl))
  f169 := Tryz.func77.trans (congrArg some (by kernel_rfl))
  f170 := Tryz.func118.trans (congrArg some (by kernel_rfl))
  f206 := Tryz.func143.trans (congrArg some (by kernel_rfl))
  f212 := Tryz.func116.trans (congrArg some (by kernel_rfl))
  f240 := Tryz.func89.trans (congrArg some (by kernel_rfl))
  f241 := Tryz.func90.trans (congrArg some (by kernel_rfl))
  f263 := Tryz.func141.trans (congrArg some (by kernel_rfl))
  f264 := Tryz.func142.trans (congrArg some (by kernel_rfl))
  f276 := Tryz.func105.trans (congrArg some (by kernel_rfl))
  f277 := Tryz.func106.trans (congrArg some (by kernel_rfl))
  t0 := Tryz.underlying0
  a0 := Tryz.isAgg0
  z0 := Tryz.sizeOf0
  v0 := Tryz.zeroValue0
  t3 := Tryz.underlying3
  a3 := Tryz.isAgg3
  z3 := Tryz.sizeOf3
  v3 := Tryz.zeroValue3
  t4 := Tryz.underlying4
  a4 := Tryz.isAgg4
  z4 := Tryz.sizeOf4
  v4 := Tryz.zeroValue4
  t5 := Tryz.underlying5
  a5 := Tryz.isAgg5
  z5 := Tryz.sizeOf5
  v5 := Tryz.zeroValue5
  t9 := Tryz.underlying9
  a9 := Tryz.isAgg9
  z9 := Tryz.sizeOf9
  v9 := Tryz.zeroValue9
  t20 := Tryz.underlying20
  a20 := Tryz.isAgg20
  z20 := Tryz.sizeOf20
  v20 := Tryz.zeroValue20
  t37 := Tryz.underlying120
  a37 := Tryz.isAgg120
  z37 := Tryz.sizeOf120
  v37 := Tryz.zeroValue120
  t46 := Tryz.underlying145
  a46 := Tryz.isAgg145
  z46 := Tryz.sizeOf145
  v46 := Tryz.zeroValue145
  t51 := Tryz.underlying179
  a51 := Tryz.isAgg179
  z51 := Tryz.sizeOf179
  v51 := Tryz.zeroValue179
  t53 := Tryz.underlying147
  a53 := Tryz.isAgg147
  z53 := Tryz.sizeOf147
  v53 := Tryz.zeroValue147
  t70 := Tryz.underlying119
  a70 := Tryz.isAgg119
  z70 := Tryz.sizeOf119
  v70 := Tryz.zeroValue119
  t72 := Tryz.underlying122
  a72 := Tryz.isAgg122
  z72 := Tryz.sizeOf122
  v72 := Tryz.zeroValue122
  t75 := Tryz.underlying125
  a75 := Tryz.isAgg125
  z75 := Tryz.sizeOf125
  v75 := Tryz.zeroValue125
  t76 := Tryz.underlying126
  a76 := Tryz.isAgg126
  z76 := Tryz.sizeOf126
  v76 := Tryz.zeroValue126
  t109 := Tryz.underlying165
  a109 := Tryz.isAgg165
  z109 := Tryz.sizeOf165
  v109 := Tryz.zeroValue165
  t127 := Tryz.underlying136
  a127 := Tryz.isAgg136
  z127 := Tryz.sizeOf136
  v127 := Tryz.zeroValue136
  t146 := Tryz.underlying188
  a146 := Tryz.isAgg188
  z146 := Tryz.sizeOf188
  v146 := Tryz.zeroValue188
  t148 := Tryz.underlying190
  a148 := Tryz.isAgg190
  z148 := Tryz.sizeOf190
  v148 := Tryz.zeroValue190
  t164 := Tryz.underlying152
  a164 := Tryz.isAgg152
  z164 := Tryz.sizeOf152
  v164 := Tryz.zeroValue152 }
theorem Tryz.Builder_Extra_105 : Builder.Extra Tryz.prog Tryz.lays105_ren := {
  sizeBuilder := by kernel_rfl
  liesBuilder := by kernel_rfl
  t5 := Tryz.underlying5
  a5 := Tryz.isAgg5
  z5 := Tryz.sizeOf5
  v5 := Tryz.zeroValue5
  infoByte := by kernel_rfl
  cellsByte := by kernel_rfl
  sizeByte := by kernel_rfl
  neB5 := by decide }
theorem Tryz.strings_Repeat (s : ByteArray) (c : Nat) (w : World) (hc : c ≤ 9223372036854775807) (hlen : s.size * c ≤ 140737488355328) :
    Calls Tryz.prog 96 #[.string s, .int .i64 c] w fun e w' => e = .returned (.string ⟨(Lib.repeatL s.data.toList c).toArray⟩) ∧ Below w.heap.size w w' := Any.strings_Repeat Tryz.lays105 Tryz.Builder_Extra_105 s c w hc hlen
def Tryz.lays229_ren : Go.Shelf.Ren := ⟨fun | 229 => 78 | n => n, fun | 9 => 9 | 40 => 130 | 31 => 22 | 152 => 137 | 3 => 3 | 0 => 0 | 4 => 4 | 21 => 21 | 154 => 139 | n => n, fun | n => n⟩
theorem Tryz.lays229 : Go.Proofs.Lays.n229 Tryz.prog Tryz.lays229_ren := {
  mixed := by kernel_rfl
  f229 := Tryz.func78.trans (congrArg some (by kernel_rfl))
  t0 := Tryz.underlying0
  a0 := Tryz.isAgg0
  z0 := Tryz.sizeOf0
  v0 := Tryz.zeroValue0
  t3 := Tryz.underlying3
  a3 := Tryz.isAgg3
  z3 := Tryz.sizeOf3
  v3 := Tryz.zeroValue3
  t4 := Tryz.underlying4
  a4 := Tryz.isAgg4
  z4 := Tryz.sizeOf4
  v4 := Tryz.zeroValue4
  t9 := Tryz.underlying9
  a9 := Tryz.isAgg9
  z9 := Tryz.sizeOf9
  v9 := Tryz.zeroValue9
  t21 := Tryz.underlying21
  a21 := Tryz.isAgg21
  z21 := Tryz.sizeOf21
  v21 := Tryz.zeroValue21
  t31 := Tryz.underlying22
  a31 := Tryz.isAgg22
  z31 := Tryz.sizeOf22
  v31 := Tryz.zeroValue22
  t40 := Tryz.underlying130
  a40 := Tryz.isAgg130
  z40 := Tryz.sizeOf130
  v40 := Tryz.zeroValue130
  t152 := Tryz.underlying137
  a152 := Tryz.isAgg137
  z152 := Tryz.sizeOf137
  v152 := Tryz.zeroValue137
  t154 := Tryz.underlying139
  a154 := Tryz.isAgg139
  z154 := Tryz.sizeOf139
  v154 := Tryz.zeroValue139 }
theorem Tryz.strings_FieldsFunc_grows (g : Nat) (lb : Array Value) (eg : ∀ args w, (callFunc g args).run Tryz.prog w = .ok (.enter g args) w) (p : Nat → Bool) (s : ByteArray) (w : World) (hs : s.size ≤ 4294967296) (hp : PredGrows Tryz.prog g lb p w) :
    Calls Tryz.prog 78 #[.string s, .func (.func g) #[] lb] w fun e w' => ∃ A, e = .returned (.slice (some ⟨A, 0, none⟩) (Lib.goFieldsP p s).length (Lib.goFieldsP p s).length) ∧ w.heap.size ≤ A ∧
      w'.ownsRow w.heap.size 9 1 (.slice (some ⟨A, 0, none⟩) (Lib.goFieldsP p s).length (Lib.goFieldsP p s).length) (Lib.goFieldsP p s).length ((Lib.goFieldsP p s).map Value.string) ∧ Below w.heap.size w w' := Any.strings_FieldsFunc_grows Tryz.lays229 g lb eg p s w hs hp (by kernel_rfl) (by kernel_rfl)
end Go.Proofs

namespace Go.GV
open Go.RowKit Go.MapKept
structure MapK {κ : Type} (P : Program) (kt : TypeId) (f : κ → Value) : Prop where
  ex : ∃ d, P.underlying kt = some d ∧ (∀ a, IsKey d (f a)) ∧ ∀ a b, f a = f b → a = b
theorem mapK_i {P : Program} {kt : TypeId} (h : P.underlying kt = some (.int .i64)) : MapK P kt vI := ⟨_, h, fun _ => rfl, fun a b h => by simpa using h⟩
def Born (es : Array MapEntry) (clock : Nat) : Prop := (es.toList.map (·.born)).Nodup ∧ ∀ e ∈ es.toList, e.born < clock
theorem Born.nil : Born #[] 0 := ⟨List.nodup_nil, fun _ h => by simp at h⟩
theorem Born.push {es : Array MapEntry} {clock : Nat} (h : Born es clock) (k v : Value) : Born (es.push ⟨k, v, clock⟩) (clock + 1) := by
  refine ⟨?_, fun e he => ?_⟩
  · rw [Array.toList_push, List.map_append, List.nodup_append]
    refine ⟨h.1, by simp, fun a ha b hb => ?_⟩
    simp only [List.map_cons, List.map_nil, List.mem_singleton] at hb
    subst hb
    obtain ⟨e, he, rfl⟩ := List.mem_map.1 ha
    have := h.2 e he
    omega
  · rw [Array.toList_push, List.mem_append, List.mem_singleton] at he
    rcases he with he | rfl
    · have := h.2 e he; omega
    · exact Nat.lt_succ_self _
theorem Born.modify {es : Array MapEntry} {clock : Nat} (h : Born es clock) (i : Nat) (g : MapEntry → MapEntry) (hg : ∀ e, (g e).born = e.born) : Born (es.modify i g) clock := by
  have e1 : (es.modify i g).toList.map (·.born) = es.toList.map (·.born) := by
    apply List.ext_getElem?
    intro j
    simp only [Array.toList_modify, List.getElem?_map, List.getElem?_modify]
    by_cases hij : i = j
    · subst hij
      cases es.toList[i]? <;> simp [hg]
    · simp [hij]
  refine ⟨by rw [e1]; exact h.1, fun e he => ?_⟩
  have : e.born ∈ es.toList.map (·.born) := by rw [← e1]; exact List.mem_map.2 ⟨e, he, rfl⟩
  obtain ⟨e', he', h2⟩ := List.mem_map.1 this
  have := h.2 e' he'
  omega
def Ent.mp {κ : Type} (f : κ → Value) (b : Nat) (l : List (κ × Value)) : Ent :=
  ⟨some b, fun o => ∃ es clock, o = some (.map es clock) ∧ es.toList.map (fun e => (e.key, e.val)) = l.map (fun p => (f p.1, p.2)) ∧ Born es clock⟩
def lk {κ : Type} [DecidableEq κ] : List (κ × Value) → κ → Option Value
  | [], _ => none
  | (a, v) :: l, k => if k = a then some v else lk l k
def upd {κ : Type} [DecidableEq κ] : List (κ × Value) → κ → Value → List (κ × Value)
  | [], k, v => [(k, v)]
  | (a, u) :: l, k, v => if k = a then (k, v) :: l else (a, u) :: upd l k v
section
variable {κ : Type} [DecidableEq κ] {a k : κ} {v u : Value} {l : List (κ × Value)} {r : Option Value}
theorem upd_new (h : lk l k = none) : upd l k v = l ++ [(k, v)] := by
  induction l with
  | nil => rfl
  | cons p l ih =>
    obtain ⟨a, u⟩ := p
    unfold lk at h
    split at h
    · cases h
    · rename_i hne
      unfold upd
      rw [if_neg hne, ih h]; rfl
theorem find_lk {d : TypeDesc} {f : κ → Value} (hd : ∀ a, IsKey d (f a)) (hi : ∀ a b, f a = f b → a = b) (k : κ) : ∀ (es : List MapEntry) (l : List (κ × Value)) (i : Nat), es.map (fun e => (e.key, e.val)) = l.map (fun p => (f p.1, p.2)) →
    (Instr.findNow d (f k) es i = some none ∧ lk l k = none) ∨ ∃ j v, Instr.findNow d (f k) es i = some (some (i + j, v)) ∧ lk l k = some v ∧ (∃ e, es[j]? = some e ∧ e.key = f k) ∧ ∀ u, (upd l k u).map (fun p => (f p.1, p.2)) = (l.map (fun p => (f p.1, p.2))).set j (f k, u)
  | [], [], i, _ => .inl ⟨rfl, rfl⟩
  | [], _ :: _, i, h => by cases h
  | _ :: _, [], i, h => by cases h
  | e :: es, (a, v) :: l, i, h => by
    simp only [List.map_cons, List.cons.injEq, Prod.mk.injEq] at h
    obtain ⟨⟨h1, h2⟩, h3⟩ := h
    obtain ⟨r, hr, hiff⟩ := sameNow_of_keys (hd k) (h1 ▸ hd a : IsKey d e.key)
    cases r with
    | true =>
      have hk : k = a := hi _ _ ((hiff.1 rfl).trans h1)
      refine .inr ⟨0, v, by simp [Instr.findNow, hr, h2], by rw [lk, if_pos hk], ⟨e, rfl, (hiff.1 rfl).symm⟩, fun u => ?_⟩
      simp [upd, if_pos hk]
    | false =>
      have hne : k ≠ a := fun q => by have := hiff.2 (by rw [h1, q]); cases this
      rcases find_lk hd hi k es l (i + 1) h3 with ⟨x1, x2⟩ | ⟨j, u, x1, x2, x3, x4⟩
      · exact .inl ⟨by simp [Instr.findNow, hr, x1], by rw [lk, if_neg hne, x2]⟩
      · refine .inr ⟨j + 1, u, by simp [Instr.findNow, hr, x1]; omega, by rw [lk, if_neg hne, x2], by simpa using x3, fun u => ?_⟩
        rw [upd, if_neg hne, List.map_cons, x4 u]; rfl
end
theorem mp_at {κ : Type} {f : κ → Value} {b : Nat} {l : List (κ × Value)} {w : World} (h : (Ent.mp f b l).at w) : ∃ es clock, w.heap[b]? = some (.map es clock) ∧ es.toList.map (fun e => (e.key, e.val)) = l.map (fun p => (f p.1, p.2)) ∧ Born es clock := by
  simpa [Ent.at, Ent.mp] using h.1
section
variable {E : Env} {P : Program} {x y z : Operand} {dst : Option Nat} {t t' ty u : TypeId} {pos : String} {af : Array Edge} {g : Option (Nat × Bool)} {κ : Type} [DecidableEq κ]
theorem run_lookup_mp {f : κ → Value} {b : Nat} {l : List (κ × Value)} {w : World} {kt et : TypeId} {zv : Value} {k : κ} (hat : (Ent.mp f b l).at w) (ht : P.underlying t = some (.map kt et)) (hK : MapK P kt f) (hz : zeroIs P et = some zv) (ok : Bool) :
    (Instr.lookup t (.map (some b)) (f k) ok).run P w = .ok (if ok then .tuple #[(lk l k).getD zv, .bool (lk l k).isSome] else (lk l k).getD zv) w := by
  obtain ⟨es, clock, hb, hes, hborn⟩ := mp_at hat
  obtain ⟨d, hd, hkey, hinj⟩ := hK.ex
  unfold Instr.lookup
  simp only [Sem.run_bind, run_underlying ht, Result.andThen_ok, MapKept.run_getObj_map hb, Sem.run_pure, MapKept.run_checkKey hd (hkey k)]
  rcases find_lk hkey hinj k es.toList l 0 hes with ⟨h1, h2⟩ | ⟨j, v, h1, h2, _⟩
  · simp only [MapKept.run_findKey hd h1, Result.andThen_ok, Sem.run_bind, run_zeroValue_is hz, Sem.run_pure, h2]
    cases ok <;> rfl
  · simp only [MapKept.run_findKey hd h1, Result.andThen_ok, Sem.run_bind, Sem.run_pure, h2]
    cases ok <;> rfl
theorem x_lookup {S : List Nat} {w0 : World} {L : List Ent} (j : Nat) {f : κ → Value} {b : Nat} {l : List (κ × Value)} {kt et : TypeId} {zv : Value} {k : κ} {r : Option Value} (hx : ev E x = .map (some b)) (hy : ev E y = f k) (hj : L[j]? = some (Ent.mp f b l)) (ht : P.underlying t = some (.map kt et)) (hK : MapK P kt f) (hz : zeroIs P et = some zv) (hr : lk l k = r) :
    ∀ w, St S w0 w L → (execOp (ev E) ⟨dst, .lookup t x y false, ty, pos, af, g⟩).run P w = .ok (.value (r.getD zv)) w := by
  intro w hS
  subst hr
  simp only [execOp, hx, hy]
  show Sem.run P (do let v ← Instr.lookup t (.map (some b)) (f k) false; pure (Next.value v)) w = _
  rw [Sem.run_bind, run_lookup_mp (k := k) (hS.mem hj) ht hK hz false]; rfl
theorem x_lookup_v {S : List Nat} {w0 : World} {L : List Ent} (j : Nat) {f : κ → Value} {b : Nat} {l : List (κ × Value)} {kt et : TypeId} {zv v : Value} {k : κ} {r : Option Value} (hx : ev E x = .map (some b)) (hy : ev E y = f k) (hj : L[j]? = some (Ent.mp f b l)) (ht : P.underlying t = some (.map kt et)) (hK : MapK P kt f) (hz : zeroIs P et = some zv) (hr : lk l k = r) (hv : r.getD zv = v) :
    ∀ w, St S w0 w L → (execOp (ev E) ⟨dst, .lookup t x y false, ty, pos, af, g⟩).run P w = .ok (.value v) w := by
  subst hv; exact x_lookup j hx hy hj ht hK hz hr
omit [DecidableEq κ] in
theorem O_makeMap {S : List Nat} {w0 : World} {L : List Ent} {K : Value → List Ent → Prop} (f : κ → Value) (k : ∀ b, K (.map (some b)) (Ent.mp f b [] :: L)) : OpJ P S w0 E L ⟨dst, .makeMap t none, ty, pos, af, g⟩ K := by
  intro w hS
  refine ⟨_, _, _, .inl ?_, hS.alloc (.map #[] 0) (Ent.mp f w.heap.size []) rfl ⟨_, _, rfl, rfl, Born.nil⟩, k w.heap.size⟩
  have hr : (Instr.makeMap t none).run P w = .ok (.map (some w.heap.size)) (w.alloc (.map #[] 0)) := by
    simp [Instr.makeMap, newObj, Sem.run]
  simp only [execOp]
  show Sem.run P (do let v ← Instr.makeMap t none; pure (Next.value v)) w = _
  rw [Sem.run_bind, hr]; rfl
theorem run_update_mp {f : κ → Value} {b : Nat} {l : List (κ × Value)} {w : World} {kt et : TypeId} {k : κ} {v : Value} (hat : (Ent.mp f b l).at w) (ht : P.underlying t = some (.map kt et)) (hK : MapK P kt f) :
    ∃ w', (Instr.mapUpdate t (.map (some b)) (f k) v).run P w = .ok () w' ∧ Fr [b] w w' ∧ (Ent.mp f b (upd l k v)).prop w'.heap[b]? := by
  obtain ⟨es, clock, hb, hes, hborn⟩ := mp_at hat
  obtain ⟨d, hd, hkey, hinj⟩ := hK.ex
  have fr : ∀ o, Fr [b] w { w with heap := w.heap.setIfInBounds b o } := fun o => ⟨rfl, rfl, rfl, by simp, fun i hi hn => (MapKept.heap_set (o' := o) hb).2 i (by simpa using hn)⟩
  unfold Instr.mapUpdate
  simp only [Sem.run_bind, run_underlying ht, Result.andThen_ok, MapKept.run_getObj_map hb, MapKept.run_checkKey hd (hkey k)]
  rcases find_lk hkey hinj k es.toList l 0 hes with ⟨h1, h2⟩ | ⟨j, v', h1, h2, ⟨e, he, hek⟩, h4⟩
  · simp only [MapKept.run_findKey hd h1, Result.andThen_ok, MapKept.run_setObj_map _ hb]
    refine ⟨_, rfl, fr _, _, _, (MapKept.heap_set hb).1, ?_, hborn.push _ _⟩
    rw [upd_new h2]
    simp [hes]
  · have he' : es[j]? = some e := by simpa using he
    simp only [MapKept.run_findKey hd h1, Result.andThen_ok, Nat.zero_add, he', Option.map_some, Option.getD_some, hek, MapKept.run_keyThatStays (hkey k), MapKept.run_setObj_map _ hb, Sem.run_bind]
    refine ⟨_, rfl, fr _, _, _, (MapKept.heap_set hb).1, ?_, hborn.modify _ _ fun _ => rfl⟩
    rw [h4 v, ← hes]
    apply List.ext_getElem?
    intro i
    simp only [Array.toList_modify, List.getElem?_map, List.getElem?_modify, List.getElem?_set, List.length_map]
    by_cases hij : j = i
    · subst hij
      have hlt : j < es.toList.length := (List.getElem?_eq_some_iff.1 he).1
      have hlt' : j < es.size := by simpa using hlt
      simp [hlt']
    · simp [hij]
theorem O_insert {S : List Nat} {w0 : World} {L : List Ent} {K : Value → List Ent → Prop} (j : Nat) {f : κ → Value} {b : Nat} {l : List (κ × Value)} {kt et : TypeId} {k : κ} {v : Value} (l' : List (κ × Value)) (L' : List Ent) (hx : ev E x = .map (some b)) (hy : ev E y = f k) (hz : ev E z = v) (hj : L[j]? = some (Ent.mp f b l)) (ht : P.underlying t = some (.map kt et)) (hK : MapK P kt f)
    (hl : upd l k v = l') (hL : L.set j (Ent.mp f b l') = L') (kk : K undef L') : OpJ P S w0 E L ⟨dst, .insert t x y z, ty, pos, af, g⟩ K := by
  intro w hS
  subst hl; subst hL
  obtain ⟨w', hr, hF, hB⟩ := run_update_mp (P := P) (t := t) (k := k) (v := v) (hS.mem hj) ht hK
  refine ⟨undef, _, w', .inr ⟨?_, rfl⟩, hS.writeAt hj b rfl rfl hF hB, kk⟩
  simp only [execOp, hx, hy, hz]
  show Sem.run P (do Instr.mapUpdate t (.map (some b)) (f k) v; pure Next.skip) w = _
  rw [Sem.run_bind, hr]; rfl
end
section
variable {E : Env} {P : Program} {w : World} {x y : Operand} {dst : Option Nat} {t t' ty : TypeId} {pos : String} {af : Array Edge} {g : Option (Nat × Bool)}
def isFn : Value → Bool
  | .func .. => true
  | _ => false
theorem run_eqIn_nil {p q : Array TypeId} {v : Bool} (d : Nat) (ht : P.underlying t = some (.func p q v)) : (Op.equalIn (d + 1) t .nilFunc .nilFunc).run P w = .ok true w := by
  unfold Op.equalIn
  simp only [Sem.run_bind, run_underlying ht, Result.andThen_ok]; rfl
theorem run_eq_nil {p q : Array TypeId} {v : Bool} (ht : P.underlying t = some (.func p q v)) : (Op.equal t .nilFunc .nilFunc).run P w = .ok true w := run_eqIn_nil 9999 ht
end
end Go.GV

namespace Go.GV
open Go.RowKit Go.MapKept
def Ent.mx (b : Nat) (es : Array MapEntry) (clock : Nat) : Ent := ⟨some b, fun o => o = some (.map es clock)⟩
def Ent.rng {κ : Type} (f : κ → Value) (b bm : Nat) (es : Array MapEntry) (clock : Nat) (left : List (κ × Value)) (cur : Option (κ × Value)) : Ent :=
  ⟨some b, fun o => ∃ seen, o = some (.mapIter (some bm) clock seen clock) ∧ (leftOf es seen).toList.map (fun e => (e.key, e.val)) = left.map (fun p => (f p.1, p.2)) ∧ ∀ p, cur = some p → ∃ e ∈ es.toList, seen.back? = some e.born ∧ e.key = f p.1 ∧ e.val = p.2⟩
def Holds' {κ : Type} (f : κ → Value) (es : Array MapEntry) (l : List (κ × Value)) : Prop := es.toList.map (fun e => (e.key, e.val)) = l.map (fun p => (f p.1, p.2))
section
variable {E : Env} {P : Program} {x : Operand} {dst : Option Nat} {t ty : TypeId} {pos : String} {af : Array Edge} {g : Option (Nat × Bool)} {κ : Type}
end
def wpV (a : Nat) (o : Nat) : Value := .pointer (some ⟨a, o, none⟩)
def putV : List Value → List Nat → List Int → Nat → List Value
  | cs, [], _, _ => cs
  | cs, o :: os, vs, i => putV (cs.set o (vI (vs.getD i 0))) os vs (i + 1)
section
variable {E : Env} {P : Program} {x y : Operand} {dst : Option Nat} {t ty : TypeId} {pos : String} {af : Array Edge} {g : Option (Nat × Bool)}
end
def kT {κ : Type} (s : κ) : κ × Value := (s, vB true)
section
variable {κ : Type} [DecidableEq κ]
def addK (l : List κ) (s : κ) : List κ := if s ∈ l then l else l ++ [s]
def hasK (l : List κ) (s : κ) : Bool := decide (s ∈ l)
end
end Go.GV

namespace Go.GV
theorem lt_ {p : Prop} (h : p := by first | omega | (simp only [List.length_append, List.length_cons, List.length_nil]; omega) | (simp; omega) | (simp_all; omega) | (simp_all; done)) : p := h
theorem hy_ {p : Prop} (h : p := by first | omega | assumption | (simp only [List.length_append, List.length_cons, List.length_nil]; omega) | (simp only [sub, List.length_drop, List.length_take]; omega) | (simp; omega) | (simp_all; done) | (simp_all; omega) | decide) : p := h
theorem ix_nat {v : Value} {i : Int} {k : Nat} (hv : v = vI i) (h : i = (k : Int)) : v = .int .i64 (k : Int) := by rw [hv, h]
theorem st_all {cs vs : List Value} {n : Nat} (h : Nat.ble cs.length (0 + n) = true) : cs.take 0 ++ (vs ++ cs.drop (0 + n)) = vs := by
  rw [List.drop_of_length_le (Nat.le_of_ble_eq_true h), List.append_nil]; rfl
section
variable {n : Dim} {S : List Nat} {w0 : World} {P : Program} {ops : Array Oper} {Q : Post} {E : Env} {L Lg Lu : List Ent} {us : List Nat} {fuel : Nat} {listed : Array Bool}
theorem jr_ {o : Oper} {rest : List Oper} (v : Value) (h : JO P n S w0 ops rest Q (put E o.dst v) L) (hfit : fit n E o = true := by rfl) (hw : wants ops E o := by exact trivial) (hr : ∀ w, St S w0 w L → (execOp (ev E) o).run P w = .ok (.value v) w := by exact fun _ _ => rfl) : JO P n S w0 ops (o :: rest) Q E L := JO_read v hfit hw hr h
theorem js_ {o : Oper} {rest : List Oper} (v : Value) (hr : ∀ {w}, (execOp (ev E) o).run P w = .ok (.value v) w) (h : JO P n S w0 ops rest Q (put E o.dst v) L) (hfit : fit n E o = true := by rfl) (hw : wants ops E o := by exact trivial) : JO P n S w0 ops (o :: rest) Q E L := JO_read v hfit hw (fun _ _ => hr) h
theorem jg_ {o : Oper} {rest : List Oper} {t b : Bool} {j : Nat} (hg : t = b) (v : Value) (hr : ∀ {w}, (execOp (ev E) o).run P w = .ok (.value v) w) (h : JO P n S w0 ops rest Q (put E o.dst v) L) (hfit : fit n E o = true := by rfl) (h1 : o.guard = some (j, b) := by rfl) (h2 : gval ops E j = some t := by rfl) : JO P n S w0 ops (o :: rest) Q E L := JO_read v hfit (by unfold wants; rw [h1]; exact ⟨t, h2, hg⟩) (fun _ _ => hr) h
theorem sh_ {o : Oper} {rest : List Oper} {t b : Bool} {j : Nat} (hg : t = !b) (h : JO P n S w0 ops rest Q (put E o.dst undef) L) (hd : dstOk n o.dst = true := by rfl) (h1 : o.guard = some (j, b) := by rfl) (h2 : gval ops E j = some t := by rfl) : JO P n S w0 ops (o :: rest) Q E L := JO_shun hd (by unfold shuns; rw [h1]; exact ⟨t, h2, hg⟩) h
theorem jt_ (i : Nat) {o : Oper} (v : Value) (hi : ops[i]? = some o) (hv : ∀ w, St S w0 w Lg → (execOp (ev E) o).run P w = .ok (.value v) w) (h : JA P n S w0 ops Q Lg us Lu fuel (listed.setIfInBounds i true) (put E o.dst v) L)
    (hs : Region.noSelect ops = true := by kernel_rfl) (hf : Region.free .any ops listed i = true := by kernel_rfl) (hr : (Region.ready .any ops listed).contains i = true := by kernel_rfl) (hu : us.contains i = false := by rfl)
    (hQ : ∀ c a w, Q (.panic c) (a.put o.dst v) w → Q (.panic c) a w := by exact fun _ _ _ h => h) (hfit : fit n E o = true := by rfl) (hw : wants ops E o := by exact trivial) : JA P n S w0 ops Q Lg us Lu (fuel + 1) listed E L := JA_take i v hi hs hf hr hu hQ hfit hw hv h
end
end Go.GV

namespace Go.GV
open Go.RowKit Go.Sort
def Lown (L : List Ent) : List Nat := L.filterMap Ent.own
theorem lown_mem {L : List Ent} : ∀ b ∈ Lown L, ∃ e ∈ L, e.own = some b := fun b h => by
  obtain ⟨e, he, ho⟩ := List.mem_filterMap.1 h
  exact ⟨e, he, ho⟩
theorem lown_in {L : List Ent} : ∀ e ∈ L, ∀ b, e.own = some b → b ∈ Lown L := fun e he _ ho => List.mem_filterMap.2 ⟨e, he, ho⟩
section
variable {α : Type} [Inhabited α] {f : α → Value} {w : World} {e : TypeId} {c : Nat} {xs : List α}
omit [Inhabited α] in
theorem row_cap {A : Option Addr} (h : (Ent.row (.slice A xs.length c) e 1 xs.length (xs.map f)).at w) : xs.length ≤ c ∨ (A = none ∧ xs = [] ∧ c = 0) := by
  rcases (row_owns h).2 with ⟨h1, h2⟩ | ⟨g, cap, cur, h1, _, ho, h3, h4, h5, h6⟩
  · simp only [Value.slice.injEq] at h1
    exact .inr ⟨h1.1, List.length_eq_zero_iff.1 h2, h1.2.2⟩
  · cases h1
    exact .inl h3
end
def subA (A : Option Addr) (cap lo sz : Nat) : Option Addr := if cap = lo then A else A.map (·.add (lo * sz))
theorem cells_take {w : World} {A : Option Addr} {cs : List Value} (h : Cells w A cs) (n : Nat) : Cells w A (cs.take n) := fun j v hv => by
  rw [List.getElem?_take] at hv
  split at hv
  · exact h j v hv
  · cases hv
theorem cells_sub {w : World} {A : Option Addr} {cs : List Value} (h : Cells w A cs) (cap lo n sz : Nat) (hn : n = 0 ∨ lo < cap) : Cells w (subA A cap lo sz) ((cs.drop (lo * sz)).take (n * sz)) := by
  rcases hn with rfl | hn
  · rw [Nat.zero_mul, List.take_zero]; intro j v hv; simp at hv
  · unfold subA
    rw [if_neg (by omega)]
    refine cells_take (fun j v hv => ?_) _
    rw [List.getElem?_drop] at hv
    obtain ⟨a, ha, hc⟩ := h _ v hv
    subst ha
    refine ⟨a.add (lo * sz), rfl, ?_⟩
    rw [← hc]
    congr 1
    by_cases h1 : lo * sz = 0 <;> by_cases h2 : j = 0 <;> simp [Addr.add, h1, h2, Nat.add_assoc]
section
variable {E : Env} {P : Program} {w : World} {x y : Operand} {dst : Option Nat} {t t' ty e : TypeId} {pos : String} {af : Array Edge} {g : Option (Nat × Bool)}
theorem x_subrow {A : Option Addr} {len cap n lo hi : Nat} {olo ohi : Option Operand} (hx : ev E x = .slice A len cap) (ht : P.underlying t = some (.slice e)) (hn : sizeIs P e = some n) (hlo : olo.map (ev E) = some (vI (lo : Int)) ∨ (olo.map (ev E) = none ∧ lo = 0)) (hhi : ohi.map (ev E) = some (vI (hi : Int)) ∨ (ohi.map (ev E) = none ∧ hi = len))
    (h1 : lo ≤ hi) (h2 : hi ≤ cap) : (execOp (ev E) ⟨dst, .slice t x olo ohi none, ty, pos, af, g⟩).run P w = .ok (.value (.slice (subA A cap lo n) (hi - lo) (cap - lo))) w := by
  have e1 : (0 : Int) ≤ (hi : Int) ∧ (hi : Int) ≤ ((cap : Nat) : Int) := by omega
  have e2 : (0 : Int) ≤ (lo : Int) ∧ (lo : Int) ≤ ((hi : Nat) : Int) := by omega
  have hr : (Instr.sliceAt t (.slice A len cap) (olo.map (ev E)) (ohi.map (ev E)) none).run P w = .ok (.slice (subA A cap lo n) (hi - lo) (cap - lo)) w := by
    rcases hlo with hlo | ⟨hlo, rfl⟩ <;> rcases hhi with hhi | ⟨hhi, rfl⟩ <;> rw [hlo, hhi]
    · simp only [Instr.sliceAt, Instr.slice, Instr.sliceBounds, Instr.sliceBound, asIntOf, run_underlying ht, run_sizeOf_is hn, Sem.run_bind, Sem.run_pure, Result.andThen_ok, if_pos e1, if_pos e2, Int.toNat_natCast]; rfl
    · simp only [Instr.sliceAt, Instr.slice, Instr.sliceBounds, Instr.sliceBound, asIntOf, run_underlying ht, run_sizeOf_is hn, Sem.run_bind, Sem.run_pure, Result.andThen_ok, if_pos e2, Int.toNat_natCast]; rfl
    · simp only [Instr.sliceAt, Instr.slice, Instr.sliceBounds, Instr.sliceBound, asIntOf, run_underlying ht, run_sizeOf_is hn, Sem.run_bind, Sem.run_pure, Result.andThen_ok, if_pos e1, Int.toNat_natCast]; rfl
    · simp only [Instr.sliceAt, Instr.slice, Instr.sliceBounds, run_underlying ht, run_sizeOf_is hn, Sem.run_bind, Sem.run_pure, Result.andThen_ok]; rfl
  simp only [execOp, hx]
  show Sem.run P (do let v ← Instr.sliceAt t (.slice A len cap) (olo.map (ev E)) (ohi.map (ev E)) none; pure (Next.value v)) w = _
  rw [Sem.run_bind, hr]; rfl
theorem row_le {A : Option Addr} {n c sz : Nat} {cs : List Value} (h : (Ent.row (.slice A n c) e sz n cs).at w) : n ≤ c := by
  rcases (row_owns h).2 with ⟨h1, h2⟩ | ⟨g, cap, cur, h1, _, ho, h3, h4, h5, h6⟩
  · omega
  · cases h1; exact h3
theorem x_subrow_row {S : List Nat} {w0 : World} {L : List Ent} (j : Nat) {A : Option Addr} {len cap n sz lo hi : Nat} {cs : List Value} {te : TypeId} {olo ohi : Option Operand} (hj : L[j]? = some (Ent.row (.slice A len cap) te sz len cs)) (hx : ev E x = .slice A len cap) (ht : P.underlying t = some (.slice e)) (hn : sizeIs P e = some n) (hlo : olo.map (ev E) = some (vI (lo : Int)) ∨ (olo.map (ev E) = none ∧ lo = 0)) (hhi : ohi.map (ev E) = some (vI (hi : Int)) ∨ (ohi.map (ev E) = none ∧ hi = len))
    (h1 : lo ≤ hi) (h2 : hi ≤ len) : ∀ w, St S w0 w L → (execOp (ev E) ⟨dst, .slice t x olo ohi none, ty, pos, af, g⟩).run P w = .ok (.value (.slice (subA A cap lo n) (hi - lo) (cap - lo))) w := fun w hS => by
  have := row_le (hS.mem hj)
  exact x_subrow hx ht hn hlo hhi h1 (by omega)
end
end Go.GV

namespace Go.GV
open Go.RowKit
def methIs (P : Program) (t : TypeId) (name : String) : Option FuncId := match P.info? t with
  | some i => match i.methods.find? (·.name == name) with
    | some m => if m.path.toList.isEmpty then (match m.func, P.underlying t with
      | some (f, false), some (.struct _) => some f
      | _, _ => none) else none
    | none => none
  | none => none
section
variable {E : Env} {P : Program} {w : World} {x : Operand} {dst : Option Nat} {t ty : TypeId} {pos : String} {af : Array Edge} {g : Option (Nat × Bool)}
end
end Go.GV
