/- Sh44, GvM, GvR, GvT, GvN, GvI, GvK in one text. -/
import Derived.Shelf.Strings.Builder1
import Derived.Shelf.Strings.Builder2
import Derived.Shelf.Strings.Trim
import Derived.Shelf.Small.Utf8
import Derived.Shelf.Small.Strs
import Derived.Shelf.Small.Wraps
import Derived.Shelf.Strings.BuilderF
import Derived.Shelf.Strings.BuilderK
import Derived.Shelf.Utf8.RuneCount
import Derived.Shelf.Strings.Builder2Cap
import Derived.Shelf.Strconv.Itoa0
import Derived.Shelf.Strconv.Itoa1
import Derived.Shelf.LaysM
import Derived.Shelf.Strconv.Itoa2
import Derived.Shelf.Strconv.Itoa3
import Derived.Shelf.Strings.Search1
import Derived.Shelf.Strings.Search2
import Derived.Shelf.Strings.Search3
import Derived.Shelf.Strings.Count
import Derived.Shelf.Strings.Shaped
import Derived.Shelf.Strings.Prefix
import Derived.Shelf.Strings.Split
import Derived.Shelf.Strings.SplitShaped
import Derived.Shelf.Unicode.Decode
import Derived.Shelf.Strings.Runes
import Derived.Shelf.Strings.RuneCount
import Derived.Shelf.Strings.AsciiSet
import Derived.Shelf.Strings.Explode
import Derived.Shelf.Bits.Mul64
import Derived.Shelf.Strings.Repeat
import Derived.Shelf.Unicode.DecodeSlow
import Derived.Shelf.Unicode.DecodeAny
import Derived.Shelf.Unicode.DecodeLast
import Derived.Shelf.Strings.BuilderCap
import Derived.Shelf.Slices.Equal
import Derived.Shelf.Slices.Clone
import Derived.Shelf.Slices.SearchI
import Derived.Shelf.Slices.Empties2
import Derived.Shelf.SlicesG.SearchI
import Derived.Shelf.SlicesE.Clone
import Derived.Shelf.SlicesG.Cmp
import Derived.Test.YtmacopacmpgieaaGreatDoorRows
import Derived.Test.YtmacopacmpgieaaGreatDoorTopSort3
import Derived.MapKept
import Derived.Laws.IdiomRangeMap
import Derived.Sort.Row
import Derived.Sort.Grow
import Derived.ChangeKeysEq
set_option linter.unusedVariables false
set_option linter.unusedSimpArgs false
namespace Go.Proofs
open Go.Shelf
open Go.RowKit Go.Lib Go.Sort
def Tryz.lays160_ren : Go.Shelf.Ren := ⟨fun | 160 => 88 | 232 => 103 | 231 => 102 | 227 => 104 | 234 => 106 | 233 => 105 | 236 => 108 | 235 => 107 | 228 => 115 | 271 => 117 | 151 => 116 | 197 => 86 | 120 => 119 | 152 => 118 | 260 => 101 | 137 => 120 | 119 => 121 | 224 => 99 | 225 => 98 | 217 => 97 | 266 => 113 | n => n, fun | 9 => 9 | 4 => 4 | 3 => 3 | 5 => 5 | 117 => 147 | 116 => 146 | 0 => 0 | 124 => 150 | 21 => 21 | 105 => 133 | 46 => 87 | 119 => 153 | 139 => 156 | 138 => 155 | n => n, fun | 3 => 2 | 4 => 3 | n => n⟩
theorem Tryz.lays160 : Go.Proofs.Lays.n160 Tryz.prog Tryz.lays160_ren := {
  mixed := by kernel_rfl
  f119 := Tryz.func121.trans (congrArg some (by kernel_rfl))
  f120 := Tryz.func119.trans (congrArg some (by kernel_rfl))
  f137 := Tryz.func120.trans (congrArg some (by kernel_rfl))
  f151 := Tryz.func116.trans (congrArg some (by kernel_rfl))
  f152 := Tryz.func118.trans (congrArg some (by kernel_rfl))
  f160 := Tryz.func88.trans (congrArg some (by kernel_rfl))
  f197 := Tryz.func86.trans (congrArg some (by kernel_rfl))
  f217 := Tryz.func97.trans (congrArg some (by kernel_rfl))
  f224 := Tryz.func99.trans (congrArg some (by kernel_rfl))
  f225 := Tryz.func98.trans (congrArg some (by kernel_rfl))
  f227 := Tryz.func104.trans (congrArg some (by kernel_rfl))
  f228 := Tryz.func115.trans (congrArg some (by kernel_rfl))
  f231 := Tryz.func102.trans (congrArg some (by kernel_rfl))
  f232 := Tryz.func103.trans (congrArg some (by kernel_rfl))
  f233 := Tryz.func105.trans (congrArg some (by kernel_rfl))
  f234 := Tryz.func106.trans (congrArg some (by kernel_rfl))
  f235 := Tryz.func107.trans (congrArg some (by kernel_rfl))
  f236 := Tryz.func108.trans (congrArg some (by kernel_rfl))
  f260 := Tryz.func101.trans (congrArg some (by kernel_rfl))
  f266 := Tryz.func113.trans (congrArg some (by kernel_rfl))
  f271 := Tryz.func117.trans (congrArg some (by kernel_rfl))
  t0 := Tryz.underlying0
  a0 := Tryz.isAgg0
  z0 := Tryz.sizeOf0
  v0 := Tryz.zeroValue0
  t3 := Tryz.underlying3
  a3 := Tryz.isAgg3
  z3 := Tryz.sizeOf3
  v3 := Tryz.zeroValue3
  t4 := Tryz.underlying4
  a4 := Tryz.isAgg4
  z4 := Tryz.sizeOf4
  v4 := Tryz.zeroValue4
  t5 := Tryz.underlying5
  a5 := Tryz.isAgg5
  z5 := Tryz.sizeOf5
  v5 := Tryz.zeroValue5
  t9 := Tryz.underlying9
  a9 := Tryz.isAgg9
  z9 := Tryz.sizeOf9
  v9 := Tryz.zeroValue9
  t21 := Tryz.underlying21
  a21 := Tryz.isAgg21
  z21 := Tryz.sizeOf21
  v21 := Tryz.zeroValue21
  t46 := Tryz.underlying87
  a46 := Tryz.isAgg87
  z46 := Tryz.sizeOf87
  v46 := Tryz.zeroValue87
  t105 := Tryz.underlying133
  a105 := Tryz.isAgg133
  z105 := Tryz.sizeOf133
  v105 := Tryz.zeroValue133
  t116 := Tryz.underlying146
  a116 := Tryz.isAgg146
  z116 := Tryz.sizeOf146
  t117 := Tryz.underlying147
  a117 := Tryz.isAgg147
  z117 := Tryz.sizeOf147
  v117 := Tryz.zeroValue147
  t119 := Tryz.underlying153
  a119 := Tryz.isAgg153
  z119 := Tryz.sizeOf153
  t124 := Tryz.underlying150
  a124 := Tryz.isAgg150
  z124 := Tryz.sizeOf150
  v124 := Tryz.zeroValue150
  t138 := Tryz.underlying155
  a138 := Tryz.isAgg155
  z138 := Tryz.sizeOf155
  v138 := Tryz.zeroValue155
  t139 := Tryz.underlying156
  a139 := Tryz.isAgg156
  z139 := Tryz.sizeOf156
  v139 := Tryz.zeroValue156
  g3 := by kernel_rfl
  g4 := by kernel_rfl }
theorem Tryz.strings_Trim_one (s : ByteArray) (c : UInt8) (hc : c.toNat < 128) (w : World) (hs : s.size ≤ 9223372036854775807) :
    Calls Tryz.prog 88 #[.string s, .string ⟨#[c]⟩] w fun e w' => e = .returned (.string ⟨(Lib.trimB s.data.toList c).toArray⟩) ∧ (w' = w ∨ w' = w.drew) := Any.strings_Trim_one Tryz.lays160 s c hc w hs
def Tryz.lays106_ren : Go.Shelf.Ren := ⟨fun | 106 => 77 | 213 => 91 | 265 => 110 | n => n, fun | 9 => 9 | 3 => 3 | n => n, fun | n => n⟩
theorem Tryz.lays106 : Go.Proofs.Lays.n106 Tryz.prog Tryz.lays106_ren := {
  mixed := by kernel_rfl
  f106 := Tryz.func77.trans (congrArg some (by kernel_rfl))
  f213 := Tryz.func91.trans (congrArg some (by kernel_rfl))
  f265 := Tryz.func110.trans (congrArg some (by kernel_rfl))
  t3 := Tryz.underlying3
  a3 := Tryz.isAgg3
  z3 := Tryz.sizeOf3
  v3 := Tryz.zeroValue3
  t9 := Tryz.underlying9
  a9 := Tryz.isAgg9
  z9 := Tryz.sizeOf9
  v9 := Tryz.zeroValue9 }
theorem Tryz.strings_Compare (a b : ByteArray) (w : World) :
    Calls Tryz.prog 77 #[.string a, .string b] w fun e w' => e = .returned (.int .i64 (Lib.compareBytes a.data.toList b.data.toList)) ∧ w' = w := Any.strings_Compare Tryz.lays106 a b w
def Tryz.lays103_ren : Go.Shelf.Ren := ⟨fun | 103 => 89 | 210 => 109 | 206 => 66 | n => n, fun | 9 => 9 | 4 => 4 | 24 => 68 | 3 => 3 | n => n, fun | n => n⟩
theorem Tryz.lays103 : Go.Proofs.Lays.n103 Tryz.prog Tryz.lays103_ren := {
  mixed := by kernel_rfl
  f103 := Tryz.func89.trans (congrArg some (by kernel_rfl))
  f206 := Tryz.func66.trans (congrArg some (by kernel_rfl))
  f210 := Tryz.func109.trans (congrArg some (by kernel_rfl))
  t3 := Tryz.underlying3
  a3 := Tryz.isAgg3
  z3 := Tryz.sizeOf3
  v3 := Tryz.zeroValue3
  t4 := Tryz.underlying4
  a4 := Tryz.isAgg4
  z4 := Tryz.sizeOf4
  v4 := Tryz.zeroValue4
  t9 := Tryz.underlying9
  a9 := Tryz.isAgg9
  z9 := Tryz.sizeOf9
  v9 := Tryz.zeroValue9
  t24 := Tryz.underlying68
  a24 := Tryz.isAgg68
  z24 := Tryz.sizeOf68
  v24 := Tryz.zeroValue68 }
theorem Tryz.strings_CutPrefix (s p : ByteArray) (w : World) :
    Calls Tryz.prog 89 #[.string s, .string p] w fun e w' => e = .returned (.tuple #[.string ⟨(Lib.trimPrefix s.data.toList p.data.toList).toArray⟩, .bool (Lib.hasPrefix s.data.toList p.data.toList)]) ∧ w' = w := Any.strings_CutPrefix Tryz.lays103 s p w
def Tryz.laysM171_ren : Go.Shelf.Ren := ⟨fun | 171 => 19 | 243 => 44 | 246 => 63 | 283 => 78 | 284 => 79 | 285 => 80 | 286 => 81 | 129 => 93 | 317 => 92 | 318 => 94 | 319 => 95 | 320 => 96 | 337 => 111 | 338 => 112 | n => n, fun | 3 => 3 | 9 => 9 | 2 => 2 | 4 => 4 | 171 => 125 | 0 => 0 | 53 => 113 | 37 => 91 | 5 => 5 | 173 => 128 | 212 => 141 | 51 => 110 | 20 => 20 | 213 => 142 | 46 => 87 | 232 => 158 | 233 => 159 | n => n, fun | 17 => 0 | 18 => 4 | 19 => 5 | n => n⟩
theorem Tryz.laysM171 : Go.Proofs.LaysM.n171 Tryz.prog Tryz.laysM171_ren := {
  mixed := by kernel_rfl
  f129 := Tryz.func93.trans (congrArg some (by kernel_rfl))
  f171 := Tryz.func19.trans (congrArg some (by kernel_rfl))
  f243 := Tryz.func44.trans (congrArg some (by kernel_rfl))
  f246 := Tryz.func63.trans (congrArg some (by kernel_rfl))
  f283 := Tryz.func78.trans (congrArg some (by kernel_rfl))
  f284 := Tryz.func79.trans (congrArg some (by kernel_rfl))
  f285 := Tryz.func80.trans (congrArg some (by kernel_rfl))
  f286 := Tryz.func81.trans (congrArg some (by kernel_rfl))
  f317 := Tryz.func92.trans (congrArg some (by kernel_rfl))
  f318 := Tryz.func94.trans (congrArg some (by kernel_rfl))
  f319 := Tryz.func95.trans (congrArg some (by kernel_rfl))
  f320 := Tryz.func96.trans (congrArg some (by kernel_rfl))
  f337 := Tryz.func111.trans (congrArg some (by kernel_rfl))
  f338 := Tryz.func112.trans (congrArg some (by kernel_rfl))
  t0 := Tryz.underlying0
  a0 := Tryz.isAgg0
  z0 := Tryz.sizeOf0
  v0 := Tryz.zeroValue0
  t2 := Tryz.underlying2
  a2 := Tryz.isAgg2
  z2 := Tryz.sizeOf2
  v2 := Tryz.zeroValue2
  t3 := Tryz.underlying3
  a3 := Tryz.isAgg3
  z3 := Tryz.sizeOf3
  v3 := Tryz.zeroValue3
  t4 := Tryz.underlying4
  a4 := Tryz.isAgg4
  z4 := Tryz.sizeOf4
  v4 := Tryz.zeroValue4
  t5 := Tryz.underlying5
  a5 := Tryz.isAgg5
  z5 := Tryz.sizeOf5
  v5 := Tryz.zeroValue5
  t9 := Tryz.underlying9
  a9 := Tryz.isAgg9
  z9 := Tryz.sizeOf9
  v9 := Tryz.zeroValue9
  t20 := Tryz.underlying20
  a20 := Tryz.isAgg20
  z20 := Tryz.sizeOf20
  v20 := Tryz.zeroValue20
  t37 := Tryz.underlying91
  a37 := Tryz.isAgg91
  z37 := Tryz.sizeOf91
  v37 := Tryz.zeroValue91
  t46 := Tryz.underlying87
  a46 := Tryz.isAgg87
  z46 := Tryz.sizeOf87
  v46 := Tryz.zeroValue87
  t51 := Tryz.underlying110
  a51 := Tryz.isAgg110
  z51 := Tryz.sizeOf110
  v51 := Tryz.zeroValue110
  t53 := Tryz.underlying113
  a53 := Tryz.isAgg113
  z53 := Tryz.sizeOf113
  v53 := Tryz.zeroValue113
  t171 := Tryz.underlying125
  a171 := Tryz.isAgg125
  z171 := Tryz.sizeOf125
  v171 := Tryz.zeroValue125
  t173 := Tryz.underlying128
  a173 := Tryz.isAgg128
  z173 := Tryz.sizeOf128
  v173 := Tryz.zeroValue128
  t212 := Tryz.underlying141
  a212 := Tryz.isAgg141
  z212 := Tryz.sizeOf141
  v212 := Tryz.zeroValue141
  t213 := Tryz.underlying142
  a213 := Tryz.isAgg142
  z213 := Tryz.sizeOf142
  t232 := Tryz.underlying158
  a232 := Tryz.isAgg158
  z232 := Tryz.sizeOf158
  v232 := Tryz.zeroValue158
  t233 := Tryz.underlying159
  a233 := Tryz.isAgg159
  z233 := Tryz.sizeOf159
  v233 := Tryz.zeroValue159
  g17 := by kernel_rfl
  g18 := by kernel_rfl
  g19 := by kernel_rfl
  i0 := by kernel_rfl
  i2 := by kernel_rfl
  i3 := by kernel_rfl
  i4 := by kernel_rfl
  i5 := by kernel_rfl
  i9 := by kernel_rfl
  i20 := by kernel_rfl
  i37 := by kernel_rfl
  i46 := by kernel_rfl
  i51 := by kernel_rfl
  i53 := by kernel_rfl
  i171 := by kernel_rfl
  i173 := by kernel_rfl
  i212 := by kernel_rfl
  i232 := by kernel_rfl
  i233 := by kernel_rfl
  m17 := by kernel_rfl
  m18 := by kernel_rfl
  m19 := by kernel_rfl }
theorem Tryz.strconv_Itoa (n : Int) (h0 : -9223372036854775808 ≤ n) (h1 : n ≤ 9223372036854775807) (w : World) (htab : Lib.TabIs Tryz.prog w "internal/strconv.uint64pow10" .u64 Lib.pow10Tab) :
    Calls Tryz.prog 19 #[.int .i64 n] w fun e w' => e = .returned (.string ⟨(Lib.itoa n).toArray⟩) ∧ ∃ k os, w' = grow (w.drewN k) os := Any.strconv_Itoa Tryz.laysM171 n h0 h1 w htab
def Tryz.lays144_ren : Go.Shelf.Ren := ⟨fun | 144 => 54 | 143 => 69 | 219 => 84 | 217 => 97 | 225 => 98 | 224 => 99 | 267 => 100 | 266 => 113 | 314 => 114 | n => n, fun | 9 => 9 | 4 => 4 | 3 => 3 | 5 => 5 | 46 => 87 | 146 => 111 | 51 => 110 | n => n, fun | 1 => 1 | n => n⟩
theorem Tryz.lays144 : Go.Proofs.Lays.n144 Tryz.prog Tryz.lays144_ren := {
  mixed := by kernel_rfl
  f143 := Tryz.func69.trans (congrArg some (by kernel_rfl))
  f144 := Tryz.func54.trans (congrArg some (by kernel_rfl))
  f217 := Tryz.func97.trans (congrArg some (by kernel_rfl))
  f219 := Tryz.func84.trans (congrArg some (by kernel_rfl))
  f224 := Tryz.func99.trans (congrArg some (by kernel_rfl))
  f225 := Tryz.func98.trans (congrArg some (by kernel_rfl))
  f266 := Tryz.func113.trans (congrArg some (by kernel_rfl))
  f267 := Tryz.func100.trans (congrArg some (by kernel_rfl))
  f314 := Tryz.func114.trans (congrArg some (by kernel_rfl))
  t3 := Tryz.underlying3
  a3 := Tryz.isAgg3
  z3 := Tryz.sizeOf3
  v3 := Tryz.zeroValue3
  t4 := Tryz.underlying4
  a4 := Tryz.isAgg4
  z4 := Tryz.sizeOf4
  v4 := Tryz.zeroValue4
  t5 := Tryz.underlying5
  a5 := Tryz.isAgg5
  z5 := Tryz.sizeOf5
  v5 := Tryz.zeroValue5
  t9 := Tryz.underlying9
  a9 := Tryz.isAgg9
  z9 := Tryz.sizeOf9
  v9 := Tryz.zeroValue9
  t46 := Tryz.underlying87
  a46 := Tryz.isAgg87
  z46 := Tryz.sizeOf87
  v46 := Tryz.zeroValue87
  t51 := Tryz.underlying110
  a51 := Tryz.isAgg110
  z51 := Tryz.sizeOf110
  v51 := Tryz.zeroValue110
  t146 := Tryz.underlying111
  a146 := Tryz.isAgg111
  z146 := Tryz.sizeOf111
  v146 := Tryz.zeroValue111
  g1 := by kernel_rfl }
theorem Tryz.strings_Contains (s sub : ByteArray) (m : Int) (w : World) (hs : s.size < 4294967281) (hm : w.cell? ⟨1, 0, none⟩ = some (.int .i64 m)) :
    Calls Tryz.prog 54 #[.string s, .string sub] w fun e w' => e = .returned (.bool (Lib.contains s.data.toList sub.data.toList)) ∧ w' = w := Any.strings_Contains Tryz.lays144 s sub m w hs hm
def Tryz.lays146_ren : Go.Shelf.Ren := ⟨fun | 146 => 22 | 221 => 55 | 268 => 70 | 138 => 71 | 143 => 69 | 195 => 85 | 197 => 86 | 218 => 87 | 219 => 84 | 260 => 101 | 217 => 97 | 225 => 98 | 224 => 99 | 267 => 100 | 266 => 113 | 314 => 114 | n => n, fun | 9 => 9 | 31 => 22 | 3 => 3 | 4 => 4 | 0 => 0 | 105 => 133 | 21 => 21 | 5 => 5 | 46 => 87 | 119 => 153 | 139 => 156 | 138 => 155 | 146 => 111 | 51 => 110 | n => n, fun | 1 => 1 | 3 => 2 | 4 => 3 | n => n⟩
theorem Tryz.lays146 : Go.Proofs.Lays.n146 Tryz.prog Tryz.lays146_ren := {
  mixed := by kernel_rfl
  f138 := Tryz.func71.trans (congrArg some (by kernel_rfl))
  f143 := Tryz.func69.trans (congrArg some (by kernel_rfl))
  f146 := Tryz.func22.trans (congrArg some (by kernel_rfl))
  f195 := Tryz.func85.trans (congrArg some (by kernel_rfl))
  f197 := Tryz.func86.trans (congrArg some (by kernel_rfl))
  f217 := Tryz.func97.trans (congrArg some (by kernel_rfl))
  f218 := Tryz.func87.trans (congrArg some (by kernel_rfl))
  f219 := Tryz.func84.trans (congrArg some (by kernel_rfl))
  f221 := Tryz.func55.trans (congrArg some (by kernel_rfl))
  f224 := Tryz.func99.trans (congrArg some (by kernel_rfl))
  f225 := Tryz.func98.trans (congrArg some (by kernel_rfl))
  f260 := Tryz.func101.trans (congrArg some (by kernel_rfl))
  f266 := Tryz.func113.trans (congrArg some (by kernel_rfl))
  f267 := Tryz.func100.trans (congrArg some (by kernel_rfl))
  f268 := Tryz.func70.trans (congrArg some (by kernel_rfl))
  f314 := Tryz.func114.trans (congrArg some (by kernel_rfl))
  t0 := Tryz.underlying0
  a0 := Tryz.isAgg0
  z0 := Tryz.sizeOf0
  v0 := Tryz.zeroValue0
  t3 := Tryz.underlying3
  a3 := Tryz.isAgg3
  z3 := Tryz.sizeOf3
  v3 := Tryz.zeroValue3
  t4 := Tryz.underlying4
  a4 := Tryz.isAgg4
  z4 := Tryz.sizeOf4
  v4 := Tryz.zeroValue4
  t5 := Tryz.underlying5
  a5 := Tryz.isAgg5
  z5 := Tryz.sizeOf5
  v5 := Tryz.zeroValue5
  t9 := Tryz.underlying9
  a9 := Tryz.isAgg9
  z9 := Tryz.sizeOf9
  v9 := Tryz.zeroValue9
  t21 := Tryz.underlying21
  a21 := Tryz.isAgg21
  z21 := Tryz.sizeOf21
  v21 := Tryz.zeroValue21
  t31 := Tryz.underlying22
  a31 := Tryz.isAgg22
  z31 := Tryz.sizeOf22
  v31 := Tryz.zeroValue22
  t46 := Tryz.underlying87
  a46 := Tryz.isAgg87
  z46 := Tryz.sizeOf87
  v46 := Tryz.zeroValue87
  t51 := Tryz.underlying110
  a51 := Tryz.isAgg110
  z51 := Tryz.sizeOf110
  v51 := Tryz.zeroValue110
  t105 := Tryz.underlying133
  a105 := Tryz.isAgg133
  z105 := Tryz.sizeOf133
  v105 := Tryz.zeroValue133
  t119 := Tryz.underlying153
  a119 := Tryz.isAgg153
  z119 := Tryz.sizeOf153
  t138 := Tryz.underlying155
  a138 := Tryz.isAgg155
  z138 := Tryz.sizeOf155
  v138 := Tryz.zeroValue155
  t139 := Tryz.underlying156
  a139 := Tryz.isAgg156
  z139 := Tryz.sizeOf156
  v139 := Tryz.zeroValue156
  t146 := Tryz.underlying111
  a146 := Tryz.isAgg111
  z146 := Tryz.sizeOf111
  v146 := Tryz.zeroValue111
  g1 := by kernel_rfl
  g3 := by kernel_rfl
  g4 := by kernel_rfl }
theorem Tryz.strings_Split (s sep : ByteArray) (m : Int) (w : World) (hs : s.size < 4294967281) (hm : w.cell? ⟨1, 0, none⟩ = some (.int .i64 m)) (h1 : 1 ≤ sep.size) :
    Calls Tryz.prog 22 #[.string s, .string sep] w fun e w' =>
      e = .returned (.slice (some ⟨w.heap.size, 0, none⟩) (Lib.countB s sep + 1) (Lib.countB s sep + 1)) ∧ w' = w.alloc (.cells ((Lib.splitB sep 0 (Lib.countB s sep) s).map Value.string).toArray 9) := Any.strings_Split Tryz.lays146 (by kernel_rfl) s sep m w hs hm h1
def Tryz.lays105_ren : Go.Shelf.Ren := ⟨fun | 105 => 20 | 212 => 45 | 99 => 46 | 165 => 47 | 166 => 48 | 170 => 49 | 169 => 50 | 263 => 64 | 264 => 65 | 206 => 66 | 240 => 67 | 241 => 68 | 276 => 82 | 277 => 83 | n => n, fun | 9 => 9 | 3 => 3 | 4 => 4 | 20 => 20 | 0 => 0 | 46 => 87 | 109 => 88 | 5 => 5 | 72 => 93 | 76 => 97 | 51 => 110 | 146 => 111 | 53 => 113 | 148 => 114 | 70 => 90 | 37 => 91 | 75 => 96 | 127 => 116 | 164 => 130 | 80 => 100 | n => n, fun | n => n⟩
theorem Tryz.lays105 : Go.Proofs.Lays.n105 Tryz.prog Tryz.lays105_ren := {
  mixed := by kernel_rfl
  f99 := Tryz.func46.trans (congrArg some (by kernel_rfl))
  f105 := Tryz.func20.trans (congrArg some (by kernel_rfl))
  f165 := Tryz.func47.trans (congrArg some (by kernel_rfl))
  f166 := Tryz.func48.trans (congrArg some (by kernel_rfl))
  f169 := Tryz.func50.trans (congrArg some (by kernel_rfl))
  f170 := Tryz.func49.trans (congrArg some (by kernel_rfl))
  f206 := Tryz.func66.trans (congrArg some (by kernel_rfl))
  f212 := Tryz.func45.trans (congrArg some (by kernel_rfl))
  f240 := Tryz.func67.trans (congrArg some (by kernel_rfl))
  f241 := Tryz.func68.trans (congrArg some (by kernel_rfl))
  f263 := Tryz.func64.trans (congrArg some (by kernel_rfl))
  f264 := Tryz.func65.trans (congrArg some (by kernel_rfl))
  f276 := Tryz.func82.trans (congrArg some (by kernel_rfl))
  f277 := Tryz.func83.trans (congrArg some (by kernel_rfl))
  t0 := Tryz.underlying0
  a0 := Tryz.isAgg0
  z0 := Tryz.sizeOf0
  v0 := Tryz.zeroValue0
  t3 := Tryz.underlying3
  a3 := Tryz.isAgg3
  z3 := Tryz.sizeOf3
  v3 := Tryz.zeroValue3
  t4 := Tryz.underlying4
  a4 := Tryz.isAgg4
  z4 := Tryz.sizeOf4
  v4 := Tryz.zeroValue4
  t5 := Tryz.underlying5
  a5 := Tryz.isAgg5
  z5 := Tryz.sizeOf5
  v5 := Tryz.zeroValue5
  t9 := Tryz.underlying9
  a9 := Tryz.isAgg9
  z9 := Tryz.sizeOf9
  v9 := Tryz.zeroValue9
  t20 := Tryz.underlying20
  a20 := Tryz.isAgg20
  z20 := Tryz.sizeOf20
  v20 := Tryz.zeroValue20
  t37 := Tryz.underlying91
  a37 := Tryz.isAgg91
  z37 := Tryz.sizeOf91
  v37 := Tryz.zeroValue91
  t46 := Tryz.underlying87
  a46 := Tryz.isAgg87
  z46 := Tryz.sizeOf87
  v46 := Tryz.zeroValue87
  t51 := Tryz.underlying110
  a51 := Tryz.isAgg110
  z51 := Tryz.sizeOf110
  v51 := Tryz.zeroValue110
  t53 := Tryz.underlying113
  a53 := Tryz.isAgg113
  z53 := Tryz.sizeOf113
  v53 := Tryz.zeroValue113
  t70 := Tryz.underlying90
  a70 := Tryz.isAgg90
  z70 := Tryz.sizeOf90
  v70 := Tryz.zeroValue90
  t72 := Tryz.underlying93
  a72 := Tryz.isAgg93
  z72 := Tryz.sizeOf93
  v72 := Tryz.zeroValue93
  t75 := Tryz.underlying96
  a75 := Tryz.isAgg96
  z75 := Tryz.sizeOf96
  v75 := Tryz.zeroValue96
  t76 := Tryz.underlying97
  a76 := Tryz.isAgg97
  z76 := Tryz.sizeOf97
  v76 := Tryz.zeroValue97
  t109 := Tryz.underlying88
  a109 := Tryz.isAgg88
  z109 := Tryz.sizeOf88
  v109 := Tryz.zeroValue88
  t127 := Tryz.underlying116
  a127 := Tryz.isAgg116
  z127 := Tryz.sizeOf116
  v127 := Tryz.zeroValue116
  t146 := Tryz.underlying111
  a146 := Tryz.isAgg111
  z146 := Tryz.sizeOf111
  v146 := Tryz.zeroValue111
  t148 := Tryz.underlying114
  a148 := Tryz.isAgg114
  z148 := Tryz.sizeOf114
  v148 := Tryz.zeroValue114
  t164 := Tryz.underlying130
  a164 := Tryz.isAgg130
  z164 := Tryz.sizeOf130
  v164 := Tryz.zeroValue130 }
theorem Tryz.Builder_Extra_105 : Builder.Extra Tryz.prog Tryz.lays105_ren := {
  sizeBuilder := by kernel_rfl
  liesBuilder := by kernel_rfl
  t5 := Tryz.underlying5
  a5 := Tryz.isAgg5
  z5 := Tryz.sizeOf5
  v5 := Tryz.zeroValue5
  infoByte := by kernel_rfl
  cellsByte := by kernel_rfl
  sizeByte := by kernel_rfl
  neB5 := by decide }
theorem Tryz.strings_Repeat (s : ByteArray) (c : Nat) (w : World) (hc : c ≤ 9223372036854775807) (hlen : s.size * c ≤ 140737488355328) :
    Calls Tryz.prog 20 #[.string s, .int .i64 c] w fun e w' => e = .returned (.string ⟨(Lib.repeatL s.data.toList c).toArray⟩) ∧ Below w.heap.size w w' := Any.strings_Repeat Tryz.lays105 Tryz.Builder_Extra_105 s c w hc hlen
end Go.Proofs

namespace Go.GV
open Go.RowKit Go.MapKept
structure MapK {κ : Type} (P : Program) (kt : TypeId) (f : κ → Value) : Prop where
  ex : ∃ d, P.underlying kt = some d ∧ (∀ a, IsKey d (f a)) ∧ ∀ a b, f a = f b → a = b
theorem mapK_i {P : Program} {kt : TypeId} (h : P.underlying kt = some (.int .i64)) : MapK P kt vI := ⟨_, h, fun _ => rfl, fun a b h => by simpa using h⟩
def Born (es : Array MapEntry) (clock : Nat) : Prop := (es.toList.map (·.born)).Nodup ∧ ∀ e ∈ es.toList, e.born < clock
theorem Born.nil : Born #[] 0 := ⟨List.nodup_nil, fun _ h => by simp at h⟩
theorem Born.push {es : Array MapEntry} {clock : Nat} (h : Born es clock) (k v : Value) : Born (es.push ⟨k, v, clock⟩) (clock + 1) := by
  refine ⟨?_, fun e he => ?_⟩
  · rw [Array.toList_push, List.map_append, List.nodup_append]
    refine ⟨h.1, by simp, fun a ha b hb => ?_⟩
    simp only [List.map_cons, List.map_nil, List.mem_singleton] at hb
    subst hb
    obtain ⟨e, he, rfl⟩ := List.mem_map.1 ha
    have := h.2 e he
    omega
  · rw [Array.toList_push, List.mem_append, List.mem_singleton] at he
    rcases he with he | rfl
    · have := h.2 e he; omega
    · exact Nat.lt_succ_self _
theorem Born.modify {es : Array MapEntry} {clock : Nat} (h : Born es clock) (i : Nat) (g : MapEntry → MapEntry) (hg : ∀ e, (g e).born = e.born) : Born (es.modify i g) clock := by
  have e1 : (es.modify i g).toList.map (·.born) = es.toList.map (·.born) := by
    apply List.ext_getElem?
    intro j
    simp only [Array.toList_modify, List.getElem?_map, List.getElem?_modify]
    by_cases hij : i = j
    · subst hij
      cases es.toList[i]? <;> simp [hg]
    · simp [hij]
  refine ⟨by rw [e1]; exact h.1, fun e he => ?_⟩
  have : e.born ∈ es.toList.map (·.born) := by rw [← e1]; exact List.mem_map.2 ⟨e, he, rfl⟩
  obtain ⟨e', he', h2⟩ := List.mem_map.1 this
  have := h.2 e' he'
  omega
def Ent.mp {κ : Type} (f : κ → Value) (b : Nat) (l : List (κ × Value)) : Ent :=
  ⟨some b, fun o => ∃ es clock, o = some (.map es clock) ∧ es.toList.map (fun e => (e.key, e.val)) = l.map (fun p => (f p.1, p.2)) ∧ Born es clock⟩
def lk {κ : Type} [DecidableEq κ] : List (κ × Value) → κ → Option Value
  | [], _ => none
  | (a, v) :: l, k => if k = a then some v else lk l k
def upd {κ : Type} [DecidableEq κ] : List (κ × Value) → κ → Value → List (κ × Value)
  | [], k, v => [(k, v)]
  | (a, u) :: l, k, v => if k = a then (k, v) :: l else (a, u) :: upd l k v
section
variable {κ : Type} [DecidableEq κ] {a k : κ} {v u : Value} {l : List (κ × Value)} {r : Option Value}
theorem upd_new (h : lk l k = none) : upd l k v = l ++ [(k, v)] := by
  induction l with
  | nil => rfl
  | cons p l ih =>
    obtain ⟨a, u⟩ := p
    unfold lk at h
    split at h
    · cases h
    · rename_i hne
      unfold upd
      rw [if_neg hne, ih h]; rfl
theorem find_lk {d : TypeDesc} {f : κ → Value} (hd : ∀ a, IsKey d (f a)) (hi : ∀ a b, f a = f b → a = b) (k : κ) : ∀ (es : List MapEntry) (l : List (κ × Value)) (i : Nat), es.map (fun e => (e.key, e.val)) = l.map (fun p => (f p.1, p.2)) →
    (Instr.findNow d (f k) es i = some none ∧ lk l k = none) ∨ ∃ j v, Instr.findNow d (f k) es i = some (some (i + j, v)) ∧ lk l k = some v ∧ (∃ e, es[j]? = some e ∧ e.key = f k) ∧ ∀ u, (upd l k u).map (fun p => (f p.1, p.2)) = (l.map (fun p => (f p.1, p.2))).set j (f k, u)
  | [], [], i, _ => .inl ⟨rfl, rfl⟩
  | [], _ :: _, i, h => by cases h
  | _ :: _, [], i, h => by cases h
  | e :: es, (a, v) :: l, i, h => by
    simp only [List.map_cons, List.cons.injEq, Prod.mk.injEq] at h
    obtain ⟨⟨h1, h2⟩, h3⟩ := h
    obtain ⟨r, hr, hiff⟩ := sameNow_of_keys (hd k) (h1 ▸ hd a : IsKey d e.key)
    cases r with
    | true =>
      have hk : k = a := hi _ _ ((hiff.1 rfl).trans h1)
      refine .inr ⟨0, v, by simp [Instr.findNow, hr, h2], by rw [lk, if_pos hk], ⟨e, rfl, (hiff.1 rfl).symm⟩, fun u => ?_⟩
      simp [upd, if_pos hk]
    | false =>
      have hne : k ≠ a := fun q => by have := hiff.2 (by rw [h1, q]); cases this
      rcases find_lk hd hi k es l (i + 1) h3 with ⟨x1, x2⟩ | ⟨j, u, x1, x2, x3, x4⟩
      · exact .inl ⟨by simp [Instr.findNow, hr, x1], by rw [lk, if_neg hne, x2]⟩
      · refine .inr ⟨j + 1, u, by simp [Instr.findNow, hr, x1]; omega, by rw [lk, if_neg hne, x2], by simpa using x3, fun u => ?_⟩
        rw [upd, if_neg hne, List.map_cons, x4 u]; rfl
end
theorem mp_at {κ : Type} {f : κ → Value} {b : Nat} {l : List (κ × Value)} {w : World} (h : (Ent.mp f b l).at w) : ∃ es clock, w.heap[b]? = some (.map es clock) ∧ es.toList.map (fun e => (e.key, e.val)) = l.map (fun p => (f p.1, p.2)) ∧ Born es clock := by
  simpa [Ent.at, Ent.mp] using h.1
section
variable {E : Env} {P : Program} {x y z : Operand} {dst : Option Nat} {t t' ty u : TypeId} {pos : String} {af : Array Edge} {g : Option (Nat × Bool)} {κ : Type} [DecidableEq κ]
theorem run_lookup_mp {f : κ → Value} {b : Nat} {l : List (κ × Value)} {w : World} {kt et : TypeId} {zv : Value} {k : κ} (hat : (Ent.mp f b l).at w) (ht : P.underlying t = some (.map kt et)) (hK : MapK P kt f) (hz : zeroIs P et = some zv) (ok : Bool) :
    (Instr.lookup t (.map (some b)) (f k) ok).run P w = .ok (if ok then .tuple #[(lk l k).getD zv, .bool (lk l k).isSome] else (lk l k).getD zv) w := by
  obtain ⟨es, clock, hb, hes, hborn⟩ := mp_at hat
  obtain ⟨d, hd, hkey, hinj⟩ := hK.ex
  unfold Instr.lookup
  simp only [Sem.run_bind, run_underlying ht, Result.andThen_ok, MapKept.run_getObj_map hb, Sem.run_pure, MapKept.run_checkKey hd (hkey k)]
  rcases find_lk hkey hinj k es.toList l 0 hes with ⟨h1, h2⟩ | ⟨j, v, h1, h2, _⟩
  · simp only [MapKept.run_findKey hd h1, Result.andThen_ok, Sem.run_bind, run_zeroValue_is hz, Sem.run_pure, h2]
    cases ok <;> rfl
  · simp only [MapKept.run_findKey hd h1, Result.andThen_ok, Sem.run_bind, Sem.run_pure, h2]
    cases ok <;> rfl
theorem x_lookup {S : List Nat} {w0 : World} {L : List Ent} (j : Nat) {f : κ → Value} {b : Nat} {l : List (κ × Value)} {kt et : TypeId} {zv : Value} {k : κ} {r : Option Value} (hx : ev E x = .map (some b)) (hy : ev E y = f k) (hj : L[j]? = some (Ent.mp f b l)) (ht : P.underlying t = some (.map kt et)) (hK : MapK P kt f) (hz : zeroIs P et = some zv) (hr : lk l k = r) :
    ∀ w, St S w0 w L → (execOp (ev E) ⟨dst, .lookup t x y false, ty, pos, af, g⟩).run P w = .ok (.value (r.getD zv)) w := by
  intro w hS
  subst hr
  simp only [execOp, hx, hy]
  show Sem.run P (do let v ← Instr.lookup t (.map (some b)) (f k) false; pure (Next.value v)) w = _
  rw [Sem.run_bind, run_lookup_mp (k := k) (hS.mem hj) ht hK hz false]; rfl
theorem x_lookup_v {S : List Nat} {w0 : World} {L : List Ent} (j : Nat) {f : κ → Value} {b : Nat} {l : List (κ × Value)} {kt et : TypeId} {zv v : Value} {k : κ} {r : Option Value} (hx : ev E x = .map (some b)) (hy : ev E y = f k) (hj : L[j]? = some (Ent.mp f b l)) (ht : P.underlying t = some (.map kt et)) (hK : MapK P kt f) (hz : zeroIs P et = some zv) (hr : lk l k = r) (hv : r.getD zv = v) :
    ∀ w, St S w0 w L → (execOp (ev E) ⟨dst, .lookup t x y false, ty, pos, af, g⟩).run P w = .ok (.value v) w := by
  subst hv; exact x_lookup j hx hy hj ht hK hz hr
omit [DecidableEq κ] in
theorem O_makeMap {S : List Nat} {w0 : World} {L : List Ent} {K : Value → List Ent → Prop} (f : κ → Value) (k : ∀ b, K (.map (some b)) (Ent.mp f b [] :: L)) : OpJ P S w0 E L ⟨dst, .makeMap t none, ty, pos, af, g⟩ K := by
  intro w hS
  refine ⟨_, _, _, .inl ?_, hS.alloc (.map #[] 0) (Ent.mp f w.heap.size []) rfl ⟨_, _, rfl, rfl, Born.nil⟩, k w.heap.size⟩
  have hr : (Instr.makeMap t none).run P w = .ok (.map (some w.heap.size)) (w.alloc (.map #[] 0)) := by
    simp [Instr.makeMap, newObj, Sem.run]
  simp only [execOp]
  show Sem.run P (do let v ← Instr.makeMap t none; pure (Next.value v)) w = _
  rw [Sem.run_bind, hr]; rfl
theorem run_update_mp {f : κ → Value} {b : Nat} {l : List (κ × Value)} {w : World} {kt et : TypeId} {k : κ} {v : Value} (hat : (Ent.mp f b l).at w) (ht : P.underlying t = some (.map kt et)) (hK : MapK P kt f) :
    ∃ w', (Instr.mapUpdate t (.map (some b)) (f k) v).run P w = .ok () w' ∧ Fr [b] w w' ∧ (Ent.mp f b (upd l k v)).prop w'.heap[b]? := by
  obtain ⟨es, clock, hb, hes, hborn⟩ := mp_at hat
  obtain ⟨d, hd, hkey, hinj⟩ := hK.ex
  have fr : ∀ o, Fr [b] w { w with heap := w.heap.setIfInBounds b o } := fun o => ⟨rfl, rfl, rfl, by simp, fun i hi hn => (MapKept.heap_set (o' := o) hb).2 i (by simpa using hn)⟩
  unfold Instr.mapUpdate
  simp only [Sem.run_bind, run_underlying ht, Result.andThen_ok, MapKept.run_getObj_map hb, MapKept.run_checkKey hd (hkey k)]
  rcases find_lk hkey hinj k es.toList l 0 hes with ⟨h1, h2⟩ | ⟨j, v', h1, h2, ⟨e, he, hek⟩, h4⟩
  · simp only [MapKept.run_findKey hd h1, Result.andThen_ok, MapKept.run_setObj_map _ hb]
    refine ⟨_, rfl, fr _, _, _, (MapKept.heap_set hb).1, ?_, hborn.push _ _⟩
    rw [upd_new h2]
    simp [hes]
  · have he' : es[j]? = some e := by simpa using he
    simp only [MapKept.run_findKey hd h1, Result.andThen_ok, Nat.zero_add, he', Option.map_some, Option.getD_some, hek, MapKept.run_keyThatStays (hkey k), MapKept.run_setObj_map _ hb, Sem.run_bind]
    refine ⟨_, rfl, fr _, _, _, (MapKept.heap_set hb).1, ?_, hborn.modify _ _ fun _ => rfl⟩
    rw [h4 v, ← hes]
    apply List.ext_getElem?
    intro i
    simp only [Array.toList_modify, List.getElem?_map, List.getElem?_modify, List.getElem?_set, List.length_map]
    by_cases hij : j = i
    · subst hij
      have hlt : j < es.toList.length := (List.getElem?_eq_some_iff.1 he).1
      have hlt' : j < es.size := by simpa using hlt
      simp [hlt']
    · simp [hij]
theorem O_insert {S : List Nat} {w0 : World} {L : List Ent} {K : Value → List Ent → Prop} (j : Nat) {f : κ → Value} {b : Nat} {l : List (κ × Value)} {kt et : TypeId} {k : κ} {v : Value} (l' : List (κ × Value)) (L' : List Ent) (hx : ev E x = .map (some b)) (hy : ev E y = f k) (hz : ev E z = v) (hj : L[j]? = some (Ent.mp f b l)) (ht : P.underlying t = some (.map kt et)) (hK : MapK P kt f)
    (hl : upd l k v = l') (hL : L.set j (Ent.mp f b l') = L') (kk : K undef L') : OpJ P S w0 E L ⟨dst, .insert t x y z, ty, pos, af, g⟩ K := by
  intro w hS
  subst hl; subst hL
  obtain ⟨w', hr, hF, hB⟩ := run_update_mp (P := P) (t := t) (k := k) (v := v) (hS.mem hj) ht hK
  refine ⟨undef, _, w', .inr ⟨?_, rfl⟩, hS.writeAt hj b rfl rfl hF hB, kk⟩
  simp only [execOp, hx, hy, hz]
  show Sem.run P (do Instr.mapUpdate t (.map (some b)) (f k) v; pure Next.skip) w = _
  rw [Sem.run_bind, hr]; rfl
end
section
variable {E : Env} {P : Program} {w : World} {x y : Operand} {dst : Option Nat} {t t' ty : TypeId} {pos : String} {af : Array Edge} {g : Option (Nat × Bool)}
def isFn : Value → Bool
  | .func .. => true
  | _ => false
theorem run_eqIn_nil {p q : Array TypeId} {v : Bool} (d : Nat) (ht : P.underlying t = some (.func p q v)) : (Op.equalIn (d + 1) t .nilFunc .nilFunc).run P w = .ok true w := by
  unfold Op.equalIn
  simp only [Sem.run_bind, run_underlying ht, Result.andThen_ok]; rfl
theorem run_eq_nil {p q : Array TypeId} {v : Bool} (ht : P.underlying t = some (.func p q v)) : (Op.equal t .nilFunc .nilFunc).run P w = .ok true w := run_eqIn_nil 9999 ht
end
end Go.GV

namespace Go.GV
open Go.RowKit Go.MapKept
def Ent.mx (b : Nat) (es : Array MapEntry) (clock : Nat) : Ent := ⟨some b, fun o => o = some (.map es clock)⟩
def Ent.rng {κ : Type} (f : κ → Value) (b bm : Nat) (es : Array MapEntry) (clock : Nat) (left : List (κ × Value)) (cur : Option (κ × Value)) : Ent :=
  ⟨some b, fun o => ∃ seen, o = some (.mapIter (some bm) clock seen clock) ∧ (leftOf es seen).toList.map (fun e => (e.key, e.val)) = left.map (fun p => (f p.1, p.2)) ∧ ∀ p, cur = some p → ∃ e ∈ es.toList, seen.back? = some e.born ∧ e.key = f p.1 ∧ e.val = p.2⟩
def Holds' {κ : Type} (f : κ → Value) (es : Array MapEntry) (l : List (κ × Value)) : Prop := es.toList.map (fun e => (e.key, e.val)) = l.map (fun p => (f p.1, p.2))
section
variable {E : Env} {P : Program} {x : Operand} {dst : Option Nat} {t ty : TypeId} {pos : String} {af : Array Edge} {g : Option (Nat × Bool)} {κ : Type}
end
def wpV (a : Nat) (o : Nat) : Value := .pointer (some ⟨a, o, none⟩)
def putV : List Value → List Nat → List Int → Nat → List Value
  | cs, [], _, _ => cs
  | cs, o :: os, vs, i => putV (cs.set o (vI (vs.getD i 0))) os vs (i + 1)
section
variable {E : Env} {P : Program} {x y : Operand} {dst : Option Nat} {t ty : TypeId} {pos : String} {af : Array Edge} {g : Option (Nat × Bool)}
end
def kT {κ : Type} (s : κ) : κ × Value := (s, vB true)
section
variable {κ : Type} [DecidableEq κ]
def addK (l : List κ) (s : κ) : List κ := if s ∈ l then l else l ++ [s]
def hasK (l : List κ) (s : κ) : Bool := decide (s ∈ l)
end
end Go.GV

namespace Go.GV
theorem lt_ {p : Prop} (h : p := by first | omega | (simp only [List.length_append, List.length_cons, List.length_nil]; omega) | (simp; omega) | (simp_all; omega) | (simp_all; done)) : p := h
theorem hy_ {p : Prop} (h : p := by first | omega | assumption | (simp only [List.length_append, List.length_cons, List.length_nil]; omega) | (simp only [sub, List.length_drop, List.length_take]; omega) | (simp; omega) | (simp_all; done) | (simp_all; omega) | decide) : p := h
theorem ix_nat {v : Value} {i : Int} {k : Nat} (hv : v = vI i) (h : i = (k : Int)) : v = .int .i64 (k : Int) := by rw [hv, h]
theorem st_all {cs vs : List Value} {n : Nat} (h : Nat.ble cs.length (0 + n) = true) : cs.take 0 ++ (vs ++ cs.drop (0 + n)) = vs := by
  rw [List.drop_of_length_le (Nat.le_of_ble_eq_true h), List.append_nil]; rfl
section
variable {n : Dim} {S : List Nat} {w0 : World} {P : Program} {ops : Array Oper} {Q : Post} {E : Env} {L Lg Lu : List Ent} {us : List Nat} {fuel : Nat} {listed : Array Bool}
theorem jr_ {o : Oper} {rest : List Oper} (v : Value) (h : JO P n S w0 ops rest Q (put E o.dst v) L) (hfit : fit n E o = true := by rfl) (hw : wants ops E o := by exact trivial) (hr : ∀ w, St S w0 w L → (execOp (ev E) o).run P w = .ok (.value v) w := by exact fun _ _ => rfl) : JO P n S w0 ops (o :: rest) Q E L := JO_read v hfit hw hr h
theorem js_ {o : Oper} {rest : List Oper} (v : Value) (hr : ∀ {w}, (execOp (ev E) o).run P w = .ok (.value v) w) (h : JO P n S w0 ops rest Q (put E o.dst v) L) (hfit : fit n E o = true := by rfl) (hw : wants ops E o := by exact trivial) : JO P n S w0 ops (o :: rest) Q E L := JO_read v hfit hw (fun _ _ => hr) h
theorem jg_ {o : Oper} {rest : List Oper} {t b : Bool} {j : Nat} (hg : t = b) (v : Value) (hr : ∀ {w}, (execOp (ev E) o).run P w = .ok (.value v) w) (h : JO P n S w0 ops rest Q (put E o.dst v) L) (hfit : fit n E o = true := by rfl) (h1 : o.guard = some (j, b) := by rfl) (h2 : gval ops E j = some t := by rfl) : JO P n S w0 ops (o :: rest) Q E L := JO_read v hfit (by unfold wants; rw [h1]; exact ⟨t, h2, hg⟩) (fun _ _ => hr) h
theorem sh_ {o : Oper} {rest : List Oper} {t b : Bool} {j : Nat} (hg : t = !b) (h : JO P n S w0 ops rest Q (put E o.dst undef) L) (hd : dstOk n o.dst = true := by rfl) (h1 : o.guard = some (j, b) := by rfl) (h2 : gval ops E j = some t := by rfl) : JO P n S w0 ops (o :: rest) Q E L := JO_shun hd (by unfold shuns; rw [h1]; exact ⟨t, h2, hg⟩) h
theorem jt_ (i : Nat) {o : Oper} (v : Value) (hi : ops[i]? = some o) (hv : ∀ w, St S w0 w Lg → (execOp (ev E) o).run P w = .ok (.value v) w) (h : JA P n S w0 ops Q Lg us Lu fuel (listed.setIfInBounds i true) (put E o.dst v) L)
    (hs : Region.noSelect ops = true := by kernel_rfl) (hf : Region.free .any ops listed i = true := by kernel_rfl) (hr : (Region.ready .any ops listed).contains i = true := by kernel_rfl) (hu : us.contains i = false := by rfl)
    (hQ : ∀ c a w, Q (.panic c) (a.put o.dst v) w → Q (.panic c) a w := by exact fun _ _ _ h => h) (hfit : fit n E o = true := by rfl) (hw : wants ops E o := by exact trivial) : JA P n S w0 ops Q Lg us Lu (fuel + 1) listed E L := JA_take i v hi hs hf hr hu hQ hfit hw hv h
end
end Go.GV

namespace Go.GV
open Go.RowKit Go.Sort
def Lown (L : List Ent) : List Nat := L.filterMap Ent.own
theorem lown_mem {L : List Ent} : ∀ b ∈ Lown L, ∃ e ∈ L, e.own = some b := fun b h => by
  obtain ⟨e, he, ho⟩ := List.mem_filterMap.1 h
  exact ⟨e, he, ho⟩
theorem lown_in {L : List Ent} : ∀ e ∈ L, ∀ b, e.own = some b → b ∈ Lown L := fun e he _ ho => List.mem_filterMap.2 ⟨e, he, ho⟩
section
variable {α : Type} [Inhabited α] {f : α → Value} {w : World} {e : TypeId} {c : Nat} {xs : List α}
omit [Inhabited α] in
theorem row_cap {A : Option Addr} (h : (Ent.row (.slice A xs.length c) e 1 xs.length (xs.map f)).at w) : xs.length ≤ c ∨ (A = none ∧ xs = [] ∧ c = 0) := by
  rcases (row_owns h).2 with ⟨h1, h2⟩ | ⟨g, cap, cur, h1, _, ho, h3, h4, h5, h6⟩
  · simp only [Value.slice.injEq] at h1
    exact .inr ⟨h1.1, List.length_eq_zero_iff.1 h2, h1.2.2⟩
  · cases h1
    exact .inl h3
end
def subA (A : Option Addr) (cap lo sz : Nat) : Option Addr := if cap = lo then A else A.map (·.add (lo * sz))
section
variable {E : Env} {P : Program} {w : World} {x y : Operand} {dst : Option Nat} {t t' ty e : TypeId} {pos : String} {af : Array Edge} {g : Option (Nat × Bool)}
theorem x_subrow {A : Option Addr} {len cap n lo hi : Nat} {olo ohi : Option Operand} (hx : ev E x = .slice A len cap) (ht : P.underlying t = some (.slice e)) (hn : sizeIs P e = some n) (hlo : olo.map (ev E) = some (vI (lo : Int)) ∨ (olo.map (ev E) = none ∧ lo = 0)) (hhi : ohi.map (ev E) = some (vI (hi : Int)) ∨ (ohi.map (ev E) = none ∧ hi = len))
    (h1 : lo ≤ hi) (h2 : hi ≤ cap) : (execOp (ev E) ⟨dst, .slice t x olo ohi none, ty, pos, af, g⟩).run P w = .ok (.value (.slice (subA A cap lo n) (hi - lo) (cap - lo))) w := by
  have e1 : (0 : Int) ≤ (hi : Int) ∧ (hi : Int) ≤ ((cap : Nat) : Int) := by omega
  have e2 : (0 : Int) ≤ (lo : Int) ∧ (lo : Int) ≤ ((hi : Nat) : Int) := by omega
  have hr : (Instr.sliceAt t (.slice A len cap) (olo.map (ev E)) (ohi.map (ev E)) none).run P w = .ok (.slice (subA A cap lo n) (hi - lo) (cap - lo)) w := by
    rcases hlo with hlo | ⟨hlo, rfl⟩ <;> rcases hhi with hhi | ⟨hhi, rfl⟩ <;> rw [hlo, hhi]
    · simp only [Instr.sliceAt, Instr.slice, Instr.sliceBounds, Instr.sliceBound, asIntOf, run_underlying ht, run_sizeOf_is hn, Sem.run_bind, Sem.run_pure, Result.andThen_ok, if_pos e1, if_pos e2, Int.toNat_natCast]; rfl
    · simp only [Instr.sliceAt, Instr.slice, Instr.sliceBounds, Instr.sliceBound, asIntOf, run_underlying ht, run_sizeOf_is hn, Sem.run_bind, Sem.run_pure, Result.andThen_ok, if_pos e2, Int.toNat_natCast]; rfl
    · simp only [Instr.sliceAt, Instr.slice, Instr.sliceBounds, Instr.sliceBound, asIntOf, run_underlying ht, run_sizeOf_is hn, Sem.run_bind, Sem.run_pure, Result.andThen_ok, if_pos e1, Int.toNat_natCast]; rfl
    · simp only [Instr.sliceAt, Instr.slice, Instr.sliceBounds, run_underlying ht, run_sizeOf_is hn, Sem.run_bind, Sem.run_pure, Result.andThen_ok]; rfl
  simp only [execOp, hx]
  show Sem.run P (do let v ← Instr.sliceAt t (.slice A len cap) (olo.map (ev E)) (ohi.map (ev E)) none; pure (Next.value v)) w = _
  rw [Sem.run_bind, hr]; rfl
theorem row_le {A : Option Addr} {n c sz : Nat} {cs : List Value} (h : (Ent.row (.slice A n c) e sz n cs).at w) : n ≤ c := by
  rcases (row_owns h).2 with ⟨h1, h2⟩ | ⟨g, cap, cur, h1, _, ho, h3, h4, h5, h6⟩
  · omega
  · cases h1; exact h3
end
end Go.GV

namespace Go.GV
open Go.RowKit
def methIs (P : Program) (t : TypeId) (name : String) : Option FuncId := match P.info? t with
  | some i => match i.methods.find? (·.name == name) with
    | some m => if m.path.toList.isEmpty then (match m.func, P.underlying t with
      | some (f, false), some (.struct _) => some f
      | _, _ => none) else none
    | none => none
  | none => none
section
variable {E : Env} {P : Program} {w : World} {x : Operand} {dst : Option Nat} {t ty : TypeId} {pos : String} {af : Array Edge} {g : Option (Nat × Bool)}
end
end Go.GV

namespace Go.GV
open Go.RowKit
theorem RO.again {S : List Nat} {w0 w : World} {A : Option Addr} {cs : List Value} {L : List Ent} (h : RO S w0 A cs) (hS : St S w0 w L) : RO (Lown L) w A cs :=
  h.on (Lc := L) (Lr := []) (by rw [List.append_nil]; exact hS) lown_mem
theorem RO.mono {S S' : List Nat} {w : World} {A : Option Addr} {cs : List Value} (h : RO S w A cs) (hs : ∀ b ∈ S', b ∈ S) : RO S' w A cs := fun j v hv => by
  obtain ⟨a, e, hb, hn, hc⟩ := h j v hv
  exact ⟨a, e, hb, fun hh => hn (hs _ hh), hc⟩
theorem RO.no {S : List Nat} {w : World} {A : Option Addr} {cs : List Value} (h : RO S w A cs) : RO [] w A cs := h.mono (fun _ hb => by cases hb)
theorem RO.fromF {S F : List Nat} {w : World} {A : Option Addr} {cs : List Value} (h : RO (S ++ F) w A cs) : RO S w A cs := h.mono fun _ hb => List.mem_append.2 (.inl hb)
theorem RO.freshF {S F : List Nat} {w : World} {A : Option Addr} {cs : List Value} (h : RO (S ++ F) w A cs) : RO F w A cs := h.mono fun _ hb => List.mem_append.2 (.inr hb)
theorem RO.againF {S F : List Nat} {w0 w : World} {A : Option Addr} {cs : List Value} {L : List Ent} (h : RO (S ++ F) w0 A cs) (hS : St S w0 w L) : RO (Lown L ++ F) w A cs := fun j v hv => by
  obtain ⟨a, e, hb, hn, hc⟩ := h.fromF.again hS j v hv
  refine ⟨a, e, hb, fun hh => ?_, hc⟩
  rcases List.mem_append.1 hh with hh | hh
  · exact hn hh
  · obtain ⟨a2, e2, _, hn2, _⟩ := h.freshF j v hv
    rw [e] at e2; injection e2 with e2; subst e2
    exact hn2 hh
theorem RO.of_rowF {S : List Nat} {w00 w0 w : World} {Lc Lr : List Ent} (hS : St S w0 w (Lc ++ Lr)) (h0 : St [] w00 w (Lc ++ Lr)) (j : Nat) {e : TypeId} {sz n c : Nat} {A : Option Addr} {cs : List Value} (hj : Lr[j]? = some (Ent.row (.slice A n c) e sz n cs)) : RO (Lown Lc ++ List.range w00.heap.size) w A cs := fun jj v hv => by
  obtain ⟨a, ha, hb, hn, hc⟩ := RO.of_rowS (Sc := Lown Lc) hS lown_mem j hj jj v hv
  refine ⟨a, ha, hb, fun hh => ?_, hc⟩
  rcases List.mem_append.1 hh with hh | hh
  · exact hn hh
  · subst ha
    rcases h0.own _ (List.mem_append.2 (.inr (List.mem_of_getElem? hj))) a.block rfl with h1 | h1
    · cases h1
    · exact absurd (List.mem_range.1 hh) (by omega)
theorem lown_range {S : List Nat} {w0 w : World} {L : List Ent} (hS : St S w0 w L) : ∀ b ∈ Lown L, b ∈ List.range w.heap.size := fun b hb => by
  obtain ⟨e, he, ho⟩ := lown_mem b hb
  exact List.mem_range.2 ((hS.hold e he).2 b ho)
theorem St.back {S : List Nat} {w0 wb : World} {L0 : List Ent} (h : St S w0 wb L0) (w : World) (L : List Ent) (h' : St (Lown L0) wb w L) : St S w0 w L := by
  have := St.after (Lc := L0) (Lr := []) (by rw [List.append_nil]; exact h) lown_mem h'
  rwa [List.append_nil] at this
theorem St.base {S : List Nat} {w0 w : World} {L : List Ent} (h : St S w0 w L) : St (Lown L) w w L :=
  ⟨Fr.refl _ _, h.hold, h.dis, fun e he b hb => .inl (lown_in e he b hb)⟩
def GivesW (S : List Nat) (w : World) (φ : Value → List Ent → World → Prop) : Ending → World → Prop :=
  fun e w' => ∃ v L', e = .returned v ∧ φ v L' w' ∧ St S w w' L'
section
variable {P : Program} {n : Dim} {S : List Nat} {w0 : World} {Q : Post} {E : Env} {L : List Ent}
theorem calls_JW {f : FuncId} {fn : Func} {c : Code} {args : Array Value} {w : World} {φ : Value → List Ent → World → Prop} {L0 : List Ent} (S : List Nat) (n : Nat)
    (hf : P.funcs[f]? = some fn) (hb : fn.body = some c) (hm : fn.ntmps = n) (E : Env) (hE : E = envOf 0 args.toList) (hn : Nat.ble args.size n = true)
    (hg : Give S w L0) (h : J P { sz := n } S w c (bodyPost P fn (GivesW S w φ)) E L0) : Calls P f args w (GivesW S w φ) := by
  subst hm
  have hn := Nat.le_of_ble_eq_true hn
  refine (callsIn_wide (n := 0)).1 (callsIn_of_wp (F := Fence.wide) hf hb trivial (h _ w ⟨rfl, ?_, ?_⟩ hg.start) rfl)
  · simp; omega
  · intro t v hv
    rw [hE] at hv
    have h1 : args[t]? = some v := by have := (get_envOf _ _ _ _ hv).2; simpa using this
    obtain ⟨hlt, h2⟩ := Array.getElem?_eq_some_iff.1 h1
    simp only [Array.getD_eq_getD_getElem?]
    rw [Array.getElem?_append_left hlt, h1]
    rfl
theorem JX_retsB {fn : Func} {rs : List ResultVar} {S1 : List Nat} {w1 : World} {φ : Value → List Ent → World → Prop} (vs : List Value) (v : Value) (hr : fn.results = rs.toArray) (hv : ∀ w, St S w0 w L → resAll P E w rs vs)
    (hvv : v = (if h : vs.length = 1 then vs[0] else .tuple vs.toArray)) (L' : List Ent) (hL : ∀ w, St S w0 w L → St S w0 w L') (hB : ∀ w L, St S w0 w L → St S1 w1 w L) (hφ : ∀ w, St S w0 w L' → φ v L' w) (hd : n.ds = [] := by rfl) :
    JX n S w0 (bodyPost P fn (GivesW S1 w1 φ)) .ret E L := by
  intro a w hR hS
  have h0 := JX_rets (P := P) (n := n) (S := S) (w0 := w0) (E := E) (L := L) (φ := fun u L2 => u = v ∧ L2 = L') vs v hr hv hvv L' hL ⟨rfl, rfl⟩ hd a w hR hS
  obtain ⟨hd, u, hu, u2, L2, he, hp, hs⟩ := h0
  obtain ⟨rfl, rfl⟩ := hp
  exact ⟨hd, u, hu, u2, L2, he, hφ w hs, hB w _ hs⟩
theorem JX_retsC {fn : Func} {rs : List ResultVar} {S1 : List Nat} {w1 : World} {φ : Value → List Ent → Prop} (vs : List Value) (v : Value) (hr : fn.results = rs.toArray) (hv : ∀ w, St S w0 w L → resAll P E w rs vs)
    (hvv : v = (if h : vs.length = 1 then vs[0] else .tuple vs.toArray)) (L' : List Ent) (hL : ∀ w, St S w0 w L → St S w0 w L') (hB : ∀ w L, St S w0 w L → St S1 w1 w L) (hφ : φ v L') (hd : n.ds = [] := by rfl) :
    JX n S w0 (bodyPost P fn (Gives S1 w1 φ)) .ret E L := JX_retsB (φ := fun v L _ => φ v L) vs v hr hv hvv L' hL hB (fun _ _ => hφ) hd
def RoundB {X : Type} (n : Dim) (S : List Nat) (w0 : World) (I : X → Prop) (W : X → World → Prop) (Ef : X → Env) (Lf : X → List Ent) (μ : X → Nat) (m : Nat) (Q : Post) : Post :=
  Exit.then (fun a w => ∃ x, I x ∧ W x w ∧ μ x < m ∧ Rep n (Ef x) a ∧ St S w0 w (Lf x)) Q
section
variable {ops : Array Oper} {o : Oper} {Lg Lu : List Ent} {us : List Nat} {fuel : Nat} {listed : Array Bool}
theorem JA_shunU (i : Nat) (hi : ops[i]? = some o) (hs : Region.noSelect ops = true) (hf : Region.free .any ops listed i = true) (hr : (Region.ready .any ops listed).contains i = true) (hu : us.contains i = false)
    (hQ : ∀ c a w, Q (.panic c) (a.put o.dst undef) w → Q (.panic c) a w) (hd : dstOk n o.dst = true) (hw : gundef ops E o)
    (h : JA P n S w0 ops Q Lg us Lu fuel (listed.setIfInBounds i true) (put E o.dst undef) L) : JA P n S w0 ops Q Lg us Lu (fuel + 1) listed E L := by
  intro a w hR hS hcl
  have hr' : i ∈ Region.ready .any ops listed := by simpa using hr
  refine wpAnyG_first (H := fun _ => True) hi (Region.noSelect_spec hs) hQ (fun _ _ _ _ _ => trivial) (fun l w _ hl h => ⟨h.1, fun hh => h.2 (by rw [all_unset hu]; exact hh)⟩) fuel listed a w hcl (Region.free_spec hi hf) hr' (.inr ⟨gundef_wanted hR hw, rfl⟩) (h _ w (hR.put (fun d hd' => ?_) undef) hS (hcl.add hr'))
  rw [hd'] at hd
  simpa [dstOk, Nat.blt_eq] using hd
end
section
variable {ops : Array Oper} {o : Oper} {rest : List Oper}
theorem JO_callB (Sc : List Nat) (Lc Lr : List Ent) {f : FuncId} {args : Array Value} {φ : World → Value → List Ent → World → Prop} (hfit : fit n E o = true) (hw : wants ops E o)
    (hr : ∀ w, (execOp (ev E) o).run P w = .ok (.enter f args) w) (hL : ∀ w, St S w0 w L → St S w0 w (Lc ++ Lr)) (hS : ∀ b ∈ Sc, ∃ e ∈ Lc, e.own = some b)
    (hc : ∀ w, St S w0 w (Lc ++ Lr) → Calls P f args w (GivesW Sc w (φ w))) (h : ∀ w v L' w', φ w v L' w' → St S w0 w (Lc ++ Lr) → St S w0 w' (L' ++ Lr) → JO P n (Lown (L' ++ Lr)) w' ops rest Q (put E o.dst v) (L' ++ Lr)) : JO P n S w0 ops (o :: rest) Q E L := by
  intro a w hR hSt
  unfold wpListIn
  rw [if_pos (wants_wanted hR hw)]
  refine ⟨fun _ _ => trivial, ?_⟩
  rw [fit_sem hfit hR, hr w]
  refine ⟨fun h => (by cases h), (callsIn_wd (m := 0 - 1)).2 ((hc w (hL w hSt)).mono ?_)⟩
  rintro e w' ⟨v, L', rfl, hφ, hS'⟩
  have hs := (hL w hSt).after hS hS'
  exact h w v L' w' hφ (hL w hSt) hs _ _ (hR.put (fit_dst hfit) v) hs.base
end
end
end Go.GV
