/- Sh40, GvM, GvR, GvT, GvN, GvI in one text. -/
import Derived.Shelf.Small.Bits
import Derived.Shelf.Utf8.RuneCount
import Derived.Shelf.Strconv.Atoi
import Derived.Shelf.Strconv.Itoa0
import Derived.Shelf.Strconv.Itoa1
import Derived.Shelf.LaysM
import Derived.Shelf.Strconv.Itoa2
import Derived.Shelf.Strconv.Itoa3
import Derived.Shelf.Strconv.AtoiErrFast
import Derived.Shelf.Strconv.ParseIntEmpty
import Derived.Shelf.Strconv.AtoiFail
import Derived.Shelf.Strconv.Clone
import Derived.Shelf.Strconv.SyntaxError
import Derived.Shelf.LaysC
import Derived.Shelf.Strconv.ToError
import Derived.Shelf.Strconv.AtoiErr
import Derived.Shelf.Strconv.Lower
import Derived.Shelf.Strconv.ParseUint10
import Derived.Shelf.Strconv.ParseUint10Empty
import Derived.Shelf.Strconv.ParseUint10Any
import Derived.Shelf.Strconv.ParseInt10
import Derived.Shelf.Strconv.AtoiLong
import Derived.Shelf.Strconv.AtoiInnerAll
import Derived.Shelf.Strconv.RangeError
import Derived.Shelf.Strconv.ToErrorRange
import Derived.Shelf.Strconv.AtoiAll
import Derived.Shelf.Strconv.ErrVarAll
import Derived.Shelf.Strings.Search1
import Derived.Shelf.Strings.Search2
import Derived.Shelf.Strings.Search3
import Derived.Shelf.Strings.Count
import Derived.Shelf.Strings.Shaped
import Derived.Shelf.Strings.Split
import Derived.Shelf.Strings.SplitShaped
import Derived.Shelf.Unicode.Decode
import Derived.Shelf.Strings.RuneCount
import Derived.Shelf.Strings.Explode
import Derived.Shelf.Unicode.DecodeSlow
import Derived.Shelf.Unicode.DecodeAny
import Derived.Shelf.Slices.Turned
import Derived.Test.YtngjdmhpljmkpaaGreatDoorRows
import Derived.Test.YtngjdmhpljmkpaaGreatDoorConditionWords3
import Derived.MapKept
import Derived.Laws.IdiomRangeMap
import Derived.Sort.Row
import Derived.Sort.Grow
import Derived.ChangeKeysEq
set_option linter.unusedVariables false
set_option linter.unusedSimpArgs false
namespace Go.Proofs
open Go.Shelf
open Go.RowKit Go.Lib Go.Sort
def Tryz.laysM171_ren : Go.Shelf.Ren := ⟨fun | 171 => 54 | 243 => 76 | 246 => 94 | 283 => 109 | 284 => 110 | 285 => 111 | 286 => 112 | 129 => 88 | 317 => 119 | 318 => 120 | 319 => 121 | 320 => 122 | 337 => 129 | 338 => 130 | n => n, fun | 3 => 3 | 9 => 9 | 2 => 2 | 4 => 4 | 171 => 134 | 0 => 0 | 53 => 119 | 37 => 94 | 5 => 5 | 173 => 136 | 212 => 146 | 51 => 74 | 20 => 20 | 213 => 147 | 46 => 100 | 232 => 163 | 233 => 164 | n => n, fun | 17 => 1 | 18 => 4 | 19 => 5 | n => n⟩
theorem Tryz.laysM171 : Go.Proofs.LaysM.n171 Tryz.prog Tryz.laysM171_ren := {
  mixed := by kernel_rfl
  f129 := Tryz.func88.trans (congrArg some (by kernel_rfl))
  f171 := Tryz.func54.trans (congrArg some (by kernel_rfl))
  f243 := Tryz.func76.trans (congrArg some (by kernel_rfl))
  f246 := Tryz.func94.trans (congrArg some (by kernel_rfl))
  f283 := Tryz.func109.trans (congrArg some (by kernel_rfl))
  f284 := Tryz.func110.trans (congrArg some (by kernel_rfl))
  f285 := Tryz.func111.trans (congrArg some (by kernel_rfl))
  f286 := Tryz.func112.trans (congrArg some (by kernel_rfl))
  f317 := Tryz.func119.trans (congrArg some (by kernel_rfl))
  f318 := Tryz.func120.trans (congrArg some (by kernel_rfl))
  f319 := Tryz.func121.trans (congrArg some (by kernel_rfl))
  f320 := Tryz.func122.trans (congrArg some (by kernel_rfl))
  f337 := Tryz.func129.trans (congrArg some (by kernel_rfl))
  f338 := Tryz.func130.trans (congrArg some (by kernel_rfl))
  t0 := Tryz.underlying0
  a0 := Tryz.isAgg0
  z0 := Tryz.sizeOf0
  v0 := Tryz.zeroValue0
  t2 := Tryz.underlying2
  a2 := Tryz.isAgg2
  z2 := Tryz.sizeOf2
  v2 := Tryz.zeroValue2
  t3 := Tryz.underlying3
  a3 := Tryz.isAgg3
  z3 := Tryz.sizeOf3
  v3 := Tryz.zeroValue3
  t4 := Tryz.underlying4
  a4 := Tryz.isAgg4
  z4 := Tryz.sizeOf4
  v4 := Tryz.zeroValue4
  t5 := Tryz.underlying5
  a5 := Tryz.isAgg5
  z5 := Tryz.sizeOf5
  v5 := Tryz.zeroValue5
  t9 := Tryz.underlying9
  a9 := Tryz.isAgg9
  z9 := Tryz.sizeOf9
  v9 := Tryz.zeroValue9
  t20 := Tryz.underlying20
  a20 := Tryz.isAgg20
  z20 := Tryz.sizeOf20
  v20 := Tryz.zeroValue20
  t37 := Tryz.underlying94
  a37 := Tryz.isAgg94
  z37 := Tryz.sizeOf94
  v37 := Tryz.zeroValue94
  t46 := Tryz.underlying100
  a46 := Tryz.isAgg100
  z46 := Tryz.sizeOf100
  v46 := Tryz.zeroValue100
  t51 := Tryz.underlying74
  a51 := Tryz.isAgg74
  z51 := Tryz.sizeOf74
  v51 := Tryz.zeroValue74
  t53 := Tryz.underlying119
  a53 := Tryz.isAgg119
  z53 := Tryz.sizeOf119
  v53 := Tryz.zeroValue119
  t171 := Tryz.underlying134
  a171 := Tryz.isAgg134
  z171 := Tryz.sizeOf134
  v171 := Tryz.zeroValue134
  t173 := Tryz.underlying136
  a173 := Tryz.isAgg136
  z173 := Tryz.sizeOf136
  v173 := Tryz.zeroValue136
  t212 := Tryz.underlying146
  a212 := Tryz.isAgg146
  z212 := Tryz.sizeOf146
  v212 := Tryz.zeroValue146
  t213 := Tryz.underlying147
  a213 := Tryz.isAgg147
  z213 := Tryz.sizeOf147
  t232 := Tryz.underlying163
  a232 := Tryz.isAgg163
  z232 := Tryz.sizeOf163
  v232 := Tryz.zeroValue163
  t233 := Tryz.underlying164
  a233 := Tryz.isAgg164
  z233 := Tryz.sizeOf164
  v233 := Tryz.zeroValue164
  g17 := by kernel_rfl
  g18 := by kernel_rfl
  g19 := by kernel_rfl
  i0 := by kernel_rfl
  i2 := by kernel_rfl
  i3 := by kernel_rfl
  i4 := by kernel_rfl
  i5 := by kernel_rfl
  i9 := by kernel_rfl
  i20 := by kernel_rfl
  i37 := by kernel_rfl
  i46 := by kernel_rfl
  i51 := by kernel_rfl
  i53 := by kernel_rfl
  i171 := by kernel_rfl
  i173 := by kernel_rfl
  i212 := by kernel_rfl
  i232 := by kernel_rfl
  i233 := by kernel_rfl
  m17 := by kernel_rfl
  m18 := by kernel_rfl
  m19 := by kernel_rfl }
theorem Tryz.strconv_Itoa (n : Int) (h0 : -9223372036854775808 ≤ n) (h1 : n ≤ 9223372036854775807) (w : World) (htab : Lib.TabIs Tryz.prog w "internal/strconv.uint64pow10" .u64 Lib.pow10Tab) :
    Calls Tryz.prog 54 #[.int .i64 n] w fun e w' => e = .returned (.string ⟨(Lib.itoa n).toArray⟩) ∧ ∃ k os, w' = grow (w.drewN k) os := Any.strconv_Itoa Tryz.laysM171 n h0 h1 w htab
def Tryz.laysC172_ren : Go.Shelf.Ren := ⟨fun | 172 => 101 | 244 => 114 | 245 => 115 | 247 => 123 | 279 => 124 | 280 => 125 | 281 => 126 | 282 => 127 | 287 => 131 | 316 => 132 | 171 => 54 | 205 => 133 | 321 => 135 | 322 => 136 | 243 => 76 | 246 => 94 | 283 => 109 | 284 => 110 | 285 => 111 | 286 => 112 | 129 => 88 | 317 => 119 | 318 => 120 | 319 => 121 | 320 => 122 | 337 => 129 | 338 => 130 | n => n, fun | 9 => 9 | 3 => 3 | 75 => 129 | 76 => 130 | 4 => 4 | 5 => 5 | 167 => 149 | 37 => 94 | 0 => 0 | 85 => 150 | 2 => 2 | 168 => 152 | 53 => 119 | 175 => 157 | 46 => 100 | 210 => 161 | 127 => 166 | 145 => 169 | 143 => 167 | 21 => 21 | 171 => 134 | 173 => 136 | 212 => 146 | 51 => 74 | 20 => 20 | 213 => 147 | 232 => 163 | 233 => 164 | 80 => 174 | n => n, fun | 15 => 2 | 16 => 3 | 17 => 1 | 18 => 4 | 19 => 5 | n => n⟩
theorem Tryz.laysC172 : Go.Proofs.LaysC.n172 Tryz.prog Tryz.laysC172_ren := {
  mixed := by kernel_rfl
  f129 := Tryz.func88.trans (congrArg some (by kernel_rfl))
  f171 := Tryz.func54.trans (congrArg some (by kernel_rfl))
  f172 := Tryz.func101.trans (congrArg some (by kernel_rfl))
  f205 := Tryz.func133.trans (congrArg some (by kernel_rfl))
  f243 := Tryz.func76.trans (congrArg some (by kernel_rfl))
  f244 := Tryz.func114.trans (congrArg some (by kernel_rfl))
  f245 := Tryz.func115.trans (congrArg some (by kernel_rfl))
  f246 := Tryz.func94.trans (congrArg some (by kernel_rfl))
  f247 := Tryz.func123.trans (congrArg some (by kernel_rfl))
  f279 := Tryz.func124.trans (congrArg some (by kernel_rfl))
  f280 := Tryz.func125.trans (congrArg some (by kernel_rfl))
  f281 := Tryz.func126.trans (congrArg some (by kernel_rfl))
  f282 := Tryz.func127.trans (congrArg some (by kernel_rfl))
  f283 := Tryz.func109.trans (congrArg some (by kernel_rfl))
  f284 := Tryz.func110.trans (congrArg some (by kernel_rfl))
  f285 := Tryz.func111.trans (congrArg some (by kernel_rfl))
  f286 := Tryz.func112.trans (congrArg some (by kernel_rfl))
  f287 := Tryz.func131.trans (congrArg some (by kernel_rfl))
  f316 := Tryz.func132.trans (congrArg some (by kernel_rfl))
  f317 := Tryz.func119.trans (congrArg some (by kernel_rfl))
  f318 := Tryz.func120.trans (congrArg some (by kernel_rfl))
  f319 := Tryz.func121.trans (congrArg some (by kernel_rfl))
  f320 := Tryz.func122.trans (congrArg some (by kernel_rfl))
  f321 := Tryz.func135.trans (congrArg some (by kernel_rfl))
  f322 := Tryz.func136.trans (congrArg some (by kernel_rfl))
  f337 := Tryz.func129.trans (congrArg some (by kernel_rfl))
  f338 := Tryz.func130.trans (congrArg some (by kernel_rfl))
  t0 := Tryz.underlying0
  a0 := Tryz.isAgg0
  z0 := Tryz.sizeOf0
  v0 := Tryz.zeroValue0
  t2 := Tryz.underlying2
  a2 := Tryz.isAgg2
  z2 := Tryz.sizeOf2
  v2 := Tryz.zeroValue2
  t3 := Tryz.underlying3
  a3 := Tryz.isAgg3
  z3 := Tryz.sizeOf3
  v3 := Tryz.zeroValue3
  t4 := Tryz.underlying4
  a4 := Tryz.isAgg4
  z4 := Tryz.sizeOf4
  v4 := Tryz.zeroValue4
  t5 := Tryz.underlying5
  a5 := Tryz.isAgg5
  z5 := Tryz.sizeOf5
  v5 := Tryz.zeroValue5
  t9 := Tryz.underlying9
  a9 := Tryz.isAgg9
  z9 := Tryz.sizeOf9
  v9 := Tryz.zeroValue9
  t20 := Tryz.underlying20
  a20 := Tryz.isAgg20
  z20 := Tryz.sizeOf20
  v20 := Tryz.zeroValue20
  t21 := Tryz.underlying21
  a21 := Tryz.isAgg21
  z21 := Tryz.sizeOf21
  v21 := Tryz.zeroValue21
  t37 := Tryz.underlying94
  a37 := Tryz.isAgg94
  z37 := Tryz.sizeOf94
  v37 := Tryz.zeroValue94
  t46 := Tryz.underlying100
  a46 := Tryz.isAgg100
  z46 := Tryz.sizeOf100
  v46 := Tryz.zeroValue100
  t51 := Tryz.underlying74
  a51 := Tryz.isAgg74
  z51 := Tryz.sizeOf74
  v51 := Tryz.zeroValue74
  t53 := Tryz.underlying119
  a53 := Tryz.isAgg119
  z53 := Tryz.sizeOf119
  v53 := Tryz.zeroValue119
  t75 := Tryz.underlying129
  a75 := Tryz.isAgg129
  z75 := Tryz.sizeOf129
  v75 := Tryz.zeroValue129
  t76 := Tryz.underlying130
  a76 := Tryz.isAgg130
  z76 := Tryz.sizeOf130
  v76 := Tryz.zeroValue130
  t85 := Tryz.underlying150
  a85 := Tryz.isAgg150
  z85 := Tryz.sizeOf150
  v85 := Tryz.zeroValue150
  t127 := Tryz.underlying166
  a127 := Tryz.isAgg166
  z127 := Tryz.sizeOf166
  v127 := Tryz.zeroValue166
  t143 := Tryz.underlying167
  a143 := Tryz.isAgg167
  z143 := Tryz.sizeOf167
  v143 := Tryz.zeroValue167
  t145 := Tryz.underlying169
  a145 := Tryz.isAgg169
  z145 := Tryz.sizeOf169
  v145 := Tryz.zeroValue169
  t167 := Tryz.underlying149
  a167 := Tryz.isAgg149
  z167 := Tryz.sizeOf149
  v167 := Tryz.zeroValue149
  t168 := Tryz.underlying152
  a168 := Tryz.isAgg152
  z168 := Tryz.sizeOf152
  v168 := Tryz.zeroValue152
  t171 := Tryz.underlying134
  a171 := Tryz.isAgg134
  z171 := Tryz.sizeOf134
  v171 := Tryz.zeroValue134
  t173 := Tryz.underlying136
  a173 := Tryz.isAgg136
  z173 := Tryz.sizeOf136
  v173 := Tryz.zeroValue136
  t175 := Tryz.underlying157
  a175 := Tryz.isAgg157
  z175 := Tryz.sizeOf157
  v175 := Tryz.zeroValue157
  t210 := Tryz.underlying161
  a210 := Tryz.isAgg161
  z210 := Tryz.sizeOf161
  v210 := Tryz.zeroValue161
  t212 := Tryz.underlying146
  a212 := Tryz.isAgg146
  z212 := Tryz.sizeOf146
  v212 := Tryz.zeroValue146
  t213 := Tryz.underlying147
  a213 := Tryz.isAgg147
  z213 := Tryz.sizeOf147
  t232 := Tryz.underlying163
  a232 := Tryz.isAgg163
  z232 := Tryz.sizeOf163
  v232 := Tryz.zeroValue163
  t233 := Tryz.underlying164
  a233 := Tryz.isAgg164
  z233 := Tryz.sizeOf164
  v233 := Tryz.zeroValue164
  g15 := by kernel_rfl
  g16 := by kernel_rfl
  g17 := by kernel_rfl
  g18 := by kernel_rfl
  g19 := by kernel_rfl
  t80 := Tryz.underlying174
  a80 := Tryz.isAgg174
  z80 := Tryz.sizeOf174
  v80 := Tryz.zeroValue174
  i0 := by kernel_rfl
  i2 := by kernel_rfl
  i3 := by kernel_rfl
  i4 := by kernel_rfl
  i5 := by kernel_rfl
  i9 := by kernel_rfl
  i20 := by kernel_rfl
  i21 := by kernel_rfl
  i37 := by kernel_rfl
  i46 := by kernel_rfl
  i51 := by kernel_rfl
  i53 := by kernel_rfl
  i75 := by kernel_rfl
  i76 := by kernel_rfl
  i80 := by kernel_rfl
  i85 := by kernel_rfl
  i127 := by kernel_rfl
  i143 := by kernel_rfl
  i145 := by kernel_rfl
  i167 := by kernel_rfl
  i168 := by kernel_rfl
  i171 := by kernel_rfl
  i173 := by kernel_rfl
  i175 := by kernel_rfl
  i210 := by kernel_rfl
  i212 := by kernel_rfl
  i232 := by kernel_rfl
  i233 := by kernel_rfl
  m15 := by kernel_rfl
  m16 := by kernel_rfl
  m17 := by kernel_rfl
  m18 := by kernel_rfl
  m19 := by kernel_rfl
  c0 := by kernel_rfl
  c2 := by kernel_rfl
  c3 := by kernel_rfl
  c4 := by kernel_rfl
  c5 := by kernel_rfl
  c9 := by kernel_rfl
  c20 := by kernel_rfl
  c21 := by kernel_rfl
  c37 := by kernel_rfl
  c46 := by kernel_rfl
  c51 := by kernel_rfl
  c53 := by kernel_rfl
  c75 := by kernel_rfl
  c76 := by kernel_rfl
  c80 := by kernel_rfl
  c85 := by kernel_rfl
  c127 := by kernel_rfl
  c143 := by kernel_rfl
  c145 := by kernel_rfl
  c167 := by kernel_rfl
  c168 := by kernel_rfl
  c171 := by kernel_rfl
  c173 := by kernel_rfl
  c175 := by kernel_rfl
  c210 := by kernel_rfl
  c212 := by kernel_rfl
  c213 := by kernel_rfl
  c232 := by kernel_rfl
  c233 := by kernel_rfl }
theorem Tryz.strconv_Atoi_ok (s : ByteArray) (hmax : s.size ≤ 9223372036854775806) (v : Int) (h : Lib.atoiAll s.data.toList = .ok v) (w : World) :
    Calls Tryz.prog 101 #[.string s] w fun e w' => e = .returned (.tuple #[.int .i64 v, .nilIface]) ∧ (w' = w ∨ ∃ t, w' = Lib.bytesWorld w 5 t) := Any.strconv_Atoi_ok Tryz.laysC172 s hmax v h w
theorem Tryz.strconv_Atoi_syntax (s : ByteArray) (hlim : s.size ≤ 281474976710656) (h : (∀ v, Lib.atoiAll s.data.toList ≠ .ok v) ∧ Lib.atoiAll s.data.toList ≠ .range) (ev : Value) (w : World) (hv : w.cell? ⟨2, 0, none⟩ = some ev) (hev : ev = .nilIface ∨ ∃ te pe, ev = .iface te pe) :
    Calls Tryz.prog 101 #[.string s] w fun e w' => ∃ N, e = .returned (.tuple #[.int .i64 (0), .iface 152 (.pointer (some ⟨N, 0, none⟩))]) ∧ w.heap.size ≤ N ∧ w'.heap[N]? = some (.cells #[.string ⟨#[65, 116, 111, 105]⟩, .string s, ev] 161 (0, 0)) ∧ Below w.heap.size w w' := Any.strconv_Atoi_syntax Tryz.laysC172 s hlim (by cases e : Lib.atoiAll s.data.toList <;> first | rfl | exact absurd e (h.1 _) | exact absurd e h.2) ev w hv hev
theorem Tryz.strconv_Atoi_range (s : ByteArray) (hlim : s.size ≤ 281474976710656) (h : Lib.atoiAll s.data.toList = .range) (ev : Value) (w : World) (hv : w.cell? ⟨3, 0, none⟩ = some ev) (hev : ev = .nilIface ∨ ∃ te pe, ev = .iface te pe) :
    Calls Tryz.prog 101 #[.string s] w fun e w' => ∃ N, e = .returned (.tuple #[.int .i64 (Lib.atoiSat s.data.toList), .iface 152 (.pointer (some ⟨N, 0, none⟩))]) ∧ w.heap.size ≤ N ∧ w'.heap[N]? = some (.cells #[.string ⟨#[65, 116, 111, 105]⟩, .string s, ev] 161 (0, 0)) ∧ Below w.heap.size w w' := Any.strconv_Atoi_range Tryz.laysC172 s hlim h ev w hv hev
def Tryz.lays138_ren : Go.Shelf.Ren := ⟨fun | 138 => 52 | 195 => 73 | 218 => 74 | 143 => 75 | 219 => 93 | 217 => 105 | 225 => 106 | 224 => 107 | 267 => 108 | 266 => 117 | 314 => 118 | n => n, fun | 9 => 9 | 3 => 3 | 4 => 4 | 5 => 5 | 0 => 0 | 46 => 100 | 146 => 143 | 51 => 74 | n => n, fun | 1 => 0 | n => n⟩
theorem Tryz.lays138 : Go.Proofs.Lays.n138 Tryz.prog Tryz.lays138_ren := {
  mixed := by kernel_rfl
  f138 := Tryz.func52.trans (congrArg some (by kernel_rfl))
  f143 := Tryz.func75.trans (congrArg some (by kernel_rfl))
  f195 := Tryz.func73.trans (congrArg some (by kernel_rfl))
  f217 := Tryz.func105.trans (congrArg some (by kernel_rfl))
  f218 := Tryz.func74.trans (congrArg some (by kernel_rfl))
  f219 := Tryz.func93.trans (congrArg some (by kernel_rfl))
  f224 := Tryz.func107.trans (congrArg some (by kernel_rfl))
  f225 := Tryz.func106.trans (congrArg some (by kernel_rfl))
  f266 := Tryz.func117.trans (congrArg some (by kernel_rfl))
  f267 := Tryz.func108.trans (congrArg some (by kernel_rfl))
  f314 := Tryz.func118.trans (congrArg some (by kernel_rfl))
  t0 := Tryz.underlying0
  a0 := Tryz.isAgg0
  z0 := Tryz.sizeOf0
  v0 := Tryz.zeroValue0
  t3 := Tryz.underlying3
  a3 := Tryz.isAgg3
  z3 := Tryz.sizeOf3
  v3 := Tryz.zeroValue3
  t4 := Tryz.underlying4
  a4 := Tryz.isAgg4
  z4 := Tryz.sizeOf4
  v4 := Tryz.zeroValue4
  t5 := Tryz.underlying5
  a5 := Tryz.isAgg5
  z5 := Tryz.sizeOf5
  v5 := Tryz.zeroValue5
  t9 := Tryz.underlying9
  a9 := Tryz.isAgg9
  z9 := Tryz.sizeOf9
  v9 := Tryz.zeroValue9
  t46 := Tryz.underlying100
  a46 := Tryz.isAgg100
  z46 := Tryz.sizeOf100
  v46 := Tryz.zeroValue100
  t51 := Tryz.underlying74
  a51 := Tryz.isAgg74
  z51 := Tryz.sizeOf74
  v51 := Tryz.zeroValue74
  t146 := Tryz.underlying143
  a146 := Tryz.isAgg143
  z146 := Tryz.sizeOf143
  v146 := Tryz.zeroValue143
  g1 := by kernel_rfl }
theorem Tryz.strings_Count_one (s : ByteArray) (c : UInt8) (w : World) :
    Calls Tryz.prog 52 #[.string s, .string ⟨#[c]⟩] w fun e w' => e = .returned (.int .i64 (Lib.countByte s.data.toList c)) ∧ w' = w := Any.strings_Count_one Tryz.lays138 s c w
def Tryz.lays146_ren : Go.Shelf.Ren := ⟨fun | 146 => 91 | 221 => 104 | 268 => 116 | 138 => 52 | 143 => 75 | 195 => 73 | 197 => 128 | 218 => 74 | 219 => 93 | 260 => 134 | 217 => 105 | 225 => 106 | 224 => 107 | 267 => 108 | 266 => 117 | 314 => 118 | n => n, fun | 9 => 9 | 31 => 22 | 3 => 3 | 4 => 4 | 0 => 0 | 105 => 155 | 21 => 21 | 5 => 5 | 46 => 100 | 119 => 170 | 139 => 173 | 138 => 172 | 146 => 143 | 51 => 74 | n => n, fun | 1 => 0 | 3 => 6 | 4 => 7 | n => n⟩
theorem Tryz.lays146 : Go.Proofs.Lays.n146 Tryz.prog Tryz.lays146_ren := {
  mixed := by kernel_rfl
  f138 := Tryz.func52.trans (congrArg some (by kernel_rfl))
  f143 := Tryz.func75.trans (congrArg some (by kernel_rfl))
  f146 := Tryz.func91.trans (congrArg some (by kernel_rfl))
  f195 := Tryz.func73.trans (congrArg some (by kernel_rfl))
  f197 := Tryz.func128.trans (congrArg some (by kernel_rfl))
  f217 := Tryz.func105.trans (congrArg some (by kernel_rfl))
  f218 := Tryz.func74.trans (congrArg some (by kernel_rfl))
  f219 := Tryz.func93.trans (congrArg some (by kernel_rfl))
  f221 := Tryz.func104.trans (congrArg some (by kernel_rfl))
  f224 := Tryz.func107.trans (congrArg some (by kernel_rfl))
  f225 := Tryz.func106.trans (congrArg some (by kernel_rfl))
  f260 := Tryz.func134.trans (congrArg some (by kernel_rfl))
  f266 := Tryz.func117.trans (congrArg some (by kernel_rfl))
  f267 := Tryz.func108.trans (congrArg some (by kernel_rfl))
  f268 := Tryz.func116.trans (congrArg some (by kernel_rfl))
  f314 := Tryz.func118.trans (congrArg some (by kernel_rfl))
  t0 := Tryz.underlying0
  a0 := Tryz.isAgg0
  z0 := Tryz.sizeOf0
  v0 := Tryz.zeroValue0
  t3 := Tryz.underlying3
  a3 := Tryz.isAgg3
  z3 := Tryz.sizeOf3
  v3 := Tryz.zeroValue3
  t4 := Tryz.underlying4
  a4 := Tryz.isAgg4
  z4 := Tryz.sizeOf4
  v4 := Tryz.zeroValue4
  t5 := Tryz.underlying5
  a5 := Tryz.isAgg5
  z5 := Tryz.sizeOf5
  v5 := Tryz.zeroValue5
  t9 := Tryz.underlying9
  a9 := Tryz.isAgg9
  z9 := Tryz.sizeOf9
  v9 := Tryz.zeroValue9
  t21 := Tryz.underlying21
  a21 := Tryz.isAgg21
  z21 := Tryz.sizeOf21
  v21 := Tryz.zeroValue21
  t31 := Tryz.underlying22
  a31 := Tryz.isAgg22
  z31 := Tryz.sizeOf22
  v31 := Tryz.zeroValue22
  t46 := Tryz.underlying100
  a46 := Tryz.isAgg100
  z46 := Tryz.sizeOf100
  v46 := Tryz.zeroValue100
  t51 := Tryz.underlying74
  a51 := Tryz.isAgg74
  z51 := Tryz.sizeOf74
  v51 := Tryz.zeroValue74
  t105 := Tryz.underlying155
  a105 := Tryz.isAgg155
  z105 := Tryz.sizeOf155
  v105 := Tryz.zeroValue155
  t119 := Tryz.underlying170
  a119 := Tryz.isAgg170
  z119 := Tryz.sizeOf170
  t138 := Tryz.underlying172
  a138 := Tryz.isAgg172
  z138 := Tryz.sizeOf172
  v138 := Tryz.zeroValue172
  t139 := Tryz.underlying173
  a139 := Tryz.isAgg173
  z139 := Tryz.sizeOf173
  v139 := Tryz.zeroValue173
  t146 := Tryz.underlying143
  a146 := Tryz.isAgg143
  z146 := Tryz.sizeOf143
  v146 := Tryz.zeroValue143
  g1 := by kernel_rfl
  g3 := by kernel_rfl
  g4 := by kernel_rfl }
theorem Tryz.strings_Split (s sep : ByteArray) (m : Int) (w : World) (hs : s.size < 4294967281) (hm : w.cell? ⟨0, 0, none⟩ = some (.int .i64 m)) (h1 : 1 ≤ sep.size) :
    Calls Tryz.prog 91 #[.string s, .string sep] w fun e w' =>
      e = .returned (.slice (some ⟨w.heap.size, 0, none⟩) (Lib.countB s sep + 1) (Lib.countB s sep + 1)) ∧ w' = w.alloc (.cells ((Lib.splitB sep 0 (Lib.countB s sep) s).map Value.string).toArray 9) := Any.strings_Split Tryz.lays146 (by kernel_rfl) s sep m w hs hm h1
end Go.Proofs

namespace Go.GV
open Go.RowKit Go.MapKept
structure MapK {κ : Type} (P : Program) (kt : TypeId) (f : κ → Value) : Prop where
  ex : ∃ d, P.underlying kt = some d ∧ (∀ a, IsKey d (f a)) ∧ ∀ a b, f a = f b → a = b
def Born (es : Array MapEntry) (clock : Nat) : Prop := (es.toList.map (·.born)).Nodup ∧ ∀ e ∈ es.toList, e.born < clock
theorem Born.nil : Born #[] 0 := ⟨List.nodup_nil, fun _ h => by simp at h⟩
theorem Born.push {es : Array MapEntry} {clock : Nat} (h : Born es clock) (k v : Value) : Born (es.push ⟨k, v, clock⟩) (clock + 1) := by
  refine ⟨?_, fun e he => ?_⟩
  · rw [Array.toList_push, List.map_append, List.nodup_append]
    refine ⟨h.1, by simp, fun a ha b hb => ?_⟩
    simp only [List.map_cons, List.map_nil, List.mem_singleton] at hb
    subst hb
    obtain ⟨e, he, rfl⟩ := List.mem_map.1 ha
    have := h.2 e he
    omega
  · rw [Array.toList_push, List.mem_append, List.mem_singleton] at he
    rcases he with he | rfl
    · have := h.2 e he; omega
    · exact Nat.lt_succ_self _
theorem Born.modify {es : Array MapEntry} {clock : Nat} (h : Born es clock) (i : Nat) (g : MapEntry → MapEntry) (hg : ∀ e, (g e).born = e.born) : Born (es.modify i g) clock := by
  have e1 : (es.modify i g).toList.map (·.born) = es.toList.map (·.born) := by
    apply List.ext_getElem?
    intro j
    simp only [Array.toList_modify, List.getElem?_map, List.getElem?_modify]
    by_cases hij : i = j
    · subst hij
      cases es.toList[i]? <;> simp [hg]
    · simp [hij]
  refine ⟨by rw [e1]; exact h.1, fun e he => ?_⟩
  have : e.born ∈ es.toList.map (·.born) := by rw [← e1]; exact List.mem_map.2 ⟨e, he, rfl⟩
  obtain ⟨e', he', h2⟩ := List.mem_map.1 this
  have := h.2 e' he'
  omega
def Ent.mp {κ : Type} (f : κ → Value) (b : Nat) (l : List (κ × Value)) : Ent :=
  ⟨some b, fun o => ∃ es clock, o = some (.map es clock) ∧ es.toList.map (fun e => (e.key, e.val)) = l.map (fun p => (f p.1, p.2)) ∧ Born es clock⟩
def lk {κ : Type} [DecidableEq κ] : List (κ × Value) → κ → Option Value
  | [], _ => none
  | (a, v) :: l, k => if k = a then some v else lk l k
def upd {κ : Type} [DecidableEq κ] : List (κ × Value) → κ → Value → List (κ × Value)
  | [], k, v => [(k, v)]
  | (a, u) :: l, k, v => if k = a then (k, v) :: l else (a, u) :: upd l k v
section
variable {κ : Type} [DecidableEq κ] {a k : κ} {v u : Value} {l : List (κ × Value)} {r : Option Value}
theorem upd_new (h : lk l k = none) : upd l k v = l ++ [(k, v)] := by
  induction l with
  | nil => rfl
  | cons p l ih =>
    obtain ⟨a, u⟩ := p
    unfold lk at h
    split at h
    · cases h
    · rename_i hne
      unfold upd
      rw [if_neg hne, ih h]; rfl
theorem find_lk {d : TypeDesc} {f : κ → Value} (hd : ∀ a, IsKey d (f a)) (hi : ∀ a b, f a = f b → a = b) (k : κ) : ∀ (es : List MapEntry) (l : List (κ × Value)) (i : Nat), es.map (fun e => (e.key, e.val)) = l.map (fun p => (f p.1, p.2)) →
    (Instr.findNow d (f k) es i = some none ∧ lk l k = none) ∨ ∃ j v, Instr.findNow d (f k) es i = some (some (i + j, v)) ∧ lk l k = some v ∧ (∃ e, es[j]? = some e ∧ e.key = f k) ∧ ∀ u, (upd l k u).map (fun p => (f p.1, p.2)) = (l.map (fun p => (f p.1, p.2))).set j (f k, u)
  | [], [], i, _ => .inl ⟨rfl, rfl⟩
  | [], _ :: _, i, h => by cases h
  | _ :: _, [], i, h => by cases h
  | e :: es, (a, v) :: l, i, h => by
    simp only [List.map_cons, List.cons.injEq, Prod.mk.injEq] at h
    obtain ⟨⟨h1, h2⟩, h3⟩ := h
    obtain ⟨r, hr, hiff⟩ := sameNow_of_keys (hd k) (h1 ▸ hd a : IsKey d e.key)
    cases r with
    | true =>
      have hk : k = a := hi _ _ ((hiff.1 rfl).trans h1)
      refine .inr ⟨0, v, by simp [Instr.findNow, hr, h2], by rw [lk, if_pos hk], ⟨e, rfl, (hiff.1 rfl).symm⟩, fun u => ?_⟩
      simp [upd, if_pos hk]
    | false =>
      have hne : k ≠ a := fun q => by have := hiff.2 (by rw [h1, q]); cases this
      rcases find_lk hd hi k es l (i + 1) h3 with ⟨x1, x2⟩ | ⟨j, u, x1, x2, x3, x4⟩
      · exact .inl ⟨by simp [Instr.findNow, hr, x1], by rw [lk, if_neg hne, x2]⟩
      · refine .inr ⟨j + 1, u, by simp [Instr.findNow, hr, x1]; omega, by rw [lk, if_neg hne, x2], by simpa using x3, fun u => ?_⟩
        rw [upd, if_neg hne, List.map_cons, x4 u]; rfl
end
theorem mp_at {κ : Type} {f : κ → Value} {b : Nat} {l : List (κ × Value)} {w : World} (h : (Ent.mp f b l).at w) : ∃ es clock, w.heap[b]? = some (.map es clock) ∧ es.toList.map (fun e => (e.key, e.val)) = l.map (fun p => (f p.1, p.2)) ∧ Born es clock := by
  simpa [Ent.at, Ent.mp] using h.1
section
variable {E : Env} {P : Program} {x y z : Operand} {dst : Option Nat} {t t' ty u : TypeId} {pos : String} {af : Array Edge} {g : Option (Nat × Bool)} {κ : Type} [DecidableEq κ]
theorem run_lookup_mp {f : κ → Value} {b : Nat} {l : List (κ × Value)} {w : World} {kt et : TypeId} {zv : Value} {k : κ} (hat : (Ent.mp f b l).at w) (ht : P.underlying t = some (.map kt et)) (hK : MapK P kt f) (hz : zeroIs P et = some zv) (ok : Bool) :
    (Instr.lookup t (.map (some b)) (f k) ok).run P w = .ok (if ok then .tuple #[(lk l k).getD zv, .bool (lk l k).isSome] else (lk l k).getD zv) w := by
  obtain ⟨es, clock, hb, hes, hborn⟩ := mp_at hat
  obtain ⟨d, hd, hkey, hinj⟩ := hK.ex
  unfold Instr.lookup
  simp only [Sem.run_bind, run_underlying ht, Result.andThen_ok, MapKept.run_getObj_map hb, Sem.run_pure, MapKept.run_checkKey hd (hkey k)]
  rcases find_lk hkey hinj k es.toList l 0 hes with ⟨h1, h2⟩ | ⟨j, v, h1, h2, _⟩
  · simp only [MapKept.run_findKey hd h1, Result.andThen_ok, Sem.run_bind, run_zeroValue_is hz, Sem.run_pure, h2]
    cases ok <;> rfl
  · simp only [MapKept.run_findKey hd h1, Result.andThen_ok, Sem.run_bind, Sem.run_pure, h2]
    cases ok <;> rfl
theorem x_lookup {S : List Nat} {w0 : World} {L : List Ent} (j : Nat) {f : κ → Value} {b : Nat} {l : List (κ × Value)} {kt et : TypeId} {zv : Value} {k : κ} {r : Option Value} (hx : ev E x = .map (some b)) (hy : ev E y = f k) (hj : L[j]? = some (Ent.mp f b l)) (ht : P.underlying t = some (.map kt et)) (hK : MapK P kt f) (hz : zeroIs P et = some zv) (hr : lk l k = r) :
    ∀ w, St S w0 w L → (execOp (ev E) ⟨dst, .lookup t x y false, ty, pos, af, g⟩).run P w = .ok (.value (r.getD zv)) w := by
  intro w hS
  subst hr
  simp only [execOp, hx, hy]
  show Sem.run P (do let v ← Instr.lookup t (.map (some b)) (f k) false; pure (Next.value v)) w = _
  rw [Sem.run_bind, run_lookup_mp (k := k) (hS.mem hj) ht hK hz false]; rfl
theorem x_lookup_v {S : List Nat} {w0 : World} {L : List Ent} (j : Nat) {f : κ → Value} {b : Nat} {l : List (κ × Value)} {kt et : TypeId} {zv v : Value} {k : κ} {r : Option Value} (hx : ev E x = .map (some b)) (hy : ev E y = f k) (hj : L[j]? = some (Ent.mp f b l)) (ht : P.underlying t = some (.map kt et)) (hK : MapK P kt f) (hz : zeroIs P et = some zv) (hr : lk l k = r) (hv : r.getD zv = v) :
    ∀ w, St S w0 w L → (execOp (ev E) ⟨dst, .lookup t x y false, ty, pos, af, g⟩).run P w = .ok (.value v) w := by
  subst hv; exact x_lookup j hx hy hj ht hK hz hr
omit [DecidableEq κ] in
theorem O_makeMap {S : List Nat} {w0 : World} {L : List Ent} {K : Value → List Ent → Prop} (f : κ → Value) (k : ∀ b, K (.map (some b)) (Ent.mp f b [] :: L)) : OpJ P S w0 E L ⟨dst, .makeMap t none, ty, pos, af, g⟩ K := by
  intro w hS
  refine ⟨_, _, _, .inl ?_, hS.alloc (.map #[] 0) (Ent.mp f w.heap.size []) rfl ⟨_, _, rfl, rfl, Born.nil⟩, k w.heap.size⟩
  have hr : (Instr.makeMap t none).run P w = .ok (.map (some w.heap.size)) (w.alloc (.map #[] 0)) := by
    simp [Instr.makeMap, newObj, Sem.run]
  simp only [execOp]
  show Sem.run P (do let v ← Instr.makeMap t none; pure (Next.value v)) w = _
  rw [Sem.run_bind, hr]; rfl
theorem run_update_mp {f : κ → Value} {b : Nat} {l : List (κ × Value)} {w : World} {kt et : TypeId} {k : κ} {v : Value} (hat : (Ent.mp f b l).at w) (ht : P.underlying t = some (.map kt et)) (hK : MapK P kt f) :
    ∃ w', (Instr.mapUpdate t (.map (some b)) (f k) v).run P w = .ok () w' ∧ Fr [b] w w' ∧ (Ent.mp f b (upd l k v)).prop w'.heap[b]? := by
  obtain ⟨es, clock, hb, hes, hborn⟩ := mp_at hat
  obtain ⟨d, hd, hkey, hinj⟩ := hK.ex
  have fr : ∀ o, Fr [b] w { w with heap := w.heap.setIfInBounds b o } := fun o => ⟨rfl, rfl, rfl, by simp, fun i hi hn => (MapKept.heap_set (o' := o) hb).2 i (by simpa using hn)⟩
  unfold Instr.mapUpdate
  simp only [Sem.run_bind, run_underlying ht, Result.andThen_ok, MapKept.run_getObj_map hb, MapKept.run_checkKey hd (hkey k)]
  rcases find_lk hkey hinj k es.toList l 0 hes with ⟨h1, h2⟩ | ⟨j, v', h1, h2, ⟨e, he, hek⟩, h4⟩
  · simp only [MapKept.run_findKey hd h1, Result.andThen_ok, MapKept.run_setObj_map _ hb]
    refine ⟨_, rfl, fr _, _, _, (MapKept.heap_set hb).1, ?_, hborn.push _ _⟩
    rw [upd_new h2]
    simp [hes]
  · have he' : es[j]? = some e := by simpa using he
    simp only [MapKept.run_findKey hd h1, Result.andThen_ok, Nat.zero_add, he', Option.map_some, Option.getD_some, hek, MapKept.run_keyThatStays (hkey k), MapKept.run_setObj_map _ hb, Sem.run_bind]
    refine ⟨_, rfl, fr _, _, _, (MapKept.heap_set hb).1, ?_, hborn.modify _ _ fun _ => rfl⟩
    rw [h4 v, ← hes]
    apply List.ext_getElem?
    intro i
    simp only [Array.toList_modify, List.getElem?_map, List.getElem?_modify, List.getElem?_set, List.length_map]
    by_cases hij : j = i
    · subst hij
      have hlt : j < es.toList.length := (List.getElem?_eq_some_iff.1 he).1
      have hlt' : j < es.size := by simpa using hlt
      simp [hlt']
    · simp [hij]
theorem O_mapUpdate {S : List Nat} {w0 : World} {L : List Ent} {K : Value → List Ent → Prop} (j : Nat) {f : κ → Value} {b : Nat} {l : List (κ × Value)} {kt et : TypeId} {k : κ} {v : Value} (l' : List (κ × Value)) (L' : List Ent) (hx : ev E x = .map (some b)) (hy : ev E y = f k) (hz : ev E z = v) (hj : L[j]? = some (Ent.mp f b l)) (ht : P.underlying t = some (.map kt et)) (hK : MapK P kt f)
    (hl : upd l k v = l') (hL : L.set j (Ent.mp f b l') = L') (kk : K undef L') : OpJ P S w0 E L ⟨dst, .mapUpdate t x y z, ty, pos, af, g⟩ K := by
  intro w hS
  subst hl; subst hL
  obtain ⟨w', hr, hF, hB⟩ := run_update_mp (P := P) (t := t) (k := k) (v := v) (hS.mem hj) ht hK
  refine ⟨undef, _, w', .inr ⟨?_, rfl⟩, hS.writeAt hj b rfl rfl hF hB, kk⟩
  simp only [execOp, hx, hy, hz]
  show Sem.run P (do Instr.mapUpdate t (.map (some b)) (f k) v; pure Next.skip) w = _
  rw [Sem.run_bind, hr]; rfl
theorem O_insert {S : List Nat} {w0 : World} {L : List Ent} {K : Value → List Ent → Prop} (j : Nat) {f : κ → Value} {b : Nat} {l : List (κ × Value)} {kt et : TypeId} {k : κ} {v : Value} (l' : List (κ × Value)) (L' : List Ent) (hx : ev E x = .map (some b)) (hy : ev E y = f k) (hz : ev E z = v) (hj : L[j]? = some (Ent.mp f b l)) (ht : P.underlying t = some (.map kt et)) (hK : MapK P kt f)
    (hl : upd l k v = l') (hL : L.set j (Ent.mp f b l') = L') (kk : K undef L') : OpJ P S w0 E L ⟨dst, .insert t x y z, ty, pos, af, g⟩ K := by
  intro w hS
  subst hl; subst hL
  obtain ⟨w', hr, hF, hB⟩ := run_update_mp (P := P) (t := t) (k := k) (v := v) (hS.mem hj) ht hK
  refine ⟨undef, _, w', .inr ⟨?_, rfl⟩, hS.writeAt hj b rfl rfl hF hB, kk⟩
  simp only [execOp, hx, hy, hz]
  show Sem.run P (do Instr.mapUpdate t (.map (some b)) (f k) v; pure Next.skip) w = _
  rw [Sem.run_bind, hr]; rfl
end
section
variable {E : Env} {P : Program} {w : World} {x y : Operand} {dst : Option Nat} {t t' ty : TypeId} {pos : String} {af : Array Edge} {g : Option (Nat × Bool)}
def isFn : Value → Bool
  | .func .. => true
  | _ => false
end
end Go.GV

namespace Go.GV
open Go.RowKit Go.MapKept
def Ent.mx (b : Nat) (es : Array MapEntry) (clock : Nat) : Ent := ⟨some b, fun o => o = some (.map es clock)⟩
def Ent.rng {κ : Type} (f : κ → Value) (b bm : Nat) (es : Array MapEntry) (clock : Nat) (left : List (κ × Value)) (cur : Option (κ × Value)) : Ent :=
  ⟨some b, fun o => ∃ seen, o = some (.mapIter (some bm) clock seen clock) ∧ (leftOf es seen).toList.map (fun e => (e.key, e.val)) = left.map (fun p => (f p.1, p.2)) ∧ ∀ p, cur = some p → ∃ e ∈ es.toList, seen.back? = some e.born ∧ e.key = f p.1 ∧ e.val = p.2⟩
def Holds' {κ : Type} (f : κ → Value) (es : Array MapEntry) (l : List (κ × Value)) : Prop := es.toList.map (fun e => (e.key, e.val)) = l.map (fun p => (f p.1, p.2))
section
variable {E : Env} {P : Program} {x : Operand} {dst : Option Nat} {t ty : TypeId} {pos : String} {af : Array Edge} {g : Option (Nat × Bool)} {κ : Type}
theorem leftOf_none (es : Array MapEntry) : leftOf es #[] = es := by
  unfold leftOf
  exact Array.filter_eq_self.2 (fun _ _ => by simp)
theorem St.mp_mx {S : List Nat} {w0 w : World} {L : List Ent} (j : Nat) {f : κ → Value} {b : Nat} {l : List (κ × Value)} (hS : St S w0 w L) (hj : L[j]? = some (Ent.mp f b l)) : ∃ es clock, Holds' f es l ∧ Born es clock ∧ w.heap[b]? = some (.map es clock) ∧ St S w0 w (L.set j (Ent.mx b es clock)) := by
  obtain ⟨es, clock, h1, h2, h3⟩ := mp_at (hS.mem hj)
  refine ⟨es, clock, h2, h3, h1, ?_⟩
  have hjl : j < L.length := (List.getElem?_eq_some_iff.1 hj).1
  have hje : L[j] = Ent.mp f b l := (List.getElem?_eq_some_iff.1 hj).2
  refine hS.writeAt hj b rfl rfl ⟨rfl, rfl, rfl, Nat.le_refl _, fun _ _ _ => rfl⟩ ?_
  show w.heap[b]? = _
  exact h1
theorem O_range {S : List Nat} {w0 : World} {L : List Ent} {K : Value → List Ent → Prop} (j : Nat) {f : κ → Value} {b : Nat} {l : List (κ × Value)} {kt et : TypeId} (hx : ev E x = .map (some b)) (hj : L[j]? = some (Ent.mp f b l)) (ht : P.underlying t = some (.map kt et))
    (k : ∀ es clock it, Holds' f es l → Born es clock → K (.pointer (some ⟨it, 0, none⟩)) (Ent.rng f it b es clock l none :: L.set j (Ent.mx b es clock))) : OpJ P S w0 E L ⟨dst, .range t x, ty, pos, af, g⟩ K := by
  intro w hS
  obtain ⟨es, clock, h1, h2, h3, h4⟩ := hS.mp_mx j hj
  refine ⟨_, _, _, .inl ?_, h4.alloc (.mapIter (some b) clock #[] clock) (Ent.rng f w.heap.size b es clock l none) rfl ⟨#[], rfl, by rw [leftOf_none]; exact h1, fun p hp => by cases hp⟩, k es clock w.heap.size h1 h2⟩
  simp only [execOp, hx]
  show Sem.run P (do let v ← Instr.range t (.map (some b)); pure (Next.value v)) w = _
  rw [Sem.run_bind, run_range_map w t kt et b es clock ht h3]; rfl
theorem run_next_at (w : World) (ty : TypeId) (it bm clock : Nat) (seen : Array Nat) (es : Array MapEntry) (hi : w.heap[it]? = some (.mapIter (some bm) clock seen clock)) (hb : w.heap[bm]? = some (.map es clock)) (hB : Born es clock) :
    ((leftOf es seen).size = 0 ∧ (Instr.next (.pointer (some ⟨it, 0, none⟩)) false ty).run P w = .ok (.tuple #[.bool false]) w) ∨
    ∃ j, ∃ h : j < (leftOf es seen).size, ∃ w1 : World, (w1.heap = w.heap ∧ w1.os = w.os ∧ w1.output = w.output ∧ w1.tape = w.tape) ∧ (Instr.next (.pointer (some ⟨it, 0, none⟩)) false ty).run P w = .ok (.tuple #[.bool true, ((leftOf es seen)[j]).key, ((leftOf es seen)[j]).val]) { w1 with heap := w1.heap.setIfInBounds it (.mapIter (some bm) clock (seen.push ((leftOf es seen)[j]).born) clock) } := by
  simp only [Instr.next, getObj, Sem.run_bind, Sem.run, hi, hb, Result.andThen, next_test_false seen es clock clock hB.2 (Nat.le_refl _), Bool.false_eq_true, if_false]
  unfold leftOf
  have hmem : ∀ x ∈ (Array.filter (fun e => !seen.contains e.born) es).toList, x.born < clock := fun x hx => hB.2 x (by simp at hx ⊢; exact hx.1)
  generalize Array.filter (fun e => !seen.contains e.born) es = L at hmem ⊢
  have e1 : L.filter (fun x => decide (x.born < clock)) = L := Array.filter_eq_self.2 (fun x hx => by simpa using hmem x (by simpa using hx))
  have e2 : L.filter (fun x => decide (x.born ≥ clock)) = #[] := by
    rw [Array.filter_eq_empty_iff]
    intro x hx
    have := hmem x (by simpa using hx)
    simp
    omega
  simp only [e1, e2, Array.append_empty]
  by_cases h0 : L.size = 0
  · left
    have : L = #[] := Array.eq_empty_of_size_eq_zero h0
    subst this
    refine ⟨rfl, ?_⟩
    simp [choose, Sem.run, Question.forced]
  · right
    have hne : L.isEmpty = false := by simp [Array.isEmpty, h0]
    simp only [hne, Bool.false_eq_true, if_false, Array.empty_append, Array.size_map]
    have hch : ∃ (j : Nat) (w1 : World), j < L.size ∧ (w1.heap = w.heap ∧ w1.os = w.os ∧ w1.output = w.output ∧ w1.tape = w.tape) ∧ (choose (Question.mapNext L.size)).run P w = .ok j w1 := by
      by_cases hf : L.size ≤ 1
      · exact ⟨0, w, by omega, ⟨rfl, rfl, rfl, rfl⟩, by simp [choose, Sem.run, Question.forced, hf]⟩
      · exact ⟨_, w.drew, Nat.mod_lt _ (by omega), ⟨rfl, rfl, rfl, rfl⟩, by
          simp only [choose, Sem.run, Question.forced, decide_eq_true_eq, hf, if_false, Question.cut]
          rfl⟩
    obtain ⟨j, w1, hj, hal, hrun⟩ := hch
    refine ⟨j, hj, w1, hal, ?_⟩
    have hi' : w1.heap[it]? = some (.mapIter (some bm) clock seen clock) := by rw [hal.1]; exact hi
    have hset : ∀ (o' : Obj), (setObj it o').run P w1 = .ok () { w1 with heap := w1.heap.setIfInBounds it o' } := fun o' => by
      simp only [setObj, Sem.run, hi']
    simp only [hrun, Array.getElem?_map, Array.getElem?_eq_getElem hj, Option.map_some, Sem.run_bind, hset, Result.andThen]
    rfl
theorem filter_erase : ∀ (l : List MapEntry) (j : Nat) (hj : j < l.length), (l.map (·.born)).Nodup → l.filter (fun e => !(e.born == l[j].born)) = l.eraseIdx j
  | x :: l, 0, _, hn => by
    rw [List.map_cons, List.nodup_cons] at hn
    rw [List.eraseIdx_cons_zero, List.filter_cons]
    simp only [List.getElem_cons_zero, beq_self_eq_true, Bool.not_true, Bool.false_eq_true, if_false]
    rw [List.filter_eq_self]
    intro a ha
    rw [Bool.not_eq_true', beq_eq_false_iff_ne]
    intro e
    exact hn.1 (List.mem_map.2 ⟨a, ha, e⟩)
  | x :: l, j + 1, hj, hn => by
    rw [List.map_cons, List.nodup_cons] at hn
    rw [List.eraseIdx_cons_succ, List.filter_cons]
    have hj' : j < l.length := by simpa using hj
    simp only [List.getElem_cons_succ]
    have : (x.born == l[j].born) = false := by
      rw [beq_eq_false_iff_ne]
      intro e
      exact hn.1 (List.mem_map.2 ⟨l[j], List.getElem_mem _, e.symm⟩)
    rw [this]
    simp only [Bool.not_false, if_true]
    rw [filter_erase l j hj' hn.2]
theorem leftOf_push (es : Array MapEntry) (clock : Nat) (hB : Born es clock) (seen : Array Nat) (j : Nat) (h : j < (leftOf es seen).size) : (leftOf es (seen.push (leftOf es seen)[j].born)).toList = (leftOf es seen).toList.eraseIdx j := by
  have hn : ((leftOf es seen).toList.map (·.born)).Nodup := by
    unfold leftOf
    rw [Array.toList_filter]
    exact List.Nodup.sublist (List.Sublist.map _ List.filter_sublist) hB.1
  rw [← filter_erase _ j (by simpa using h) hn]
  simp only [Array.getElem_toList]
  generalize (leftOf es seen)[j].born = b
  unfold leftOf
  rw [Array.toList_filter, Array.toList_filter, List.filter_filter]
  congr 1
  funext e
  simp only [Array.contains_push, Bool.not_or]
  cases seen.contains e.born <;> cases (e.born == b) <;> rfl
theorem map_eraseIdx {α β : Type} (f : α → β) : ∀ (l : List α) (n : Nat), (l.eraseIdx n).map f = (l.map f).eraseIdx n
  | [], n => by simp
  | _ :: _, 0 => rfl
  | x :: l, n + 1 => by simp only [List.eraseIdx_cons_succ, List.map_cons, map_eraseIdx f l n]
theorem O_next {α : Type} {S : List Nat} {w0 : World} {L : List Ent} {K : Value → List Ent → Prop} (j i : Nat) {f : κ → Value} (mc : α → κ × Value) {it bm clock : Nat} {es : Array MapEntry} {left : List α} {cur : Option (κ × Value)} (hx : ev E x = .pointer (some ⟨it, 0, none⟩)) (hj : L[j]? = some (Ent.rng f it bm es clock (left.map mc) cur)) (hi : L[i]? = some (Ent.mx bm es clock)) (hB : Born es clock)
    (h0 : left = [] → K (.tuple #[vB false]) L) (h1 : ∀ a n, left[n]? = some a → K (.tuple #[vB true, f (mc a).1, (mc a).2]) (L.set j (Ent.rng f it bm es clock ((left.eraseIdx n).map mc) (some (mc a))))) : OpJ P S w0 E L ⟨dst, .next x false, ty, pos, af, g⟩ K := by
  intro w hS
  have hat := hS.mem hj
  obtain ⟨seen, q1, q2, q3⟩ : (Ent.rng f it bm es clock (left.map mc) cur).prop w.heap[it]? := by simpa [Ent.at, Ent.rng] using hat.1
  have hm : w.heap[bm]? = some (.map es clock) := by
    have := (hS.mem hi).1
    simpa [Ent.at, Ent.mx] using this
  rcases run_next_at (P := P) w ty it bm clock seen es q1 hm hB with ⟨r1, r2⟩ | ⟨n, hn, w1, hal, r2⟩
  · refine ⟨_, _, w, .inl ?_, hS, h0 ?_⟩
    · simp only [execOp, hx]
      show Sem.run P (do let v ← Instr.next _ false ty; pure (Next.value v)) w = _
      rw [Sem.run_bind, r2]; rfl
    · have h2 := congrArg List.length q2
      simp only [List.length_map, Array.length_toList] at h2
      exact List.length_eq_zero_iff.1 (by omega)
  · have hl : n < left.length := by
      have h2 := congrArg List.length q2
      simp only [List.length_map, Array.length_toList] at h2
      omega
    have hp : ((leftOf es seen)[n].key, (leftOf es seen)[n].val) = (f (mc left[n]).1, (mc left[n]).2) := by
      have h2 : ((leftOf es seen).toList.map (fun e => (e.key, e.val)))[n]? = ((left.map mc).map (fun p => (f p.1, p.2)))[n]? := by rw [q2]
      simpa [List.getElem?_eq_getElem, hn, hl] using h2
    simp only [Prod.mk.injEq] at hp
    refine ⟨.tuple #[vB true, f (mc left[n]).1, (mc left[n]).2], L.set j (Ent.rng f it bm es clock ((left.eraseIdx n).map mc) (some (mc left[n]))), { w1 with heap := w1.heap.setIfInBounds it (.mapIter (some bm) clock (seen.push (leftOf es seen)[n].born) clock) }, .inl ?_, ?_, h1 left[n] n (List.getElem?_eq_getElem hl)⟩
    · simp only [execOp, hx]
      show Sem.run P (do let v ← Instr.next _ false ty; pure (Next.value v)) w = _
      rw [Sem.run_bind, r2, hp.1, hp.2]; rfl
    · refine hS.writeAt (w' := { w1 with heap := w1.heap.setIfInBounds it (.mapIter (some bm) clock (seen.push (leftOf es seen)[n].born) clock) }) hj it rfl rfl ?_ ?_
      · obtain ⟨a1, a2, a3, a4⟩ := hal
        refine ⟨a2, a4, a3, by simp [a1], fun k hk hkn => ?_⟩
        have hkn' : it ≠ k := fun e => hkn (by simp [e])
        simp [a1, hkn']
      · refine ⟨seen.push (leftOf es seen)[n].born, ?_, ?_, ?_⟩
        · have : it < w1.heap.size := by
            rw [hal.1]; exact (Array.getElem?_eq_some_iff.1 q1).1
          simp [this]
        · rw [leftOf_push es clock hB seen n hn, map_eraseIdx, q2, ← map_eraseIdx, ← map_eraseIdx]
        · intro p hp2
          cases hp2
          refine ⟨(leftOf es seen)[n], ?_, by simp, hp.1, hp.2⟩
          have : (leftOf es seen)[n] ∈ (leftOf es seen).toList := by simp
          unfold leftOf at this ⊢
          rw [Array.toList_filter] at this
          exact (List.mem_filter.1 this).1
theorem O_entry {S : List Nat} {w0 : World} {L : List Ent} (j i : Nat) {f : κ → Value} {it bm clock : Nat} {es : Array MapEntry} {left : List (κ × Value)} {p : κ × Value} (hx : ev E x = .pointer (some ⟨it, 0, none⟩)) (hj : L[j]? = some (Ent.rng f it bm es clock left (some p))) (hi : L[i]? = some (Ent.mx bm es clock)) (hB : Born es clock) :
    ∀ w, St S w0 w L → (execOp (ev E) ⟨dst, .entry x, ty, pos, af, g⟩).run P w = .ok (.value (.tuple #[f p.1, p.2])) w := by
  intro w hS
  have hat := hS.mem hj
  obtain ⟨seen, q1, q2, q3⟩ : (Ent.rng f it bm es clock left (some p)).prop w.heap[it]? := by simpa [Ent.at, Ent.rng] using hat.1
  have hm : w.heap[bm]? = some (.map es clock) := by
    have := (hS.mem hi).1
    simpa [Ent.at, Ent.mx] using this
  obtain ⟨e, he, h1, h2, h3⟩ := q3 p rfl
  have hf : es.find? (·.born == e.born) = some e := by rw [← Array.find?_toList]; exact find_born e es.toList hB.1 he
  have hr : (Instr.entry (.pointer (some ⟨it, 0, none⟩))).run P w = .ok (.tuple #[f p.1, p.2]) w := by
    simp only [Instr.entry, getObj, Sem.run_bind, Sem.run, q1, hm, Result.andThen, h1, bne_self_eq_false, Bool.false_eq_true, if_false, hf, h2, h3]
    rfl
  simp only [execOp, hx]
  show Sem.run P (do let v ← Instr.entry (.pointer (some ⟨it, 0, none⟩)); pure (Next.value v)) w = _
  rw [Sem.run_bind, hr]; rfl
theorem x_len_mp {S : List Nat} {w0 : World} {L : List Ent} (j : Nat) {f : κ → Value} {b : Nat} {l : List (κ × Value)} {kt et : TypeId} {n : Nat} (hx : ev E x = .map (some b)) (hj : L[j]? = some (Ent.mp f b l)) (ht : P.underlying t = some (.map kt et)) (hn : l.length = n) :
    ∀ w, St S w0 w L → (execOp (ev E) ⟨dst, .call ⟨.builtin .len, #[x], #[t]⟩, ty, pos, af, g⟩).run P w = .ok (.value (vI (n : Int))) w := by
  intro w hS
  subst hn
  obtain ⟨es, clock, hb, hes, _⟩ := mp_at (hS.mem hj)
  have hl : es.size = l.length := by
    have := congrArg List.length hes
    simpa using this
  rw [← hl]
  have hr : (Builtin.len_ #[t] ty #[.map (some b)]).run P w = .ok (vI (es.size : Int)) w := by
    simp only [Builtin.len_]
    show Sem.run P (do let u ← underlying t; _) w = _
    simp [run_underlying ht, goInt, MapKept.run_getObj_map hb]
  simp [execOp, resolve, invoke, builtin, hx, hr]
end
def wpV (a : Nat) (o : Nat) : Value := .pointer (some ⟨a, o, none⟩)
def putV : List Value → List Nat → List Int → Nat → List Value
  | cs, [], _, _ => cs
  | cs, o :: os, vs, i => putV (cs.set o (vI (vs.getD i 0))) os vs (i + 1)
section
variable {E : Env} {P : Program} {x y : Operand} {dst : Option Nat} {t ty : TypeId} {pos : String} {af : Array Edge} {g : Option (Nat × Bool)}
end
def kT {κ : Type} (s : κ) : κ × Value := (s, vB true)
section
variable {κ : Type} [DecidableEq κ]
def addK (l : List κ) (s : κ) : List κ := if s ∈ l then l else l ++ [s]
theorem upd_kT (l : List κ) (s : κ) : upd (l.map kT) s (vB true) = (addK l s).map kT := by
  unfold addK
  induction l with
  | nil => rfl
  | cons a l ih =>
    rw [List.map_cons]
    unfold kT at *
    unfold upd
    by_cases h : s = a
    · rw [if_pos h, if_pos (by simp [h])]
      simp [h]
    · rw [if_neg h, ih]
      by_cases h2 : s ∈ l
      · rw [if_pos h2, if_pos (by simp [h2])]
        rfl
      · rw [if_neg h2, if_neg (by simp [h, h2])]
        rfl
theorem lk_kT (l : List κ) (s : κ) : lk (l.map kT) s = if s ∈ l then some (vB true) else none := by
  induction l with
  | nil => rfl
  | cons a l ih =>
    rw [List.map_cons]
    unfold kT at *
    unfold lk
    by_cases h : s = a
    · rw [if_pos h, if_pos (by simp [h])]
    · rw [if_neg h, ih]
      by_cases h2 : s ∈ l
      · rw [if_pos h2, if_pos (by simp [h2])]
      · rw [if_neg h2, if_neg (by simp [h, h2])]
def hasK (l : List κ) (s : κ) : Bool := decide (s ∈ l)
theorem lk_kT_v (l : List κ) (s : κ) : (lk (l.map kT) s).getD (vB false) = vB (hasK l s) := by
  unfold hasK
  rw [lk_kT]
  by_cases h : s ∈ l
  · rw [if_pos h, decide_eq_true h]; rfl
  · rw [if_neg h, decide_eq_false h]; rfl
theorem addK_mem {l : List κ} {s x : κ} : x ∈ addK l s ↔ x ∈ l ∨ x = s := by
  unfold addK
  split
  · rename_i h
    exact ⟨.inl, fun h2 => h2.elim id fun e => e ▸ h⟩
  · rw [List.mem_append, List.mem_singleton]
theorem addK_nodup {l : List κ} {s : κ} (h : l.Nodup) : (addK l s).Nodup := by
  unfold addK
  split
  · exact h
  · rename_i h2
    rw [List.nodup_append]
    exact ⟨h, by simp, fun a ha b hb e => h2 (by rw [List.mem_singleton] at hb; rw [← hb, ← e]; exact ha)⟩
end
end Go.GV

namespace Go.GV
theorem lt_ {p : Prop} (h : p := by first | omega | (simp only [List.length_append, List.length_cons, List.length_nil]; omega) | (simp; omega) | (simp_all; omega) | (simp_all; done)) : p := h
theorem hy_ {p : Prop} (h : p := by first | omega | assumption | (simp only [List.length_append, List.length_cons, List.length_nil]; omega) | (simp only [sub, List.length_drop, List.length_take]; omega) | (simp; omega) | (simp_all; done) | (simp_all; omega) | decide) : p := h
theorem ix_nat {v : Value} {i : Int} {k : Nat} (hv : v = vI i) (h : i = (k : Int)) : v = .int .i64 (k : Int) := by rw [hv, h]
theorem st_all {cs vs : List Value} {n : Nat} (h : Nat.ble cs.length (0 + n) = true) : cs.take 0 ++ (vs ++ cs.drop (0 + n)) = vs := by
  rw [List.drop_of_length_le (Nat.le_of_ble_eq_true h), List.append_nil]; rfl
section
variable {n : Dim} {S : List Nat} {w0 : World} {P : Program} {ops : Array Oper} {Q : Post} {E : Env} {L Lg Lu : List Ent} {us : List Nat} {fuel : Nat} {listed : Array Bool}
theorem jr_ {o : Oper} {rest : List Oper} (v : Value) (h : JO P n S w0 ops rest Q (put E o.dst v) L) (hfit : fit n E o = true := by rfl) (hw : wants ops E o := by exact trivial) (hr : ∀ w, St S w0 w L → (execOp (ev E) o).run P w = .ok (.value v) w := by exact fun _ _ => rfl) : JO P n S w0 ops (o :: rest) Q E L := JO_read v hfit hw hr h
theorem js_ {o : Oper} {rest : List Oper} (v : Value) (hr : ∀ {w}, (execOp (ev E) o).run P w = .ok (.value v) w) (h : JO P n S w0 ops rest Q (put E o.dst v) L) (hfit : fit n E o = true := by rfl) (hw : wants ops E o := by exact trivial) : JO P n S w0 ops (o :: rest) Q E L := JO_read v hfit hw (fun _ _ => hr) h
theorem jg_ {o : Oper} {rest : List Oper} {t b : Bool} {j : Nat} (hg : t = b) (v : Value) (hr : ∀ {w}, (execOp (ev E) o).run P w = .ok (.value v) w) (h : JO P n S w0 ops rest Q (put E o.dst v) L) (hfit : fit n E o = true := by rfl) (h1 : o.guard = some (j, b) := by rfl) (h2 : gval ops E j = some t := by rfl) : JO P n S w0 ops (o :: rest) Q E L := JO_read v hfit (by unfold wants; rw [h1]; exact ⟨t, h2, hg⟩) (fun _ _ => hr) h
theorem sh_ {o : Oper} {rest : List Oper} {t b : Bool} {j : Nat} (hg : t = !b) (h : JO P n S w0 ops rest Q (put E o.dst undef) L) (hd : dstOk n o.dst = true := by rfl) (h1 : o.guard = some (j, b) := by rfl) (h2 : gval ops E j = some t := by rfl) : JO P n S w0 ops (o :: rest) Q E L := JO_shun hd (by unfold shuns; rw [h1]; exact ⟨t, h2, hg⟩) h
theorem jt_ (i : Nat) {o : Oper} (v : Value) (hi : ops[i]? = some o) (hv : ∀ w, St S w0 w Lg → (execOp (ev E) o).run P w = .ok (.value v) w) (h : JA P n S w0 ops Q Lg us Lu fuel (listed.setIfInBounds i true) (put E o.dst v) L)
    (hs : Region.noSelect ops = true := by kernel_rfl) (hf : Region.free .any ops listed i = true := by kernel_rfl) (hr : (Region.ready .any ops listed).contains i = true := by kernel_rfl) (hu : us.contains i = false := by rfl)
    (hQ : ∀ c a w, Q (.panic c) (a.put o.dst v) w → Q (.panic c) a w := by exact fun _ _ _ h => h) (hfit : fit n E o = true := by rfl) (hw : wants ops E o := by exact trivial) : JA P n S w0 ops Q Lg us Lu (fuel + 1) listed E L := JA_take i v hi hs hf hr hu hQ hfit hw hv h
end
end Go.GV

namespace Go.GV
open Go.RowKit Go.Sort
def Lown (L : List Ent) : List Nat := L.filterMap Ent.own
theorem lown_mem {L : List Ent} : ∀ b ∈ Lown L, ∃ e ∈ L, e.own = some b := fun b h => by
  obtain ⟨e, he, ho⟩ := List.mem_filterMap.1 h
  exact ⟨e, he, ho⟩
theorem lown_in {L : List Ent} : ∀ e ∈ L, ∀ b, e.own = some b → b ∈ Lown L := fun e he _ ho => List.mem_filterMap.2 ⟨e, he, ho⟩
section
variable {α : Type} [Inhabited α] {f : α → Value} {w : World} {e : TypeId} {c : Nat} {xs : List α}
end
def subA (A : Option Addr) (cap lo sz : Nat) : Option Addr := if cap = lo then A else A.map (·.add (lo * sz))
section
variable {E : Env} {P : Program} {w : World} {x y : Operand} {dst : Option Nat} {t t' ty e : TypeId} {pos : String} {af : Array Edge} {g : Option (Nat × Bool)}
theorem x_subrow {A : Option Addr} {len cap n lo hi : Nat} {olo ohi : Option Operand} (hx : ev E x = .slice A len cap) (ht : P.underlying t = some (.slice e)) (hn : sizeIs P e = some n) (hlo : olo.map (ev E) = some (vI (lo : Int)) ∨ (olo.map (ev E) = none ∧ lo = 0)) (hhi : ohi.map (ev E) = some (vI (hi : Int)) ∨ (ohi.map (ev E) = none ∧ hi = len))
    (h1 : lo ≤ hi) (h2 : hi ≤ cap) : (execOp (ev E) ⟨dst, .slice t x olo ohi none, ty, pos, af, g⟩).run P w = .ok (.value (.slice (subA A cap lo n) (hi - lo) (cap - lo))) w := by
  have e1 : (0 : Int) ≤ (hi : Int) ∧ (hi : Int) ≤ ((cap : Nat) : Int) := by omega
  have e2 : (0 : Int) ≤ (lo : Int) ∧ (lo : Int) ≤ ((hi : Nat) : Int) := by omega
  have hr : (Instr.sliceAt t (.slice A len cap) (olo.map (ev E)) (ohi.map (ev E)) none).run P w = .ok (.slice (subA A cap lo n) (hi - lo) (cap - lo)) w := by
    rcases hlo with hlo | ⟨hlo, rfl⟩ <;> rcases hhi with hhi | ⟨hhi, rfl⟩ <;> rw [hlo, hhi]
    · simp only [Instr.sliceAt, Instr.slice, Instr.sliceBounds, Instr.sliceBound, asIntOf, run_underlying ht, run_sizeOf_is hn, Sem.run_bind, Sem.run_pure, Result.andThen_ok, if_pos e1, if_pos e2, Int.toNat_natCast]; rfl
    · simp only [Instr.sliceAt, Instr.slice, Instr.sliceBounds, Instr.sliceBound, asIntOf, run_underlying ht, run_sizeOf_is hn, Sem.run_bind, Sem.run_pure, Result.andThen_ok, if_pos e2, Int.toNat_natCast]; rfl
    · simp only [Instr.sliceAt, Instr.slice, Instr.sliceBounds, Instr.sliceBound, asIntOf, run_underlying ht, run_sizeOf_is hn, Sem.run_bind, Sem.run_pure, Result.andThen_ok, if_pos e1, Int.toNat_natCast]; rfl
    · simp only [Instr.sliceAt, Instr.slice, Instr.sliceBounds, run_underlying ht, run_sizeOf_is hn, Sem.run_bind, Sem.run_pure, Result.andThen_ok]; rfl
  simp only [execOp, hx]
  show Sem.run P (do let v ← Instr.sliceAt t (.slice A len cap) (olo.map (ev E)) (ohi.map (ev E)) none; pure (Next.value v)) w = _
  rw [Sem.run_bind, hr]; rfl
theorem row_le {A : Option Addr} {n c sz : Nat} {cs : List Value} (h : (Ent.row (.slice A n c) e sz n cs).at w) : n ≤ c := by
  rcases (row_owns h).2 with ⟨h1, h2⟩ | ⟨g, cap, cur, h1, _, ho, h3, h4, h5, h6⟩
  · omega
  · cases h1; exact h3
end
end Go.GV

namespace Go.GV
open Go.RowKit
def methIs (P : Program) (t : TypeId) (name : String) : Option FuncId := match P.info? t with
  | some i => match i.methods.find? (·.name == name) with
    | some m => if m.path.toList.isEmpty then (match m.func, P.underlying t with
      | some (f, false), some (.struct _) => some f
      | _, _ => none) else none
    | none => none
  | none => none
section
variable {E : Env} {P : Program} {w : World} {x : Operand} {dst : Option Nat} {t ty : TypeId} {pos : String} {af : Array Edge} {g : Option (Nat × Bool)}
theorem run_method {name : String} {f : FuncId} {v : Value} {n : Nat} (hm : methIs P t name = some f) : (method (n + 1) t v name).run P w = .ok (f, v) w := by
  unfold methIs at hm
  cases hi : P.info? t with
  | none => rw [hi] at hm; cases hm
  | some i =>
    rw [hi] at hm
    have hm : (match i.methods.find? (·.name == name) with
      | some m => if m.path.toList.isEmpty then (match m.func, P.underlying t with
        | some (f, false), some (.struct _) => some f
        | _, _ => none) else none
      | none => none) = some f := hm
    cases hfi : i.methods.find? (·.name == name) with
    | none => rw [hfi] at hm; cases hm
    | some m =>
      rw [hfi] at hm
      have hm : (if m.path.toList.isEmpty then (match m.func, P.underlying t with
        | some (f, false), some (.struct _) => some f
        | _, _ => none) else none) = some f := hm
      split at hm
      · rename_i hp
        have hp2 : m.path.toList = [] := by simpa using hp
        split at hm
        · rename_i f' fs hf hu
          cases hm
          unfold method
          simp only [Sem.run_bind, run_typeInfo w hi, Result.andThen_ok, hfi, hp2, follow, Sem.run_pure, hf]
          unfold receiverAt
          simp only [Sem.run_bind, run_underlying hu, Result.andThen_ok, Place.get, Sem.run_pure]
        · cases hm
      · cases hm
theorem x_invoke {f : FuncId} {v : Value} {name : String} {l : List Operand} {vs : List Value} {ts : Array TypeId} (hx : ev E x = .iface t v) (hm : methIs P t name = some f) (hc : Callable P f) (hd : 0 < P.types.size + Made.depth) (ha : v :: l.map (ev E) = vs) :
    (execOp (ev E) ⟨dst, .call ⟨.invoke x name, l.toArray, ts⟩, ty, pos, af, g⟩).run P w = .ok (.enter f vs.toArray) w := by
  subst ha
  obtain ⟨n, hn⟩ : ∃ n, P.types.size + Made.depth = n + 1 := ⟨P.types.size + Made.depth - 1, by omega⟩
  have h := run_callFunc_enter (P := P) (w := w) (args := (v :: l.map (ev E)).toArray) hc
  have hp : (program).run P w = .ok P w := rfl
  simp only [execOp, resolve, List.map_toArray, hx, Sem.run_bind, Sem.run_pure, Result.andThen_ok, invoke]
  have ht : List.take l.length (List.map (ev E) l) = List.map (ev E) l := List.take_of_length_le (by rw [List.length_map]; exact Nat.le_refl _)
  simp [callMethod, Sem.run_bind, hp, hn, run_method (n := n) (v := v) (w := w) hm, ht]
  simpa using h
theorem x_iface {y : TypeId} {v : Value} (hx : ev E x = v) (hu : (match P.underlying y with | some (.interface _) => false | some _ => true | none => false) = true) :
    (execOp (ev E) ⟨dst, .makeInterface y x, ty, pos, af, g⟩).run P w = .ok (.value (.iface y v)) w := by
  cases h : P.underlying y with
  | none => rw [h] at hu; cases hu
  | some d =>
    rw [h] at hu
    simp only [execOp, hx, Instr.makeInterface, Sem.run_bind, run_underlying h, Result.andThen_ok]
    cases d <;> first | rfl | cases hu
end
end Go.GV
