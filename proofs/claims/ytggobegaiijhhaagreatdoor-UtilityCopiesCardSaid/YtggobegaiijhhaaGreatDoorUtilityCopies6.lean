/- Op45, Sh45, GvQ, GvS, Nm44, Pl45c, Ad45, Tc45 in one text. -/
import Derived.Test.YtggobegaiijhhaaGreatDoorUtilityCopies3
import Derived.Test.YtggobegaiijhhaaGreatDoorUtilityCopies4
import Derived.Test.YtggobegaiijhhaaGreatDoorUtilityCopies5
import Derived.Shelf.Strings.Builder1
import Derived.Shelf.Strings.Builder2
import Derived.Shelf.Strings.Trim
import Derived.Shelf.Small.Utf8
import Derived.Shelf.Small.Bits
import Derived.Shelf.Small.Strs
import Derived.Shelf.Small.Wraps
import Derived.Shelf.Strings.BuilderF
import Derived.Shelf.Strings.BuilderK
import Derived.Shelf.Utf8.RuneCount
import Derived.Shelf.Strings.Builder2Cap
import Derived.Shelf.Strconv.Atoi
import Derived.Shelf.Strconv.Itoa0
import Derived.Shelf.Strconv.Itoa1
import Derived.Shelf.LaysM
import Derived.Shelf.Strconv.Itoa2
import Derived.Shelf.Strconv.Itoa3
import Derived.Shelf.Strconv.AtoiErrFast
import Derived.Shelf.Strconv.ParseIntEmpty
import Derived.Shelf.Strconv.AtoiFail
import Derived.Shelf.Strconv.Clone
import Derived.Shelf.Strconv.SyntaxError
import Derived.Shelf.LaysC
import Derived.Shelf.Strconv.ToError
import Derived.Shelf.Strconv.AtoiErr
import Derived.Shelf.Strconv.Lower
import Derived.Shelf.Strconv.ParseUint10
import Derived.Shelf.Strconv.ParseUint10Empty
import Derived.Shelf.Strconv.ParseUint10Any
import Derived.Shelf.Strconv.ParseInt10
import Derived.Shelf.Strconv.AtoiLong
import Derived.Shelf.Strconv.AtoiInnerAll
import Derived.Shelf.Strconv.RangeError
import Derived.Shelf.Strconv.ToErrorRange
import Derived.Shelf.Strconv.AtoiAll
import Derived.Shelf.Strconv.ErrVarAll
import Derived.Shelf.Strings.Search1
import Derived.Shelf.Strings.Search2
import Derived.Shelf.Strings.Search3
import Derived.Shelf.Strings.Cut
import Derived.Shelf.Strings.Count
import Derived.Shelf.Strings.Shaped
import Derived.Shelf.Sort.Plain
import Derived.Shelf.Strings.Prefix
import Derived.Shelf.Strings.Split
import Derived.Shelf.Strings.SplitShaped
import Derived.Shelf.Unicode.Decode
import Derived.Shelf.Strings.Runes
import Derived.Shelf.Strings.RuneCount
import Derived.Shelf.Strings.AsciiSet
import Derived.Shelf.Strings.Explode
import Derived.Shelf.Bits.Mul64
import Derived.Shelf.Strings.Repeat
import Derived.Shelf.Unicode.DecodeSlow
import Derived.Shelf.Unicode.DecodeAny
import Derived.Shelf.Unicode.DecodeLast
import Derived.Shelf.Strings.FieldsFuncAny
import Derived.Shelf.Strings.FieldsFuncGrows
import Derived.Shelf.Slices.Turned
import Derived.Shelf.Slices.Equal
import Derived.Shelf.Slices.Clone
import Derived.Shelf.Slices.SearchI
import Derived.Shelf.Slices.In.SortNone
import Derived.Shelf.SlicesG.SearchI
import Derived.Shelf.SlicesE.Clone
import Derived.Test.YtggobegaiijhhaaGreatDoorRows
import Derived.Lib.ItoaNum
import Derived.Lib.AtoiAllCases
import Derived.Test.YtggobegaiijhhaaGreatDoorUtilityCopies2
import Derived.Lib.IndexBytes
import Derived.Lib.IndexMore
import Derived.Lib.Strings
import Derived.Lib.AppendIntMem
import Derived.Lib.SmallJoins
import Derived.ProofKit
import Derived.LaidMore
import Derived.Stop.Joined
import Derived.Lib.LaidTab
import Derived.Shelf.Vars
import Derived.Handed
import Derived.Lay
set_option linter.unusedVariables false
set_option linter.unusedSimpArgs false
namespace Go.Proofs.YtggobegaiijhhaaGreatDoor
open Go.GV
section
variable {P : Program} {t : TypeId}
theorem open_cap {e : TypeId} (ht : P.underlying t = some (.slice e)) : OpenAt P t fun _ cs => ∃ (A : Option Addr) (l c : Nat), cs = [.slice A l c] ∧ l ≤ c := by
  intro H enc w fuel cs x hx
  rcases Deep.open_slice ht hx with ⟨rfl, _⟩ | ⟨a, len, cap, m, n, D, Pl, rfl, _, hlc, _⟩
  · exact ⟨none, 0, 0, rfl, Nat.le_refl _⟩
  · exact ⟨some a, len, cap, rfl, hlc⟩
end
namespace Ty
def _root_.Go.Proofs.YtggobegaiijhhaaGreatDoor.SRow.ok (a : SRow) : Prop := (-9223372036854775808 ≤ a.Id ∧ a.Id ≤ 9223372036854775807) ∧ a.Key.length ≤ 9223372036854775807 ∧ a.Record.length ≤ 9223372036854775807
def _root_.Go.Proofs.YtggobegaiijhhaaGreatDoor.DataSet.ok (a : DataSet) : Prop := (-9223372036854775808 ≤ a.Id ∧ a.Id ≤ 9223372036854775807) ∧ (-9223372036854775808 ≤ a.Org ∧ a.Org ≤ 9223372036854775807) ∧ (-9223372036854775808 ≤ a.Format ∧ a.Format ≤ 9223372036854775807) ∧ (-9223372036854775808 ≤ a.Length ∧ a.Length ≤ 9223372036854775807) ∧ (-9223372036854775808 ≤ a.Block ∧ a.Block ≤ 9223372036854775807) ∧ (-9223372036854775808 ≤ a.KeyAt ∧ a.KeyAt ≤ 9223372036854775807) ∧ (-9223372036854775808 ≤ a.KeyLength ∧ a.KeyLength ≤ 9223372036854775807) ∧ (-9223372036854775808 ≤ a.Interval ∧ a.Interval ≤ 9223372036854775807) ∧ (-9223372036854775808 ≤ a.Area ∧ a.Area ≤ 9223372036854775807) ∧ (-9223372036854775808 ≤ a.FreeInterval ∧ a.FreeInterval ≤ 9223372036854775807) ∧ (-9223372036854775808 ≤ a.FreeArea ∧ a.FreeArea ≤ 9223372036854775807) ∧ (-9223372036854775808 ≤ a.Base ∧ a.Base ≤ 9223372036854775807) ∧ (-9223372036854775808 ≤ a.AltAt ∧ a.AltAt ≤ 9223372036854775807) ∧ (-9223372036854775808 ≤ a.AltLength ∧ a.AltLength ≤ 9223372036854775807) ∧ (-9223372036854775808 ≤ a.Class ∧ a.Class ≤ 9223372036854775807) ∧ a.Volume.length ≤ 9223372036854775807 ∧ a.Owner.length ≤ 9223372036854775807 ∧ (-9223372036854775808 ≤ a.Created ∧ a.Created ≤ 9223372036854775807) ∧ (-9223372036854775808 ≤ a.Expires ∧ a.Expires ≤ 9223372036854775807)
def _root_.Go.Proofs.YtggobegaiijhhaaGreatDoor.Binding.okW (w : World) (a : Binding) : Prop := RO [] w a.LinesA (a.Lines.map vS) ∧ a.Lines.length ≤ 9223372036854775807
end Ty
end Go.Proofs.YtggobegaiijhhaaGreatDoor

namespace Go.Proofs
open Go.Shelf
open Go.RowKit Go.Lib Go.Sort
def Tryz.laysM171_ren : Go.Shelf.Ren := ⟨fun | 171 => 19 | 243 => 28 | 246 => 38 | 283 => 71 | 284 => 72 | 285 => 73 | 286 => 74 | 129 => 110 | 317 => 109 | 318 => 111 | 319 => 112 | 320 => 113 | 337 => 147 | 338 => 148 | n => n, fun | 3 => 3 | 9 => 9 | 2 => 2 | 4 => 4 | 171 => 113 | 0 => 0 | 53 => 114 | 37 => 117 | 5 => 5 | 173 => 118 | 212 => 157 | 51 => 158 | 20 => 20 | 213 => 159 | 46 => 122 | 232 => 227 | 233 => 228 | n => n, fun | 17 => 1 | 18 => 2 | 19 => 3 | n => n⟩
theorem Tryz.laysM171 : Go.Proofs.LaysM.n171 Tryz.prog Tryz.laysM171_ren := {
  mixed := by kernel_rfl
  f129 := Tryz.func110.trans (congrArg some (by kernel_rfl))
  f171 := Tryz.func19.trans (congrArg some (by kernel_rfl))
  f243 := Tryz.func28.trans (congrArg some (by kernel_rfl))
  f246 := Tryz.func38.trans (congrArg some (by kernel_rfl))
  f283 := Tryz.func71.trans (congrArg some (by kernel_rfl))
  f284 := Tryz.func72.trans (congrArg some (by kernel_rfl))
  f285 := Tryz.func73.trans (congrArg some (by kernel_rfl))
  f286 := Tryz.func74.trans (congrArg some (by kernel_rfl))
  f317 := Tryz.func109.trans (congrArg some (by kernel_rfl))
  f318 := Tryz.func111.trans (congrArg some (by kernel_rfl))
  f319 := Tryz.func112.trans (congrArg some (by kernel_rfl))
  f320 := Tryz.func113.trans (congrArg some (by kernel_rfl))
  f337 := Tryz.func147.trans (congrArg some (by kernel_rfl))
  f338 := Tryz.func148.trans (congrArg some (by kernel_rfl))
  t0 := Tryz.underlying0
  a0 := Tryz.isAgg0
  z0 := Tryz.sizeOf0
  v0 := Tryz.zeroValue0
  t2 := Tryz.underlying2
  a2 := Tryz.isAgg2
  z2 := Tryz.sizeOf2
  v2 := Tryz.zeroValue2
  t3 := Tryz.underlying3
  a3 := Tryz.isAgg3
  z3 := Tryz.sizeOf3
  v3 := Tryz.zeroValue3
  t4 := Tryz.underlying4
  a4 := Tryz.isAgg4
  z4 := Tryz.sizeOf4
  v4 := Tryz.zeroValue4
  t5 := Tryz.underlying5
  a5 := Tryz.isAgg5
  z5 := Tryz.sizeOf5
  v5 := Tryz.zeroValue5
  t9 := Tryz.underlying9
  a9 := Tryz.isAgg9
  z9 := Tryz.sizeOf9
  v9 := Tryz.zeroValue9
  t20 := Tryz.underlying20
  a20 := Tryz.isAgg20
  z20 := Tryz.sizeOf20
  v20 := Tryz.zeroValue20
  t37 := Tryz.underlying117
  a37 := Tryz.isAgg117
  z37 := Tryz.sizeOf117
  v37 := Tryz.zeroValue117
  t46 := Tryz.underlying122
  a46 := Tryz.isAgg122
  z46 := Tryz.sizeOf122
  v46 := Tryz.zeroValue122
  t51 := Tryz.underlying158
  a51 := Tryz.isAgg158
  z51 := Tryz.sizeOf158
  v51 := Tryz.zeroValue158
  t53 := Tryz.underlying114
  a53 := Tryz.isAgg114
  z53 := Tryz.sizeOf114
  v53 := Tryz.zeroValue114
  t171 := Tryz.underlying113
  a171 := Tryz.isAgg113
  z171 := Tryz.sizeOf113
  v171 := Tryz.zeroValue113
  t173 := Tryz.underlying118
  a173 := Tryz.isAgg118
  z173 := Tryz.sizeOf118
  v173 := Tryz.zeroValue118
  t212 := Tryz.underlying157
  a212 := Tryz.isAgg157
  z212 := Tryz.sizeOf157
  v212 := Tryz.zeroValue157
  t213 := Tryz.underlying159
  a213 := Tryz.isAgg159
  z213 := Tryz.sizeOf159
  t232 := Tryz.underlying227
  a232 := Tryz.isAgg227
  z232 := Tryz.sizeOf227
  v232 := Tryz.zeroValue227
  t233 := Tryz.underlying228
  a233 := Tryz.isAgg228
  z233 := Tryz.sizeOf228
  v233 := Tryz.zeroValue228
  g17 := by kernel_rfl
  g18 := by kernel_rfl
  g19 := by kernel_rfl
  i0 := by kernel_rfl
  i2 := by kernel_rfl
  i3 := by kernel_rfl
  i4 := by kernel_rfl
  i5 := by kernel_rfl
  i9 := by kernel_rfl
  i20 := by kernel_rfl
  i37 := by kernel_rfl
  i46 := by kernel_rfl
  i51 := by kernel_rfl
  i53 := by kernel_rfl
  i171 := by kernel_rfl
  i173 := by kernel_rfl
  i212 := by kernel_rfl
  i232 := by kernel_rfl
  i233 := by kernel_rfl
  m17 := by kernel_rfl
  m18 := by kernel_rfl
  m19 := by kernel_rfl }
theorem Tryz.strconv_Itoa (n : Int) (h0 : -9223372036854775808 ≤ n) (h1 : n ≤ 9223372036854775807) (w : World) (htab : Lib.TabIs Tryz.prog w "internal/strconv.uint64pow10" .u64 Lib.pow10Tab) :
    Calls Tryz.prog 19 #[.int .i64 n] w fun e w' => e = .returned (.string ⟨(Lib.itoa n).toArray⟩) ∧ ∃ k os, w' = grow (w.drewN k) os := Any.strconv_Itoa Tryz.laysM171 n h0 h1 w htab
def Tryz.laysC172_ren : Go.Shelf.Ren := ⟨fun | 172 => 82 | 244 => 126 | 245 => 127 | 247 => 155 | 279 => 156 | 280 => 157 | 281 => 158 | 282 => 159 | 287 => 172 | 316 => 173 | 171 => 19 | 205 => 174 | 321 => 184 | 322 => 185 | 243 => 28 | 246 => 38 | 283 => 71 | 284 => 72 | 285 => 73 | 286 => 74 | 129 => 110 | 317 => 109 | 318 => 111 | 319 => 112 | 320 => 113 | 337 => 147 | 338 => 148 | n => n, fun | 9 => 9 | 3 => 3 | 75 => 127 | 76 => 128 | 4 => 4 | 5 => 5 | 167 => 201 | 37 => 117 | 0 => 0 | 85 => 202 | 2 => 2 | 168 => 204 | 53 => 114 | 175 => 232 | 46 => 122 | 210 => 235 | 127 => 246 | 145 => 249 | 143 => 247 | 21 => 21 | 171 => 113 | 173 => 118 | 212 => 157 | 51 => 158 | 20 => 20 | 213 => 159 | 232 => 227 | 233 => 228 | 80 => 264 | n => n, fun | 15 => 4 | 16 => 5 | 17 => 1 | 18 => 2 | 19 => 3 | n => n⟩
theorem Tryz.laysC172 : Go.Proofs.LaysC.n172 Tryz.prog Tryz.laysC172_ren := {
  mixed := by kernel_rfl
  f129 := Tryz.func110.trans (congrArg some (by kernel_rfl))
  f171 := Tryz.func19.trans (congrArg some (by kernel_rfl))
  f172 := Tryz.func82.trans (congrArg some (by kernel_rfl))
  f205 := Tryz.func174.trans (congrArg some (by kernel_rfl))
  f243 := Tryz.func28.trans (congrArg some (by kernel_rfl))
  f244 := Tryz.func126.trans (congrArg some (by kernel_rfl))
  f245 := Tryz.func127.trans (congrArg some (by kernel_rfl))
  f246 := Tryz.func38.trans (congrArg some (by kernel_rfl))
  f247 := Tryz.func155.trans (congrArg some (by kernel_rfl))
  f279 := Tryz.func156.trans (congrArg some (by kernel_rfl))
  f280 := Tryz.func157.trans (congrArg some (by kernel_rfl))
  f281 := Tryz.func158.trans (congrArg some (by kernel_rfl))
  f282 := Tryz.func159.trans (congrArg some (by kernel_rfl))
  f283 := Tryz.func71.trans (congrArg some (by kernel_rfl))
  f284 := Tryz.func72.trans (congrArg some (by kernel_rfl))
  f285 := Tryz.func73.trans (congrArg some (by kernel_rfl))
  f286 := Tryz.func74.trans (congrArg some (by kernel_rfl))
  f287 := Tryz.func172.trans (congrArg some (by kernel_rfl))
  f316 := Tryz.func173.trans (congrArg some (by kernel_rfl))
  f317 := Tryz.func109.trans (congrArg some (by kernel_rfl))
  f318 := Tryz.func111.trans (congrArg some (by kernel_rfl))
  f319 := Tryz.func112.trans (congrArg some (by kernel_rfl))
  f320 := Tryz.func113.trans (congrArg some (by kernel_rfl))
  f321 := Tryz.func184.trans (congrArg some (by kernel_rfl))
  f322 := Tryz.func185.trans (congrArg some (by kernel_rfl))
  f337 := Tryz.func147.trans (congrArg some (by kernel_rfl))
  f338 := Tryz.func148.trans (congrArg some (by kernel_rfl))
  t0 := Tryz.underlying0
  a0 := Tryz.isAgg0
  z0 := Tryz.sizeOf0
  v0 := Tryz.zeroValue0
  t2 := Tryz.underlying2
  a2 := Tryz.isAgg2
  z2 := Tryz.sizeOf2
  v2 := Tryz.zeroValue2
  t3 := Tryz.underlying3
  a3 := Tryz.isAgg3
  z3 := Tryz.sizeOf3
  v3 := Tryz.zeroValue3
  t4 := Tryz.underlying4
  a4 := Tryz.isAgg4
  z4 := Tryz.sizeOf4
  v4 := Tryz.zeroValue4
  t5 := Tryz.underlying5
  a5 := Tryz.isAgg5
  z5 := Tryz.sizeOf5
  v5 := Tryz.zeroValue5
  t9 := Tryz.underlying9
  a9 := Tryz.isAgg9
  z9 := Tryz.sizeOf9
  v9 := Tryz.zeroValue9
  t20 := Tryz.underlying20
  a20 := Tryz.isAgg20
  z20 := Tryz.sizeOf20
  v20 := Tryz.zeroValue20
  t21 := Tryz.underlying21
  a21 := Tryz.isAgg21
  z21 := Tryz.sizeOf21
  v21 := Tryz.zeroValue21
  t37 := Tryz.underlying117
  a37 := Tryz.isAgg117
  z37 := Tryz.sizeOf117
  v37 := Tryz.zeroValue117
  t46 := Tryz.underlying122
  a46 := Tryz.isAgg122
  z46 := Tryz.sizeOf122
  v46 := Tryz.zeroValue122
  t51 := Tryz.underlying158
  a51 := Tryz.isAgg158
  z51 := Tryz.sizeOf158
  v51 := Tryz.zeroValue158
  t53 := Tryz.underlying114
  a53 := Tryz.isAgg114
  z53 := Tryz.sizeOf114
  v53 := Tryz.zeroValue114
  t75 := Tryz.underlying127
  a75 := Tryz.isAgg127
  z75 := Tryz.sizeOf127
  v75 := Tryz.zeroValue127
  t76 := Tryz.underlying128
  a76 := Tryz.isAgg128
  z76 := Tryz.sizeOf128
  v76 := Tryz.zeroValue128
  t85 := Tryz.underlying202
  a85 := Tryz.isAgg202
  z85 := Tryz.sizeOf202
  v85 := Tryz.zeroValue202
  t127 := Tryz.underlying246
  a127 := Tryz.isAgg246
  z127 := Tryz.sizeOf246
  v127 := Tryz.zeroValue246
  t143 := Tryz.underlying247
  a143 := Tryz.isAgg247
  z143 := Tryz.sizeOf247
  v143 := Tryz.zeroValue247
  t145 := Tryz.underlying249
  a145 := Tryz.isAgg249
  z145 := Tryz.sizeOf249
  v145 := Tryz.zeroValue249
  t167 := Tryz.underlying201
  a167 := Tryz.isAgg201
  z167 := Tryz.sizeOf201
  v167 := Tryz.zeroValue201
  t168 := Tryz.underlying204
  a168 := Tryz.isAgg204
  z168 := Tryz.sizeOf204
  v168 := Tryz.zeroValue204
  t171 := Tryz.underlying113
  a171 := Tryz.isAgg113
  z171 := Tryz.sizeOf113
  v171 := Tryz.zeroValue113
  t173 := Tryz.underlying118
  a173 := Tryz.isAgg118
  z173 := Tryz.sizeOf118
  v173 := Tryz.zeroValue118
  t175 := Tryz.underlying232
  a175 := Tryz.isAgg232
  z175 := Tryz.sizeOf232
  v175 := Tryz.zeroValue232
  t210 := Tryz.underlying235
  a210 := Tryz.isAgg235
  z210 := Tryz.sizeOf235
  v210 := Tryz.zeroValue235
  t212 := Tryz.underlying157
  a212 := Tryz.isAgg157
  z212 := Tryz.sizeOf157
  v212 := Tryz.zeroValue157
  t213 := Tryz.underlying159
  a213 := Tryz.isAgg159
  z213 := Tryz.sizeOf159
  t232 := Tryz.underlying227
  a232 := Tryz.isAgg227
  z232 := Tryz.sizeOf227
  v232 := Tryz.zeroValue227
  t233 := Tryz.underlying228
  a233 := Tryz.isAgg228
  z233 := Tryz.sizeOf228
  v233 := Tryz.zeroValue228
  g15 := by kernel_rfl
  g16 := by kernel_rfl
  g17 := by kernel_rfl
  g18 := by kernel_rfl
  g19 := by kernel_rfl
  t80 := Tryz.underlying264
  a80 := Tryz.isAgg264
  z80 := Tryz.sizeOf264
  v80 := Tryz.zeroValue264
  i0 := by kernel_rfl
  i2 := by kernel_rfl
  i3 := by kernel_rfl
  i4 := by kernel_rfl
  i5 := by kernel_rfl
  i9 := by kernel_rfl
  i20 := by kernel_rfl
  i21 := by kernel_rfl
  i37 := by kernel_rfl
  i46 := by kernel_rfl
  i51 := by kernel_rfl
  i53 := by kernel_rfl
  i75 := by kernel_rfl
  i76 := by kernel_rfl
  i80 := by kernel_rfl
  i85 := by kernel_rfl
  i127 := by kernel_rfl
  i143 := by kernel_rfl
  i145 := by kernel_rfl
  i167 := by kernel_rfl
  i168 := by kernel_rfl
  i171 := by kernel_rfl
  i173 := by kernel_rfl
  i175 := by kernel_rfl
  i210 := by kernel_rfl
  i212 := by kernel_rfl
  i232 := by kernel_rfl
  i233 := by kernel_rfl
  m15 := by kernel_rfl
  m16 := by kernel_rfl
  m17 := by kernel_rfl
  m18 := by kernel_rfl
  m19 := by kernel_rfl
  c0 := by kernel_rfl
  c2 := by kernel_rfl
  c3 := by kernel_rfl
  c4 := by kernel_rfl
  c5 := by kernel_rfl
  c9 := by kernel_rfl
  c20 := by kernel_rfl
  c21 := by kernel_rfl
  c37 := by kernel_rfl
  c46 := by kernel_rfl
  c51 := by kernel_rfl
  c53 := by kernel_rfl
  c75 := by kernel_rfl
  c76 := by kernel_rfl
  c80 := by kernel_rfl
  c85 := by kernel_rfl
  c127 := by kernel_rfl
  c143 := by kernel_rfl
  c145 := by kernel_rfl
  c167 := by kernel_rfl
  c168 := by kernel_rfl
  c171 := by kernel_rfl
  c173 := by kernel_rfl
  c175 := by kernel_rfl
  c210 := by kernel_rfl
  c212 := by kernel_rfl
  c213 := by kernel_rfl
  c232 := by kernel_rfl
  c233 := by kernel_rfl }
theorem Tryz.strconv_Atoi_ok (s : ByteArray) (hmax : s.size ≤ 9223372036854775806) (v : Int) (h : Lib.atoiAll s.data.toList = .ok v) (w : World) :
    Calls Tryz.prog 82 #[.string s] w fun e w' => e = .returned (.tuple #[.int .i64 v, .nilIface]) ∧ (w' = w ∨ ∃ t, w' = Lib.bytesWorld w 5 t) := Any.strconv_Atoi_ok Tryz.laysC172 s hmax v h w
theorem Tryz.strconv_Atoi_syntax (s : ByteArray) (hlim : s.size ≤ 281474976710656) (h : (∀ v, Lib.atoiAll s.data.toList ≠ .ok v) ∧ Lib.atoiAll s.data.toList ≠ .range) (ev : Value) (w : World) (hv : w.cell? ⟨4, 0, none⟩ = some ev) (hev : ev = .nilIface ∨ ∃ te pe, ev = .iface te pe) :
    Calls Tryz.prog 82 #[.string s] w fun e w' => ∃ N, e = .returned (.tuple #[.int .i64 (0), .iface 204 (.pointer (some ⟨N, 0, none⟩))]) ∧ w.heap.size ≤ N ∧ w'.heap[N]? = some (.cells #[.string ⟨#[65, 116, 111, 105]⟩, .string s, ev] 235 (0, 0)) ∧ Below w.heap.size w w' := Any.strconv_Atoi_syntax Tryz.laysC172 s hlim (by cases e : Lib.atoiAll s.data.toList <;> first | rfl | exact absurd e (h.1 _) | exact absurd e h.2) ev w hv hev
theorem Tryz.strconv_Atoi_range (s : ByteArray) (hlim : s.size ≤ 281474976710656) (h : Lib.atoiAll s.data.toList = .range) (ev : Value) (w : World) (hv : w.cell? ⟨5, 0, none⟩ = some ev) (hev : ev = .nilIface ∨ ∃ te pe, ev = .iface te pe) :
    Calls Tryz.prog 82 #[.string s] w fun e w' => ∃ N, e = .returned (.tuple #[.int .i64 (Lib.atoiSat s.data.toList), .iface 204 (.pointer (some ⟨N, 0, none⟩))]) ∧ w.heap.size ≤ N ∧ w'.heap[N]? = some (.cells #[.string ⟨#[65, 116, 111, 105]⟩, .string s, ev] 235 (0, 0)) ∧ Below w.heap.size w w' := Any.strconv_Atoi_range Tryz.laysC172 s hlim h ev w hv hev
def Tryz.lays144_ren : Go.Shelf.Ren := ⟨fun | 144 => 20 | 143 => 29 | 219 => 39 | 217 => 75 | 225 => 76 | 224 => 77 | 267 => 78 | 266 => 114 | 314 => 115 | n => n, fun | 9 => 9 | 4 => 4 | 3 => 3 | 5 => 5 | 46 => 122 | 146 => 161 | 51 => 158 | n => n, fun | 1 => 0 | n => n⟩
theorem Tryz.lays144 : Go.Proofs.Lays.n144 Tryz.prog Tryz.lays144_ren := {
  mixed := by kernel_rfl
  f143 := Tryz.func29.trans (congrArg some (by kernel_rfl))
  f144 := Tryz.func20.trans (congrArg some (by kernel_rfl))
  f217 := Tryz.func75.trans (congrArg some (by kernel_rfl))
  f219 := Tryz.func39.trans (congrArg some (by kernel_rfl))
  f224 := Tryz.func77.trans (congrArg some (by kernel_rfl))
  f225 := Tryz.func76.trans (congrArg some (by kernel_rfl))
  f266 := Tryz.func114.trans (congrArg some (by kernel_rfl))
  f267 := Tryz.func78.trans (congrArg some (by kernel_rfl))
  f314 := Tryz.func115.trans (congrArg some (by kernel_rfl))
  t3 := Tryz.underlying3
  a3 := Tryz.isAgg3
  z3 := Tryz.sizeOf3
  v3 := Tryz.zeroValue3
  t4 := Tryz.underlying4
  a4 := Tryz.isAgg4
  z4 := Tryz.sizeOf4
  v4 := Tryz.zeroValue4
  t5 := Tryz.underlying5
  a5 := Tryz.isAgg5
  z5 := Tryz.sizeOf5
  v5 := Tryz.zeroValue5
  t9 := Tryz.underlying9
  a9 := Tryz.isAgg9
  z9 := Tryz.sizeOf9
  v9 := Tryz.zeroValue9
  t46 := Tryz.underlying122
  a46 := Tryz.isAgg122
  z46 := Tryz.sizeOf122
  v46 := Tryz.zeroValue122
  t51 := Tryz.underlying158
  a51 := Tryz.isAgg158
  z51 := Tryz.sizeOf158
  v51 := Tryz.zeroValue158
  t146 := Tryz.underlying161
  a146 := Tryz.isAgg161
  z146 := Tryz.sizeOf161
  v146 := Tryz.zeroValue161
  g1 := by kernel_rfl }
theorem Tryz.strings_Contains_one (s : ByteArray) (c : UInt8) (w : World) :
    Calls Tryz.prog 20 #[.string s, .string ⟨#[c]⟩] w fun e w' => e = .returned (.bool (decide (0 ≤ Lib.indexByte s.data.toList c))) ∧ w' = w := Any.strings_Contains_one Tryz.lays144 s c w
def Tryz.lays145_ren : Go.Shelf.Ren := ⟨fun | 145 => 92 | 220 => 131 | 219 => 39 | 217 => 75 | 225 => 76 | 224 => 77 | 267 => 78 | 266 => 114 | 314 => 115 | n => n, fun | 9 => 9 | 4 => 4 | 59 => 136 | 3 => 3 | 5 => 5 | 46 => 122 | 146 => 161 | 51 => 158 | n => n, fun | 1 => 0 | n => n⟩
theorem Tryz.lays145 : Go.Proofs.Lays.n145 Tryz.prog Tryz.lays145_ren := {
  mixed := by kernel_rfl
  f145 := Tryz.func92.trans (congrArg some (by kernel_rfl))
  f217 := Tryz.func75.trans (congrArg some (by kernel_rfl))
  f219 := Tryz.func39.trans (congrArg some (by kernel_rfl))
  f220 := Tryz.func131.trans (congrArg some (by kernel_rfl))
  f224 := Tryz.func77.trans (congrArg some (by kernel_rfl))
  f225 := Tryz.func76.trans (congrArg some (by kernel_rfl))
  f266 := Tryz.func114.trans (congrArg some (by kernel_rfl))
  f267 := Tryz.func78.trans (congrArg some (by kernel_rfl))
  f314 := Tryz.func115.trans (congrArg some (by kernel_rfl))
  t3 := Tryz.underlying3
  a3 := Tryz.isAgg3
  z3 := Tryz.sizeOf3
  v3 := Tryz.zeroValue3
  t4 := Tryz.underlying4
  a4 := Tryz.isAgg4
  z4 := Tryz.sizeOf4
  v4 := Tryz.zeroValue4
  t5 := Tryz.underlying5
  a5 := Tryz.isAgg5
  z5 := Tryz.sizeOf5
  v5 := Tryz.zeroValue5
  t9 := Tryz.underlying9
  a9 := Tryz.isAgg9
  z9 := Tryz.sizeOf9
  v9 := Tryz.zeroValue9
  t46 := Tryz.underlying122
  a46 := Tryz.isAgg122
  z46 := Tryz.sizeOf122
  v46 := Tryz.zeroValue122
  t51 := Tryz.underlying158
  a51 := Tryz.isAgg158
  z51 := Tryz.sizeOf158
  v51 := Tryz.zeroValue158
  t59 := Tryz.underlying136
  a59 := Tryz.isAgg136
  z59 := Tryz.sizeOf136
  v59 := Tryz.zeroValue136
  t146 := Tryz.underlying161
  a146 := Tryz.isAgg161
  z146 := Tryz.sizeOf161
  v146 := Tryz.zeroValue161
  g1 := by kernel_rfl }
theorem Tryz.strings_Cut (s sep : ByteArray) (m : Int) (w : World) (hs : s.size < 4294967281) (hm : w.cell? ⟨0, 0, none⟩ = some (.int .i64 m)) :
    Calls Tryz.prog 92 #[.string s, .string sep] w fun e w' => e = .returned (.tuple #[.string ⟨(Lib.cut s.data.toList sep.data.toList).1.toArray⟩, .string ⟨(Lib.cut s.data.toList sep.data.toList).2.1.toArray⟩, .bool (Lib.cut s.data.toList sep.data.toList).2.2]) ∧ ∃ n, w' = w.drewN n := Any.strings_Cut Tryz.lays145 s sep m w hs hm
def Tryz.lays190_ren : Go.Shelf.Ren := ⟨fun | 190 => 41 | 125 => 81 | 258 => 80 | 128 => 125 | 129 => 110 | 302 => 116 | 303 => 117 | 304 => 118 | 305 => 119 | 306 => 120 | 307 => 121 | 308 => 122 | 309 => 123 | 310 => 124 | 333 => 149 | 329 => 150 | 330 => 151 | 334 => 152 | 335 => 153 | 336 => 154 | 344 => 171 | n => n, fun | 31 => 25 | 9 => 9 | 3 => 3 | 46 => 122 | 0 => 0 | 51 => 158 | 53 => 114 | 4 => 4 | 183 => 165 | 182 => 164 | 131 => 108 | 5 => 5 | 218 => 195 | 222 => 199 | 228 => 229 | 229 => 230 | n => n, fun | n => n⟩
theorem Tryz.lays190 : Go.Proofs.Lays.n190 Tryz.prog Tryz.lays190_ren := {
  mixed := by kernel_rfl
  f125 := Tryz.func81.trans (congrArg some (by kernel_rfl))
  f128 := Tryz.func125.trans (congrArg some (by kernel_rfl))
  f129 := Tryz.func110.trans (congrArg some (by kernel_rfl))
  f190 := Tryz.func41.trans (congrArg some (by kernel_rfl))
  f258 := Tryz.func80.trans (congrArg some (by kernel_rfl))
  f302 := Tryz.func116.trans (congrArg some (by kernel_rfl))
  f303 := Tryz.func117.trans (congrArg some (by kernel_rfl))
  f304 := Tryz.func118.trans (congrArg some (by kernel_rfl))
  f305 := Tryz.func119.trans (congrArg some (by kernel_rfl))
  f306 := Tryz.func120.trans (congrArg some (by kernel_rfl))
  f307 := Tryz.func121.trans (congrArg some (by kernel_rfl))
  f308 := Tryz.func122.trans (congrArg some (by kernel_rfl))
  f309 := Tryz.func123.trans (congrArg some (by kernel_rfl))
  f310 := Tryz.func124.trans (congrArg some (by kernel_rfl))
  f329 := Tryz.func150.trans (congrArg some (by kernel_rfl))
  f330 := Tryz.func151.trans (congrArg some (by kernel_rfl))
  f333 := Tryz.func149.trans (congrArg some (by kernel_rfl))
  f334 := Tryz.func152.trans (congrArg some (by kernel_rfl))
  f335 := Tryz.func153.trans (congrArg some (by kernel_rfl))
  f336 := Tryz.func154.trans (congrArg some (by kernel_rfl))
  f344 := Tryz.func171.trans (congrArg some (by kernel_rfl))
  t0 := Tryz.underlying0
  a0 := Tryz.isAgg0
  z0 := Tryz.sizeOf0
  v0 := Tryz.zeroValue0
  t3 := Tryz.underlying3
  a3 := Tryz.isAgg3
  z3 := Tryz.sizeOf3
  v3 := Tryz.zeroValue3
  t4 := Tryz.underlying4
  a4 := Tryz.isAgg4
  z4 := Tryz.sizeOf4
  v4 := Tryz.zeroValue4
  t5 := Tryz.underlying5
  a5 := Tryz.isAgg5
  z5 := Tryz.sizeOf5
  v5 := Tryz.zeroValue5
  t9 := Tryz.underlying9
  a9 := Tryz.isAgg9
  z9 := Tryz.sizeOf9
  v9 := Tryz.zeroValue9
  t31 := Tryz.underlying25
  a31 := Tryz.isAgg25
  z31 := Tryz.sizeOf25
  v31 := Tryz.zeroValue25
  t46 := Tryz.underlying122
  a46 := Tryz.isAgg122
  z46 := Tryz.sizeOf122
  v46 := Tryz.zeroValue122
  t51 := Tryz.underlying158
  a51 := Tryz.isAgg158
  z51 := Tryz.sizeOf158
  v51 := Tryz.zeroValue158
  t53 := Tryz.underlying114
  a53 := Tryz.isAgg114
  z53 := Tryz.sizeOf114
  v53 := Tryz.zeroValue114
  t131 := Tryz.underlying108
  a131 := Tryz.isAgg108
  z131 := Tryz.sizeOf108
  v131 := Tryz.zeroValue108
  t182 := Tryz.underlying164
  a182 := Tryz.isAgg164
  z182 := Tryz.sizeOf164
  v182 := Tryz.zeroValue164
  t183 := Tryz.underlying165
  a183 := Tryz.isAgg165
  z183 := Tryz.sizeOf165
  v183 := Tryz.zeroValue165
  t218 := Tryz.underlying195
  a218 := Tryz.isAgg195
  z218 := Tryz.sizeOf195
  v218 := Tryz.zeroValue195
  t222 := Tryz.underlying199
  a222 := Tryz.isAgg199
  z222 := Tryz.sizeOf199
  v222 := Tryz.zeroValue199
  t228 := Tryz.underlying229
  a228 := Tryz.isAgg229
  z228 := Tryz.sizeOf229
  v228 := Tryz.zeroValue229
  t229 := Tryz.underlying230
  a229 := Tryz.isAgg230
  z229 := Tryz.sizeOf230
  v229 := Tryz.zeroValue230 }
theorem Tryz.slices_Sort_string (blk off cap : Nat) (ss : List (List UInt8)) (w : World) (hH : Holds encStr w blk off ss.toArray) (hblk : blk < w.heap.size) (hsz : ss.length < 4611686018427387904) :
    Calls Tryz.prog 41 #[.slice (some ⟨blk, off, none⟩) ss.length cap] w fun e w' =>
      e = .returned (.tuple #[]) ∧ ∃ n os, w' = grow (putRow encStr (Sort.ahead w n) blk off (ss.mergeSort fun x y => decide (x ≤ y)).toArray) os := Any.slices_Sort_string Tryz.lays190 blk off cap ss w hH hblk hsz
theorem Tryz.slices_Sort_string_none (p : Option Addr) (cap : Nat) (w : World) :
    Calls Tryz.prog 41 #[.slice p 0 cap] w fun e w' => e = .returned (.tuple #[]) ∧ w' = w := Any.slices_Sort_string_none Tryz.lays190 p cap w
end Go.Proofs

namespace Go.GV
open Go.RowKit Go.Op
structure Rw where
  s : List Bytes
  sA : Option Addr
  sC : Nat
deriving Inhabited
def Rw.enc (a : Rw) : List Value := [vL a.sA a.s.length a.sC]
theorem Rw.enc_len (a : Rw) : (Rw.enc a).length = 1 := rfl
theorem Rw.enc_one (a : Rw) : (Rw.enc a).all Value.oneCell' = true := rfl
def RwE (t : Nat) (e : Rw) : Ent := Ent.row (.slice e.sA e.s.length e.sC) t 1 e.s.length (e.s.map vS)
section
variable {S : List Nat} {w00 w0 w : World} {L M : List Ent} {α : Type} {f : α → Ent}
theorem RO.empty {A : Option Addr} {xs : List α} {g : α → Value} (h : RO S w0 A (xs.map g)) (hA : A.isNone = true) : xs = [] := by
  cases xs with
  | nil => rfl
  | cons x r =>
    obtain ⟨a, ha, _⟩ := h 0 (g x) rfl
    rw [ha] at hA; cases hA
end
section
variable {P : Program} {n : Dim} {S : List Nat} {w0 : World} {Q : Post} {E : Env} {L : List Ent}
end
section
variable {P : Program} {E : Env} {w : World} {x y : Operand} {dst : Option Nat} {t t' ty : TypeId} {pos : String} {af : Array Edge} {g : Option (Nat × Bool)}
theorem run_eq_sl {e : TypeId} {A : Option Addr} {n c : Nat} (ht : P.underlying t = some (.slice e)) : (Op.equal t (.slice A n c) (.slice none 0 0)).run P w = .ok A.isNone w := by
  show Sem.run P (Op.equalIn Op.maxDepth t (.slice A n c) (.slice none 0 0)) w = _
  have hd : Op.maxDepth = (Op.maxDepth - 1) + 1 := by decide
  rw [hd]
  unfold Op.equalIn
  rw [Sem.run_bind, run_underlying ht]
  cases A <;> rfl
theorem x_eql_sl {e : TypeId} {A : Option Addr} {n c : Nat} (hx : ev E x = vL A n c) (hy : ev E y = vL none 0 0) (ht : P.underlying t = some (.slice e)) : (execOp (ev E) ⟨dst, .binOp .eql t x y t', ty, pos, af, g⟩).run P w = .ok (.value (vB A.isNone)) w := by
  have h := run_eq_sl (P := P) (w := w) (A := A) (n := n) (c := c) ht
  have hb : (binOp .eql t (.slice A n c) (.slice none 0 0)).run P w = .ok (vB A.isNone) w := by
    show Sem.run P (do pure (Value.bool (← Op.equal t (.slice A n c) (.slice none 0 0)))) w = _
    rw [Sem.run_bind, h]; rfl
  simp only [execOp, hx, hy]
  show Sem.run P (do let v ← binOp .eql t (.slice A n c) (.slice none 0 0); pure (Next.value v)) w = _
  rw [Sem.run_bind, hb]; rfl
end
end Go.GV

namespace Go.GV
open Go.RowKit
section
variable {P : Program} {n : Dim} {S : List Nat} {w0 w : World} {Q : Post} {E : Env} {L : List Ent}
def RoundM {X : Type} (n : Dim) (D : X → List Nat) (S : List Nat) (w0 : World) (I : X → Prop) (W : X → World → Prop) (Ef : X → Env) (Lf : X → List Ent) (μ : X → Nat) (m : Nat) (Q : Post) : Post :=
  Exit.then (fun a w => ∃ x, I x ∧ W x w ∧ μ x < m ∧ Rep { n with ds := (D x).map mark } (Ef x) a ∧ St S w0 w (Lf x)) Q
def NP (Q : Post) : Post := fun e a w => match e with
  | .panic _ => False
  | e => Q e a w
theorem NP.of {Q : Post} (e : Exit) (a : Act) (w : World) (h : NP Q e a w) : Q e a w := by
  cases e <;> first | exact h | exact h.elim
end
end Go.GV

namespace Go.Proofs.YtggobegaiijhhaaGreatDoor
namespace R44
open Go.Lib
def vN (s : List UInt8) : Nat := s.foldl (fun n c => 10 * n + (c.toNat - 48)) 0
def isD (c : UInt8) : Bool := decide (48 ≤ c.toNat) && decide (c.toNat ≤ 57)
def numV (s : List UInt8) : Option Nat := if (s.length ≤ 4 ∧ s.all isD = true) ∧ decDigits (vN s) = s then some (vN s) else none
theorem dec_small {n : Nat} (h : n < 10) : decDigits n = [UInt8.ofNat (48 + n)] := by rw [decDigits, dif_pos h]
theorem dec_big {n : Nat} (h : ¬ n < 10) : decDigits n = decDigits (n / 10) ++ [UInt8.ofNat (48 + n % 10)] := by rw [decDigits, dif_neg h]
theorem dec_len_aux : ∀ (k n : Nat), n < 10 ^ (k + 1) → (decDigits n).length ≤ k + 1
  | 0, n, h => by rw [dec_small (by simpa using h)]; exact Nat.le_refl _
  | k + 1, n, h => by
    by_cases h2 : n < 10
    · rw [dec_small h2]; simp
    · rw [dec_big h2, List.length_append]
      have := dec_len_aux k (n / 10) (by rw [Nat.pow_succ] at h; omega)
      simp; omega
theorem dec_len19 {n : Nat} (h : n ≤ 9223372036854775807) : (decDigits n).length ≤ 19 := dec_len_aux 18 _ (by omega)
def AtoiJ (s : List UInt8) (n : Int) (er : Bool) : Prop := (er = true → atoiAll s = .ok n) ∧ (er = false → ∀ v, atoiAll s ≠ .ok v) ∧ -9223372036854775808 ≤ n ∧ n ≤ 9223372036854775807
def SmallJ (s : List UInt8) (n : Int) (ok : Bool) : Prop := (ok = true → numV s = some n.toNat ∧ 0 ≤ n ∧ n ≤ 9999) ∧ (ok = false → numV s = none)
theorem atoi_bd {s : List UInt8} {n : Int} {er : Bool} (h : AtoiJ s n er) : -9223372036854775808 ≤ n ∧ n ≤ 9223372036854775807 := h.2.2
def restD (m : Nat) : List UInt8 := if m = 0 then [] else decDigits m
def DigJ (n m : Nat) (s : List UInt8) : Prop := (s = [] ∧ m = n) ∨ (s ≠ [] ∧ decDigits n = restD m ++ s)
theorem DigJ.start (n : Nat) : DigJ n n [] := .inl ⟨rfl, rfl⟩
theorem dig_split {m : Nat} : decDigits m = restD (m / 10) ++ [UInt8.ofNat (48 + m % 10)] := by
  by_cases h : m < 10
  · rw [dec_small h]; unfold restD; rw [if_pos (by omega)]; simp; congr 2; omega
  · rw [dec_big h]; unfold restD; rw [if_neg (by omega)]
theorem DigJ.step {n m : Nat} {s : List UInt8} (h : DigJ n m s) (hc : 0 < m ∨ s = []) : DigJ n (m / 10) ([UInt8.ofNat (48 + m % 10)] ++ s) := by
  refine .inr ⟨by simp, ?_⟩
  rw [← List.append_assoc, ← dig_split]
  rcases h with ⟨h1, h2⟩ | ⟨h1, h2⟩
  · rw [h1, h2, List.append_nil]
  · rw [h2]
    rcases hc with hc | hc
    · unfold restD; rw [if_neg (by omega)]
    · exact absurd hc h1
theorem DigJ.done {n m : Nat} {s : List UInt8} (h : DigJ n m s) (h0 : m = 0) (hs : s ≠ []) : s = decDigits n := by
  rcases h with ⟨h1, _⟩ | ⟨_, h2⟩
  · exact absurd h1 hs
  · rw [h2, h0]; rfl
end R44
end Go.Proofs.YtggobegaiijhhaaGreatDoor

namespace Go.Proofs.YtggobegaiijhhaaGreatDoor
open Go.GV
namespace R45
def cutB (b : UInt8) : Bytes → Option (Bytes × Bytes)
  | [] => none
  | c :: t => if c = b then some ([], t) else (cutB b t).map fun p => (c :: p.1, p.2)
theorem cutB_le {b : UInt8} : ∀ {s a r : Bytes}, cutB b s = some (a, r) → s = a ++ b :: r
  | [], a, r, h => by cases h
  | c :: t, a, r, h => by
    rw [cutB] at h; split at h
    · rename_i e; cases h; rw [e]; rfl
    · cases hq : cutB b t with
      | none => rw [hq] at h; cases h
      | some p =>
        rw [hq] at h; cases h
        rw [cutB_le (a := p.1) (r := p.2) hq]; rfl
def IxJ (c : UInt8) (s : Bytes) (r : Int) : Prop := (r = -1 ∧ c ∉ s ∧ cutB c s = none) ∨ ∃ k : Nat, r = k ∧ k < s.length ∧ c ∉ s.take k ∧ s.getD k 0 = c ∧ cutB c s = some (s.take k, s.drop (k + 1))
theorem ixb_lib (c : UInt8) : ∀ s : Bytes, IxJ c s (Lib.indexByte s c)
  | [] => .inl ⟨rfl, by simp, rfl⟩
  | b :: l => by
    rw [Lib.indexByte]
    by_cases h : b = c
    · subst h
      rw [if_pos (by simp)]
      exact .inr ⟨0, rfl, by simp, by simp, rfl, by rw [cutB, if_pos rfl]; rfl⟩
    · rw [if_neg (by simpa using h)]
      rcases ixb_lib c l with ⟨h1, h2, h3⟩ | ⟨k, h1, h2, h3, h4, h5⟩
      · rw [if_pos (by rw [h1]; rfl)]
        exact .inl ⟨rfl, by simp only [List.mem_cons, not_or]; exact ⟨fun e => h e.symm, h2⟩, by rw [cutB, if_neg h, h3]; rfl⟩
      · rw [if_neg (by rw [h1]; intro e; have := beq_iff_eq.1 e; omega), h1]
        refine .inr ⟨k + 1, rfl, by simp; omega, ?_, h4, ?_⟩
        · rw [List.take_succ_cons, List.mem_cons, not_or]; exact ⟨fun e => h e.symm, h3⟩
        · rw [cutB, if_neg h, h5]; rfl
theorem cut_lib (c : UInt8) (s : Bytes) : (cutB c s = none ∧ Lib.cut s [c] = (s, [], false)) ∨ ∃ a r, cutB c s = some (a, r) ∧ Lib.cut s [c] = (a, r, true) := by
  unfold Lib.cut
  rw [Lib.index_one]
  rcases ixb_lib c s with ⟨h1, _, h3⟩ | ⟨k, h1, h2, h3, h4, h5⟩
  · rw [h1]; exact .inl ⟨h3, rfl⟩
  · rw [h1, if_pos (by omega)]; exact .inr ⟨_, _, h5, rfl⟩
theorem cont_lib (c : UInt8) (s : Bytes) : decide (0 ≤ Lib.indexByte s c) = decide (c ∈ s) := by
  rcases ixb_lib c s with ⟨h1, h2, _⟩ | ⟨k, h1, h2, h3, h4, h5⟩
  · rw [h1]; simp [h2]
  · rw [h1]
    have : c ∈ s := by rw [← h4, List.getD_eq_getElem?_getD, List.getElem?_eq_getElem h2]; exact List.getElem_mem h2
    simp [this]
end R45
end Go.Proofs.YtggobegaiijhhaaGreatDoor

namespace Go.Proofs.YtggobegaiijhhaaGreatDoor
open Go.GV Go.RowKit Go.Op
def TabP (S : List Nat) (w : World) : Prop := 1 ∉ S ∧ 1 < w.heap.size ∧ ∃ t f, w.heap[1]? = some (.cells (Lib.pow10Tab.map fun z => Value.int .u64 z).toArray t f)
theorem TabP.on {S Sc : List Nat} {w0 w : World} {Lc Lr : List Ent} (h : TabP S w0) (hS : St S w0 w (Lc ++ Lr)) (hSc : ∀ b ∈ Sc, ∃ e ∈ Lc, e.own = some b) : TabP Sc w := by
  obtain ⟨h1, h2, t, f, h3⟩ := h
  refine ⟨fun hc => ?_, Nat.lt_of_lt_of_le h2 hS.fr.size, t, f, (hS.fr.block _ h2 h1).trans h3⟩
  obtain ⟨e, he, ho⟩ := hSc _ hc
  rcases hS.own e (List.mem_append_left _ he) _ ho with h4 | h4
  · exact h1 h4
  · omega
def IsIfc (v : Value) : Prop := v = .nilIface ∨ ∃ te pe, v = .iface te pe
structure Tab (S : List Nat) (w : World) : Prop where
  pow : TabP S w
  mx : ∃ m, RO S w (some ⟨0, 0, none⟩) [vI m]
  es : ∃ v, IsIfc v ∧ RO S w (some ⟨4, 0, none⟩) [v]
  er : ∃ v, IsIfc v ∧ RO S w (some ⟨5, 0, none⟩) [v]
theorem Tab.on {S Sc : List Nat} {w0 w : World} {Lc Lr : List Ent} (h : Tab S w0) (hS : St S w0 w (Lc ++ Lr)) (hSc : ∀ b ∈ Sc, ∃ e ∈ Lc, e.own = some b) : Tab Sc w :=
  ⟨h.pow.on hS hSc, h.mx.imp fun _ k => k.on hS hSc, h.es.imp fun _ k => ⟨k.1, k.2.on hS hSc⟩, h.er.imp fun _ k => ⟨k.1, k.2.on hS hSc⟩⟩
theorem Tab.again {S : List Nat} {w0 w : World} {L : List Ent} (h : Tab S w0) (hS : St S w0 w L) : Tab (Lown L) w :=
  h.on (Lc := L) (Lr := []) (by rw [List.append_nil]; exact hS) lown_mem
theorem cell_of {S : List Nat} {w : World} {b : Nat} {v : Value} (h : RO S w (some ⟨b, 0, none⟩) [v]) : w.cell? ⟨b, 0, none⟩ = some v := h.cell (Fr.refl S w) (j := 0) rfl
section
variable {P : Program} {E : Env} {w : World} {x y : Operand} {dst : Option Nat} {t t' ty : TypeId} {pos : String} {af : Array Edge} {g : Option (Nat × Bool)}
def errV (ok : Bool) (N : Nat) : Value := match ok with
  | true => .nilIface
  | false => .iface 204 (.pointer (some ⟨N, 0, none⟩))
theorem run_eq_nn {m : Array (String × TypeId)} (ht : P.underlying t = some (.interface m)) : (Op.equal t .nilIface .nilIface).run P w = .ok true w := by
  show Sem.run P (Op.equalIn Op.maxDepth t .nilIface .nilIface) w = _
  have hd : Op.maxDepth = (Op.maxDepth - 1) + 1 := by decide
  rw [hd]
  unfold Op.equalIn
  rw [Sem.run_bind, run_underlying ht]; rfl
theorem run_eq_in {m : Array (String × TypeId)} {a : TypeId} {v : Value} (ht : P.underlying t = some (.interface m)) : (Op.equal t (.iface a v) .nilIface).run P w = .ok false w := by
  show Sem.run P (Op.equalIn Op.maxDepth t (.iface a v) .nilIface) w = _
  have hd : Op.maxDepth = (Op.maxDepth - 1) + 1 := by decide
  rw [hd]
  unfold Op.equalIn
  rw [Sem.run_bind, run_underlying ht]; rfl
theorem x_eql_err {m : Array (String × TypeId)} {b : Bool} {N : Nat} (hx : ev E x = errV b N) (ht : P.underlying t = some (.interface m)) : (execOp (ev E) ⟨dst, .binOp .eql t x (.const .nilIface) t', ty, pos, af, g⟩).run P w = .ok (.value (vB b)) w := by
  cases b with
  | true =>
    have hx' : ev E x = .nilIface := hx
    have hb : (binOp .eql t .nilIface .nilIface).run P w = .ok (vB true) w := by
      show Sem.run P (do pure (Value.bool (← Op.equal t .nilIface .nilIface))) w = _
      rw [Sem.run_bind, run_eq_nn ht]; rfl
    have hg : eqGuard .eql t x (.const .nilIface) .nilIface .nilIface = pure () := by cases x <;> rfl
    simp only [execOp, hx']
    show Sem.run P (do let v ← (do eqGuard .eql t x (.const .nilIface) .nilIface .nilIface; binOp .eql t .nilIface .nilIface); pure (Next.value v)) w = _
    rw [hg]
    show Sem.run P (do let v ← binOp .eql t .nilIface .nilIface; pure (Next.value v)) w = _
    rw [Sem.run_bind, hb]; rfl
  | false =>
    have hx' : ev E x = .iface 204 (.pointer (some ⟨N, 0, none⟩)) := hx
    have hb : (binOp .eql t (.iface 204 (.pointer (some ⟨N, 0, none⟩))) .nilIface).run P w = .ok (vB false) w := by
      show Sem.run P (do pure (Value.bool (← Op.equal t (.iface 204 (.pointer (some ⟨N, 0, none⟩))) .nilIface))) w = _
      rw [Sem.run_bind, run_eq_in ht]; rfl
    simp only [execOp, hx']
    show Sem.run P (do let v ← binOp .eql t (.iface 204 (.pointer (some ⟨N, 0, none⟩))) .nilIface; pure (Next.value v)) w = _
    rw [Sem.run_bind, hb]; rfl
end
theorem itoa_ok (n : Int) (w : World) (hT : Tab [] w) (q0 : 0 ≤ n) (q1 : n ≤ 9223372036854775807) : Calls Tryz.prog 19 #[vI n] w (Gives [] w fun v L => v = vS (Lib.decDigits n.toNat) ∧ L = []) := by
  obtain ⟨h1, h2, t, f, h3⟩ := hT.pow
  have htab : Lib.TabIs Tryz.prog w "internal/strconv.uint64pow10" .u64 Lib.pow10Tab := by
    have hg : Tryz.prog.globalNamed "internal/strconv.uint64pow10" = some 1 := by kernel_rfl
    unfold Lib.TabIs World.var?
    rw [hg]
    simp only [Option.bind_some, h3]
  refine (Tryz.strconv_Itoa n (by omega) q1 w htab).mono ?_
  rintro e w' ⟨rfl, k, os, rfl⟩
  refine ⟨_, _, rfl, ⟨?_, rfl⟩, St.nil ?_⟩
  · rw [Lib.itoa, if_neg (by omega)]
  · exact Fr.of_below (Lib.below_grow _ _ (Nat.le_refl _) k os)
theorem atoi_ok (s : Bytes) (w : World) (hT : Tab [] w) (q0 : s.length ≤ 140737488355328) : Calls Tryz.prog 82 #[vS s] w (Gives [] w fun v L => ∃ (n : Int) (er : Bool) (N : Nat), v = Value.tuple #[vI n, errV er N] ∧ L = [] ∧ R44.AtoiJ s n er) := by
  obtain ⟨v2, hv2, hr2⟩ := hT.es
  obtain ⟨v3, hv3, hr3⟩ := hT.er
  have hsz : (⟨s.toArray⟩ : ByteArray).size = s.length := by show s.toArray.size = _; simp
  cases ha : Lib.atoiAll s with
  | ok n =>
    refine (Tryz.strconv_Atoi_ok ⟨s.toArray⟩ (by rw [hsz]; omega) n ha w).mono ?_
    rintro e w' ⟨rfl, hw⟩
    refine ⟨_, _, rfl, ⟨n, true, 0, rfl, rfl, fun _ => ha, fun h => (by cases h), ?_⟩, St.nil ?_⟩
    · have := Lib.atoiAll_bounds ha; omega
    · rcases hw with rfl | ⟨t, rfl⟩
      · exact Fr.refl _ _
      · exact Fr.of_below (Joins.below_bytesWorld _ _ _ _ (Nat.le_refl _))
  | range =>
    refine (Tryz.strconv_Atoi_range ⟨s.toArray⟩ (by rw [hsz]; omega) ha v3 w (cell_of hr3) hv3).mono ?_
    rintro e w' ⟨N, rfl, _, _, hb⟩
    have := Lib.atoiSat_bounds s
    exact ⟨_, _, rfl, ⟨Lib.atoiSat s, false, N, rfl, rfl, fun h => (by cases h), fun _ v => (by rw [ha]; exact fun h => (by cases h)), by omega, by omega⟩, St.nil (Fr.of_below hb)⟩
  | _ =>
    refine (Tryz.strconv_Atoi_syntax ⟨s.toArray⟩ (by rw [hsz]; omega) (show (∀ v, Lib.atoiAll s ≠ .ok v) ∧ Lib.atoiAll s ≠ .range from by rw [ha]; exact ⟨fun v h => (by cases h), fun h => (by cases h)⟩) v2 w (cell_of hr2) hv2).mono ?_
    rintro e w' ⟨N, rfl, _, _, hb⟩
    exact ⟨_, _, rfl, ⟨0, false, N, rfl, rfl, fun h => (by cases h), fun _ v => (by rw [ha]; exact fun h => (by cases h)), by omega, by omega⟩, St.nil (Fr.of_below hb)⟩
theorem sz (s : Bytes) : (⟨s.toArray⟩ : ByteArray).size = s.length := by show s.toArray.size = _; simp
theorem cont_ok (c : UInt8) (s : Bytes) (w : World) : Calls Tryz.prog 20 #[vS s, vS [c]] w (Gives [] w fun v L => v = vB (decide (c ∈ s)) ∧ L = []) := by
  refine (Tryz.strings_Contains_one ⟨s.toArray⟩ c w).mono ?_
  rintro e w' ⟨rfl, rfl⟩
  exact ⟨_, _, rfl, ⟨congrArg vB (R45.cont_lib c s), rfl⟩, St.nil (Fr.refl _ _)⟩
theorem fr_drewN (w : World) (n : Nat) : Fr [] w (w.drewN n) := Fr.of_below (below_drewNg w n)
theorem cut_ok (c : UInt8) (s : Bytes) (w : World) (hT : Tab [] w) (q0 : s.length ≤ 1000000) : Calls Tryz.prog 92 #[vS s, vS [c]] w (Gives [] w fun v L => ∃ (a r : Bytes) (o : Bool), v = Value.tuple #[vS a, vS r, vB o] ∧ L = [] ∧ (o = true → R45.cutB c s = some (a, r)) ∧ (o = false → R45.cutB c s = none) ∧ (a.length + r.length ≤ s.length)) := by
  obtain ⟨m, hm⟩ := hT.mx
  refine (Tryz.strings_Cut ⟨s.toArray⟩ ⟨#[c]⟩ m w (by rw [sz]; omega) (cell_of hm)).mono ?_
  rintro e w' ⟨rfl, n, rfl⟩
  rcases R45.cut_lib c s with ⟨h1, h2⟩ | ⟨a, r, h1, h2⟩
  · refine ⟨_, _, rfl, ⟨s, [], false, ?_, rfl, fun h => (by cases h), fun _ => h1, Nat.le_refl _⟩, St.nil (fr_drewN w n)⟩
    show Value.tuple #[vS (Lib.cut s [c]).1, vS (Lib.cut s [c]).2.1, vB (Lib.cut s [c]).2.2] = _
    rw [h2]
  · refine ⟨_, _, rfl, ⟨a, r, true, ?_, rfl, fun _ => h1, fun h => (by cases h), by have := congrArg List.length (R45.cutB_le h1); rw [List.length_append, List.length_cons] at this; omega⟩, St.nil (fr_drewN w n)⟩
    show Value.tuple #[vS (Lib.cut s [c]).1, vS (Lib.cut s [c]).2.1, vB (Lib.cut s [c]).2.2] = _
    rw [h2]
end Go.Proofs.YtggobegaiijhhaaGreatDoor

namespace Go.GV
open Go.RowKit
theorem iface_of {H : Type} {enc : TypeId × Value → H} {P : Program} {w : World} {base : Nat} {sp : Nat → Bool} {held : Bool} {fuel : Nat} {t : TypeId} {m : Array (String × TypeId)} {cs : List Value} {nm : String} {d : DataW H} {p : List MemPlace}
    (ht : P.underlying t = some (.interface m)) (h : DataW.trod enc P w base sp held fuel t cs = some (.iface nm d, p)) : ∃ te pe, cs = [.iface te pe] := by
  cases fuel with
  | zero => cases h
  | succ fuel =>
    unfold DataW.trod at h
    rw [ht] at h
    match cs, h with
    | [.iface te pe], _ => exact ⟨te, pe, rfl⟩
    | [.nilIface], h => cases h
section
variable {P : Program} {t : TypeId}
theorem open_cap {e : TypeId} (ht : P.underlying t = some (.slice e)) : OpenAt P t fun _ cs => ∃ (A : Option Addr) (l c : Nat), cs = [.slice A l c] ∧ l ≤ c := by
  intro H enc w fuel cs x hx
  rcases Deep.open_slice ht hx with ⟨rfl, _⟩ | ⟨a, len, cap, m, n, D, Pl, rfl, _, hlc, _⟩
  · exact ⟨none, 0, 0, rfl, Nat.le_refl _⟩
  · exact ⟨some a, len, cap, rfl, hlc⟩
end
theorem ro_one {w : World} {b : Nat} {v : Value} (h : w.cell? ⟨b, 0, none⟩ = some v) (hb : b < w.heap.size) : RO [] w (some ⟨b, 0, none⟩) [v] := fun j u hj => by
  cases j with
  | zero => cases hj; exact ⟨_, rfl, hb, List.not_mem_nil, h⟩
  | succ j => cases hj
end Go.GV
namespace Go
theorem returnsInHanded_of_change_and_shaped {H : Type} {enc : TypeId × Value → H} {a : Assume} {C : Checked} {os : Os} {f : FuncId} {fn : Func} {s : ChangeSpec} {conds : List PathCond} {apart fresh handsOn again : Bool} {X : World → Array Value → Prop}
    (hX : ∀ (w w' : World) (args : Array Value), w.heap = w'.heap → X w args → X w' args)
    (own : ownKnob C.prog.godebug = none) (started : os.Started) (noInit : C.prog.inits.idxOf? f = none) (hfn : C.prog.funcs[f]? = some fn)
    (witness : ∃ (w : World) (tape : Tape) (i : Input), w.os = os ∧ (w.forCall tape i).Shaped C.prog ∧ i.vars = [] ∧ Input.okWide C.prog (w.forCall tape i) .any w.heap.size f i ∧
      ((s.pre enc C.prog fn conds apart (w.forCall tape i).memory i.args ∧ X (w.forCall tape i).memory i.args) ∧ sizedMet enc C.prog fn (OpenSpec.ofChange s) apart (w.forCall tape i).memory i.args) ∧ a.holds C.prog (lone (Frame.enter C.prog f i.args .normal) [] (w.forCall tape i)))
    (contract : ∀ (W : World) (base : Nat) (args : Array Value) (ds gs : List (DataW H)) (before : List MemPlace),
      (∀ (j : Nat) t v, fn.params[j]? = some t → args[j]? = some v → Value.okWide C.prog W .any base t v) →
      DataW.Whole enc C.prog fn.params.toList s.vars apart W args.toList ds gs before →
      X W args → W.ShapedOpen C.prog →
      Calls C.prog f args W fun e W' => ∃ v, e = .returned v ∧ s.post enc C.prog fn apart fresh handsOn again W args v W') :
    ReturnsInHanded a C os f .any (fun w args => (s.pre enc C.prog fn conds apart w args ∧ X w args) ∧ sizedMet enc C.prog fn (OpenSpec.ofChange s) apart w args) (s.post enc C.prog fn apart fresh handsOn again) := by
  refine returnsInHanded_of_calls own started noInit witness ?_
  intro w tape i _ hsh _ hok hpre _
  obtain ⟨_, _, _, fn', hfn', _, _, _, _, hval⟩ := hok
  obtain rfl : fn' = fn := Option.some.inj (hfn'.symm.trans hfn)
  obtain ⟨⟨⟨ds, gs, before, hw, _⟩, hx⟩, _⟩ := hpre
  refine (contract (w.forCall tape i) w.heap.size i.args ds gs before hval (DataW.Whole.of_heap (w' := w.forCall tape i) (by rfl) hw) (hX _ _ _ (by rfl) hx) hsh).mono fun e W' ⟨v, he, hp⟩ => ?_
  subst he
  exact ChangeSpec.post_blind hp
end Go
namespace Go.Proofs.YtggobegaiijhhaaGreatDoor
open Go.GV Go.RowKit
theorem own : ownKnob Tryz.prog.godebug = none := by kernel_rfl
theorem gN1 : Tryz.prog.globalNamed Rows.utilityRecordsRow.laid[2].1 = some 1 := by kernel_rfl
theorem gN2 : Tryz.prog.globalNamed Rows.utilityRecordsRow.laid[5].1 = some 4 := by kernel_rfl
theorem gN3 : Tryz.prog.globalNamed Rows.utilityRecordsRow.laid[4].1 = some 5 := by kernel_rfl
theorem gT1 : (Tryz.prog.globals[1]?).map (·.type) = some 157 := by kernel_rfl
theorem gT2 : (Tryz.prog.globals[4]?).map (·.type) = some 127 := by kernel_rfl
theorem gT3 : (Tryz.prog.globals[5]?).map (·.type) = some 127 := by kernel_rfl
theorem gMax {w : World} (h : w.ShapedOpen Tryz.prog) : ∃ m, w.cell? ⟨0, 0, none⟩ = some (.int .i64 m) :=
  Go.Proofs.cell_of_shapedOpen_int (zero := #[.int .i64 0]) (t := 3) h (of_decide_eq_true (by kernel_rfl)) (by kernel_rfl) rfl (by kernel_rfl) (by kernel_rfl) Tryz.underlying3
theorem dTab : (Rows.laid_internal_strconv_uint64pow10 : DataW Unit) = Lib.tabData .u64 Lib.pow10Tab := by kernel_rfl
theorem var_cells {W : World} {g : Nat} {cs : Array Value} {l : List Value} {nm : String} (hg : Tryz.prog.globalNamed nm = some g) (hv : W.var? Tryz.prog nm = some cs) (hc : cs.toList = l) : g < W.heap.size ∧ ∃ t f, W.heap[g]? = some (.cells l.toArray t f) := by
  unfold World.var? at hv
  rw [hg] at hv
  simp only [Option.bind_some] at hv
  cases ho : W.heap[g]? with
  | none => rw [ho] at hv; cases hv
  | some o =>
    rw [ho] at hv
    cases o with
    | cells c t f =>
      have hv : some c = some cs := hv
      obtain rfl := Option.some.inj hv
      exact ⟨(Array.getElem?_eq_some_iff.1 ho).1, t, f, by rw [← hc]⟩
    | _ => cases hv
theorem cell_at {W : World} {g : Nat} {v : Value} {t : TypeId} {f : Nat × Nat} (h : W.heap[g]? = some (.cells [v].toArray t f)) : W.cell? ⟨g, 0, none⟩ = some v := by
  simp [World.cell?, h]
noncomputable abbrev start (os : Os) : World := World.laidAll Tryz.prog os Rows.utilityRecordsRow.laid
theorem door_met (os : Os) (args : Array Value) : laidMetH Tryz.prog Rows.utilityRecordsRow.laid ((start os).forCall (fun _ _ => 0) ⟨#[], args, []⟩).memory := by
  rw [MakeChecks.laidMetH_plain _ _ _ (by kernel_rfl)]
  exact laidMet_laidAll args (by kernel_rfl) (by kernel_rfl)
theorem start_os (os : Os) : (start os).os = os := World.laidAll_os _ _ _
theorem tab_of {W : World} (hs : W.ShapedOpen Tryz.prog) (h : laidMetH Tryz.prog Rows.utilityRecordsRow.laid W) : Tab [] W := by
  rw [MakeChecks.laidMetH_plain _ _ _ (by kernel_rfl)] at h
  obtain ⟨ps, ⟨g0, t0, cs0, f0, p0, q0, hg0, ht0, hv0, hd0, ⟨g1, t1, cs1, f1, p1, q1, hg1, ht1, hv1, hd1, ⟨g2, t2, cs2, f2, p2, q2, hg2, ht2, hv2, hd2, ⟨g3, t3, cs3, f3, p3, q3, hg3, ht3, hv3, hd3, ⟨g4, t4, cs4, f4, p4, q4, hg4, ht4, hv4, hd4, ⟨g5, t5, cs5, f5, p5, q5, hg5, ht5, hv5, hd5, ⟨g6, t6, cs6, f6, p6, q6, hg6, ht6, hv6, hd6, _, _⟩, _⟩, _⟩, _⟩, _⟩, _⟩, _⟩, _, _⟩ := h
  obtain rfl := Option.some.inj (gN1.symm.trans hg2)
  obtain rfl := Option.some.inj (gN2.symm.trans hg5)
  obtain rfl := Option.some.inj (gN3.symm.trans hg4)
  obtain rfl := Option.some.inj (gT1.symm.trans ht2)
  obtain rfl := Option.some.inj (gT2.symm.trans ht5)
  obtain rfl := Option.some.inj (gT3.symm.trans ht4)
  rw [dTab] at hd2
  have hc := Lib.cells_of_tab Tryz.underlying157 Tryz.underlying114 (by kernel_rfl) (by kernel_rfl) hd2
  obtain ⟨h1, k1, k2, k3⟩ := var_cells hg2 hv2 hc
  obtain ⟨e5, f5', hc5⟩ := iface_of Tryz.underlying127 hd5
  obtain ⟨e4, f4', hc4⟩ := iface_of Tryz.underlying127 hd4
  obtain ⟨h5, _, _, y5⟩ := var_cells hg5 hv5 hc5
  obtain ⟨h4, _, _, y4⟩ := var_cells hg4 hv4 hc4
  obtain ⟨m, hm⟩ := gMax hs
  exact ⟨⟨List.not_mem_nil, h1, k1, k2, k3⟩, ⟨m, ro_one hm (by omega)⟩, ⟨_, .inr ⟨e5, f5', rfl⟩, ro_one (cell_at y5) h5⟩, ⟨_, .inr ⟨e4, f4', rfl⟩, ro_one (cell_at y4) h4⟩⟩
end Go.Proofs.YtggobegaiijhhaaGreatDoor
