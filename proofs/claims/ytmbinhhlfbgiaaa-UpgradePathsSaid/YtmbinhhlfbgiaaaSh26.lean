/- the shelf's contracts that are used, at this seat (written by the kit's tools) -/
import Derived.Shelf.Strings.Builder1
import Derived.Shelf.Strings.Builder2
import Derived.Shelf.Small.Bits
import Derived.Shelf.Strings.BuilderF
import Derived.Shelf.Strconv.Itoa0
import Derived.Shelf.Strings.Prefix
import Derived.Shelf.Bits.Mul64
import Derived.Shelf.Strings.Repeat
import Derived.Shelf.Slices.CompactS
import Derived.Shelf.Slices.Cells
import Derived.Shelf.Slices.In.SortNone
import Derived.Shelf.SortM.Plain
import Derived.Test.YtmbinhhlfbgiaaaRows
namespace Go.Proofs
open Go.Shelf
open Go.RowKit Go.Lib
def Try.lays105_ren : Go.Shelf.Ren := ⟨fun | 105 => 58 | 212 => 83 | 99 => 37 | 165 => 84 | 166 => 85 | 170 => 86 | 169 => 87 | 263 => 102 | 264 => 103 | 206 => 60 | 240 => 104 | 241 => 105 | 276 => 112 | 277 => 113 | n => n, fun | 9 => 9 | 3 => 3 | 4 => 4 | 20 => 20 | 0 => 0 | 46 => 117 | 109 => 122 | 5 => 5 | 72 => 127 | 76 => 131 | 51 => 143 | 146 => 148 | 53 => 145 | 148 => 150 | 70 => 124 | 37 => 125 | 75 => 130 | 127 => 152 | 164 => 160 | 80 => 134 | n => n, fun | n => n⟩
theorem Try.lays105 : Go.Proofs.Lays.n105 Try.prog Try.lays105_ren := {
  mixed := by kernel_rfl
  f99 := Try.func37.trans (congrArg some (by kernel_rfl))
  f105 := Try.func58.trans (congrArg some (by kernel_rfl))
  f165 := Try.func84.trans (congrArg some (by kernel_rfl))
  f166 := Try.func85.trans (congrArg some (by kernel_rfl))
  f169 := Try.func87.trans (congrArg some (by kernel_rfl))
  f170 := Try.func86.trans (congrArg some (by kernel_rfl))
  f206 := Try.func60.trans (congrArg some (by kernel_rfl))
  f212 := Try.func83.trans (congrArg some (by kernel_rfl))
  f240 := Try.func104.trans (congrArg some (by kernel_rfl))
  f241 := Try.func105.trans (congrArg some (by kernel_rfl))
  f263 := Try.func102.trans (congrArg some (by kernel_rfl))
  f264 := Try.func103.trans (congrArg some (by kernel_rfl))
  f276 := Try.func112.trans (congrArg some (by kernel_rfl))
  f277 := Try.func113.trans (congrArg some (by kernel_rfl))
  t0 := Try.underlying0
  a0 := Try.isAgg0
  z0 := Try.sizeOf0
  v0 := Try.zeroValue0
  t3 := Try.underlying3
  a3 := Try.isAgg3
  z3 := Try.sizeOf3
  v3 := Try.zeroValue3
  t4 := Try.underlying4
  a4 := Try.isAgg4
  z4 := Try.sizeOf4
  v4 := Try.zeroValue4
  t5 := Try.underlying5
  a5 := Try.isAgg5
  z5 := Try.sizeOf5
  v5 := Try.zeroValue5
  t9 := Try.underlying9
  a9 := Try.isAgg9
  z9 := Try.sizeOf9
  v9 := Try.zeroValue9
  t20 := Try.underlying20
  a20 := Try.isAgg20
  z20 := Try.sizeOf20
  v20 := Try.zeroValue20
  t37 := Try.underlying125
  a37 := Try.isAgg125
  z37 := Try.sizeOf125
  v37 := Try.zeroValue125
  t46 := Try.underlying117
  a46 := Try.isAgg117
  z46 := Try.sizeOf117
  v46 := Try.zeroValue117
  t51 := Try.underlying143
  a51 := Try.isAgg143
  z51 := Try.sizeOf143
  v51 := Try.zeroValue143
  t53 := Try.underlying145
  a53 := Try.isAgg145
  z53 := Try.sizeOf145
  v53 := Try.zeroValue145
  t70 := Try.underlying124
  a70 := Try.isAgg124
  z70 := Try.sizeOf124
  v70 := Try.zeroValue124
  t72 := Try.underlying127
  a72 := Try.isAgg127
  z72 := Try.sizeOf127
  v72 := Try.zeroValue127
  t75 := Try.underlying130
  a75 := Try.isAgg130
  z75 := Try.sizeOf130
  v75 := Try.zeroValue130
  t76 := Try.underlying131
  a76 := Try.isAgg131
  z76 := Try.sizeOf131
  v76 := Try.zeroValue131
  t109 := Try.underlying122
  a109 := Try.isAgg122
  z109 := Try.sizeOf122
  v109 := Try.zeroValue122
  t127 := Try.underlying152
  a127 := Try.isAgg152
  z127 := Try.sizeOf152
  v127 := Try.zeroValue152
  t146 := Try.underlying148
  a146 := Try.isAgg148
  z146 := Try.sizeOf148
  v146 := Try.zeroValue148
  t148 := Try.underlying150
  a148 := Try.isAgg150
  z148 := Try.sizeOf150
  v148 := Try.zeroValue150
  t164 := Try.underlying160
  a164 := Try.isAgg160
  z164 := Try.sizeOf160
  v164 := Try.zeroValue160 }
theorem Try.Builder_Extra_105 : Builder.Extra Try.prog Try.lays105_ren := {
  sizeBuilder := by kernel_rfl
  liesBuilder := by kernel_rfl
  t5 := Try.underlying5
  a5 := Try.isAgg5
  z5 := Try.sizeOf5
  v5 := Try.zeroValue5
  infoByte := by kernel_rfl
  cellsByte := by kernel_rfl
  sizeByte := by kernel_rfl
  neB5 := by decide }
theorem Try.strings_Repeat (s : ByteArray) (c : Nat) (w : World) (hc : c ≤ 9223372036854775807) (hlen : s.size * c ≤ 140737488355328) :
    Calls Try.prog 58 #[.string s, .int .i64 c] w fun e w' => e = .returned (.string ⟨(Lib.repeatL s.data.toList c).toArray⟩) ∧ Below w.heap.size w w' := Any.strings_Repeat Try.lays105 Try.Builder_Extra_105 s c w hc hlen
end Go.Proofs
