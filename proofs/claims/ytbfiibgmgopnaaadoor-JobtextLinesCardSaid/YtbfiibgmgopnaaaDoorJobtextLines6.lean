/- Sh39, GvKm, GvBu, GvW, GvQ, GvS in one text. -/
import Derived.Shelf.Strings.Builder1
import Derived.Shelf.Strings.Builder2
import Derived.Shelf.Strings.Trim
import Derived.Shelf.Small.Utf8
import Derived.Shelf.Small.Strs
import Derived.Shelf.Strings.BuilderF
import Derived.Shelf.Strings.BuilderK
import Derived.Shelf.Utf8.RuneCount
import Derived.Shelf.Strings.Builder2Cap
import Derived.Shelf.Strings.Search1
import Derived.Shelf.Strings.Search2
import Derived.Shelf.Strings.Search3
import Derived.Shelf.Strings.Cut
import Derived.Shelf.Strings.Count
import Derived.Shelf.LaysM
import Derived.Shelf.Strings.Shaped
import Derived.Shelf.GgClosure.StringsIndexFunc
import Derived.Shelf.GgClosure.StringsIndexFuncTop
import Derived.Shelf.GgClosure.StringsRunes
import Derived.Shelf.Strings.Prefix
import Derived.Shelf.Strings.Split
import Derived.Shelf.Strings.Replace
import Derived.Shelf.Strings.SplitShaped
import Derived.Shelf.Unicode.Decode
import Derived.Shelf.Strings.Runes
import Derived.Shelf.Strings.RuneCount
import Derived.Shelf.Strings.IndexAny
import Derived.Shelf.Strings.AsciiSet
import Derived.Shelf.Strings.IndexAnyAll
import Derived.Shelf.Strings.Explode
import Derived.Shelf.Bits.Mul64
import Derived.Shelf.Strings.Repeat
import Derived.Shelf.Unicode.DecodeSlow
import Derived.Shelf.Unicode.DecodeAny
import Derived.Shelf.Strings.FuncGrows
import Derived.Shelf.Strings.BuilderCap
import Derived.Test.YtbfiibgmgopnaaaDoorRows
import Derived.Test.YtbfiibgmgopnaaaDoorJobtextLines5
import Derived.Shelf.SlMaps.Clone
import Derived.Laws.Externs
import Derived.Lib.Builder
import Derived.Lib.UnsafeStr
import Derived.Test.YtbfiibgmgopnaaaDoorJobtextLines4
import Derived.Test.YtbfiibgmgopnaaaDoorJobtextLines3
set_option linter.unusedVariables false
set_option linter.unusedSimpArgs false
namespace Go.Proofs
open Go.Shelf
open Go.RowKit Go.Lib
def Tryd.lays161_ren : Go.Shelf.Ren := ⟨fun | 161 => 23 | 231 => 45 | 227 => 46 | 233 => 47 | 235 => 48 | 228 => 67 | 197 => 58 | 151 => 68 | 260 => 81 | 152 => 79 | 137 => 25 | 119 => 96 | 224 => 83 | 225 => 82 | 217 => 51 | 266 => 70 | n => n, fun | 9 => 9 | 4 => 4 | 3 => 3 | 5 => 5 | 117 => 91 | 116 => 90 | 0 => 0 | 124 => 94 | 105 => 98 | 21 => 21 | 119 => 129 | 46 => 84 | 139 => 132 | 138 => 131 | n => n, fun | 3 => 1 | 4 => 2 | n => n⟩
theorem Tryd.lays161 : Go.Proofs.Lays.n161 Tryd.prog Tryd.lays161_ren := {
  mixed := by kernel_rfl
  f119 := Tryd.func96.trans (congrArg some (by kernel_rfl))
  f137 := Tryd.func25.trans (congrArg some (by kernel_rfl))
  f151 := Tryd.func68.trans (congrArg some (by kernel_rfl))
  f152 := Tryd.func79.trans (congrArg some (by kernel_rfl))
  f161 := Tryd.func23.trans (congrArg some (by kernel_rfl))
  f197 := Tryd.func58.trans (congrArg some (by kernel_rfl))
  f217 := Tryd.func51.trans (congrArg some (by kernel_rfl))
  f224 := Tryd.func83.trans (congrArg some (by kernel_rfl))
  f225 := Tryd.func82.trans (congrArg some (by kernel_rfl))
  f227 := Tryd.func46.trans (congrArg some (by kernel_rfl))
  f228 := Tryd.func67.trans (congrArg some (by kernel_rfl))
  f231 := Tryd.func45.trans (congrArg some (by kernel_rfl))
  f233 := Tryd.func47.trans (congrArg some (by kernel_rfl))
  f235 := Tryd.func48.trans (congrArg some (by kernel_rfl))
  f260 := Tryd.func81.trans (congrArg some (by kernel_rfl))
  f266 := Tryd.func70.trans (congrArg some (by kernel_rfl))
  t0 := Tryd.underlying0
  a0 := Tryd.isAgg0
  z0 := Tryd.sizeOf0
  v0 := Tryd.zeroValue0
  t3 := Tryd.underlying3
  a3 := Tryd.isAgg3
  z3 := Tryd.sizeOf3
  v3 := Tryd.zeroValue3
  t4 := Tryd.underlying4
  a4 := Tryd.isAgg4
  z4 := Tryd.sizeOf4
  v4 := Tryd.zeroValue4
  t5 := Tryd.underlying5
  a5 := Tryd.isAgg5
  z5 := Tryd.sizeOf5
  v5 := Tryd.zeroValue5
  t9 := Tryd.underlying9
  a9 := Tryd.isAgg9
  z9 := Tryd.sizeOf9
  v9 := Tryd.zeroValue9
  t21 := Tryd.underlying21
  a21 := Tryd.isAgg21
  z21 := Tryd.sizeOf21
  v21 := Tryd.zeroValue21
  t46 := Tryd.underlying84
  a46 := Tryd.isAgg84
  z46 := Tryd.sizeOf84
  v46 := Tryd.zeroValue84
  t105 := Tryd.underlying98
  a105 := Tryd.isAgg98
  z105 := Tryd.sizeOf98
  v105 := Tryd.zeroValue98
  t116 := Tryd.underlying90
  a116 := Tryd.isAgg90
  z116 := Tryd.sizeOf90
  t117 := Tryd.underlying91
  a117 := Tryd.isAgg91
  z117 := Tryd.sizeOf91
  v117 := Tryd.zeroValue91
  t119 := Tryd.underlying129
  a119 := Tryd.isAgg129
  z119 := Tryd.sizeOf129
  t124 := Tryd.underlying94
  a124 := Tryd.isAgg94
  z124 := Tryd.sizeOf94
  v124 := Tryd.zeroValue94
  t138 := Tryd.underlying131
  a138 := Tryd.isAgg131
  z138 := Tryd.sizeOf131
  v138 := Tryd.zeroValue131
  t139 := Tryd.underlying132
  a139 := Tryd.isAgg132
  z139 := Tryd.sizeOf132
  v139 := Tryd.zeroValue132
  g3 := by kernel_rfl
  g4 := by kernel_rfl }
theorem Tryd.strings_TrimLeft_one (s : ByteArray) (c : UInt8) (hc : c.toNat < 128) (w : World) :
    Calls Tryd.prog 23 #[.string s, .string ⟨#[c]⟩] w fun e w' => e = .returned (.string ⟨(Lib.trimLeftB s.data.toList c).toArray⟩) ∧ w' = w := Any.strings_TrimLeft_one Tryd.lays161 s c hc w
def Tryd.lays137_ren : Go.Shelf.Ren := ⟨fun | 137 => 25 | 217 => 51 | 266 => 70 | n => n, fun | 9 => 9 | 5 => 5 | 3 => 3 | n => n, fun | n => n⟩
theorem Tryd.lays137 : Go.Proofs.Lays.n137 Tryd.prog Tryd.lays137_ren := {
  mixed := by kernel_rfl
  f137 := Tryd.func25.trans (congrArg some (by kernel_rfl))
  f217 := Tryd.func51.trans (congrArg some (by kernel_rfl))
  f266 := Tryd.func70.trans (congrArg some (by kernel_rfl))
  t3 := Tryd.underlying3
  a3 := Tryd.isAgg3
  z3 := Tryd.sizeOf3
  v3 := Tryd.zeroValue3
  t5 := Tryd.underlying5
  a5 := Tryd.isAgg5
  z5 := Tryd.sizeOf5
  v5 := Tryd.zeroValue5
  t9 := Tryd.underlying9
  a9 := Tryd.isAgg9
  z9 := Tryd.sizeOf9
  v9 := Tryd.zeroValue9 }
theorem Tryd.strings_IndexByte (s : ByteArray) (c : Int) (w : World) :
    Calls Tryd.prog 25 #[.string s, .int .u8 c] w fun e w' => e = .returned (.int .i64 (Lib.indexByte s.data.toList c.toNat.toUInt8)) ∧ w' = w := Any.strings_IndexByte Tryd.lays137 s c w
def Tryd.lays144_ren : Go.Shelf.Ren := ⟨fun | 144 => 18 | 143 => 36 | 219 => 59 | 217 => 51 | 225 => 82 | 224 => 83 | 267 => 84 | 266 => 70 | 314 => 97 | n => n, fun | 9 => 9 | 4 => 4 | 3 => 3 | 5 => 5 | 46 => 84 | 146 => 105 | 51 => 104 | n => n, fun | 1 => 0 | n => n⟩
theorem Tryd.lays144 : Go.Proofs.Lays.n144 Tryd.prog Tryd.lays144_ren := {
  mixed := by kernel_rfl
  f143 := Tryd.func36.trans (congrArg some (by kernel_rfl))
  f144 := Tryd.func18.trans (congrArg some (by kernel_rfl))
  f217 := Tryd.func51.trans (congrArg some (by kernel_rfl))
  f219 := Tryd.func59.trans (congrArg some (by kernel_rfl))
  f224 := Tryd.func83.trans (congrArg some (by kernel_rfl))
  f225 := Tryd.func82.trans (congrArg some (by kernel_rfl))
  f266 := Tryd.func70.trans (congrArg some (by kernel_rfl))
  f267 := Tryd.func84.trans (congrArg some (by kernel_rfl))
  f314 := Tryd.func97.trans (congrArg some (by kernel_rfl))
  t3 := Tryd.underlying3
  a3 := Tryd.isAgg3
  z3 := Tryd.sizeOf3
  v3 := Tryd.zeroValue3
  t4 := Tryd.underlying4
  a4 := Tryd.isAgg4
  z4 := Tryd.sizeOf4
  v4 := Tryd.zeroValue4
  t5 := Tryd.underlying5
  a5 := Tryd.isAgg5
  z5 := Tryd.sizeOf5
  v5 := Tryd.zeroValue5
  t9 := Tryd.underlying9
  a9 := Tryd.isAgg9
  z9 := Tryd.sizeOf9
  v9 := Tryd.zeroValue9
  t46 := Tryd.underlying84
  a46 := Tryd.isAgg84
  z46 := Tryd.sizeOf84
  v46 := Tryd.zeroValue84
  t51 := Tryd.underlying104
  a51 := Tryd.isAgg104
  z51 := Tryd.sizeOf104
  v51 := Tryd.zeroValue104
  t146 := Tryd.underlying105
  a146 := Tryd.isAgg105
  z146 := Tryd.sizeOf105
  v146 := Tryd.zeroValue105
  g1 := by kernel_rfl }
theorem Tryd.strings_Contains_one (s : ByteArray) (c : UInt8) (w : World) :
    Calls Tryd.prog 18 #[.string s, .string ⟨#[c]⟩] w fun e w' => e = .returned (.bool (decide (0 ≤ Lib.indexByte s.data.toList c))) ∧ w' = w := Any.strings_Contains_one Tryd.lays144 s c w
def Tryd.lays145_ren : Go.Shelf.Ren := ⟨fun | 145 => 29 | 220 => 54 | 219 => 59 | 217 => 51 | 225 => 82 | 224 => 83 | 267 => 84 | 266 => 70 | 314 => 97 | n => n, fun | 9 => 9 | 4 => 4 | 59 => 49 | 3 => 3 | 5 => 5 | 46 => 84 | 146 => 105 | 51 => 104 | n => n, fun | 1 => 0 | n => n⟩
theorem Tryd.lays145 : Go.Proofs.Lays.n145 Tryd.prog Tryd.lays145_ren := {
  mixed := by kernel_rfl
  f145 := Tryd.func29.trans (congrArg some (by kernel_rfl))
  f217 := Tryd.func51.trans (congrArg some (by kernel_rfl))
  f219 := Tryd.func59.trans (congrArg some (by kernel_rfl))
  f220 := Tryd.func54.trans (congrArg some (by kernel_rfl))
  f224 := Tryd.func83.trans (congrArg some (by kernel_rfl))
  f225 := Tryd.func82.trans (congrArg some (by kernel_rfl))
  f266 := Tryd.func70.trans (congrArg some (by kernel_rfl))
  f267 := Tryd.func84.trans (congrArg some (by kernel_rfl))
  f314 := Tryd.func97.trans (congrArg some (by kernel_rfl))
  t3 := Tryd.underlying3
  a3 := Tryd.isAgg3
  z3 := Tryd.sizeOf3
  v3 := Tryd.zeroValue3
  t4 := Tryd.underlying4
  a4 := Tryd.isAgg4
  z4 := Tryd.sizeOf4
  v4 := Tryd.zeroValue4
  t5 := Tryd.underlying5
  a5 := Tryd.isAgg5
  z5 := Tryd.sizeOf5
  v5 := Tryd.zeroValue5
  t9 := Tryd.underlying9
  a9 := Tryd.isAgg9
  z9 := Tryd.sizeOf9
  v9 := Tryd.zeroValue9
  t46 := Tryd.underlying84
  a46 := Tryd.isAgg84
  z46 := Tryd.sizeOf84
  v46 := Tryd.zeroValue84
  t51 := Tryd.underlying104
  a51 := Tryd.isAgg104
  z51 := Tryd.sizeOf104
  v51 := Tryd.zeroValue104
  t59 := Tryd.underlying49
  a59 := Tryd.isAgg49
  z59 := Tryd.sizeOf49
  v59 := Tryd.zeroValue49
  t146 := Tryd.underlying105
  a146 := Tryd.isAgg105
  z146 := Tryd.sizeOf105
  v146 := Tryd.zeroValue105
  g1 := by kernel_rfl }
theorem Tryd.strings_Cut (s sep : ByteArray) (m : Int) (w : World) (hs : s.size < 4294967281) (hm : w.cell? ⟨0, 0, none⟩ = some (.int .i64 m)) :
    Calls Tryd.prog 29 #[.string s, .string sep] w fun e w' => e = .returned (.tuple #[.string ⟨(Lib.cut s.data.toList sep.data.toList).1.toArray⟩, .string ⟨(Lib.cut s.data.toList sep.data.toList).2.1.toArray⟩, .bool (Lib.cut s.data.toList sep.data.toList).2.2]) ∧ ∃ n, w' = w.drewN n := Any.strings_Cut Tryd.lays145 s sep m w hs hm
def Tryd.lays138_ren : Go.Shelf.Ren := ⟨fun | 138 => 22 | 195 => 43 | 218 => 44 | 143 => 36 | 219 => 59 | 217 => 51 | 225 => 82 | 224 => 83 | 267 => 84 | 266 => 70 | 314 => 97 | n => n, fun | 9 => 9 | 3 => 3 | 4 => 4 | 5 => 5 | 0 => 0 | 46 => 84 | 146 => 105 | 51 => 104 | n => n, fun | 1 => 0 | n => n⟩
def Tryd.laysGw15_ren : Go.Shelf.Ren := ⟨fun | 15 => 49 | 20 => 69 | n => n, fun | 9 => 9 | 23 => 96 | 3 => 3 | 4 => 4 | 0 => 0 | 21 => 21 | n => n, fun | n => n⟩
theorem Tryd.laysGw15 : Go.Proofs.LaysGw.n15 Tryd.prog Tryd.laysGw15_ren := {
  mixed := by kernel_rfl
  f15 := Tryd.func49.trans (congrArg some (by kernel_rfl))
  f20 := Tryd.func69.trans (congrArg some (by kernel_rfl))
  t0 := Tryd.underlying0
  a0 := Tryd.isAgg0
  z0 := Tryd.sizeOf0
  v0 := Tryd.zeroValue0
  i0 := by kernel_rfl
  t3 := Tryd.underlying3
  a3 := Tryd.isAgg3
  z3 := Tryd.sizeOf3
  v3 := Tryd.zeroValue3
  i3 := by kernel_rfl
  t4 := Tryd.underlying4
  a4 := Tryd.isAgg4
  z4 := Tryd.sizeOf4
  v4 := Tryd.zeroValue4
  i4 := by kernel_rfl
  t9 := Tryd.underlying9
  a9 := Tryd.isAgg9
  z9 := Tryd.sizeOf9
  v9 := Tryd.zeroValue9
  i9 := by kernel_rfl
  t21 := Tryd.underlying21
  a21 := Tryd.isAgg21
  z21 := Tryd.sizeOf21
  v21 := Tryd.zeroValue21
  i21 := by kernel_rfl
  t23 := Tryd.underlying96
  a23 := Tryd.isAgg96
  z23 := Tryd.sizeOf96
  v23 := Tryd.zeroValue96
  i23 := by kernel_rfl }
def Tryd.lays99_ren : Go.Shelf.Ren := ⟨fun | 99 => 27 | 206 => 53 | n => n, fun | 9 => 9 | 4 => 4 | 3 => 3 | n => n, fun | n => n⟩
theorem Tryd.lays99 : Go.Proofs.Lays.n99 Tryd.prog Tryd.lays99_ren := {
  mixed := by kernel_rfl
  f99 := Tryd.func27.trans (congrArg some (by kernel_rfl))
  f206 := Tryd.func53.trans (congrArg some (by kernel_rfl))
  t3 := Tryd.underlying3
  a3 := Tryd.isAgg3
  z3 := Tryd.sizeOf3
  v3 := Tryd.zeroValue3
  t4 := Tryd.underlying4
  a4 := Tryd.isAgg4
  z4 := Tryd.sizeOf4
  v4 := Tryd.zeroValue4
  t9 := Tryd.underlying9
  a9 := Tryd.isAgg9
  z9 := Tryd.sizeOf9
  v9 := Tryd.zeroValue9 }
theorem Tryd.strings_HasPrefix (s p : ByteArray) (w : World) :
    Calls Tryd.prog 27 #[.string s, .string p] w fun e w' => e = .returned (.bool (Lib.hasPrefix s.data.toList p.data.toList)) ∧ w' = w := Any.strings_HasPrefix Tryd.lays99 s p w
def Tryd.lays102_ren : Go.Shelf.Ren := ⟨fun | 102 => 38 | 209 => 61 | 207 => 85 | n => n, fun | 9 => 9 | 4 => 4 | 3 => 3 | n => n, fun | n => n⟩
theorem Tryd.lays102 : Go.Proofs.Lays.n102 Tryd.prog Tryd.lays102_ren := {
  mixed := by kernel_rfl
  f102 := Tryd.func38.trans (congrArg some (by kernel_rfl))
  f207 := Tryd.func85.trans (congrArg some (by kernel_rfl))
  f209 := Tryd.func61.trans (congrArg some (by kernel_rfl))
  t3 := Tryd.underlying3
  a3 := Tryd.isAgg3
  z3 := Tryd.sizeOf3
  v3 := Tryd.zeroValue3
  t4 := Tryd.underlying4
  a4 := Tryd.isAgg4
  z4 := Tryd.sizeOf4
  v4 := Tryd.zeroValue4
  t9 := Tryd.underlying9
  a9 := Tryd.isAgg9
  z9 := Tryd.sizeOf9
  v9 := Tryd.zeroValue9 }
theorem Tryd.strings_TrimSuffix (s p : ByteArray) (w : World) (hs : s.size ≤ 9223372036854775807) :
    Calls Tryd.prog 38 #[.string s, .string p] w fun e w' => e = .returned (.string ⟨(Lib.trimSuffix s.data.toList p.data.toList).toArray⟩) ∧ w' = w := Any.strings_TrimSuffix Tryd.lays102 s p w hs
def Tryd.lays146_ren : Go.Shelf.Ren := ⟨fun | 146 => 93 | 221 => 102 | 268 => 105 | 138 => 22 | 143 => 36 | 195 => 43 | 197 => 58 | 218 => 44 | 219 => 59 | 260 => 81 | 217 => 51 | 225 => 82 | 224 => 83 | 267 => 84 | 266 => 70 | 314 => 97 | n => n, fun | 9 => 9 | 31 => 24 | 3 => 3 | 4 => 4 | 0 => 0 | 105 => 98 | 21 => 21 | 5 => 5 | 46 => 84 | 119 => 129 | 139 => 132 | 138 => 131 | 146 => 105 | 51 => 104 | n => n, fun | 1 => 0 | 3 => 1 | 4 => 2 | n => n⟩
theorem Tryd.lays146 : Go.Proofs.Lays.n146 Tryd.prog Tryd.lays146_ren := {
  mixed := by kernel_rfl
  f138 := Tryd.func22.trans (congrArg some (by kernel_rfl))
  f143 := Tryd.func36.trans (congrArg some (by kernel_rfl))
  f146 := Tryd.func93.trans (congrArg some (by kernel_rfl))
  f195 := Tryd.func43.trans (congrArg some (by kernel_rfl))
  f197 := Tryd.func58.trans (congrArg some (by kernel_rfl))
  f217 := Tryd.func51.trans (congrArg some (by kernel_rfl))
  f218 := Tryd.func44.trans (congrArg some (by kernel_rfl))
  f219 := Tryd.func59.trans (congrArg some (by kernel_rfl))
  f221 := Tryd.func102.trans (congrArg some (by kernel_rfl))
  f224 := Tryd.func83.trans (congrArg some (by kernel_rfl))
  f225 := Tryd.func82.trans (congrArg some (by kernel_rfl))
  f260 := Tryd.func81.trans (congrArg some (by kernel_rfl))
  f266 := Tryd.func70.trans (congrArg some (by kernel_rfl))
  f267 := Tryd.func84.trans (congrArg some (by kernel_rfl))
  f268 := Tryd.func105.trans (congrArg some (by kernel_rfl))
  f314 := Tryd.func97.trans (congrArg some (by kernel_rfl))
  t0 := Tryd.underlying0
  a0 := Tryd.isAgg0
  z0 := Tryd.sizeOf0
  v0 := Tryd.zeroValue0
  t3 := Tryd.underlying3
  a3 := Tryd.isAgg3
  z3 := Tryd.sizeOf3
  v3 := Tryd.zeroValue3
  t4 := Tryd.underlying4
  a4 := Tryd.isAgg4
  z4 := Tryd.sizeOf4
  v4 := Tryd.zeroValue4
  t5 := Tryd.underlying5
  a5 := Tryd.isAgg5
  z5 := Tryd.sizeOf5
  v5 := Tryd.zeroValue5
  t9 := Tryd.underlying9
  a9 := Tryd.isAgg9
  z9 := Tryd.sizeOf9
  v9 := Tryd.zeroValue9
  t21 := Tryd.underlying21
  a21 := Tryd.isAgg21
  z21 := Tryd.sizeOf21
  v21 := Tryd.zeroValue21
  t31 := Tryd.underlying24
  a31 := Tryd.isAgg24
  z31 := Tryd.sizeOf24
  v31 := Tryd.zeroValue24
  t46 := Tryd.underlying84
  a46 := Tryd.isAgg84
  z46 := Tryd.sizeOf84
  v46 := Tryd.zeroValue84
  t51 := Tryd.underlying104
  a51 := Tryd.isAgg104
  z51 := Tryd.sizeOf104
  v51 := Tryd.zeroValue104
  t105 := Tryd.underlying98
  a105 := Tryd.isAgg98
  z105 := Tryd.sizeOf98
  v105 := Tryd.zeroValue98
  t119 := Tryd.underlying129
  a119 := Tryd.isAgg129
  z119 := Tryd.sizeOf129
  t138 := Tryd.underlying131
  a138 := Tryd.isAgg131
  z138 := Tryd.sizeOf131
  v138 := Tryd.zeroValue131
  t139 := Tryd.underlying132
  a139 := Tryd.isAgg132
  z139 := Tryd.sizeOf132
  v139 := Tryd.zeroValue132
  t146 := Tryd.underlying105
  a146 := Tryd.isAgg105
  z146 := Tryd.sizeOf105
  v146 := Tryd.zeroValue105
  g1 := by kernel_rfl
  g3 := by kernel_rfl
  g4 := by kernel_rfl }
theorem Tryd.strings_Split (s sep : ByteArray) (m : Int) (w : World) (hs : s.size < 4294967281) (hm : w.cell? ⟨0, 0, none⟩ = some (.int .i64 m)) (h1 : 1 ≤ sep.size) :
    Calls Tryd.prog 93 #[.string s, .string sep] w fun e w' =>
      e = .returned (.slice (some ⟨w.heap.size, 0, none⟩) (Lib.countB s sep + 1) (Lib.countB s sep + 1)) ∧ w' = w.alloc (.cells ((Lib.splitB sep 0 (Lib.countB s sep) s).map Value.string).toArray 9) := Any.strings_Split Tryd.lays146 (by kernel_rfl) s sep m w hs hm h1
def Tryd.lays155_ren : Go.Shelf.Ren := ⟨fun | 155 => 17 | 154 => 35 | 138 => 22 | 165 => 42 | 143 => 36 | 166 => 26 | 197 => 58 | 169 => 32 | 195 => 43 | 218 => 44 | 240 => 52 | 241 => 66 | 219 => 59 | 260 => 81 | 276 => 71 | 277 => 92 | 217 => 51 | 225 => 82 | 224 => 83 | 267 => 84 | 266 => 70 | 314 => 97 | n => n, fun | 9 => 9 | 3 => 3 | 4 => 4 | 72 => 54 | 0 => 0 | 76 => 58 | 105 => 98 | 21 => 21 | 5 => 5 | 70 => 51 | 20 => 20 | 37 => 52 | 75 => 57 | 127 => 97 | 164 => 113 | 46 => 84 | 119 => 129 | 139 => 132 | 138 => 131 | 146 => 105 | 51 => 104 | 80 => 65 | n => n, fun | 1 => 0 | 3 => 1 | 4 => 2 | n => n⟩
theorem Tryd.lays155 : Go.Proofs.Lays.n155 Tryd.prog Tryd.lays155_ren := {
  mixed := by kernel_rfl
  f138 := Tryd.func22.trans (congrArg some (by kernel_rfl))
  f143 := Tryd.func36.trans (congrArg some (by kernel_rfl))
  f154 := Tryd.func35.trans (congrArg some (by kernel_rfl))
  f155 := Tryd.func17.trans (congrArg some (by kernel_rfl))
  f165 := Tryd.func42.trans (congrArg some (by kernel_rfl))
  f166 := Tryd.func26.trans (congrArg some (by kernel_rfl))
  f169 := Tryd.func32.trans (congrArg some (by kernel_rfl))
  f195 := Tryd.func43.trans (congrArg some (by kernel_rfl))
  f197 := Tryd.func58.trans (congrArg some (by kernel_rfl))
  f217 := Tryd.func51.trans (congrArg some (by kernel_rfl))
  f218 := Tryd.func44.trans (congrArg some (by kernel_rfl))
  f219 := Tryd.func59.trans (congrArg some (by kernel_rfl))
  f224 := Tryd.func83.trans (congrArg some (by kernel_rfl))
  f225 := Tryd.func82.trans (congrArg some (by kernel_rfl))
  f240 := Tryd.func52.trans (congrArg some (by kernel_rfl))
  f241 := Tryd.func66.trans (congrArg some (by kernel_rfl))
  f260 := Tryd.func81.trans (congrArg some (by kernel_rfl))
  f266 := Tryd.func70.trans (congrArg some (by kernel_rfl))
  f267 := Tryd.func84.trans (congrArg some (by kernel_rfl))
  f276 := Tryd.func71.trans (congrArg some (by kernel_rfl))
  f277 := Tryd.func92.trans (congrArg some (by kernel_rfl))
  f314 := Tryd.func97.trans (congrArg some (by kernel_rfl))
  t0 := Tryd.underlying0
  a0 := Tryd.isAgg0
  z0 := Tryd.sizeOf0
  v0 := Tryd.zeroValue0
  t3 := Tryd.underlying3
  a3 := Tryd.isAgg3
  z3 := Tryd.sizeOf3
  v3 := Tryd.zeroValue3
  t4 := Tryd.underlying4
  a4 := Tryd.isAgg4
  z4 := Tryd.sizeOf4
  v4 := Tryd.zeroValue4
  t5 := Tryd.underlying5
  a5 := Tryd.isAgg5
  z5 := Tryd.sizeOf5
  v5 := Tryd.zeroValue5
  t9 := Tryd.underlying9
  a9 := Tryd.isAgg9
  z9 := Tryd.sizeOf9
  v9 := Tryd.zeroValue9
  t20 := Tryd.underlying20
  a20 := Tryd.isAgg20
  z20 := Tryd.sizeOf20
  v20 := Tryd.zeroValue20
  t21 := Tryd.underlying21
  a21 := Tryd.isAgg21
  z21 := Tryd.sizeOf21
  v21 := Tryd.zeroValue21
  t37 := Tryd.underlying52
  a37 := Tryd.isAgg52
  z37 := Tryd.sizeOf52
  v37 := Tryd.zeroValue52
  t46 := Tryd.underlying84
  a46 := Tryd.isAgg84
  z46 := Tryd.sizeOf84
  v46 := Tryd.zeroValue84
  t51 := Tryd.underlying104
  a51 := Tryd.isAgg104
  z51 := Tryd.sizeOf104
  v51 := Tryd.zeroValue104
  t70 := Tryd.underlying51
  a70 := Tryd.isAgg51
  z70 := Tryd.sizeOf51
  v70 := Tryd.zeroValue51
  t72 := Tryd.underlying54
  a72 := Tryd.isAgg54
  z72 := Tryd.sizeOf54
  v72 := Tryd.zeroValue54
  t75 := Tryd.underlying57
  a75 := Tryd.isAgg57
  z75 := Tryd.sizeOf57
  v75 := Tryd.zeroValue57
  t76 := Tryd.underlying58
  a76 := Tryd.isAgg58
  z76 := Tryd.sizeOf58
  v76 := Tryd.zeroValue58
  t105 := Tryd.underlying98
  a105 := Tryd.isAgg98
  z105 := Tryd.sizeOf98
  v105 := Tryd.zeroValue98
  t119 := Tryd.underlying129
  a119 := Tryd.isAgg129
  z119 := Tryd.sizeOf129
  t127 := Tryd.underlying97
  a127 := Tryd.isAgg97
  z127 := Tryd.sizeOf97
  v127 := Tryd.zeroValue97
  t138 := Tryd.underlying131
  a138 := Tryd.isAgg131
  z138 := Tryd.sizeOf131
  v138 := Tryd.zeroValue131
  t139 := Tryd.underlying132
  a139 := Tryd.isAgg132
  z139 := Tryd.sizeOf132
  v139 := Tryd.zeroValue132
  t146 := Tryd.underlying105
  a146 := Tryd.isAgg105
  z146 := Tryd.sizeOf105
  v146 := Tryd.zeroValue105
  t164 := Tryd.underlying113
  a164 := Tryd.isAgg113
  z164 := Tryd.sizeOf113
  v164 := Tryd.zeroValue113
  g1 := by kernel_rfl
  g3 := by kernel_rfl
  g4 := by kernel_rfl }
theorem Tryd.Builder_Extra_155 : Builder.Extra Tryd.prog Tryd.lays155_ren := {
  sizeBuilder := by kernel_rfl
  liesBuilder := by kernel_rfl
  t5 := Tryd.underlying5
  a5 := Tryd.isAgg5
  z5 := Tryd.sizeOf5
  v5 := Tryd.zeroValue5
  infoByte := by kernel_rfl
  cellsByte := by kernel_rfl
  sizeByte := by kernel_rfl
  neB5 := by decide }
theorem Tryd.strings_ReplaceAll (s old new : ByteArray) (m : Int) (w : World) (hs : s.size < 4294967281) (hm : w.cell? ⟨0, 0, none⟩ = some (.int .i64 m)) (h1 : 1 ≤ old.size) (hlen : s.size + Lib.countB s old * new.size ≤ 140737488355328) :
    Calls Tryd.prog 17 #[.string s, .string old, .string new] w fun e w' =>
      e = .returned (.string ⟨(Lib.replaceAll s.data.toList old.data.toList new.data.toList).toArray⟩) ∧ Below w.heap.size w w' := Any.strings_ReplaceAll Tryd.lays155 Tryd.Builder_Extra_155 s old new m w hs hm h1 hlen
def Tryd.lays150_ren : Go.Shelf.Ren := ⟨fun | 150 => 34 | 153 => 57 | 152 => 79 | 226 => 80 | 227 => 46 | 228 => 67 | 137 => 25 | 119 => 96 | 224 => 83 | 225 => 82 | 217 => 51 | 266 => 70 | n => n, fun | 9 => 9 | 4 => 4 | 3 => 3 | 5 => 5 | 21 => 21 | 117 => 91 | 116 => 90 | 0 => 0 | 46 => 84 | 124 => 94 | n => n, fun | n => n⟩
theorem Tryd.lays150 : Go.Proofs.Lays.n150 Tryd.prog Tryd.lays150_ren := {
  mixed := by kernel_rfl
  f119 := Tryd.func96.trans (congrArg some (by kernel_rfl))
  f137 := Tryd.func25.trans (congrArg some (by kernel_rfl))
  f150 := Tryd.func34.trans (congrArg some (by kernel_rfl))
  f152 := Tryd.func79.trans (congrArg some (by kernel_rfl))
  f153 := Tryd.func57.trans (congrArg some (by kernel_rfl))
  f217 := Tryd.func51.trans (congrArg some (by kernel_rfl))
  f224 := Tryd.func83.trans (congrArg some (by kernel_rfl))
  f225 := Tryd.func82.trans (congrArg some (by kernel_rfl))
  f226 := Tryd.func80.trans (congrArg some (by kernel_rfl))
  f227 := Tryd.func46.trans (congrArg some (by kernel_rfl))
  f228 := Tryd.func67.trans (congrArg some (by kernel_rfl))
  f266 := Tryd.func70.trans (congrArg some (by kernel_rfl))
  t0 := Tryd.underlying0
  a0 := Tryd.isAgg0
  z0 := Tryd.sizeOf0
  v0 := Tryd.zeroValue0
  t3 := Tryd.underlying3
  a3 := Tryd.isAgg3
  z3 := Tryd.sizeOf3
  v3 := Tryd.zeroValue3
  t4 := Tryd.underlying4
  a4 := Tryd.isAgg4
  z4 := Tryd.sizeOf4
  v4 := Tryd.zeroValue4
  t5 := Tryd.underlying5
  a5 := Tryd.isAgg5
  z5 := Tryd.sizeOf5
  v5 := Tryd.zeroValue5
  t9 := Tryd.underlying9
  a9 := Tryd.isAgg9
  z9 := Tryd.sizeOf9
  v9 := Tryd.zeroValue9
  t21 := Tryd.underlying21
  a21 := Tryd.isAgg21
  z21 := Tryd.sizeOf21
  v21 := Tryd.zeroValue21
  t46 := Tryd.underlying84
  a46 := Tryd.isAgg84
  z46 := Tryd.sizeOf84
  v46 := Tryd.zeroValue84
  t116 := Tryd.underlying90
  a116 := Tryd.isAgg90
  z116 := Tryd.sizeOf90
  t117 := Tryd.underlying91
  a117 := Tryd.isAgg91
  z117 := Tryd.sizeOf91
  v117 := Tryd.zeroValue91
  t124 := Tryd.underlying94
  a124 := Tryd.isAgg94
  z124 := Tryd.sizeOf94
  v124 := Tryd.zeroValue94 }
def Tryd.lays105_ren : Go.Shelf.Ren := ⟨fun | 105 => 21 | 212 => 41 | 99 => 27 | 165 => 42 | 166 => 26 | 170 => 31 | 169 => 32 | 263 => 64 | 264 => 65 | 206 => 53 | 240 => 52 | 241 => 66 | 276 => 71 | 277 => 92 | n => n, fun | 9 => 9 | 3 => 3 | 4 => 4 | 20 => 20 | 0 => 0 | 46 => 84 | 109 => 85 | 5 => 5 | 72 => 54 | 76 => 58 | 51 => 104 | 146 => 105 | 53 => 107 | 148 => 108 | 70 => 51 | 37 => 52 | 75 => 57 | 127 => 97 | 164 => 113 | 80 => 65 | n => n, fun | n => n⟩
theorem Tryd.strings_IndexFunc_grows (g : Nat) (lb : Array Value) (eg : ∀ args w, (callFunc g args).run Tryd.prog w = .ok (.enter g args) w) (p : Nat → Bool) (s : ByteArray) (w : World) (hp : PredGrows Tryd.prog g lb p w) :
    Calls Tryd.prog 49 #[.string s, .func (.func g) #[] lb] w fun e w' => e = .returned (.int .i64 (Lib.idxFunc p true s)) ∧ Below w.heap.size w w' := Any.strings_IndexFunc_grows Tryd.laysGw15 g lb eg p s w hp
end Go.Proofs

namespace Go.GV
open Go.RowKit Go.MapKept
theorem kp_mx {S : List Nat} {w : World} {κ : Type} {f : κ → Value} {b : Nat} {l : List (κ × Value)} (h : Kp S w (Ent.at (Ent.mp f b l))) : ∃ es clock, Holds' f es l ∧ Born es clock ∧ Kp S w fun w => w.heap[b]? = some (.map es clock) := by
  obtain ⟨es, clock, h1, h2, h3⟩ := mp_at h.now
  refine ⟨es, clock, h2, h3, ?_⟩
  obtain ⟨B, k1, k2⟩ := h
  have hlt : b < w.heap.size := (Array.getElem?_eq_some_iff.1 h1).1
  by_cases hb : B b
  · exact ⟨B, k1, fun w' hw => (hw b hb).trans h1⟩
  · exfalso
    obtain ⟨es2, c2, q1, _, _⟩ := mp_at (k2 { w with heap := w.heap.setIfInBounds b (.deferred none) } fun x hx => by
      show (w.heap.setIfInBounds b _)[x]? = _
      rw [Array.getElem?_setIfInBounds, if_neg (fun e : b = x => hb (by rw [e]; exact hx))])
    have q1 : (w.heap.setIfInBounds b (.deferred none))[b]? = some (.map es2 c2) := q1
    rw [Array.getElem?_setIfInBounds, if_pos rfl, if_pos hlt] at q1
    cases q1
section
variable {E : Env} {P : Program} {x : Operand} {dst : Option Nat} {t ty : TypeId} {pos : String} {af : Array Edge} {g : Option (Nat × Bool)} {κ : Type}
theorem O_rangeR {S : List Nat} {w0 : World} {L : List Ent} {K : Value → List Ent → Prop} {f : κ → Value} {b : Nat} {l : List (κ × Value)} {kt et : TypeId} (h : Kp S w0 (Ent.at (Ent.mp f b l))) (hx : ev E x = .map (some b)) (ht : P.underlying t = some (.map kt et))
    (k : ∀ es clock it, Born es clock → Kp S w0 (fun w => w.heap[b]? = some (.map es clock)) → K (.pointer (some ⟨it, 0, none⟩)) (Ent.rng f it b es clock l none :: L)) : OpJ P S w0 E L ⟨dst, .range t x, ty, pos, af, g⟩ K := by
  intro w hS
  obtain ⟨es, clock, h1, h2, h3⟩ := kp_mx h
  refine ⟨_, _, _, .inl ?_, hS.alloc (.mapIter (some b) clock #[] clock) (Ent.rng f w.heap.size b es clock l none) rfl ⟨#[], rfl, by rw [leftOf_none]; exact h1, fun p hp => by cases hp⟩, k es clock w.heap.size h2 h3⟩
  simp only [execOp, hx]
  show Sem.run P (do let v ← Instr.range t (.map (some b)); pure (Next.value v)) w = _
  rw [Sem.run_bind, run_range_map w t kt et b es clock ht (h3.held hS)]; rfl
theorem O_nextR {α : Type} {S : List Nat} {w0 : World} {L : List Ent} {K : Value → List Ent → Prop} (j : Nat) {f : κ → Value} (mc : α → κ × Value) {it bm clock : Nat} {es : Array MapEntry} {left : List α} {cur : Option (κ × Value)} (hx : ev E x = .pointer (some ⟨it, 0, none⟩)) (hj : L[j]? = some (Ent.rng f it bm es clock (left.map mc) cur)) (hi : Kp S w0 fun w => w.heap[bm]? = some (.map es clock)) (hB : Born es clock)
    (h0 : left = [] → K (.tuple #[vB false]) L) (h1 : ∀ a n, left[n]? = some a → K (.tuple #[vB true, f (mc a).1, (mc a).2]) (L.set j (Ent.rng f it bm es clock ((left.eraseIdx n).map mc) (some (mc a))))) : OpJ P S w0 E L ⟨dst, .next x false, ty, pos, af, g⟩ K := by
  intro w hS
  have hat := hS.mem hj
  obtain ⟨seen, q1, q2, q3⟩ : (Ent.rng f it bm es clock (left.map mc) cur).prop w.heap[it]? := by simpa [Ent.at, Ent.rng] using hat.1
  have hm : w.heap[bm]? = some (.map es clock) := hi.held hS
  rcases run_next_at (P := P) w ty it bm clock seen es q1 hm hB with ⟨r1, r2⟩ | ⟨n, hn, w1, hal, r2⟩
  · refine ⟨_, _, w, .inl ?_, hS, h0 ?_⟩
    · simp only [execOp, hx]
      show Sem.run P (do let v ← Instr.next _ false ty; pure (Next.value v)) w = _
      rw [Sem.run_bind, r2]; rfl
    · have h2 := congrArg List.length q2
      simp only [List.length_map, Array.length_toList] at h2
      exact List.length_eq_zero_iff.1 (by omega)
  · have hl : n < left.length := by
      have h2 := congrArg List.length q2
      simp only [List.length_map, Array.length_toList] at h2
      omega
    have hp : ((leftOf es seen)[n].key, (leftOf es seen)[n].val) = (f (mc left[n]).1, (mc left[n]).2) := by
      have h2 : ((leftOf es seen).toList.map (fun e => (e.key, e.val)))[n]? = ((left.map mc).map (fun p => (f p.1, p.2)))[n]? := by rw [q2]
      simpa [List.getElem?_eq_getElem, hn, hl] using h2
    simp only [Prod.mk.injEq] at hp
    refine ⟨.tuple #[vB true, f (mc left[n]).1, (mc left[n]).2], L.set j (Ent.rng f it bm es clock ((left.eraseIdx n).map mc) (some (mc left[n]))), { w1 with heap := w1.heap.setIfInBounds it (.mapIter (some bm) clock (seen.push (leftOf es seen)[n].born) clock) }, .inl ?_, ?_, h1 left[n] n (List.getElem?_eq_getElem hl)⟩
    · simp only [execOp, hx]
      show Sem.run P (do let v ← Instr.next _ false ty; pure (Next.value v)) w = _
      rw [Sem.run_bind, r2, hp.1, hp.2]; rfl
    · refine hS.writeAt (w' := { w1 with heap := w1.heap.setIfInBounds it (.mapIter (some bm) clock (seen.push (leftOf es seen)[n].born) clock) }) hj it rfl rfl ?_ ?_
      · obtain ⟨a1, a2, a3, a4⟩ := hal
        refine ⟨a2, a4, a3, by simp [a1], fun k hk hkn => ?_⟩
        have hkn' : it ≠ k := fun e => hkn (by simp [e])
        simp [a1, hkn']
      · refine ⟨seen.push (leftOf es seen)[n].born, ?_, ?_, ?_⟩
        · have : it < w1.heap.size := by
            rw [hal.1]; exact (Array.getElem?_eq_some_iff.1 q1).1
          simp [this]
        · rw [leftOf_push es clock hB seen n hn, map_eraseIdx, q2, ← map_eraseIdx, ← map_eraseIdx]
        · intro p hp2
          cases hp2
          refine ⟨(leftOf es seen)[n], ?_, by simp, hp.1, hp.2⟩
          have : (leftOf es seen)[n] ∈ (leftOf es seen).toList := by simp
          unfold leftOf at this ⊢
          rw [Array.toList_filter] at this
          exact (List.mem_filter.1 this).1
theorem O_entryR {S : List Nat} {w0 : World} {L : List Ent} (j : Nat) {f : κ → Value} {it bm clock : Nat} {es : Array MapEntry} {left : List (κ × Value)} {p : κ × Value} (hx : ev E x = .pointer (some ⟨it, 0, none⟩)) (hj : L[j]? = some (Ent.rng f it bm es clock left (some p))) (hi : Kp S w0 fun w => w.heap[bm]? = some (.map es clock)) (hB : Born es clock) :
    ∀ w, St S w0 w L → (execOp (ev E) ⟨dst, .entry x, ty, pos, af, g⟩).run P w = .ok (.value (.tuple #[f p.1, p.2])) w := by
  intro w hS
  have hat := hS.mem hj
  obtain ⟨seen, q1, q2, q3⟩ : (Ent.rng f it bm es clock left (some p)).prop w.heap[it]? := by simpa [Ent.at, Ent.rng] using hat.1
  have hm : w.heap[bm]? = some (.map es clock) := hi.held hS
  obtain ⟨e, he, h1, h2, h3⟩ := q3 p rfl
  have hf : es.find? (·.born == e.born) = some e := by rw [← Array.find?_toList]; exact find_born e es.toList hB.1 he
  have hr : (Instr.entry (.pointer (some ⟨it, 0, none⟩))).run P w = .ok (.tuple #[f p.1, p.2]) w := by
    simp only [Instr.entry, getObj, Sem.run_bind, Sem.run, q1, hm, Result.andThen, h1, bne_self_eq_false, Bool.false_eq_true, if_false, hf, h2, h3]
    rfl
  simp only [execOp, hx]
  show Sem.run P (do let v ← Instr.entry (.pointer (some ⟨it, 0, none⟩)); pure (Next.value v)) w = _
  rw [Sem.run_bind, hr]; rfl
end
section
variable {E : Env} {P : Program} {x y : Operand} {dst : Option Nat} {t t' ty : TypeId} {pos : String} {af : Array Edge} {g : Option (Nat × Bool)} {κ : Type} {w : World}
theorem x_eql_map {b : Nat} {kt et : TypeId} (hx : ev E x = .map (some b)) (hy : ev E y = .map none) (ht : P.underlying t = some (.map kt et)) : (execOp (ev E) ⟨dst, .binOp .eql t x y t', ty, pos, af, g⟩).run P w = .ok (.value (vB false)) w := by
  have hb := Go.Proofs.run_eql_map_nil_sl (P := P) w t kt et (some b) ht
  simp only [execOp, hx, hy]
  show Sem.run P (do let v ← binOp .eql t (.map (some b)) (.map none); pure (Next.value v)) w = _
  rw [Sem.run_bind, hb]; rfl
theorem x_assert_map {u kt et : TypeId} {v : Value} (hx : ev E x = .iface t v) (ht : P.underlying t = some (.map kt et)) : (execOp (ev E) ⟨dst, .typeAssert x u t false, ty, pos, af, g⟩).run P w = .ok (.value v) w := by
  have hb := Go.Proofs.run_typeAssert_map_sl (P := P) w t u kt et v ht
  simp only [execOp, hx]
  show Sem.run P (do let v ← Instr.typeAssert (.iface t v) u t false; pure (Next.value v)) w = _
  rw [Sem.run_bind, hb]; rfl
end
end Go.GV

namespace Go.GV
open Go.RowKit
structure Externed (P : Program) (f : FuncId) (e : Array Value → Sem Value) : Prop where
  ex : ∃ fn, P.funcs[f]? = some fn ∧ (fn.name == "runtime.NumGoroutine") = false ∧ fn.body.isNone = true ∧ Extern.findNext fn = none ∧ Extern.find fn = some e
section
variable {E : Env} {P : Program} {x y : Operand} {dst : Option Nat} {t t' ty u : TypeId} {pos : String} {af : Array Edge} {g : Option (Nat × Bool)} {w : World}
theorem x_extern {f : FuncId} {e : Array Value → Sem Value} {l : List Operand} {vs : List Value} {ts : Array TypeId} {r : Value} {w' : World} (hX : Externed P f e) (ha : l.map (ev E) = vs) (hr : (e vs.toArray).run P w = .ok r w') :
    (execOp (ev E) ⟨dst, .call ⟨.value (.func f), l.toArray, ts⟩, ty, pos, af, g⟩).run P w = .ok (.value r) w' := by
  subst ha
  obtain ⟨fn, h1, h2, h3, h4, h5⟩ := hX.ex
  have h := run_callFunc_extern (P := P) h1 h2 h3 h4 h5 (l.map (ev E)).toArray w
  rw [hr] at h
  simp only [execOp, resolve, List.map_toArray, ev, Deferred.ofValue, Sem.run_bind, Sem.run_pure, Result.andThen_ok, invoke, List.append_toArray, List.append_nil]
  simpa using h
theorem x_noEscape {f : FuncId} {v : Value} {ts : Array TypeId} (hX : Externed P f Extern.AbiNoEscape.same) (hx : ev E x = v) : (execOp (ev E) ⟨dst, .call ⟨.value (.func f), #[x], ts⟩, ty, pos, af, g⟩).run P w = .ok (.value v) w :=
  x_extern (l := [x]) (vs := [v]) hX (by rw [← hx]; rfl) (Lib.run_noEscape _ v)
theorem O_clone {S : List Nat} {w0 : World} {L : List Ent} {K : Value → List Ent → Prop} {f : FuncId} {κ : Type} {m : κ → Value} {b : Nat} {l : List (κ × Value)} {ts : Array TypeId} (hX : Externed P f Extern.MapsClone.clone) (h : Kp S w0 (Ent.at (Ent.mp m b l))) (hx : ev E x = .iface t (.map (some b)))
    (k : ∀ b2, K (.iface t (.map (some b2))) (Ent.mp m b2 l :: L)) : OpJ P S w0 E L ⟨dst, .call ⟨.value (.func f), #[x], ts⟩, ty, pos, af, g⟩ K := by
  intro w hS
  obtain ⟨es, clock, h1, h2, h3⟩ := mp_at (h.held hS)
  exact ⟨_, _, _, .inl (x_extern (l := [x]) (vs := [.iface t (.map (some b))]) hX (by rw [← hx]; rfl) (Go.Proofs.run_maps_clone_sl _ t h1)), hS.alloc (.map es clock) (Ent.mp m w.heap.size l) rfl ⟨_, _, rfl, h2, h3⟩, k w.heap.size⟩
abbrev vR (n : Int) : Value := .int .i32 n
theorem x_eql_i32 {a b : Int} (hx : ev E x = vR a) (hy : ev E y = vR b) : (execOp (ev E) ⟨dst, .binOp .eql t x y t', ty, pos, af, g⟩).run P w = .ok (.value (vB (decide (a = b)))) w := by
  have h : decide (a = b) = (a == b) := by by_cases e : a = b <;> simp [e]
  rw [h]; simp only [execOp, hx, hy]; rfl
theorem x_leq_i32 {a b : Int} (hx : ev E x = vR a) (hy : ev E y = vR b) : (execOp (ev E) ⟨dst, .binOp .leq t x y t', ty, pos, af, g⟩).run P w = .ok (.value (vB (decide (a ≤ b)))) w := by simp only [execOp, hx, hy]; rfl
theorem x_gtr_i32 {a b : Int} (hx : ev E x = vR a) (hy : ev E y = vR b) : (execOp (ev E) ⟨dst, .binOp .gtr t x y t', ty, pos, af, g⟩).run P w = .ok (.value (vB (decide (b < a)))) w := by simp only [execOp, hx, hy]; rfl
theorem exec_conv {v r : Value} (hx : ev E x = v) (h : (convert t u v).run P w = .ok r w) : (execOp (ev E) ⟨dst, .convert t u x, ty, pos, af, g⟩).run P w = .ok (.value r) w := by
  simp only [execOp, hx]
  show Sem.run P (do let v ← convert t u v; pure (Next.value v)) w = _
  rw [Sem.run_bind, h]; rfl
theorem info_size {n : Nat} (h : sizeIs P u = some n) : ∃ j, P.info? u = some j ∧ j.size = n := by
  unfold sizeIs at h
  exact Option.map_eq_some_iff.1 h
theorem x_to_unsafe {S : List Nat} {w0 : World} {L : List Ent} (j : Nat) {b : Nat} {T : TypeId} {cs : List Value} (hx : ev E x = pB b 0) (hj : L[j]? = some (Ent.blk b T cs)) (hs : P.underlying t = some (.pointer T)) (hd : P.underlying u = some .unsafePointer) (hz : sizeIs P T = some (cs.length)) (h0 : 0 < cs.length) :
    ∀ w, St S w0 w L → (execOp (ev E) ⟨dst, .convert t u x, ty, pos, af, g⟩).run P w = .ok (.value (pB b 0)) w := by
  intro w hS
  obtain ⟨hb, _⟩ := blk_at (hS.mem hj)
  obtain ⟨i, hi, hn⟩ := info_size hz
  refine exec_conv hx (Lib.run_to_unsafe (e := T) (cells := cs.length) _ _ hs hd hi (by omega) ?_ h0)
  simp [World.shape?, hb]
theorem x_from_unsafe {S : List Nat} {w0 : World} {L : List Ent} (j : Nat) {b : Nat} {T : TypeId} {cs : List Value} (hx : ev E x = pB b 0) (hj : L[j]? = some (Ent.blk b T cs)) (hs : P.underlying t = some .unsafePointer) (hd : P.underlying u = some (.pointer T)) (hz : sizeIs P T = some (cs.length)) (hl : liesAt P P.depth T (cs.length / P.cellsOf T) 0 T 1 = true) :
    ∀ w, St S w0 w L → (execOp (ev E) ⟨dst, .convert t u x, ty, pos, af, g⟩).run P w = .ok (.value (pB b 0)) w := by
  intro w hS
  obtain ⟨hb, _⟩ := blk_at (hS.mem hj)
  obtain ⟨i, hi, hn⟩ := info_size hz
  refine exec_conv hx (Lib.run_from_unsafe (e := T) (cells := cs.length) _ _ hs hd hi ?_ hl)
  simp [World.shape?, hb]
theorem x_neq_ptr {b : Nat} {T : TypeId} {n : Nat} (hx : ev E x = pB b 0) (hy : ev E y = pB b 0) (ht : P.underlying t = some (.pointer T)) (hz : sizeIs P T = some n) : (execOp (ev E) ⟨dst, .binOp .neq t x y t', ty, pos, af, g⟩).run P w = .ok (.value (vB false)) w := by
  obtain ⟨i, hi, _⟩ := info_size hz
  have hb := Lib.run_neq_ptr_same (P := P) (w := w) ⟨b, 0, none⟩ ht hi
  simp only [execOp, hx, hy]
  show Sem.run P (do let v ← binOp .neq t (.pointer (some ⟨b, 0, none⟩)) (.pointer (some ⟨b, 0, none⟩)); pure (Next.value v)) w = _
  rw [Sem.run_bind, hb]; rfl
def Ent.junk (b : Nat) : Ent := ⟨some b, fun _ => True⟩
theorem exec_usd {v r : Value} {w' : World} {ts : Array TypeId} (hx : ev E x = v) (h : (Builtin.unsafeSliceData_ ts ty #[v]).run P w = .ok r w') : (execOp (ev E) ⟨dst, .call ⟨.builtin .unsafeSliceData, #[x], ts⟩, ty, pos, af, g⟩).run P w = .ok (.value r) w' := by
  subst hx
  simp [execOp, resolve, invoke, builtin, h]
theorem exec_ustr {v v2 r : Value} {w' : World} {ts : Array TypeId} (hx : ev E x = v) (hy : ev E y = v2) (h : (Builtin.unsafeString_ ts ty #[v, v2]).run P w = .ok r w') : (execOp (ev E) ⟨dst, .call ⟨.builtin .unsafeString, #[x, y], ts⟩, ty, pos, af, g⟩).run P w = .ok (.value r) w' := by
  subst hx; subst hy
  simp [execOp, resolve, invoke, builtin, h]
theorem O_usd0 {S : List Nat} {w0 : World} {L : List Ent} {K : Value → List Ent → Prop} (j : Nat) {A : Option Addr} {c : Nat} {e : TypeId} {ts : Array TypeId} (hx : ev E x = vL A 0 c) (hj : L[j]? = some (Ent.row (.slice A 0 c) e 1 0 [])) (hty : P.underlying ty = some (.pointer e)) (k : ∀ p : Option Addr, K (.pointer p) L) : OpJ P S w0 E L ⟨dst, .call ⟨.builtin .unsafeSliceData, #[x], ts⟩, ty, pos, af, g⟩ K := by
  intro w hS
  obtain ⟨⟨_, h2⟩, _⟩ := hS.mem hj
  rcases h2 with ⟨h2, _⟩ | ⟨gg, cap, cur, hv, ho, _⟩
  · cases h2
    exact ⟨_, _, w, .inl (exec_usd hx (Lib.run_unsafeSliceData_nil _ ts ty 0 0)), hS, k none⟩
  · injection hv with h3 _ h4
    subst h3; subst h4
    by_cases hc : c = 0
    · subst hc
      have hb : w.heap[gg]? = some (.cells cur e (0, 0)) := by simpa [Ent.row, Value.ownBlock] using ho
      refine ⟨_, _, _, .inl (exec_usd hx (Lib.run_unsafeSliceData_zero _ ts ty e hty ⟨gg, 0, none⟩ 0 (e, cur.size) (by simp [World.shape?, hb]))), hS.step ⟨rfl, rfl, rfl, by simp, fun i hi _ => Below.heap_alloc w _ i hi⟩, k _⟩
    · exact ⟨_, _, w, .inl (exec_usd hx (Lib.run_unsafeSliceData_row _ ts ty ⟨gg, 0, none⟩ 0 c hc)), hS, k _⟩
theorem row_head {w : World} {A : Option Addr} {n c : Nat} {e : TypeId} {cs : List Value} (h : (Ent.row (.slice A n c) e 1 n cs).at w) (hn : 0 < n) : ∃ gg cur, A = some ⟨gg, 0, none⟩ ∧ w.heap[gg]? = some (.cells cur e (0, 0)) ∧ n ≤ c ∧ cur.size = c ∧ cur.toList.take n = cs := by
  obtain ⟨⟨_, h2⟩, _⟩ := h
  rcases h2 with ⟨h2, h3⟩ | ⟨gg, cap, cur, hv, ho, h3, h4, h5, h6⟩
  · omega
  · injection hv with e1 _ e2
    subst e1; subst e2
    exact ⟨gg, cur, rfl, by simpa [Ent.row, Value.ownBlock] using ho, h3, by simpa using h5, by simpa using h6⟩
theorem x_usd1 {S : List Nat} {w0 : World} {L : List Ent} (j : Nat) {A : Option Addr} {n c : Nat} {e : TypeId} {cs : List Value} {ts : Array TypeId} (hx : ev E x = vL A n c) (hj : L[j]? = some (Ent.row (.slice A n c) e 1 n cs)) (hn : 0 < n) :
    ∀ w, St S w0 w L → (execOp (ev E) ⟨dst, .call ⟨.builtin .unsafeSliceData, #[x], ts⟩, ty, pos, af, g⟩).run P w = .ok (.value (.pointer A)) w := by
  intro w hS
  obtain ⟨gg, cur, rfl, _, h3, _⟩ := row_head (hS.mem hj) hn
  exact exec_usd hx (Lib.run_unsafeSliceData_row _ ts ty ⟨gg, 0, none⟩ n c (by omega))
theorem x_ustr0 {p : Option Addr} {pt it : TypeId} (hx : ev E x = .pointer p) (hy : ev E y = vI 0) : (execOp (ev E) ⟨dst, .call ⟨.builtin .unsafeString, #[x, y], #[pt, it]⟩, ty, pos, af, g⟩).run P w = .ok (.value (vS [])) w :=
  exec_ustr hx hy (Lib.run_unsafeString_none _ pt it ty p)
theorem O_ustr1 {S : List Nat} {w0 : World} {L : List Ent} {K : Value → List Ent → Prop} (j : Nat) {A : Option Addr} {c : Nat} {e : TypeId} {xs : Bytes} {pt it : TypeId} (L' : List Ent) (hx : ev E x = .pointer A) (hy : ev E y = vI (xs.length : Int)) (hj : L[j]? = some (Ent.row (.slice A xs.length c) e 1 xs.length (xs.map vU8))) (hp : P.underlying pt = some (.pointer e)) (hc : P.cellsOf e = 1) (h0 : 0 < xs.length) (hm : xs.length ≤ 9223372036854775807)
    (hL : L.eraseIdx j = L') (k : K (vS xs) L') : OpJ P S w0 E L ⟨dst, .call ⟨.builtin .unsafeString, #[x, y], #[pt, it]⟩, ty, pos, af, g⟩ K := by
  intro w hS
  obtain ⟨gg, cur, rfl, hb, h3, h5, h6⟩ := row_head (hS.mem hj) h0
  have hcell : ∀ i v, xs[i]? = some v → w.cell? ((⟨gg, 0, none⟩ : Addr).add i) = some (.int .u8 v.toNat) := by
    intro i v hv
    obtain ⟨a, ha, hcc⟩ := cells_row j hj w hS i (vU8 v) (by rw [List.getElem?_map, hv]; rfl)
    injection ha with ha; subst ha; exact hcc
  have hr := Lib.run_unsafeString_row (P := P) w pt it ty e hp hc gg cur.size (by simp [World.shape?, hb]) xs (fun e => by rw [e] at h0; cases h0) (by omega) hm hcell
  refine ⟨_, _, _, .inl (exec_ustr hx hy hr), ?_, k⟩
  have hf := hS.front j _ hj
  rw [hL] at hf
  have hfr : Fr [gg] w (w.freeze ⟨gg, 0, none⟩ xs.length) := by
    unfold World.freeze
    split
    · exact Fr.refl _ _
    · exact ⟨rfl, rfl, rfl, by simp, fun i _ hn => by simp only [Array.getElem?_modify]; rw [if_neg (fun e => hn (by simp [e]))]⟩
  exact (hf.write (e' := Ent.junk gg) gg rfl rfl hfr trivial).tail
end
end Go.GV

namespace Go.GV
open Go.RowKit
theorem set_len {α : Type} (xs : List α) (k : Nat) (a : α) : (xs.set k a).length = xs.length := List.length_set
theorem splice_take {α : Type} : ∀ (vs cs : List α) (k m : Nat), k + vs.length ≤ m → (splice cs k vs).take m = splice (cs.take m) k vs
  | [], _, _, _, _ => rfl
  | v :: vs, cs, k, m, h => by
    rw [List.length_cons] at h
    rw [splice, splice, splice_take vs _ (k + 1) m (by omega), List.take_set]
theorem splice_flat {α : Type} (f : α → List Value) (sz : Nat) (hf : ∀ a, (f a).length = sz) : ∀ (xs : List α) (k : Nat) (a : α), k < xs.length → splice (xs.flatMap f) (k * sz) (f a) = (xs.set k a).flatMap f
  | [], _, _, h => by simp at h
  | x :: xs, 0, a, _ => by
    rw [Nat.zero_mul, List.flatMap_cons, List.set_cons_zero, List.flatMap_cons, splice_eq _ _ _ (by rw [hf, List.length_append, hf]; omega), hf, Nat.zero_add, List.take_zero, List.nil_append, List.drop_left' (hf x)]
  | x :: xs, k + 1, a, h => by
    have h' : k < xs.length := by simpa using h
    have ih := splice_flat f sz hf xs k a h'
    have hl := flat_length f sz hf xs
    have hb : k * sz + sz ≤ xs.length * sz := by
      have := Nat.mul_le_mul_right sz h'
      rw [Nat.succ_mul] at this; exact this
    rw [List.set_cons_succ, List.flatMap_cons, List.flatMap_cons, ← ih]
    rw [splice_eq _ _ _ (by rw [hf, List.length_append, hf, hl, Nat.succ_mul]; omega), splice_eq _ _ _ (by rw [hf, hl]; omega)]
    rw [hf, Nat.succ_mul, Nat.add_comm (k * sz) sz, List.take_append, List.drop_append, hf]
    rw [List.take_of_length_le (by rw [hf]; omega), List.drop_of_length_le (by rw [hf]; omega)]
    simp only [List.nil_append, List.append_assoc]
    rw [show sz + k * sz - sz = k * sz by omega, show sz + k * sz + sz - sz = k * sz + sz by omega, Nat.add_comm (k * sz) sz]
section
variable {E : Env} {P : Program} {x y : Operand} {dst : Option Nat} {t ty : TypeId} {pos : String} {af : Array Edge} {g : Option (Nat × Bool)}
theorem O_store_row_g {α : Type} {S : List Nat} {w0 : World} {L : List Ent} {K : Value → List Ent → Prop} (j : Nat) (f : α → List Value) {A : Option Addr} {c k sz : Nat} {te : TypeId} {xs : List α} {a : α} {v : Value} (L' : List Ent)
    (hx : ev E x = .pointer (some (adr A (k * sz)))) (hy : ev E y = v) (hv : v.cells.toList = f a) (hj : L[j]? = some (Ent.row (.slice A xs.length c) te sz xs.length (xs.flatMap f))) (hn : sizeIs P t = some sz) (hf : ∀ a, (f a).length = sz) (h1 : ∀ a, (f a).all Value.oneCell' = true) (hk : k < xs.length)
    (hL : L.set j (Ent.row (.slice A (xs.set k a).length c) te sz (xs.set k a).length ((xs.set k a).flatMap f)) = L') (kk : K undef L') : OpJ P S w0 E L ⟨dst, .store t x y, ty, pos, af, g⟩ K := by
  intro w hS
  subst hL
  have hat := hS.mem hj
  have hfl := flat_length f sz hf xs
  have hb : k * sz + sz ≤ xs.length * sz := by
    have := Nat.mul_le_mul_right sz hk
    rw [Nat.succ_mul] at this; exact this
  rcases hat.1.2 with ⟨h2, h3⟩ | ⟨gb, cap, cur, h2, ho, hcap, hmax, hcs, htk⟩
  · omega
  · simp only [Value.slice.injEq] at h2
    obtain ⟨rfl, _, rfl⟩ := h2
    have ho' : w.heap[gb]? = some (.cells cur te (0, 0)) := by simpa [Ent.row, Value.ownBlock] using ho
    have hblk : (Ent.blk gb te cur.toList).at w := by
      refine ⟨⟨?_, .inl (Nat.le_refl _)⟩, fun b hb2 => ?_⟩
      · show w.heap[gb]? = _
        rw [ho']
      · cases hb2
        exact (Array.getElem?_eq_some_iff.1 ho').1
    have hvl : v.cells.toList.length = sz := by rw [hv]; exact hf a
    have hcl : xs.length * sz ≤ cur.toList.length := by
      have e1 := Nat.mul_le_mul_right sz hcap
      have e2 : cur.toList.length = c * sz := hcs
      omega
    have hadr : adr (some ⟨gb, 0, none⟩) (k * sz) = ⟨gb, k * sz, none⟩ := by
      simp [adr, Addr.add]
      exact fun h => h.symm
    rw [hadr] at hx
    obtain ⟨w', hr, hF, hB⟩ := run_storeVar_blk (P := P) (t := t) (o := k * sz) hblk hn hvl (by omega) (by rw [hv]; exact h1 a)
    refine ⟨undef, _, w', .inr ⟨?_, rfl⟩, hS.writeAt hj gb rfl rfl hF ?_, kk⟩
    · simp only [execOp, hx, hy]
      show Sem.run P (do (do storeVar t (← Instr.sureAddr (.pointer (some ⟨gb, k * sz, none⟩))) v); pure Next.skip) w = _
      simp only [Instr.sureAddr, Sem.run_bind, Sem.run_pure, Result.andThen_ok, hr]
    · have hB1 : w'.heap[gb]? = some (.cells (splice cur.toList (k * sz) (f a)).toArray te (0, 0)) := by rw [← hv]; exact hB.1
      have hsl : (splice cur.toList (k * sz) (f a)).length = cur.toList.length := splice_length _ _ _
      refine ⟨flat_length f sz hf _, .inr ⟨gb, c, _, by rw [List.length_set], hB1, by rw [List.length_set]; exact hcap, hmax, ?_, ?_⟩⟩
      · rw [List.size_toArray, hsl, Array.length_toList, hcs]
      · rw [List.length_set]
        show (splice cur.toList (k * sz) (f a)).take (xs.length * sz) = _
        rw [splice_take _ _ _ _ (by rw [hf]; exact hb), htk, splice_flat f sz hf xs k a hk]
theorem map_flat {α : Type} (g : α → Value) (xs : List α) : xs.map g = xs.flatMap fun a => [g a] := by
  induction xs with
  | nil => rfl
  | cons a xs ih => rw [List.map_cons, List.flatMap_cons, ih]; rfl
theorem O_store_row_1 {α : Type} {S : List Nat} {w0 : World} {L : List Ent} {K : Value → List Ent → Prop} (j : Nat) (f : α → Value) {A : Option Addr} {c k : Nat} {te : TypeId} {xs : List α} {a : α} (L' : List Ent)
    (hx : ev E x = .pointer (some (adr A k))) (hy : ev E y = f a) (hj : L[j]? = some (Ent.row (.slice A xs.length c) te 1 xs.length (xs.map f))) (hn : sizeIs P t = some 1) (hv : (f a).cells.toList = [f a]) (h1 : ∀ a, (f a).oneCell' = true) (hk : k < xs.length)
    (hL : L.set j (Ent.row (.slice A (xs.set k a).length c) te 1 (xs.set k a).length ((xs.set k a).map f)) = L') (kk : K undef L') : OpJ P S w0 E L ⟨dst, .store t x y, ty, pos, af, g⟩ K := by
  rw [map_flat] at hj hL
  exact O_store_row_g (k := k) (a := a) j (fun a => [f a]) L' (by rw [Nat.mul_one]; exact hx) hy hv hj hn (fun _ => rfl) (fun b => by simp [h1 b]) hk hL kk
end
end Go.GV

namespace Go.GV
open Go.RowKit Go.Op
structure Rw where
  s : List Bytes
  sA : Option Addr
  sC : Nat
deriving Inhabited
def Rw.enc (a : Rw) : List Value := [vL a.sA a.s.length a.sC]
theorem Rw.enc_len (a : Rw) : (Rw.enc a).length = 1 := rfl
theorem Rw.enc_one (a : Rw) : (Rw.enc a).all Value.oneCell' = true := rfl
def RwE (t : Nat) (e : Rw) : Ent := Ent.row (.slice e.sA e.s.length e.sC) t 1 e.s.length (e.s.map vS)
section
variable {S : List Nat} {w00 w0 w : World} {L M : List Ent} {α : Type} {f : α → Ent}
theorem St.keepN (n : Nat) (m : List Bool) {L' : List Ent} (hm : mask m (M.take n) ++ M.drop n = L') (h : St S w0 w M) : St S w0 w L' := by
  refine hm ▸ h.sublist ?_
  have := (mask_sublist m (M.take n)).append (List.Sublist.refl (M.drop n))
  rwa [List.take_append_drop] at this
theorem RO.empty {A : Option Addr} {xs : List α} {g : α → Value} (h : RO S w0 A (xs.map g)) (hA : A.isNone = true) : xs = [] := by
  cases xs with
  | nil => rfl
  | cons x r =>
    obtain ⟨a, ha, _⟩ := h 0 (g x) rfl
    rw [ha] at hA; cases hA
end
section
variable {P : Program} {n : Dim} {S : List Nat} {w0 : World} {Q : Post} {E : Env} {L : List Ent}
theorem JX_retsD {fn : Func} {rs : List ResultVar} {S1 : List Nat} {w1 : World} {φ : Value → List Ent → World → Prop} (vs : List Value) (v : Value) (hr : fn.results = rs.toArray) (hv : ∀ w, St S w0 w L → resAll P E w rs vs)
    (hvv : v = (if h : vs.length = 1 then vs[0] else .tuple vs.toArray)) (L' : List Ent) (hL : ∀ w, St S w0 w L → St S w0 w L') (hB : ∀ w L, St S w0 w L → St S1 w1 w L) (hφ : ∀ w, St S w0 w L → φ v L' w) (hd : n.ds = [] := by rfl) :
    JX n S w0 (bodyPost P fn (GivesW S1 w1 φ)) .ret E L := by
  intro a w hR hS
  have h0 := JX_rets (P := P) (n := n) (S := S) (w0 := w0) (E := E) (L := L) (φ := fun u L2 => u = v ∧ L2 = L) vs v hr hv hvv L (fun _ h => h) ⟨rfl, rfl⟩ hd a w hR hS
  obtain ⟨hd, u, hu, u2, L2, he, hp, hs⟩ := h0
  obtain ⟨rfl, rfl⟩ := hp
  exact ⟨hd, u, hu, u2, L', he, hφ w hs, hB w _ (hL w hs)⟩
end
section
variable {P : Program} {E : Env} {w : World} {x y : Operand} {dst : Option Nat} {t t' ty : TypeId} {pos : String} {af : Array Edge} {g : Option (Nat × Bool)}
end
end Go.GV

namespace Go.GV
open Go.RowKit
section
variable {P : Program} {n : Dim} {S : List Nat} {w0 w : World} {Q : Post} {E : Env} {L : List Ent}
def RoundM {X : Type} (n : Dim) (D : X → List Nat) (S : List Nat) (w0 : World) (I : X → Prop) (W : X → World → Prop) (Ef : X → Env) (Lf : X → List Ent) (μ : X → Nat) (m : Nat) (Q : Post) : Post :=
  Exit.then (fun a w => ∃ x, I x ∧ W x w ∧ μ x < m ∧ Rep { n with ds := (D x).map mark } (Ef x) a ∧ St S w0 w (Lf x)) Q
def NP (Q : Post) : Post := fun e a w => match e with
  | .panic _ => False
  | e => Q e a w
theorem NP.of {Q : Post} (e : Exit) (a : Act) (w : World) (h : NP Q e a w) : Q e a w := by
  cases e <;> first | exact h | exact h.elim
theorem leaves_marksW {fn : Func} {tmps : Array Value} {S1 : List Nat} {w1 : World} {φ : Value → List Ent → World → Prop} {v : Value} (L1 L' : List Ent) (hφ : ∀ w, St S w0 w L1 → φ v L' w) (hL : ∀ w, St S w0 w L1 → St S w0 w L') (hB : ∀ w L, St S w0 w L → St S1 w1 w L) :
    ∀ (Ds : List Nat) (w : World), St S w0 w (Ds.map dfr ++ L1) → (∀ w, St S w0 w L1 → (results fn tmps).run P w = .ok v w) → LeavesInM Fence.wide 0 P fn tmps (GivesW S1 w1 φ) (Ds.map mark) .returning w
  | [], w, hS, hr => ⟨v, hr w hS, v, L', rfl, hφ w hS, hB _ _ (hL _ hS)⟩
  | D :: Ds, w, hS, hr => by
    refine ⟨by simp, .inl ⟨D, _, rfl, run_takeDeferred (obj_at (hS.hold _ List.mem_cons_self)), ?_⟩⟩
    exact leaves_marksW L1 L' hφ hL hB Ds _ (hS.putObj (b := D) (.deferred none)).tail hr
theorem JX_retsMW {fn : Func} {rs : List ResultVar} {S1 : List Nat} {w1 : World} {φ : Value → List Ent → World → Prop} (Ds : List Nat) (vs : List Value) (v : Value) (hd : n.ds = Ds.map mark) (hr : fn.results = rs.toArray) (L1 : List Ent) (h1 : ∀ w, St S w0 w L → St S w0 w (Ds.map dfr ++ L1)) (hv : ∀ w, St S w0 w L1 → resAll P E w rs vs)
    (hvv : v = (if h : vs.length = 1 then vs[0] else .tuple vs.toArray)) (L' : List Ent) (hL : ∀ w, St S w0 w L1 → St S w0 w L') (hB : ∀ w L, St S w0 w L → St S1 w1 w L) (hφ : ∀ w, St S w0 w L1 → φ v L' w) :
    JX n S w0 (NP (bodyPostM Fence.wide 0 P fn (GivesW S1 w1 φ))) .ret E L := by
  intro a w hR hS
  show LeavesInM Fence.wide 0 P fn a.tmps (GivesW S1 w1 φ) a.defers .returning w
  rw [hR.defers, hd]
  refine leaves_marksW L1 L' hφ hL hB Ds w (h1 w hS) (fun w2 hS2 => ?_)
  have hR0 : Rep { n with ds := [] } E { a with defers := [] } := ⟨rfl, hR.size, hR.val⟩
  have h0 := JX_rets (P := P) (n := { n with ds := [] }) (S := S) (w0 := w0) (E := E) (L := L1) (fn := fn) (φ := fun u L2 => u = v) vs v hr hv hvv L1 (fun _ h => h) rfl rfl _ w2 hR0 hS2
  obtain ⟨_, u, hu, u2, L2, he, hp, _⟩ := h0
  cases he
  subst hp
  exact hu
theorem calls_JNW {f : FuncId} {fn : Func} {c : Code} {args : Array Value} {w : World} {φ : Value → List Ent → World → Prop} {L0 : List Ent} (S : List Nat) (n : Nat)
    (hf : P.funcs[f]? = some fn) (hb : fn.body = some c) (hm : fn.ntmps = n) (E : Env) (hE : E = envOf 0 args.toList) (hn : Nat.ble args.size n = true)
    (hg : Give S w L0) (h : J P { sz := n } S w c (NP (bodyPostM Fence.wide 0 P fn (GivesW S w φ))) E L0) : Calls P f args w (GivesW S w φ) := by
  subst hm
  have hn := Nat.le_of_ble_eq_true hn
  refine (callsIn_wide (n := 0)).1 (callsIn_of_wp_marks (F := Fence.wide) hf hb trivial (wpIn_mono (h _ w ⟨rfl, ?_, ?_⟩ hg.start) NP.of) rfl)
  · simp; omega
  · intro t v hv
    rw [hE] at hv
    have h1 : args[t]? = some v := by have := (get_envOf _ _ _ _ hv).2; simpa using this
    obtain ⟨hlt, h2⟩ := Array.getElem?_eq_some_iff.1 h1
    simp only [Array.getD_eq_getD_getElem?]
    rw [Array.getElem?_append_left hlt, h1]
    rfl
theorem ps_ {ps : List Tmp} {m : Nat} (h : (ps.all fun p => Nat.blt p m) = true) : ∀ p ∈ ps, p < m := fun p hp => by
  have := List.all_eq_true.1 h p hp
  rwa [Nat.blt_eq] at this
theorem lown_rangeF {w00 : World} (hS : St S w0 w L) (h0 : w00.heap.size ≤ w.heap.size) : ∀ b ∈ Lown L ++ List.range w00.heap.size, b ∈ List.range w.heap.size := fun b hb => by
  rcases List.mem_append.1 hb with h | h
  · exact lown_range hS b h
  · exact List.mem_range.2 (Nat.lt_of_lt_of_le (List.mem_range.1 h) h0)
theorem it_done {X α : Type} {S : List Nat} {w : World} {f : FuncId} {args : Array Value} {xs : List α} {I : List α → X → Prop} {Lf : List α → X → List Ent} (h : Calls P f args w (Gives S w fun v L => ∃ st : X, v = Value.tuple #[] ∧ L = Lf xs st ∧ I xs st)) :
    Calls P f args w fun e w' => (∃ v, e = .returned v) ∧ ∃ st, I xs st ∧ St S w w' (Lf xs st) := by
  refine h.mono ?_
  rintro e w' ⟨v, L, rfl, ⟨st, _, rfl, hI⟩, hS⟩
  exact ⟨⟨v, rfl⟩, st, hI, hS⟩
end
end Go.GV
