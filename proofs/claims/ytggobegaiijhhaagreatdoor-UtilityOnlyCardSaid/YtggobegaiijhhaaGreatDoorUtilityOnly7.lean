/- Sh45, GvQ, GvS, Nm44, Pl45c in one text. -/
import Derived.Shelf.Strings.Builder1
import Derived.Shelf.Strings.Builder2
import Derived.Shelf.Strings.Trim
import Derived.Shelf.Small.Utf8
import Derived.Shelf.Small.Bits
import Derived.Shelf.Small.Strs
import Derived.Shelf.Small.Wraps
import Derived.Shelf.Strings.BuilderF
import Derived.Shelf.Strings.BuilderK
import Derived.Shelf.Utf8.RuneCount
import Derived.Shelf.Strings.Builder2Cap
import Derived.Shelf.Strconv.Atoi
import Derived.Shelf.Strconv.Itoa0
import Derived.Shelf.Strconv.Itoa1
import Derived.Shelf.LaysM
import Derived.Shelf.Strconv.Itoa2
import Derived.Shelf.Strconv.Itoa3
import Derived.Shelf.Strconv.AtoiErrFast
import Derived.Shelf.Strconv.ParseIntEmpty
import Derived.Shelf.Strconv.AtoiFail
import Derived.Shelf.Strconv.Clone
import Derived.Shelf.Strconv.SyntaxError
import Derived.Shelf.LaysC
import Derived.Shelf.Strconv.ToError
import Derived.Shelf.Strconv.AtoiErr
import Derived.Shelf.Strconv.Lower
import Derived.Shelf.Strconv.ParseUint10
import Derived.Shelf.Strconv.ParseUint10Empty
import Derived.Shelf.Strconv.ParseUint10Any
import Derived.Shelf.Strconv.ParseInt10
import Derived.Shelf.Strconv.AtoiLong
import Derived.Shelf.Strconv.AtoiInnerAll
import Derived.Shelf.Strconv.RangeError
import Derived.Shelf.Strconv.ToErrorRange
import Derived.Shelf.Strconv.AtoiAll
import Derived.Shelf.Strconv.ErrVarAll
import Derived.Shelf.Strings.Search1
import Derived.Shelf.Strings.Search2
import Derived.Shelf.Strings.Search3
import Derived.Shelf.Strings.Cut
import Derived.Shelf.Strings.Count
import Derived.Shelf.Strings.Shaped
import Derived.Shelf.Sort.Plain
import Derived.Shelf.Strings.Prefix
import Derived.Shelf.Strings.Split
import Derived.Shelf.Strings.SplitShaped
import Derived.Shelf.Unicode.Decode
import Derived.Shelf.Strings.Runes
import Derived.Shelf.Strings.RuneCount
import Derived.Shelf.Strings.AsciiSet
import Derived.Shelf.Strings.Explode
import Derived.Shelf.Bits.Mul64
import Derived.Shelf.Strings.Repeat
import Derived.Shelf.Unicode.DecodeSlow
import Derived.Shelf.Unicode.DecodeAny
import Derived.Shelf.Unicode.DecodeLast
import Derived.Shelf.Strings.FieldsFuncAny
import Derived.Shelf.Strings.FieldsFuncGrows
import Derived.Shelf.Slices.Turned
import Derived.Shelf.Slices.Equal
import Derived.Shelf.Slices.Clone
import Derived.Shelf.Slices.SearchI
import Derived.Shelf.Slices.In.SortNone
import Derived.Shelf.SlicesG.SearchI
import Derived.Shelf.SlicesE.Clone
import Derived.Test.YtggobegaiijhhaaGreatDoorRows
import Derived.Test.YtggobegaiijhhaaGreatDoorUtilityOnly6
import Derived.Lib.ItoaNum
import Derived.Lib.AtoiAllCases
import Derived.Lib.IndexBytes
import Derived.Lib.IndexMore
import Derived.Lib.Strings
set_option linter.unusedVariables false
set_option linter.unusedSimpArgs false
namespace Go.Proofs
open Go.Shelf
open Go.RowKit Go.Lib Go.Sort
def Tryz.laysM171_ren:Go.Shelf.Ren:=⟨fun | 171=>19 | 243=>28 | 246=>38 | 283=>71 | 284=>72 | 285=>73 | 286=>74 | 129=>110 | 317=>109 | 318=>111 | 319=>112 | 320=>113 | 337=>147 | 338=>148 | n=>n,fun | 3=>3 | 9=>9 | 2=>2 | 4=>4 | 171=>113 | 0=>0 | 53=>114 | 37=>117 | 5=>5 | 173=>118 | 212=>157 | 51=>158 | 20=>20 | 213=>159 | 46=>122 | 232=>227 | 233=>228 | n=>n,fun | 17=>1 | 18=>2 | 19=>3 | n=>n⟩
theorem Tryz.laysM171:Go.Proofs.LaysM.n171 Tryz.prog Tryz.laysM171_ren:={
  mixed:=by kernel_rfl
  f129:=Tryz.func110.trans (congrArg some (by kernel_rfl))
  f171:=Tryz.func19.trans (congrArg some (by kernel_rfl))
  f243:=Tryz.func28.trans (congrArg some (by kernel_rfl))
  f246:=Tryz.func38.trans (congrArg some (by kernel_rfl))
  f283:=Tryz.func71.trans (congrArg some (by kernel_rfl))
  f284:=Tryz.func72.trans (congrArg some (by kernel_rfl))
  f285:=Tryz.func73.trans (congrArg some (by kernel_rfl))
  f286:=Tryz.func74.trans (congrArg some (by kernel_rfl))
  f317:=Tryz.func109.trans (congrArg some (by kernel_rfl))
  f318:=Tryz.func111.trans (congrArg some (by kernel_rfl))
  f319:=Tryz.func112.trans (congrArg some (by kernel_rfl))
  f320:=Tryz.func113.trans (congrArg some (by kernel_rfl))
  f337:=Tryz.func147.trans (congrArg some (by kernel_rfl))
  f338:=Tryz.func148.trans (congrArg some (by kernel_rfl))
  t0:=Tryz.underlying0
  a0:=Tryz.isAgg0
  z0:=Tryz.sizeOf0
  v0:=Tryz.zeroValue0
  t2:=Tryz.underlying2
  a2:=Tryz.isAgg2
  z2:=Tryz.sizeOf2
  v2:=Tryz.zeroValue2
  t3:=Tryz.underlying3
  a3:=Tryz.isAgg3
  z3:=Tryz.sizeOf3
  v3:=Tryz.zeroValue3
  t4:=Tryz.underlying4
  a4:=Tryz.isAgg4
  z4:=Tryz.sizeOf4
  v4:=Tryz.zeroValue4
  t5:=Tryz.underlying5
  a5:=Tryz.isAgg5
  z5:=Tryz.sizeOf5
  v5:=Tryz.zeroValue5
  t9:=Tryz.underlying9
  a9:=Tryz.isAgg9
  z9:=Tryz.sizeOf9
  v9:=Tryz.zeroValue9
  t20:=Tryz.underlying20
  a20:=Tryz.isAgg20
  z20:=Tryz.sizeOf20
  v20:=Tryz.zeroValue20
  t37:=Tryz.underlying117
  a37:=Tryz.isAgg117
  z37:=Tryz.sizeOf117
  v37:=Tryz.zeroValue117
  t46:=Tryz.underlying122
  a46:=Tryz.isAgg122
  z46:=Tryz.sizeOf122
  v46:=Tryz.zeroValue122
  t51:=Tryz.underlying158
  a51:=Tryz.isAgg158
  z51:=Tryz.sizeOf158
  v51:=Tryz.zeroValue158
  t53:=Tryz.underlying114
  a53:=Tryz.isAgg114
  z53:=Tryz.sizeOf114
  v53:=Tryz.zeroValue114
  t171:=Tryz.underlying113
  a171:=Tryz.isAgg113
  z171:=Tryz.sizeOf113
  v171:=Tryz.zeroValue113
  t173:=Tryz.underlying118
  a173:=Tryz.isAgg118
  z173:=Tryz.sizeOf118
  v173:=Tryz.zeroValue118
  t212:=Tryz.underlying157
  a212:=Tryz.isAgg157
  z212:=Tryz.sizeOf157
  v212:=Tryz.zeroValue157
  t213:=Tryz.underlying159
  a213:=Tryz.isAgg159
  z213:=Tryz.sizeOf159
  t232:=Tryz.underlying227
  a232:=Tryz.isAgg227
  z232:=Tryz.sizeOf227
  v232:=Tryz.zeroValue227
  t233:=Tryz.underlying228
  a233:=Tryz.isAgg228
  z233:=Tryz.sizeOf228
  v233:=Tryz.zeroValue228
  g17:=by kernel_rfl
  g18:=by kernel_rfl
  g19:=by kernel_rfl
  i0:=by kernel_rfl
  i2:=by kernel_rfl
  i3:=by kernel_rfl
  i4:=by kernel_rfl
  i5:=by kernel_rfl
  i9:=by kernel_rfl
  i20:=by kernel_rfl
  i37:=by kernel_rfl
  i46:=by kernel_rfl
  i51:=by kernel_rfl
  i53:=by kernel_rfl
  i171:=by kernel_rfl
  i173:=by kernel_rfl
  i212:=by kernel_rfl
  i232:=by kernel_rfl
  i233:=by kernel_rfl
  m17:=by kernel_rfl
  m18:=by kernel_rfl
  m19:=by kernel_rfl }
theorem Tryz.strconv_Itoa (n:Int) (h0 : -9223372036854775808≤n) (h1:n≤9223372036854775807) (w:World) (htab:Lib.TabIs Tryz.prog w "internal/strconv.uint64pow10" .u64 Lib.pow10Tab) :
    Calls Tryz.prog 19 #[.int .i64 n] w fun e w'=>e = .returned (.string ⟨(Lib.itoa n).toArray⟩) ∧ ∃ k os,w'=grow (w.drewN k) os:=Any.strconv_Itoa Tryz.laysM171 n h0 h1 w htab
def Tryz.laysC172_ren:Go.Shelf.Ren:=⟨fun | 172=>82 | 244=>126 | 245=>127 | 247=>155 | 279=>156 | 280=>157 | 281=>158 | 282=>159 | 287=>172 | 316=>173 | 171=>19 | 205=>174 | 321=>184 | 322=>185 | 243=>28 | 246=>38 | 283=>71 | 284=>72 | 285=>73 | 286=>74 | 129=>110 | 317=>109 | 318=>111 | 319=>112 | 320=>113 | 337=>147 | 338=>148 | n=>n,fun | 9=>9 | 3=>3 | 75=>127 | 76=>128 | 4=>4 | 5=>5 | 167=>201 | 37=>117 | 0=>0 | 85=>202 | 2=>2 | 168=>204 | 53=>114 | 175=>232 | 46=>122 | 210=>235 | 127=>246 | 145=>249 | 143=>247 | 21=>21 | 171=>113 | 173=>118 | 212=>157 | 51=>158 | 20=>20 | 213=>159 | 232=>227 | 233=>228 | 80=>264 | n=>n,fun | 15=>4 | 16=>5 | 17=>1 | 18=>2 | 19=>3 | n=>n⟩
theorem Tryz.laysC172:Go.Proofs.LaysC.n172 Tryz.prog Tryz.laysC172_ren:={
  mixed:=by kernel_rfl
  f129:=Tryz.func110.trans (congrArg some (by kernel_rfl))
  f171:=Tryz.func19.trans (congrArg some (by kernel_rfl))
  f172:=Tryz.func82.trans (congrArg some (by kernel_rfl))
  f205:=Tryz.func174.trans (congrArg some (by kernel_rfl))
  f243:=Tryz.func28.trans (congrArg some (by kernel_rfl))
  f244:=Tryz.func126.trans (congrArg some (by kernel_rfl))
  f245:=Tryz.func127.trans (congrArg some (by kernel_rfl))
  f246:=Tryz.func38.trans (congrArg some (by kernel_rfl))
  f247:=Tryz.func155.trans (congrArg some (by kernel_rfl))
  f279:=Tryz.func156.trans (congrArg some (by kernel_rfl))
  f280:=Tryz.func157.trans (congrArg some (by kernel_rfl))
  f281:=Tryz.func158.trans (congrArg some (by kernel_rfl))
  f282:=Tryz.func159.trans (congrArg some (by kernel_rfl))
  f283:=Tryz.func71.trans (congrArg some (by kernel_rfl))
  f284:=Tryz.func72.trans (congrArg some (by kernel_rfl))
  f285:=Tryz.func73.trans (congrArg some (by kernel_rfl))
  f286:=Tryz.func74.trans (congrArg some (by kernel_rfl))
  f287:=Tryz.func172.trans (congrArg some (by kernel_rfl))
  f316:=Tryz.func173.trans (congrArg some (by kernel_rfl))
  f317:=Tryz.func109.trans (congrArg some (by kernel_rfl))
  f318:=Tryz.func111.trans (congrArg some (by kernel_rfl))
  f319:=Tryz.func112.trans (congrArg some (by kernel_rfl))
  f320:=Tryz.func113.trans (congrArg some (by kernel_rfl))
  f321:=Tryz.func184.trans (congrArg some (by kernel_rfl))
  f322:=Tryz.func185.trans (congrArg some (by kernel_rfl))
  f337:=Tryz.func147.trans (congrArg some (by kernel_rfl))
  f338:=Tryz.func148.trans (congrArg some (by kernel_rfl))
  t0:=Tryz.underlying0
  a0:=Tryz.isAgg0
  z0:=Tryz.sizeOf0
  v0:=Tryz.zeroValue0
  t2:=Tryz.underlying2
  a2:=Tryz.isAgg2
  z2:=Tryz.sizeOf2
  v2:=Tryz.zeroValue2
  t3:=Tryz.underlying3
  a3:=Tryz.isAgg3
  z3:=Tryz.sizeOf3
  v3:=Tryz.zeroValue3
  t4:=Tryz.underlying4
  a4:=Tryz.isAgg4
  z4:=Tryz.sizeOf4
  v4:=Tryz.zeroValue4
  t5:=Tryz.underlying5
  a5:=Tryz.isAgg5
  z5:=Tryz.sizeOf5
  v5:=Tryz.zeroValue5
  t9:=Tryz.underlying9
  a9:=Tryz.isAgg9
  z9:=Tryz.sizeOf9
  v9:=Tryz.zeroValue9
  t20:=Tryz.underlying20
  a20:=Tryz.isAgg20
  z20:=Tryz.sizeOf20
  v20:=Tryz.zeroValue20
  t21:=Tryz.underlying21
  a21:=Tryz.isAgg21
  z21:=Tryz.sizeOf21
  v21:=Tryz.zeroValue21
  t37:=Tryz.underlying117
  a37:=Tryz.isAgg117
  z37:=Tryz.sizeOf117
  v37:=Tryz.zeroValue117
  t46:=Tryz.underlying122
  a46:=Tryz.isAgg122
  z46:=Tryz.sizeOf122
  v46:=Tryz.zeroValue122
  t51:=Tryz.underlying158
  a51:=Tryz.isAgg158
  z51:=Tryz.sizeOf158
  v51:=Tryz.zeroValue158
  t53:=Tryz.underlying114
  a53:=Tryz.isAgg114
  z53:=Tryz.sizeOf114
  v53:=Tryz.zeroValue114
  t75:=Tryz.underlying127
  a75:=Tryz.isAgg127
  z75:=Tryz.sizeOf127
  v75:=Tryz.zeroValue127
  t76:=Tryz.underlying128
  a76:=Tryz.isAgg128
  z76:=Tryz.sizeOf128
  v76:=Tryz.zeroValue128
  t85:=Tryz.underlying202
  a85:=Tryz.isAgg202
  z85:=Tryz.sizeOf202
  v85:=Tryz.zeroValue202
  t127:=Tryz.underlying246
  a127:=Tryz.isAgg246
  z127:=Tryz.sizeOf246
  v127:=Tryz.zeroValue246
  t143:=Tryz.underlying247
  a143:=Tryz.isAgg247
  z143:=Tryz.sizeOf247
  v143:=Tryz.zeroValue247
  t145:=Tryz.underlying249
  a145:=Tryz.isAgg249
  z145:=Tryz.sizeOf249
  v145:=Tryz.zeroValue249
  t167:=Tryz.underlying201
  a167:=Tryz.isAgg201
  z167:=Tryz.sizeOf201
  v167:=Tryz.zeroValue201
  t168:=Tryz.underlying204
  a168:=Tryz.isAgg204
  z168:=Tryz.sizeOf204
  v168:=Tryz.zeroValue204
  t171:=Tryz.underlying113
  a171:=Tryz.isAgg113
  z171:=Tryz.sizeOf113
  v171:=Tryz.zeroValue113
  t173:=Tryz.underlying118
  a173:=Tryz.isAgg118
  z173:=Tryz.sizeOf118
  v173:=Tryz.zeroValue118
  t175:=Tryz.underlying232
  a175:=Tryz.isAgg232
  z175:=Tryz.sizeOf232
  v175:=Tryz.zeroValue232
  t210:=Tryz.underlying235
  a210:=Tryz.isAgg235
  z210:=Tryz.sizeOf235
  v210:=Tryz.zeroValue235
  t212:=Tryz.underlying157
  a212:=Tryz.isAgg157
  z212:=Tryz.sizeOf157
  v212:=Tryz.zeroValue157
  t213:=Tryz.underlying159
  a213:=Tryz.isAgg159
  z213:=Tryz.sizeOf159
  t232:=Tryz.underlying227
  a232:=Tryz.isAgg227
  z232:=Tryz.sizeOf227
  v232:=Tryz.zeroValue227
  t233:=Tryz.underlying228
  a233:=Tryz.isAgg228
  z233:=Tryz.sizeOf228
  v233:=Tryz.zeroValue228
  g15:=by kernel_rfl
  g16:=by kernel_rfl
  g17:=by kernel_rfl
  g18:=by kernel_rfl
  g19:=by kernel_rfl
  t80:=Tryz.underlying264
  a80:=Tryz.isAgg264
  z80:=Tryz.sizeOf264
  v80:=Tryz.zeroValue264
  i0:=by kernel_rfl
  i2:=by kernel_rfl
  i3:=by kernel_rfl
  i4:=by kernel_rfl
  i5:=by kernel_rfl
  i9:=by kernel_rfl
  i20:=by kernel_rfl
  i21:=by kernel_rfl
  i37:=by kernel_rfl
  i46:=by kernel_rfl
  i51:=by kernel_rfl
  i53:=by kernel_rfl
  i75:=by kernel_rfl
  i76:=by kernel_rfl
  i80:=by kernel_rfl
  i85:=by kernel_rfl
  i127:=by kernel_rfl
  i143:=by kernel_rfl
  i145:=by kernel_rfl
  i167:=by kernel_rfl
  i168:=by kernel_rfl
  i171:=by kernel_rfl
  i173:=by kernel_rfl
  i175:=by kernel_rfl
  i210:=by kernel_rfl
  i212:=by kernel_rfl
  i232:=by kernel_rfl
  i233:=by kernel_rfl
  m15:=by kernel_rfl
  m16:=by kernel_rfl
  m17:=by kernel_rfl
  m18:=by kernel_rfl
  m19:=by kernel_rfl
  c0:=by kernel_rfl
  c2:=by kernel_rfl
  c3:=by kernel_rfl
  c4:=by kernel_rfl
  c5:=by kernel_rfl
  c9:=by kernel_rfl
  c20:=by kernel_rfl
  c21:=by kernel_rfl
  c37:=by kernel_rfl
  c46:=by kernel_rfl
  c51:=by kernel_rfl
  c53:=by kernel_rfl
  c75:=by kernel_rfl
  c76:=by kernel_rfl
  c80:=by kernel_rfl
  c85:=by kernel_rfl
  c127:=by kernel_rfl
  c143:=by kernel_rfl
  c145:=by kernel_rfl
  c167:=by kernel_rfl
  c168:=by kernel_rfl
  c171:=by kernel_rfl
  c173:=by kernel_rfl
  c175:=by kernel_rfl
  c210:=by kernel_rfl
  c212:=by kernel_rfl
  c213:=by kernel_rfl
  c232:=by kernel_rfl
  c233:=by kernel_rfl }
theorem Tryz.strconv_Atoi_ok (s:ByteArray) (hmax:s.size≤9223372036854775806) (v:Int) (h:Lib.atoiAll s.data.toList = .ok v) (w:World) :
    Calls Tryz.prog 82 #[.string s] w fun e w'=>e = .returned (.tuple #[.int .i64 v,.nilIface])∧(w'=w ∨ ∃ t,w'=Lib.bytesWorld w 5 t):=Any.strconv_Atoi_ok Tryz.laysC172 s hmax v h w
theorem Tryz.strconv_Atoi_syntax (s:ByteArray) (hlim:s.size≤281474976710656) (h:(∀ v,Lib.atoiAll s.data.toList ≠ .ok v)∧Lib.atoiAll s.data.toList ≠ .range) (ev:Value) (w:World) (hv:w.cell? ⟨4,0,none⟩=some ev) (hev:ev = .nilIface ∨ ∃ te pe,ev = .iface te pe) :
    Calls Tryz.prog 82 #[.string s] w fun e w'=>∃ N,e = .returned (.tuple #[.int .i64 (0),.iface 204 (.pointer (some ⟨N,0,none⟩))])∧w.heap.size≤N∧w'.heap[N]? = some (.cells #[.string ⟨#[65,116,111,105]⟩,.string s,ev] 235 (0,0))∧Below w.heap.size w w':=Any.strconv_Atoi_syntax Tryz.laysC172 s hlim (by cases e:Lib.atoiAll s.data.toList <;> first | rfl | exact absurd e (h.1 _) | exact absurd e h.2) ev w hv hev
theorem Tryz.strconv_Atoi_range (s:ByteArray) (hlim:s.size≤281474976710656) (h:Lib.atoiAll s.data.toList = .range) (ev:Value) (w:World) (hv:w.cell? ⟨5,0,none⟩=some ev) (hev:ev = .nilIface ∨ ∃ te pe,ev = .iface te pe) :
    Calls Tryz.prog 82 #[.string s] w fun e w'=>∃ N,e = .returned (.tuple #[.int .i64 (Lib.atoiSat s.data.toList),.iface 204 (.pointer (some ⟨N,0,none⟩))])∧w.heap.size≤N∧w'.heap[N]? = some (.cells #[.string ⟨#[65,116,111,105]⟩,.string s,ev] 235 (0,0))∧Below w.heap.size w w':=Any.strconv_Atoi_range Tryz.laysC172 s hlim h ev w hv hev
def Tryz.lays144_ren:Go.Shelf.Ren:=⟨fun | 144=>20 | 143=>29 | 219=>39 | 217=>75 | 225=>76 | 224=>77 | 267=>78 | 266=>114 | 314=>115 | n=>n,fun | 9=>9 | 4=>4 | 3=>3 | 5=>5 | 46=>122 | 146=>161 | 51=>158 | n=>n,fun | 1=>0 | n=>n⟩
theorem Tryz.lays144:Go.Proofs.Lays.n144 Tryz.prog Tryz.lays144_ren:={
  mixed:=by kernel_rfl
  f143:=Tryz.func29.trans (congrArg some (by kernel_rfl))
  f144:=Tryz.func20.trans (congrArg some (by kernel_rfl))
  f217:=Tryz.func75.trans (congrArg some (by kernel_rfl))
  f219:=Tryz.func39.trans (congrArg some (by kernel_rfl))
  f224:=Tryz.func77.trans (congrArg some (by kernel_rfl))
  f225:=Tryz.func76.trans (congrArg some (by kernel_rfl))
  f266:=Tryz.func114.trans (congrArg some (by kernel_rfl))
  f267:=Tryz.func78.trans (congrArg some (by kernel_rfl))
  f314:=Tryz.func115.trans (congrArg some (by kernel_rfl))
  t3:=Tryz.underlying3
  a3:=Tryz.isAgg3
  z3:=Tryz.sizeOf3
  v3:=Tryz.zeroValue3
  t4:=Tryz.underlying4
  a4:=Tryz.isAgg4
  z4:=Tryz.sizeOf4
  v4:=Tryz.zeroValue4
  t5:=Tryz.underlying5
  a5:=Tryz.isAgg5
  z5:=Tryz.sizeOf5
  v5:=Tryz.zeroValue5
  t9:=Tryz.underlying9
  a9:=Tryz.isAgg9
  z9:=Tryz.sizeOf9
  v9:=Tryz.zeroValue9
  t46:=Tryz.underlying122
  a46:=Tryz.isAgg122
  z46:=Tryz.sizeOf122
  v46:=Tryz.zeroValue122
  t51:=Tryz.underlying158
  a51:=Tryz.isAgg158
  z51:=Tryz.sizeOf158
  v51:=Tryz.zeroValue158
  t146:=Tryz.underlying161
  a146:=Tryz.isAgg161
  z146:=Tryz.sizeOf161
  v146:=Tryz.zeroValue161
  g1:=by kernel_rfl }
theorem Tryz.strings_Contains_one (s:ByteArray) (c:UInt8) (w:World) :
    Calls Tryz.prog 20 #[.string s,.string ⟨#[c]⟩] w fun e w'=>e = .returned (.bool (decide (0≤Lib.indexByte s.data.toList c)))∧w'=w:=Any.strings_Contains_one Tryz.lays144 s c w
def Tryz.lays145_ren:Go.Shelf.Ren:=⟨fun | 145=>92 | 220=>131 | 219=>39 | 217=>75 | 225=>76 | 224=>77 | 267=>78 | 266=>114 | 314=>115 | n=>n,fun | 9=>9 | 4=>4 | 59=>136 | 3=>3 | 5=>5 | 46=>122 | 146=>161 | 51=>158 | n=>n,fun | 1=>0 | n=>n⟩
theorem Tryz.lays145:Go.Proofs.Lays.n145 Tryz.prog Tryz.lays145_ren:={
  mixed:=by kernel_rfl
  f145:=Tryz.func92.trans (congrArg some (by kernel_rfl))
  f217:=Tryz.func75.trans (congrArg some (by kernel_rfl))
  f219:=Tryz.func39.trans (congrArg some (by kernel_rfl))
  f220:=Tryz.func131.trans (congrArg some (by kernel_rfl))
  f224:=Tryz.func77.trans (congrArg some (by kernel_rfl))
  f225:=Tryz.func76.trans (congrArg some (by kernel_rfl))
  f266:=Tryz.func114.trans (congrArg some (by kernel_rfl))
  f267:=Tryz.func78.trans (congrArg some (by kernel_rfl))
  f314:=Tryz.func115.trans (congrArg some (by kernel_rfl))
  t3:=Tryz.underlying3
  a3:=Tryz.isAgg3
  z3:=Tryz.sizeOf3
  v3:=Tryz.zeroValue3
  t4:=Tryz.underlying4
  a4:=Tryz.isAgg4
  z4:=Tryz.sizeOf4
  v4:=Tryz.zeroValue4
  t5:=Tryz.underlying5
  a5:=Tryz.isAgg5
  z5:=Tryz.sizeOf5
  v5:=Tryz.zeroValue5
  t9:=Tryz.underlying9
  a9:=Tryz.isAgg9
  z9:=Tryz.sizeOf9
  v9:=Tryz.zeroValue9
  t46:=Tryz.underlying122
  a46:=Tryz.isAgg122
  z46:=Tryz.sizeOf122
  v46:=Tryz.zeroValue122
  t51:=Tryz.underlying158
  a51:=Tryz.isAgg158
  z51:=Tryz.sizeOf158
  v51:=Tryz.zeroValue158
  t59:=Tryz.underlying136
  a59:=Tryz.isAgg136
  z59:=Tryz.sizeOf136
  v59:=Tryz.zeroValue136
  t146:=Tryz.underlying161
  a146:=Tryz.isAgg161
  z146:=Tryz.sizeOf161
  v146:=Tryz.zeroValue161
  g1:=by kernel_rfl }
theorem Tryz.strings_Cut (s sep:ByteArray) (m:Int) (w:World) (hs:s.size<4294967281) (hm:w.cell? ⟨0,0,none⟩=some (.int .i64 m)) :
    Calls Tryz.prog 92 #[.string s,.string sep] w fun e w'=>e = .returned (.tuple #[.string ⟨(Lib.cut s.data.toList sep.data.toList).1.toArray⟩,.string ⟨(Lib.cut s.data.toList sep.data.toList).2.1.toArray⟩,.bool (Lib.cut s.data.toList sep.data.toList).2.2]) ∧ ∃ n,w'=w.drewN n:=Any.strings_Cut Tryz.lays145 s sep m w hs hm
def Tryz.lays190_ren:Go.Shelf.Ren:=⟨fun | 190=>41 | 125=>81 | 258=>80 | 128=>125 | 129=>110 | 302=>116 | 303=>117 | 304=>118 | 305=>119 | 306=>120 | 307=>121 | 308=>122 | 309=>123 | 310=>124 | 333=>149 | 329=>150 | 330=>151 | 334=>152 | 335=>153 | 336=>154 | 344=>171 | n=>n,fun | 31=>25 | 9=>9 | 3=>3 | 46=>122 | 0=>0 | 51=>158 | 53=>114 | 4=>4 | 183=>165 | 182=>164 | 131=>108 | 5=>5 | 218=>195 | 222=>199 | 228=>229 | 229=>230 | n=>n,fun | n=>n⟩
theorem Tryz.lays190:Go.Proofs.Lays.n190 Tryz.prog Tryz.lays190_ren:={
  mixed:=by kernel_rfl
  f125:=Tryz.func81.trans (congrArg some (by kernel_rfl))
  f128:=Tryz.func125.trans (congrArg some (by kernel_rfl))
  f129:=Tryz.func110.trans (congrArg some (by kernel_rfl))
  f190:=Tryz.func41.trans (congrArg some (by kernel_rfl))
  f258:=Tryz.func80.trans (congrArg some (by kernel_rfl))
  f302:=Tryz.func116.trans (congrArg some (by kernel_rfl))
  f303:=Tryz.func117.trans (congrArg some (by kernel_rfl))
  f304:=Tryz.func118.trans (congrArg some (by kernel_rfl))
  f305:=Tryz.func119.trans (congrArg some (by kernel_rfl))
  f306:=Tryz.func120.trans (congrArg some (by kernel_rfl))
  f307:=Tryz.func121.trans (congrArg some (by kernel_rfl))
  f308:=Tryz.func122.trans (congrArg some (by kernel_rfl))
  f309:=Tryz.func123.trans (congrArg some (by kernel_rfl))
  f310:=Tryz.func124.trans (congrArg some (by kernel_rfl))
  f329:=Tryz.func150.trans (congrArg some (by kernel_rfl))
  f330:=Tryz.func151.trans (congrArg some (by kernel_rfl))
  f333:=Tryz.func149.trans (congrArg some (by kernel_rfl))
  f334:=Tryz.func152.trans (congrArg some (by kernel_rfl))
  f335:=Tryz.func153.trans (congrArg some (by kernel_rfl))
  f336:=Tryz.func154.trans (congrArg some (by kernel_rfl))
  f344:=Tryz.func171.trans (congrArg some (by kernel_rfl))
  t0:=Tryz.underlying0
  a0:=Tryz.isAgg0
  z0:=Tryz.sizeOf0
  v0:=Tryz.zeroValue0
  t3:=Tryz.underlying3
  a3:=Tryz.isAgg3
  z3:=Tryz.sizeOf3
  v3:=Tryz.zeroValue3
  t4:=Tryz.underlying4
  a4:=Tryz.isAgg4
  z4:=Tryz.sizeOf4
  v4:=Tryz.zeroValue4
  t5:=Tryz.underlying5
  a5:=Tryz.isAgg5
  z5:=Tryz.sizeOf5
  v5:=Tryz.zeroValue5
  t9:=Tryz.underlying9
  a9:=Tryz.isAgg9
  z9:=Tryz.sizeOf9
  v9:=Tryz.zeroValue9
  t31:=Tryz.underlying25
  a31:=Tryz.isAgg25
  z31:=Tryz.sizeOf25
  v31:=Tryz.zeroValue25
  t46:=Tryz.underlying122
  a46:=Tryz.isAgg122
  z46:=Tryz.sizeOf122
  v46:=Tryz.zeroValue122
  t51:=Tryz.underlying158
  a51:=Tryz.isAgg158
  z51:=Tryz.sizeOf158
  v51:=Tryz.zeroValue158
  t53:=Tryz.underlying114
  a53:=Tryz.isAgg114
  z53:=Tryz.sizeOf114
  v53:=Tryz.zeroValue114
  t131:=Tryz.underlying108
  a131:=Tryz.isAgg108
  z131:=Tryz.sizeOf108
  v131:=Tryz.zeroValue108
  t182:=Tryz.underlying164
  a182:=Tryz.isAgg164
  z182:=Tryz.sizeOf164
  v182:=Tryz.zeroValue164
  t183:=Tryz.underlying165
  a183:=Tryz.isAgg165
  z183:=Tryz.sizeOf165
  v183:=Tryz.zeroValue165
  t218:=Tryz.underlying195
  a218:=Tryz.isAgg195
  z218:=Tryz.sizeOf195
  v218:=Tryz.zeroValue195
  t222:=Tryz.underlying199
  a222:=Tryz.isAgg199
  z222:=Tryz.sizeOf199
  v222:=Tryz.zeroValue199
  t228:=Tryz.underlying229
  a228:=Tryz.isAgg229
  z228:=Tryz.sizeOf229
  v228:=Tryz.zeroValue229
  t229:=Tryz.underlying230
  a229:=Tryz.isAgg230
  z229:=Tryz.sizeOf230
  v229:=Tryz.zeroValue230 }
theorem Tryz.slices_Sort_string (blk off cap:Nat) (ss:List (List UInt8)) (w:World) (hH:Holds encStr w blk off ss.toArray) (hblk:blk<w.heap.size) (hsz:ss.length<4611686018427387904) :
    Calls Tryz.prog 41 #[.slice (some ⟨blk,off,none⟩) ss.length cap] w fun e w' =>
      e = .returned (.tuple #[]) ∧ ∃ n os,w'=grow (putRow encStr (Sort.ahead w n) blk off (ss.mergeSort fun x y=>decide (x≤y)).toArray) os:=Any.slices_Sort_string Tryz.lays190 blk off cap ss w hH hblk hsz
theorem Tryz.slices_Sort_string_none (p:Option Addr) (cap:Nat) (w:World) :
    Calls Tryz.prog 41 #[.slice p 0 cap] w fun e w'=>e = .returned (.tuple #[])∧w'=w:=Any.slices_Sort_string_none Tryz.lays190 p cap w
end Go.Proofs
namespace Go.GV
open Go.RowKit Go.Op
structure Rw where
  s:List Bytes
  sA:Option Addr
  sC:Nat
deriving Inhabited
def Rw.enc (a:Rw):List Value:=[vL a.sA a.s.length a.sC]
theorem Rw.enc_len (a:Rw):(Rw.enc a).length=1:=rfl
theorem Rw.enc_one (a:Rw):(Rw.enc a).all Value.oneCell'=true:=rfl
def RwE (t:Nat) (e:Rw):Ent:=Ent.row (.slice e.sA e.s.length e.sC) t 1 e.s.length (e.s.map vS)
section
variable {S:List Nat} {w00 w0 w:World} {L M:List Ent} {α:Type} {f:α→Ent}
theorem St.keepN (n:Nat) (m:List Bool) {L':List Ent} (hm:mask m (M.take n)++M.drop n=L') (h:St S w0 w M):St S w0 w L':=by
  refine hm ▸ h.sublist ?_
  have:=(mask_sublist m (M.take n)).append (List.Sublist.refl (M.drop n))
  rwa [List.take_append_drop] at this
theorem St.headN (n:Nat) {L':List Ent} (hm:M.take n=L') (h:St S w0 w M):St S w0 w L':=hm ▸ h.sublist (List.take_sublist n M)
theorem take_perm [Inhabited α] {X:List α} {k:Nat} (hk:k<X.length):X.Perm (X.getD k default::X.eraseIdx k):=by
  have:=(perm_front X k hk).symm
  rwa [show X[k]=X.getD k default by rw [List.getD_eq_getElem?_getD,List.getElem?_eq_getElem hk];rfl] at this
theorem put_perm {X:List α} {k:Nat} {x:α} (hk:k<X.length):(x::X.eraseIdx k).Perm (X.set k x):=by
  have:=perm_front (X.set k x) k (by rw [List.length_set];exact hk)
  rwa [List.getElem_set_self,List.eraseIdx_set_eq] at this
theorem seg_take [Inhabited α] (n:Nat) {X:List α} {T:List Ent} {k:Nat} (h:St S w0 w M) (hM:M.drop n=X.map f++T) (hk:k<X.length):St S w0 w (f (X.getD k default)::(M.take n++((X.eraseIdx k).map f++T))):=by
  refine h.perm ?_
  have h1:M.Perm (M.take n++(X.map f++T)):=by rw [← hM,List.take_append_drop]
  refine h1.trans ?_
  have h2:=((take_perm hk).map f).append_right T
  rw [List.map_cons,List.cons_append] at h2
  exact (h2.append_left (M.take n)).trans List.perm_middle
theorem seg_put (n:Nat) {X:List α} {T:List Ent} {k:Nat} {x:α} {e:Ent} (h:St S w0 w (e::M)) (he:e=f x) (hM:M.drop n=(X.eraseIdx k).map f++T) (hk:k<X.length):St S w0 w (M.take n++((X.set k x).map f++T)):=by
  subst he
  refine h.perm ?_
  have h1:(f x::M).Perm (f x::(M.take n++((X.eraseIdx k).map f++T))):=by rw [← hM,List.take_append_drop]
  refine h1.trans ?_
  refine List.perm_middle.symm.trans (List.Perm.append_left _ ?_)
  have h2:=((put_perm (x:=x) hk).map f).append_right T
  rwa [List.map_cons,List.cons_append] at h2
theorem seg_snoc (n:Nat) {X:List α} {T:List Ent} {x:α} {e:Ent} (h:St S w0 w (e::M)) (he:e=f x) (hM:M.drop n=X.map f++T):St S w0 w (M.take n++((X++[x]).map f++T)):=by
  subst he
  refine h.perm ?_
  have h1:(f x::M).Perm (f x::(M.take n++(X.map f++T))):=by rw [← hM,List.take_append_drop]
  refine h1.trans ?_
  refine List.perm_middle.symm.trans (List.Perm.append_left _ ?_)
  rw [List.map_append,List.append_assoc]
  exact List.perm_middle.symm
theorem seg_nil (n:Nat) {X:List α} {T:List Ent} {x:α} {te:TypeId} {sz:Nat} (h:St S w0 w M) (he:Ent.row (.slice none 0 0) te sz 0 []=f x) (hM:M.drop n=X.map f++T):St S w0 w (M.take n++((X++[x]).map f++T)):=
  seg_snoc n (h.nilrow te sz) he hM
theorem oL_ {P:Program} {E:Env} {o:Oper} {K:Value→List Ent→Prop} {L':List Ent} (hL:∀ w,St S w0 w L→St S w0 w L') (h:OpJ P S w0 E L' o K):OpJ P S w0 E L o K:=fun w hS=>h w (hL w hS)
theorem seg_mem (n:Nat) {X:List α} {T:List Ent} (hM:M.drop n=X.map f++T):∀ e∈X.map f,e∈M:=fun e he =>
  (List.drop_sublist n M).subset (hM ▸ List.mem_append_left _ he)
theorem RO.of_memF {Lc Lr:List Ent} (hS:St S w0 w (Lc++Lr)) (h0:St [] w00 w (Lc++Lr)) {e:TypeId} {sz n c:Nat} {A:Option Addr} {cs:List Value} (hj:Ent.row (.slice A n c) e sz n cs∈Lr):RO (Lown Lc++List.range w00.heap.size) w A cs:=by
  obtain ⟨j,hlt,hj⟩:=List.mem_iff_getElem.1 hj
  exact RO.of_rowF hS h0 j (by rw [List.getElem?_eq_getElem hlt,hj])
theorem mem_seg {X:List Rw} {t i:Nat} (hi:i<X.length):Ent.row (.slice (X.getD i default).sA (X.getD i default).s.length (X.getD i default).sC) t 1 (X.getD i default).s.length ((X.getD i default).s.map vS)∈X.map (RwE t):=by
  have h1:X.getD i default∈X:=by rw [List.getD_eq_getElem?_getD,List.getElem?_eq_getElem hi];exact List.getElem_mem hi
  exact List.mem_map_of_mem (f:=RwE t) h1
theorem getD_out [Inhabited α] {X:List α} {i:Nat} (h:X.length≤i):X.getD i default=default:=by rw [List.getD_eq_getElem?_getD,List.getElem?_eq_none h];rfl
theorem ron_segF {Lc Lr:List Ent} {X:List Rw} {t:Nat} (hS:St S w0 w (Lc++Lr)) (h0:St [] w00 w (Lc++Lr)) (hX:∀ e∈X.map (RwE t),e∈Lr) (i:Nat):RO (Lown Lc++List.range w00.heap.size) w (X.getD i default).sA ((X.getD i default).s.map vS):=by
  by_cases hi:i<X.length
  · exact RO.of_memF hS h0 (hX _ (mem_seg hi))
  · rw [getD_out (by omega)];exact RO.nil
theorem cap_seg {X:List Rw} {t:Nat} (hS:St S w0 w L) (hX:∀ e∈X.map (RwE t),e∈L) (i:Nat):(X.getD i default).s.length≤(X.getD i default).sC:=by
  by_cases hi:i<X.length
  · rcases row_cap (hS.hold _ (hX _ (mem_seg hi))) with h | ⟨_,h,h2⟩
    · exact h
    · rw [h,h2];exact Nat.le_refl _
  · rw [getD_out (by omega)];exact Nat.zero_le _
theorem RO.empty {A:Option Addr} {xs:List α} {g:α→Value} (h:RO S w0 A (xs.map g)) (hA:A.isNone=true):xs=[]:=by
  cases xs with
  | nil=>rfl
  | cons x r =>
    obtain ⟨a,ha,_⟩:=h 0 (g x) rfl
    rw [ha] at hA;cases hA
theorem RO.emptyF {A:Option Addr} {xs:List α} {g:α→List Value} {m:Nat} (hg:∀ a,(g a).length=m+1) (h:RO S w0 A (xs.flatMap g)) (hA:A.isNone=true):xs=[]:=by
  cases xs with
  | nil=>rfl
  | cons x r =>
    have hl:0<((x::r).flatMap g).length:=by rw [List.flatMap_cons,List.length_append,hg];omega
    obtain ⟨a,ha,_⟩:=h 0 _ (List.getElem?_eq_getElem hl)
    rw [ha] at hA;cases hA
end
section
variable {P:Program} {n:Dim} {S:List Nat} {w0:World} {Q:Post} {E:Env} {L:List Ent}
theorem JX_retsD {fn:Func} {rs:List ResultVar} {S1:List Nat} {w1:World} {φ:Value→List Ent→World→Prop} (vs:List Value) (v:Value) (hr:fn.results=rs.toArray) (hv:∀ w,St S w0 w L→resAll P E w rs vs)
    (hvv:v=(if h:vs.length=1 then vs[0] else .tuple vs.toArray)) (L':List Ent) (hL:∀ w,St S w0 w L→St S w0 w L') (hB:∀ w L,St S w0 w L→St S1 w1 w L) (hφ:∀ w,St S w0 w L→φ v L' w) (hd:n.ds=[]:=by rfl) :
    JX n S w0 (bodyPost P fn (GivesW S1 w1 φ)) .ret E L:=by
  intro a w hR hS
  have h0:=JX_rets (P:=P) (n:=n) (S:=S) (w0:=w0) (E:=E) (L:=L) (φ:=fun u L2=>u=v∧L2=L) vs v hr hv hvv L (fun _ h=>h) ⟨rfl,rfl⟩ hd a w hR hS
  obtain ⟨hd,u,hu,u2,L2,he,hp,hs⟩:=h0
  obtain ⟨rfl,rfl⟩:=hp
  exact ⟨hd,u,hu,u2,L',he,hφ w hs,hB w _ (hL w hs)⟩
end
section
variable {P:Program} {E:Env} {w:World} {x y:Operand} {dst:Option Nat} {t t' ty:TypeId} {pos:String} {af:Array Edge} {g:Option (Nat × Bool)}
theorem x_eql_nil {p q:Array TypeId} {v:Bool} (hx:ev E x = .nilFunc) (hy:ev E y = .nilFunc) (ht:P.underlying t=some (.func p q v)):(execOp (ev E) ⟨dst,.binOp .eql t x y t',ty,pos,af,g⟩).run P w = .ok (.value (vB true)) w:=by
  have h:=run_eq_nil (P:=P) (w:=w) ht
  have hb:(binOp .eql t .nilFunc .nilFunc).run P w = .ok (vB true) w:=by
    show Sem.run P (do pure (Value.bool (← Op.equal t .nilFunc .nilFunc))) w=_
    rw [Sem.run_bind,h];rfl
  simp only [execOp,hx,hy]
  show Sem.run P (do let v ← binOp .eql t .nilFunc .nilFunc;pure (Next.value v)) w=_
  rw [Sem.run_bind,hb];rfl
theorem run_eq_sl {e:TypeId} {A:Option Addr} {n c:Nat} (ht:P.underlying t=some (.slice e)):(Op.equal t (.slice A n c) (.slice none 0 0)).run P w = .ok A.isNone w:=by
  show Sem.run P (Op.equalIn Op.maxDepth t (.slice A n c) (.slice none 0 0)) w=_
  have hd:Op.maxDepth=(Op.maxDepth-1)+1:=by decide
  rw [hd]
  unfold Op.equalIn
  rw [Sem.run_bind,run_underlying ht]
  cases A <;> rfl
theorem x_eql_sl {e:TypeId} {A:Option Addr} {n c:Nat} (hx:ev E x=vL A n c) (hy:ev E y=vL none 0 0) (ht:P.underlying t=some (.slice e)):(execOp (ev E) ⟨dst,.binOp .eql t x y t',ty,pos,af,g⟩).run P w = .ok (.value (vB A.isNone)) w:=by
  have h:=run_eq_sl (P:=P) (w:=w) (A:=A) (n:=n) (c:=c) ht
  have hb:(binOp .eql t (.slice A n c) (.slice none 0 0)).run P w = .ok (vB A.isNone) w:=by
    show Sem.run P (do pure (Value.bool (← Op.equal t (.slice A n c) (.slice none 0 0)))) w=_
    rw [Sem.run_bind,h];rfl
  simp only [execOp,hx,hy]
  show Sem.run P (do let v ← binOp .eql t (.slice A n c) (.slice none 0 0);pure (Next.value v)) w=_
  rw [Sem.run_bind,hb];rfl
end
end Go.GV
namespace Go.GV
open Go.RowKit
section
variable {P:Program} {n:Dim} {S:List Nat} {w0 w:World} {Q:Post} {E:Env} {L:List Ent}
def RoundM {X:Type} (n:Dim) (D:X→List Nat) (S:List Nat) (w0:World) (I:X→Prop) (W:X→World→Prop) (Ef:X→Env) (Lf:X→List Ent) (μ:X→Nat) (m:Nat) (Q:Post):Post:=
  Exit.then (fun a w=>∃ x,I x∧W x w∧μ x<m∧Rep { n with ds:=(D x).map mark } (Ef x) a∧St S w0 w (Lf x)) Q
theorem J_loopM {X:Type} {c:Code} (D:X→List Nat) (I:X→Prop) (W:X→World→Prop) (Ef:X→Env) (Lf:X→List Ent) (μ:X→Nat) (x0:X) (h0:I x0) (hD:n.ds=(D x0).map mark) (hE:SubE E (Ef x0)) (hL:∀ w,St S w0 w L→St S w0 w (Lf x0)) (hW:∀ w,St S w0 w L→W x0 w)
    (round:∀ x wb,I x→W x wb→St S w0 wb (Lf x)→J P { n with ds:=(D x).map mark } (Lown (Lf x)) wb c (RoundM n D S w0 I W Ef Lf μ (μ x) Q) (Ef x) (Lf x)):J P n S w0 (.loop c) Q E L:=by
  intro a w hR hS
  refine wpIn_loop_ghost (fun m a w=>∃ x,I x∧W x w∧μ x=m∧Rep { n with ds:=(D x).map mark } (Ef x) a∧St S w0 w (Lf x)) (μ x0) ⟨x0,h0,hW w hS,rfl,?_,hL w hS⟩ ?_
  · have:=hR.sub hE
    exact ⟨this.defers.trans hD,this.size,this.val⟩
  rintro m a w ⟨x,hI,hWx,rfl,hR,hS⟩
  refine wpIn_mono (round x w hI hWx hS a w hR hS.base) ?_
  intro e a' w' hq
  cases e with
  | normal=>obtain ⟨x',h1,h2,h3,h4,h5⟩:=hq;exact ⟨μ x',h3,x',h1,h2,rfl,h4,h5⟩
  | _=>exact hq
theorem JX_roundM {X:Type} {n0:Dim} {D:X→List Nat} {S1:List Nat} {w1:World} {I:X→Prop} {W:X→World→Prop} {Ef:X→Env} {Lf:X→List Ent} {μ:X→Nat} {m:Nat} (x:X) (hI:I x) (hm:μ x<m) (hn:n = { n0 with ds:=(D x).map mark }) (hE:SubE E (Ef x)) (hB:∀ w L,St S w0 w L→St S1 w1 w L) (hL:∀ w,St S w0 w L→St S w0 w (Lf x)) (hW:∀ w,St S w0 w L→W x w) :
    JX n S w0 (RoundM n0 D S1 w1 I W Ef Lf μ m Q) .normal E L:=fun _ w hR hS=>⟨x,hI,hW w hS,hm,by have:=hR.sub hE;rw [← hn];exact this,hB w _ (hL w hS)⟩
theorem JX_roundM_exit {X:Type} {n0:Dim} {D:X→List Nat} {S1:List Nat} {w1:World} {I:X→Prop} {W:X→World→Prop} {Ef:X→Env} {Lf:X→List Ent} {μ:X→Nat} {m id:Nat} (h:JX n S w0 Q (.exit id) E L):JX n S w0 (RoundM n0 D S1 w1 I W Ef Lf μ m Q) (.exit id) E L:=h
def NP (Q:Post):Post:=fun e a w=>match e with
  | .panic _=>False
  | e=>Q e a w
theorem NP.of {Q:Post} (e:Exit) (a:Act) (w:World) (h:NP Q e a w):Q e a w:=by
  cases e <;> first | exact h | exact h.elim
theorem leaves_marksW {fn:Func} {tmps:Array Value} {S1:List Nat} {w1:World} {φ:Value→List Ent→World→Prop} {v:Value} (L1 L':List Ent) (hφ:∀ w,St S w0 w L1→φ v L' w) (hL:∀ w,St S w0 w L1→St S w0 w L') (hB:∀ w L,St S w0 w L→St S1 w1 w L) :
    ∀ (Ds:List Nat) (w:World),St S w0 w (Ds.map dfr++L1)→(∀ w,St S w0 w L1→(results fn tmps).run P w = .ok v w)→LeavesInM Fence.wide 0 P fn tmps (GivesW S1 w1 φ) (Ds.map mark) .returning w
  | [],w,hS,hr=>⟨v,hr w hS,v,L',rfl,hφ w hS,hB _ _ (hL _ hS)⟩
  | D::Ds,w,hS,hr=>by
    refine ⟨by simp,.inl ⟨D,_,rfl,run_takeDeferred (obj_at (hS.hold _ List.mem_cons_self)),?_⟩⟩
    exact leaves_marksW L1 L' hφ hL hB Ds _ (hS.putObj (b:=D) (.deferred none)).tail hr
theorem JX_retsMW {fn:Func} {rs:List ResultVar} {S1:List Nat} {w1:World} {φ:Value→List Ent→World→Prop} (Ds:List Nat) (vs:List Value) (v:Value) (hd:n.ds=Ds.map mark) (hr:fn.results=rs.toArray) (L1:List Ent) (h1:∀ w,St S w0 w L→St S w0 w (Ds.map dfr++L1)) (hv:∀ w,St S w0 w L1→resAll P E w rs vs)
    (hvv:v=(if h:vs.length=1 then vs[0] else .tuple vs.toArray)) (L':List Ent) (hL:∀ w,St S w0 w L1→St S w0 w L') (hB:∀ w L,St S w0 w L→St S1 w1 w L) (hφ:∀ w,St S w0 w L1→φ v L' w) :
    JX n S w0 (NP (bodyPostM Fence.wide 0 P fn (GivesW S1 w1 φ))) .ret E L:=by
  intro a w hR hS
  show LeavesInM Fence.wide 0 P fn a.tmps (GivesW S1 w1 φ) a.defers .returning w
  rw [hR.defers,hd]
  refine leaves_marksW L1 L' hφ hL hB Ds w (h1 w hS) (fun w2 hS2=>?_)
  have hR0:Rep { n with ds:=[] } E { a with defers:=[] }:=⟨rfl,hR.size,hR.val⟩
  have h0:=JX_rets (P:=P) (n:={ n with ds:=[] }) (S:=S) (w0:=w0) (E:=E) (L:=L1) (fn:=fn) (φ:=fun u L2=>u=v) vs v hr hv hvv L1 (fun _ h=>h) rfl rfl _ w2 hR0 hS2
  obtain ⟨_,u,hu,u2,L2,he,hp,_⟩:=h0
  cases he
  subst hp
  exact hu
theorem JX_retsMG {fn:Func} {rs:List ResultVar} {S1:List Nat} {w1:World} {φ:Value→List Ent→Prop} (Ds:List Nat) (vs:List Value) (v:Value) (hd:n.ds=Ds.map mark) (hr:fn.results=rs.toArray) (L1:List Ent) (h1:∀ w,St S w0 w L→St S w0 w (Ds.map dfr++L1)) (hv:∀ w,St S w0 w L1→resAll P E w rs vs)
    (hvv:v=(if h:vs.length=1 then vs[0] else .tuple vs.toArray)) (L':List Ent) (hL:∀ w,St S w0 w L1→St S w0 w L') (hB:∀ w L,St S w0 w L→St S1 w1 w L) (hφ:φ v L') :
    JX n S w0 (NP (bodyPostM Fence.wide 0 P fn (Gives S1 w1 φ))) .ret E L:=JX_retsMW (φ:=fun v L _=>φ v L) Ds vs v hd hr L1 h1 hv hvv L' hL hB (fun _ _=>hφ)
theorem calls_JNW {f:FuncId} {fn:Func} {c:Code} {args:Array Value} {w:World} {φ:Value→List Ent→World→Prop} {L0:List Ent} (S:List Nat) (n:Nat)
    (hf:P.funcs[f]? = some fn) (hb:fn.body=some c) (hm:fn.ntmps=n) (E:Env) (hE:E=envOf 0 args.toList) (hn:Nat.ble args.size n=true)
    (hg:Give S w L0) (h:J P { sz:=n } S w c (NP (bodyPostM Fence.wide 0 P fn (GivesW S w φ))) E L0):Calls P f args w (GivesW S w φ):=by
  subst hm
  have hn:=Nat.le_of_ble_eq_true hn
  refine (callsIn_wide (n:=0)).1 (callsIn_of_wp_marks (F:=Fence.wide) hf hb trivial (wpIn_mono (h _ w ⟨rfl,?_,?_⟩ hg.start) NP.of) rfl)
  · simp;omega
  · intro t v hv
    rw [hE] at hv
    have h1:args[t]? = some v:=by have:=(get_envOf _ _ _ _ hv).2;simpa using this
    obtain ⟨hlt,h2⟩:=Array.getElem?_eq_some_iff.1 h1
    simp only [Array.getD_eq_getD_getElem?]
    rw [Array.getElem?_append_left hlt,h1]
    rfl
theorem calls_JNG {f:FuncId} {fn:Func} {c:Code} {args:Array Value} {w:World} {φ:Value→List Ent→Prop} {L0:List Ent} (S:List Nat) (n:Nat)
    (hf:P.funcs[f]? = some fn) (hb:fn.body=some c) (hm:fn.ntmps=n) (E:Env) (hE:E=envOf 0 args.toList) (hn:Nat.ble args.size n=true)
    (hg:Give S w L0) (h:J P { sz:=n } S w c (NP (bodyPostM Fence.wide 0 P fn (Gives S w φ))) E L0):Calls P f args w (Gives S w φ):=calls_JNW (φ:=fun v L _=>φ v L) S n hf hb hm E hE hn hg h
theorem JX_roundA_ret {X:Type} {S1:List Nat} {w1:World} {I:X→Prop} {Ef:X→Env} {Lf:X→List Ent} {μ:X→Nat} {m:Nat} (h:JX n S w0 Q .ret E L):JX n S w0 (Round n S1 w1 I Ef Lf μ m Q) .ret E L:=h
theorem ps_ {ps:List Tmp} {m:Nat} (h:(ps.all fun p=>Nat.blt p m)=true):∀ p∈ps,p<m:=fun p hp=>by
  have:=List.all_eq_true.1 h p hp
  rwa [Nat.blt_eq] at this
theorem sl_ {A:Option Addr} {n m n' m':Nat} (h1:n=n') (h2:m=m'):some (Value.slice A n m)=some (Value.slice A n' m'):=by subst h1;subst h2;rfl
theorem mark_tail (k:Nat) {M G:List Ent} {D:Nat} {Ds:List Nat} (h:St S w0 w (dfr D::M)) (hM:M.drop k=G++Ds.map dfr):St S w0 w (M.take k++(G++(D::Ds).map dfr)):=by
  refine h.perm ?_
  rw [List.map_cons]
  have e:(M.take k++(G++dfr D::Ds.map dfr)).Perm (dfr D::(M.take k++(G++Ds.map dfr))):=by
    rw [← List.append_assoc,← List.append_assoc];exact List.perm_middle
  refine List.Perm.trans ?_ e.symm
  rw [← hM,List.take_append_drop]
theorem drop_seg (k:Nat) {M G T:List Ent} (h:St S w0 w M) (hM:M.drop k=G++T):St S w0 w (M.take k++T):=by
  refine h.sublist ?_
  conv=>rhs;rw [← List.take_append_drop k M,hM]
  exact (List.Sublist.refl _).append (List.sublist_append_right _ _)
theorem split_last (k:Nat) {M G T:List Ent} {e:Ent} (h:St S w0 w (e::M)) (hM:M.drop k=G++T):St S w0 w ((M.take k++T)++(e::G)):=by
  refine h.perm ?_
  refine List.Perm.trans ?_ List.perm_middle.symm
  refine List.Perm.cons _ ?_
  rw [List.append_assoc]
  conv=>lhs;rw [← List.take_append_drop k M,hM]
  exact List.Perm.append_left _ List.perm_append_comm
theorem lown_rangeF {w00:World} (hS:St S w0 w L) (h0:w00.heap.size≤w.heap.size):∀ b∈Lown L++List.range w00.heap.size,b∈List.range w.heap.size:=fun b hb=>by
  rcases List.mem_append.1 hb with h | h
  · exact lown_range hS b h
  · exact List.mem_range.2 (Nat.lt_of_lt_of_le (List.mem_range.1 h) h0)
theorem tail_front (k:Nat) {M:List Ent} {Ds:List Nat} (h:St S w0 w M) (hM:M.drop k=Ds.map dfr):St S w0 w (Ds.map dfr++M.take k):=by
  refine h.perm ?_
  rw [← hM]
  conv=>lhs;rw [← List.take_append_drop k M]
  exact List.perm_append_comm
theorem it_done {X α:Type} {S:List Nat} {w:World} {f:FuncId} {args:Array Value} {xs:List α} {I:List α→X→Prop} {Lf:List α→X→List Ent} (h:Calls P f args w (Gives S w fun v L=>∃ st:X,v=Value.tuple #[]∧L=Lf xs st∧I xs st)) :
    Calls P f args w fun e w'=>(∃ v,e = .returned v) ∧ ∃ st,I xs st∧St S w w' (Lf xs st):=by
  refine h.mono ?_
  rintro e w' ⟨v,L,rfl,⟨st,_,rfl,hI⟩,hS⟩
  exact ⟨⟨v,rfl⟩,st,hI,hS⟩
theorem x_subrow3 {x:Operand} {dst:Option Nat} {t ty e:TypeId} {pos:String} {af:Array Edge} {g:Option (Nat × Bool)} {A:Option Addr} {len cap sz lo hi mx:Nat} {olo ohi omx:Operand} (hx:ev E x = .slice A len cap) (ht:P.underlying t=some (.slice e)) (hn:sizeIs P e=some sz) (hlo:ev E olo=vI (lo:Int)) (hhi:ev E ohi=vI (hi:Int)) (hmx:ev E omx=vI (mx:Int))
    (h1:lo≤hi) (h2:hi≤mx) (h3:mx≤cap):(execOp (ev E) ⟨dst,.slice t x (some olo) (some ohi) (some omx),ty,pos,af,g⟩).run P w = .ok (.value (.slice (subA A mx lo sz) (hi-lo) (mx-lo))) w:=by
  have e1:(0:Int)≤(hi:Int)∧(hi:Int)≤((mx:Nat):Int):=by omega
  have e2:(0:Int)≤(lo:Int)∧(lo:Int)≤((hi:Nat):Int):=by omega
  have e3:(0:Int)≤(mx:Int)∧(mx:Int)≤((cap:Nat):Int):=by omega
  have hr:(Instr.sliceAt t (.slice A len cap) (some (vI (lo:Int))) (some (vI (hi:Int))) (some (vI (mx:Int)))).run P w = .ok (.slice (subA A mx lo sz) (hi-lo) (mx-lo)) w:=by
    simp only [Instr.sliceAt,Instr.slice,Instr.sliceBounds,Instr.sliceBound,asIntOf,run_underlying ht,run_sizeOf_is hn,Sem.run_bind,Sem.run_pure,Result.andThen_ok,if_pos e1,if_pos e2,if_pos e3,Int.toNat_natCast];rfl
  simp only [execOp,hx,Option.map_some,hlo,hhi,hmx]
  show Sem.run P (do let v ← Instr.sliceAt t (.slice A len cap) (some (vI (lo:Int))) (some (vI (hi:Int))) (some (vI (mx:Int)));pure (Next.value v)) w=_
  rw [Sem.run_bind,hr];rfl
end
end Go.GV
namespace Go.Proofs.YtggobegaiijhhaaGreatDoor
namespace R44
open Go.Lib
def vN (s:List UInt8):Nat:=s.foldl (fun n c=>10*n+(c.toNat-48)) 0
def isD (c:UInt8):Bool:=decide (48≤c.toNat)&&decide (c.toNat≤57)
def numV (s:List UInt8):Option Nat:=if (s.length≤4∧s.all isD=true)∧decDigits (vN s)=s then some (vN s) else none
theorem dig_nat {k:Nat} (h:k<10):(UInt8.ofNat (48+k)).toNat=48+k:=by simp;omega
theorem dec_small {n:Nat} (h:n<10):decDigits n=[UInt8.ofNat (48+n)]:=by rw [decDigits,dif_pos h]
theorem dec_big {n:Nat} (h:¬ n<10):decDigits n=decDigits (n / 10)++[UInt8.ofNat (48+n % 10)]:=by rw [decDigits,dif_neg h]
theorem dec_val (n:Nat):vN (decDigits n)=n:=by
  induction n using Nat.strongRecOn with
  | _ n ih =>
    by_cases h:n<10
    · rw [dec_small h];unfold vN;simp only [List.foldl_cons,List.foldl_nil];rw [dig_nat h];omega
    · rw [dec_big h]
      have:=ih (n / 10) (by omega)
      unfold vN at *
      rw [List.foldl_append,this]
      simp only [List.foldl_cons,List.foldl_nil]
      rw [dig_nat (by omega)];omega
theorem dec_all (n:Nat):(decDigits n).all isD=true:=by
  induction n using Nat.strongRecOn with
  | _ n ih =>
    by_cases h:n<10
    · rw [dec_small h];simp [isD];omega
    · rw [dec_big h,List.all_append,ih (n / 10) (by omega)];simp [isD];omega
theorem dec_ne (n:Nat):decDigits n≠[]:=by
  by_cases h:n<10
  · rw [dec_small h];exact List.cons_ne_nil _ _
  · rw [dec_big h];simp
theorem dec_len_aux:∀ (k n:Nat),n<10 ^ (k+1)→(decDigits n).length≤k+1
  | 0,n,h=>by rw [dec_small (by simpa using h)];exact Nat.le_refl _
  | k+1,n,h=>by
    by_cases h2:n<10
    · rw [dec_small h2];simp
    · rw [dec_big h2,List.length_append]
      have:=dec_len_aux k (n / 10) (by rw [Nat.pow_succ] at h;omega)
      simp;omega
theorem dec_len4 {n:Nat} (h:n≤9999):(decDigits n).length≤4:=dec_len_aux 3 n (by omega)
theorem dec_len19 {n:Nat} (h:n≤9223372036854775807):(decDigits n).length≤19:=dec_len_aux 18 _ (by omega)
theorem vN_bound:∀ (s:List UInt8) (a k:Nat),s.all isD=true→a<10 ^ k→s.foldl (fun n c=>10*n+(c.toNat-48)) a<10 ^ (k+s.length)
  | [],a,k,_,h=>h
  | c::r,a,k,hd,h=>by
    rw [List.all_cons,Bool.and_eq_true] at hd
    have hc:=hd.1
    unfold isD at hc
    simp only [Bool.and_eq_true,decide_eq_true_eq] at hc
    have:=vN_bound r (10*a+(c.toNat-48)) (k+1) hd.2 (by rw [Nat.pow_succ];omega)
    rw [List.foldl_cons,List.length_cons]
    rwa [show k+1+r.length=k+(r.length+1) by omega] at this
theorem numV_dec {n:Nat} (h:n≤9999):numV (decDigits n)=some n:=by
  unfold numV
  rw [dec_val,if_pos ⟨⟨dec_len4 h,dec_all n⟩,rfl⟩]
theorem numV_some {s:List UInt8} {n:Nat} (h:numV s=some n):n≤9999∧s=decDigits n:=by
  unfold numV at h
  split at h
  · rename_i h1
    cases h
    have:=vN_bound s 0 0 h1.1.2 (by decide)
    have h2:10 ^ (0+s.length)≤10 ^ 4:=Nat.pow_le_pow_right (by decide) (by omega)
    refine ⟨?_,h1.2.symm⟩
    unfold vN;omega
  · cases h
theorem parse_digits:∀ (s:List UInt8) (a:Nat),s.all isD=true→a<10000→s.foldl (fun n c=>10*n+(c.toNat-48)) a<100000→parseUint10 a s = .ok (s.foldl (fun n c=>10*n+(c.toNat-48)) a)
  | [],a,_,_,_=>rfl
  | c::r,a,hd,ha,hb=>by
    rw [List.all_cons,Bool.and_eq_true] at hd
    have hc:=hd.1
    unfold isD at hc
    simp only [Bool.and_eq_true,decide_eq_true_eq] at hc
    rw [List.foldl_cons] at hb ⊢
    have hge:∀ (l:List UInt8) (x:Nat),x≤l.foldl (fun n c=>10*n+(c.toNat-48)) x:=by
      intro l
      induction l with
      | nil=>intro x;exact Nat.le_refl _
      | cons d l ih=>intro x;rw [List.foldl_cons];have:=ih (10*x+(d.toNat-48));omega
    have h1:=hge r (10*a+(c.toNat-48))
    rw [parseUint10,if_pos hc,if_neg (by omega),if_neg (by omega),Nat.mul_comm a 10]
    by_cases hs:10*a+(c.toNat-48)<10000
    · exact parse_digits r _ hd.2 hs hb
    · cases r with
      | nil=>rfl
      | cons d r =>
        exfalso
        have h2:=hge r (10*(10*a+(c.toNat-48))+(d.toNat-48))
        rw [List.foldl_cons] at hb
        omega
theorem atoi_dec {n:Nat} (h:n≤9999):atoiAll (decDigits n) = .ok (n:Int):=by
  have hp:parseMag (decDigits n) = .ok n:=by
    unfold parseMag
    rw [if_neg (dec_ne n)]
    have hv:=dec_val n
    unfold vN at hv
    rw [parse_digits _ 0 (dec_all n) (by decide) (by rw [hv];omega),hv]
  cases hd:decDigits n with
  | nil=>exact absurd hd (dec_ne n)
  | cons c r =>
    have ha:=dec_all n
    rw [hd,List.all_cons,Bool.and_eq_true] at ha
    have hc:=ha.1
    unfold isD at hc
    simp only [Bool.and_eq_true,decide_eq_true_eq] at hc
    rw [atoiAll_plain c r (by omega) (by omega),← hd,hp]
    unfold signless
    simp only
    rw [if_neg (by omega)]
def AtoiJ (s:List UInt8) (n:Int) (er:Bool):Prop:=(er=true→atoiAll s = .ok n)∧(er=false → ∀ v,atoiAll s ≠ .ok v) ∧ -9223372036854775808≤n∧n≤9223372036854775807
def SmallJ (s:List UInt8) (n:Int) (ok:Bool):Prop:=(ok=true→numV s=some n.toNat∧0≤n∧n≤9999)∧(ok=false→numV s=none)
theorem small_of {s:List UInt8} {n:Int} {er:Bool} (h:AtoiJ s n er):SmallJ s n (((er&&decide (0≤n))&&decide (n≤9999))&&decide (decDigits n.toNat=s)):=by
  refine ⟨fun hk=>?_,fun hk=>?_⟩
  · simp only [Bool.and_eq_true,decide_eq_true_eq] at hk
    obtain ⟨⟨⟨_,h0⟩,h9⟩,he⟩:=hk
    rw [← he,numV_dec (by omega)]
    exact ⟨rfl,h0,h9⟩
  · cases hn:numV s with
    | none=>rfl
    | some m =>
      exfalso
      obtain ⟨hm,hs⟩:=numV_some hn
      have ha:=atoi_dec hm
      rw [← hs] at ha
      cases her:er with
      | false=>exact h.2.1 her _ ha
      | true =>
        have:=h.1 her
        rw [ha] at this
        injection this with this
        subst this
        rw [her] at hk
        have e:decDigits (((m:Nat):Int)).toNat=s:=by rw [Int.toNat_natCast];exact hs.symm
        have e1:decide (0≤((m:Nat):Int))=true:=decide_eq_true (by omega)
        have e2:decide (((m:Nat):Int)≤9999)=true:=decide_eq_true (by omega)
        have e3:decide (decDigits (((m:Nat):Int)).toNat=s)=true:=decide_eq_true e
        rw [e1,e2,e3] at hk
        cases hk
theorem atoi_bd {s:List UInt8} {n:Int} {er:Bool} (h:AtoiJ s n er) : -9223372036854775808≤n∧n≤9223372036854775807:=h.2.2
def restD (m:Nat):List UInt8:=if m=0 then [] else decDigits m
def DigJ (n m:Nat) (s:List UInt8):Prop:=(s=[]∧m=n)∨(s≠[]∧decDigits n=restD m++s)
theorem DigJ.start (n:Nat):DigJ n n []:=.inl ⟨rfl,rfl⟩
theorem dig_split {m:Nat} : decDigits m=restD (m / 10)++[UInt8.ofNat (48+m % 10)]:=by
  by_cases h:m<10
  · rw [dec_small h];unfold restD;rw [if_pos (by omega)];simp;congr 2;omega
  · rw [dec_big h];unfold restD;rw [if_neg (by omega)]
theorem DigJ.step {n m:Nat} {s:List UInt8} (h:DigJ n m s) (hc:0<m∨s=[]):DigJ n (m / 10) ([UInt8.ofNat (48+m % 10)]++s):=by
  refine .inr ⟨by simp,?_⟩
  rw [← List.append_assoc,← dig_split]
  rcases h with ⟨h1,h2⟩ | ⟨h1,h2⟩
  · rw [h1,h2,List.append_nil]
  · rw [h2]
    rcases hc with hc | hc
    · unfold restD;rw [if_neg (by omega)]
    · exact absurd hc h1
theorem DigJ.done {n m:Nat} {s:List UInt8} (h:DigJ n m s) (h0:m=0) (hs:s≠[]):s=decDigits n:=by
  rcases h with ⟨h1,_⟩ | ⟨_,h2⟩
  · exact absurd h1 hs
  · rw [h2,h0];rfl
end R44
end Go.Proofs.YtggobegaiijhhaaGreatDoor
namespace Go.Proofs.YtggobegaiijhhaaGreatDoor
open Go.GV
namespace R45
def cutB (b:UInt8):Bytes→Option (Bytes × Bytes)
  | []=>none
  | c::t=>if c=b then some ([],t) else (cutB b t).map fun p=>(c::p.1,p.2)
theorem cutB_le {b:UInt8} : ∀ {s a r:Bytes},cutB b s=some (a,r)→s=a++b::r
  | [],a,r,h=>by cases h
  | c::t,a,r,h=>by
    rw [cutB] at h;split at h
    · rename_i e;cases h;rw [e];rfl
    · cases hq:cutB b t with
      | none=>rw [hq] at h;cases h
      | some p =>
        rw [hq] at h;cases h
        rw [cutB_le (a:=p.1) (r:=p.2) hq];rfl
def IxJ (c:UInt8) (s:Bytes) (r:Int):Prop:=(r = -1∧c∉s∧cutB c s=none) ∨ ∃ k:Nat,r=k∧k<s.length∧c∉s.take k∧s.getD k 0=c∧cutB c s=some (s.take k,s.drop (k+1))
theorem ixb_lib (c:UInt8):∀ s:Bytes,IxJ c s (Lib.indexByte s c)
  | []=>.inl ⟨rfl,by simp,rfl⟩
  | b::l=>by
    rw [Lib.indexByte]
    by_cases h:b=c
    · subst h
      rw [if_pos (by simp)]
      exact .inr ⟨0,rfl,by simp,by simp,rfl,by rw [cutB,if_pos rfl];rfl⟩
    · rw [if_neg (by simpa using h)]
      rcases ixb_lib c l with ⟨h1,h2,h3⟩ | ⟨k,h1,h2,h3,h4,h5⟩
      · rw [if_pos (by rw [h1];rfl)]
        exact .inl ⟨rfl,by simp only [List.mem_cons,not_or];exact ⟨fun e=>h e.symm,h2⟩,by rw [cutB,if_neg h,h3];rfl⟩
      · rw [if_neg (by rw [h1];intro e;have:=beq_iff_eq.1 e;omega),h1]
        refine .inr ⟨k+1,rfl,by simp;omega,?_,h4,?_⟩
        · rw [List.take_succ_cons,List.mem_cons,not_or];exact ⟨fun e=>h e.symm,h3⟩
        · rw [cutB,if_neg h,h5];rfl
theorem cut_lib (c:UInt8) (s:Bytes):(cutB c s=none∧Lib.cut s [c]=(s,[],false)) ∨ ∃ a r,cutB c s=some (a,r)∧Lib.cut s [c]=(a,r,true):=by
  unfold Lib.cut
  rw [Lib.index_one]
  rcases ixb_lib c s with ⟨h1,_,h3⟩ | ⟨k,h1,h2,h3,h4,h5⟩
  · rw [h1];exact .inl ⟨h3,rfl⟩
  · rw [h1,if_pos (by omega)];exact .inr ⟨_,_,h5,rfl⟩
theorem cont_lib (c:UInt8) (s:Bytes):decide (0≤Lib.indexByte s c)=decide (c∈s):=by
  rcases ixb_lib c s with ⟨h1,h2,_⟩ | ⟨k,h1,h2,h3,h4,h5⟩
  · rw [h1];simp [h2]
  · rw [h1]
    have:c∈s:=by rw [← h4,List.getD_eq_getElem?_getD,List.getElem?_eq_getElem h2];exact List.getElem_mem h2
    simp [this]
end R45
end Go.Proofs.YtggobegaiijhhaaGreatDoor
