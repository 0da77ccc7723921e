/- GvF, GvM, GvR, GvW, GvT, GvN, GvI in one text. -/
import Derived.Test.YtggobegaiijhhaaGreatDoorRows
import Derived.Test.YtggobegaiijhhaaGreatDoorUtilityOnly3
import Derived.MapKept
import Derived.Laws.IdiomRangeMap
import Derived.Sort.Row
import Derived.Sort.Grow
import Derived.ChangeKeysEq
set_option linter.unusedVariables false
set_option linter.unusedSimpArgs false
namespace Go.Proofs.YtggobegaiijhhaaGreatDoor
open Go.GV Go.Proofs.Tryz
namespace Ty
theorem sc3:scal prog 3=true:=by kernel_rfl
theorem sz3:sizeIs prog 3=some 1:=by kernel_rfl
theorem ze3:zeroIs prog 3=some (vI 0):=by kernel_rfl
theorem sc4:scal prog 4=true:=by kernel_rfl
theorem sz4:sizeIs prog 4=some 1:=by kernel_rfl
theorem ze4:zeroIs prog 4=some (vB false):=by kernel_rfl
theorem sc5:scal prog 5=true:=by kernel_rfl
theorem sz5:sizeIs prog 5=some 1:=by kernel_rfl
theorem sc9:scal prog 9=true:=by kernel_rfl
theorem sz9:sizeIs prog 9=some 1:=by kernel_rfl
theorem by9:bytesIs prog 9=some 16:=by kernel_rfl
theorem ze9:zeroIs prog 9=some (vS []):=by kernel_rfl
theorem sc22:scal prog 22=true:=by kernel_rfl
theorem ag24:aggs prog 24=true:=by kernel_rfl
theorem sz24:sizeIs prog 24=some 21:=by kernel_rfl
theorem ze24:zeroIs prog 24=some (vG [vI 0,vI 0,vI 0,vI 0,vI 0,vI 0,vI 0,vI 0,vI 0,vI 0,vI 0,vI 0,vI 0,vI 0,vB false,vI 0,vS [],vS [],vI 0,vI 0,vB false]):=by kernel_rfl
theorem fi24_0:fieldIs prog 24 0=some (0,3):=by kernel_rfl
theorem fi24_1:fieldIs prog 24 1=some (1,3):=by kernel_rfl
theorem fi24_2:fieldIs prog 24 2=some (2,3):=by kernel_rfl
theorem fi24_3:fieldIs prog 24 3=some (3,3):=by kernel_rfl
theorem fi24_4:fieldIs prog 24 4=some (4,3):=by kernel_rfl
theorem fi24_5:fieldIs prog 24 5=some (5,3):=by kernel_rfl
theorem fi24_6:fieldIs prog 24 6=some (6,3):=by kernel_rfl
theorem fi24_7:fieldIs prog 24 7=some (7,3):=by kernel_rfl
theorem fi24_8:fieldIs prog 24 8=some (8,3):=by kernel_rfl
theorem fi24_9:fieldIs prog 24 9=some (9,3):=by kernel_rfl
theorem fi24_10:fieldIs prog 24 10=some (10,3):=by kernel_rfl
theorem sc25:scal prog 25=true:=by kernel_rfl
theorem sz25:sizeIs prog 25=some 1:=by kernel_rfl
theorem by25:bytesIs prog 25=some 24:=by kernel_rfl
theorem ze25:zeroIs prog 25=some (vL none 0 0):=by kernel_rfl
theorem fi27_0:fieldIs prog 27 0=some (0,9):=by kernel_rfl
theorem fi27_6:fieldIs prog 27 6=some (6,3):=by kernel_rfl
theorem fi27_12:fieldIs prog 27 12=some (32,4):=by kernel_rfl
theorem fi27_13:fieldIs prog 27 13=some (33,25):=by kernel_rfl
theorem fi27_14:fieldIs prog 27 14=some (34,4):=by kernel_rfl
theorem ag31:aggs prog 31=true:=by kernel_rfl
theorem sz31:sizeIs prog 31=some 33:=by kernel_rfl
theorem fi31_2:fieldIs prog 31 2=some (2,24):=by kernel_rfl
theorem ag33:aggs prog 33=true:=by kernel_rfl
theorem sz33:sizeIs prog 33=some 91:=by kernel_rfl
theorem ze33:zeroIs prog 33=some (vG [vS [],vS [],vB false,vI 0,vS [],vS [],vI 0,vI 0,vI 0,vI 0,vI 0,vI 0,vI 0,vI 0,vI 0,vI 0,vI 0,vI 0,vI 0,vI 0,vI 0,vI 0,vI 0,vB false,vI 0,vS [],vS [],vI 0,vI 0,vB false,vI 0,vI 0,vB false,vL none 0 0,vB false,vS [],vI 0,vS [],vI 0,vI 0,vI 0,vI 0,vI 0,vI 0,vI 0,vI 0,vI 0,vI 0,vI 0,vI 0,vI 0,vI 0,vB false,vI 0,vS [],vS [],vI 0,vI 0,vB false,vL none 0 0,vI 0,vI 0,vI 0,vB false,vS [],vS [],vI 0,vI 0,vL none 0 0,vB false,vI 0,vI 0,vI 0,vI 0,vI 0,vI 0,vI 0,vI 0,vI 0,vI 0,vI 0,vI 0,vI 0,vI 0,vB false,vI 0,vS [],vS [],vI 0,vI 0,vB false]):=by kernel_rfl
theorem fi33_0:fieldIs prog 33 0=some (0,27):=by kernel_rfl
theorem fi33_2:fieldIs prog 33 2=some (36,31):=by kernel_rfl
theorem fi33_3:fieldIs prog 33 3=some (69,4):=by kernel_rfl
theorem fi33_4:fieldIs prog 33 4=some (70,24):=by kernel_rfl
theorem sc38:scal prog 38=true:=by kernel_rfl
theorem sz38:sizeIs prog 38=some 1:=by kernel_rfl
theorem ze38:zeroIs prog 38=some (vI 0):=by kernel_rfl
theorem sc46:scal prog 46=true:=by kernel_rfl
theorem sz46:sizeIs prog 46=some 1:=by kernel_rfl
theorem ag48:aggs prog 48=true:=by kernel_rfl
theorem sz48:sizeIs prog 48=some 4:=by kernel_rfl
theorem ze48:zeroIs prog 48=some (vG [vI 0,vB false,vL none 0 0,vL none 0 0]):=by kernel_rfl
theorem fi48_0:fieldIs prog 48 0=some (0,3):=by kernel_rfl
theorem fi48_1:fieldIs prog 48 1=some (1,4):=by kernel_rfl
theorem fi48_2:fieldIs prog 48 2=some (2,46):=by kernel_rfl
theorem fi48_3:fieldIs prog 48 3=some (3,25):=by kernel_rfl
theorem fi52_0:fieldIs prog 52 0=some (0,22):=by kernel_rfl
theorem fi52_1:fieldIs prog 52 1=some (1,3):=by kernel_rfl
theorem fi52_3:fieldIs prog 52 3=some (3,3):=by kernel_rfl
theorem ag57:aggs prog 57=true:=by kernel_rfl
theorem sz57:sizeIs prog 57=some 3:=by kernel_rfl
theorem by57:bytesIs prog 57=some 40:=by kernel_rfl
theorem ze57:zeroIs prog 57=some (vG [vI 0,vS [],vS []]):=by kernel_rfl
theorem fi57_0:fieldIs prog 57 0=some (0,3):=by kernel_rfl
theorem fi57_1:fieldIs prog 57 1=some (1,9):=by kernel_rfl
theorem fi57_2:fieldIs prog 57 2=some (2,9):=by kernel_rfl
theorem ag60:aggs prog 60=true:=by kernel_rfl
theorem sz60:sizeIs prog 60=some 5:=by kernel_rfl
theorem by60:bytesIs prog 60=some 64:=by kernel_rfl
theorem ze60:zeroIs prog 60=some (vG [vI 0,vI 0,vS [],vS [],vS []]):=by kernel_rfl
theorem fi60_0:fieldIs prog 60 0=some (0,3):=by kernel_rfl
theorem fi60_1:fieldIs prog 60 1=some (1,3):=by kernel_rfl
theorem fi60_2:fieldIs prog 60 2=some (2,9):=by kernel_rfl
theorem fi60_3:fieldIs prog 60 3=some (3,9):=by kernel_rfl
theorem fi60_4:fieldIs prog 60 4=some (4,9):=by kernel_rfl
theorem sc71:scal prog 71=true:=by kernel_rfl
theorem sz77:sizeIs prog 77=some 2:=by kernel_rfl
theorem ze77:zeroIs prog 77=some (vG [vS [],vI 0]):=by kernel_rfl
theorem fi77_0:fieldIs prog 77 0=some (0,9):=by kernel_rfl
theorem fi77_1:fieldIs prog 77 1=some (1,38):=by kernel_rfl
theorem sc80:scal prog 80=true:=by kernel_rfl
theorem fi82_0:fieldIs prog 82 0=some (0,71):=by kernel_rfl
theorem fi82_1:fieldIs prog 82 1=some (1,9):=by kernel_rfl
theorem fi82_2:fieldIs prog 82 2=some (2,80):=by kernel_rfl
theorem fi82_3:fieldIs prog 82 3=some (3,48):=by kernel_rfl
theorem ze90:zeroIs prog 90=some (Value.nilFunc):=by kernel_rfl
theorem sc94:scal prog 94=true:=by kernel_rfl
theorem sz94:sizeIs prog 94=some 1:=by kernel_rfl
theorem ze94:zeroIs prog 94=some (Value.nilFunc):=by kernel_rfl
theorem sc95:scal prog 95=true:=by kernel_rfl
theorem ag97:aggs prog 97=true:=by kernel_rfl
theorem sz97:sizeIs prog 97=some 3:=by kernel_rfl
theorem ze97:zeroIs prog 97=some (vG [vL none 0 0,Value.nilFunc,Value.nilFunc]):=by kernel_rfl
theorem fi97_0:fieldIs prog 97 0=some (0,25):=by kernel_rfl
theorem fi97_1:fieldIs prog 97 1=some (1,94):=by kernel_rfl
theorem fi97_2:fieldIs prog 97 2=some (2,95):=by kernel_rfl
theorem sc102:scal prog 102=true:=by kernel_rfl
theorem sz102:sizeIs prog 102=some 1:=by kernel_rfl
theorem ze102:zeroIs prog 102=some (vL none 0 0):=by kernel_rfl
theorem sc138:scal prog 138=true:=by kernel_rfl
theorem sz138:sizeIs prog 138=some 1:=by kernel_rfl
theorem ze138:zeroIs prog 138=some (vL none 0 0):=by kernel_rfl
theorem ag145:aggs prog 145=true:=by kernel_rfl
theorem sz145:sizeIs prog 145=some 2:=by kernel_rfl
theorem ze145:zeroIs prog 145=some (vG [vI 0,vI 0]):=by kernel_rfl
theorem fi145_0:fieldIs prog 145 0=some (0,3):=by kernel_rfl
theorem fi145_1:fieldIs prog 145 1=some (1,3):=by kernel_rfl
theorem ag149:aggs prog 149=true:=by kernel_rfl
theorem sz149:sizeIs prog 149=some 3:=by kernel_rfl
theorem ze149:zeroIs prog 149=some (vG [vI 0,vI 0,vI 0]):=by kernel_rfl
theorem fi149_0:fieldIs prog 149 0=some (0,3):=by kernel_rfl
theorem fi149_1:fieldIs prog 149 1=some (1,3):=by kernel_rfl
theorem fi149_2:fieldIs prog 149 2=some (2,3):=by kernel_rfl
theorem sc152:scal prog 152=true:=by kernel_rfl
theorem sc153:scal prog 153=true:=by kernel_rfl
theorem fi155_0:fieldIs prog 155 0=some (0,152):=by kernel_rfl
theorem fi155_1:fieldIs prog 155 1=some (1,153):=by kernel_rfl
theorem ze175:zeroIs prog 175=some (vG [vU8 0,vU8 0,vU8 0,vU8 0,vU8 0,vU8 0,vU8 0,vU8 0]):=by kernel_rfl
theorem ag179:aggs prog 179=true:=by kernel_rfl
theorem sz179:sizeIs prog 179=some 4:=by kernel_rfl
theorem by179:bytesIs prog 179=some 32:=by kernel_rfl
theorem ze179:zeroIs prog 179=some (vG [vI 0,vI 0,vI 0,vB false]):=by kernel_rfl
theorem fi179_0:fieldIs prog 179 0=some (0,3):=by kernel_rfl
theorem fi179_1:fieldIs prog 179 1=some (1,3):=by kernel_rfl
theorem fi179_2:fieldIs prog 179 2=some (2,3):=by kernel_rfl
theorem fi179_3:fieldIs prog 179 3=some (3,4):=by kernel_rfl
theorem ag207:aggs prog 207=true:=by kernel_rfl
theorem sz207:sizeIs prog 207=some 3:=by kernel_rfl
theorem ze207:zeroIs prog 207=some (vG [vI 0,vI 0,vI 0]):=by kernel_rfl
theorem sc216:scal prog 216=true:=by kernel_rfl
theorem fi218_0:fieldIs prog 218 0=some (0,138):=by kernel_rfl
theorem sc219:scal prog 219=true:=by kernel_rfl
theorem sz219:sizeIs prog 219=some 1:=by kernel_rfl
theorem fi221_0:fieldIs prog 221 0=some (0,219):=by kernel_rfl
theorem fi221_1:fieldIs prog 221 1=some (1,216):=by kernel_rfl
theorem ag224:aggs prog 224=true:=by kernel_rfl
theorem sz224:sizeIs prog 224=some 3:=by kernel_rfl
theorem by224:bytesIs prog 224=some 32:=by kernel_rfl
theorem ze224:zeroIs prog 224=some (vG [vI 0,vI 0,vS []]):=by kernel_rfl
theorem fi224_0:fieldIs prog 224 0=some (0,3):=by kernel_rfl
theorem fi224_1:fieldIs prog 224 1=some (1,3):=by kernel_rfl
theorem fi224_2:fieldIs prog 224 2=some (2,9):=by kernel_rfl
theorem ca8:Callable prog 8:=⟨f8,func8,by kernel_rfl,by kernel_rfl⟩
theorem ca9:Callable prog 9:=⟨f9,func9,by kernel_rfl,by kernel_rfl⟩
theorem ca10:Callable prog 10:=⟨f10,func10,by kernel_rfl,by kernel_rfl⟩
theorem ca11:Callable prog 11:=⟨f11,func11,by kernel_rfl,by kernel_rfl⟩
theorem ca12:Callable prog 12:=⟨f12,func12,by kernel_rfl,by kernel_rfl⟩
theorem ca15:Callable prog 15:=⟨f15,func15,by kernel_rfl,by kernel_rfl⟩
theorem ca17:Callable prog 17:=⟨f17,func17,by kernel_rfl,by kernel_rfl⟩
theorem ca18:Callable prog 18:=⟨f18,func18,by kernel_rfl,by kernel_rfl⟩
theorem ca19:Callable prog 19:=⟨f19,func19,by kernel_rfl,by kernel_rfl⟩
theorem ca20:Callable prog 20:=⟨f20,func20,by kernel_rfl,by kernel_rfl⟩
theorem ca22:Callable prog 22:=⟨f22,func22,by kernel_rfl,by kernel_rfl⟩
theorem ca23:Callable prog 23:=⟨f23,func23,by kernel_rfl,by kernel_rfl⟩
theorem ca24:Callable prog 24:=⟨f24,func24,by kernel_rfl,by kernel_rfl⟩
theorem ca26:Callable prog 26:=⟨f26,func26,by kernel_rfl,by kernel_rfl⟩
theorem ca27:Callable prog 27:=⟨f27,func27,by kernel_rfl,by kernel_rfl⟩
theorem ca30:Callable prog 30:=⟨f30,func30,by kernel_rfl,by kernel_rfl⟩
theorem ca31:Callable prog 31:=⟨f31,func31,by kernel_rfl,by kernel_rfl⟩
theorem ca32:Callable prog 32:=⟨f32,func32,by kernel_rfl,by kernel_rfl⟩
theorem ca33:Callable prog 33:=⟨f33,func33,by kernel_rfl,by kernel_rfl⟩
theorem ca34:Callable prog 34:=⟨f34,func34,by kernel_rfl,by kernel_rfl⟩
theorem ca35:Callable prog 35:=⟨f35,func35,by kernel_rfl,by kernel_rfl⟩
theorem ca36:Callable prog 36:=⟨f36,func36,by kernel_rfl,by kernel_rfl⟩
theorem ca37:Callable prog 37:=⟨f37,func37,by kernel_rfl,by kernel_rfl⟩
theorem ca40:Callable prog 40:=⟨f40,func40,by kernel_rfl,by kernel_rfl⟩
theorem ca43:Callable prog 43:=⟨f43,func43,by kernel_rfl,by kernel_rfl⟩
theorem ca44:Callable prog 44:=⟨f44,func44,by kernel_rfl,by kernel_rfl⟩
theorem ca45:Callable prog 45:=⟨f45,func45,by kernel_rfl,by kernel_rfl⟩
theorem ca46:Callable prog 46:=⟨f46,func46,by kernel_rfl,by kernel_rfl⟩
theorem ca47:Callable prog 47:=⟨f47,func47,by kernel_rfl,by kernel_rfl⟩
theorem ca48:Callable prog 48:=⟨f48,func48,by kernel_rfl,by kernel_rfl⟩
theorem ca49:Callable prog 49:=⟨f49,func49,by kernel_rfl,by kernel_rfl⟩
theorem ca50:Callable prog 50:=⟨f50,func50,by kernel_rfl,by kernel_rfl⟩
theorem ca51:Callable prog 51:=⟨f51,func51,by kernel_rfl,by kernel_rfl⟩
theorem ca52:Callable prog 52:=⟨f52,func52,by kernel_rfl,by kernel_rfl⟩
theorem ca53:Callable prog 53:=⟨f53,func53,by kernel_rfl,by kernel_rfl⟩
theorem ca54:Callable prog 54:=⟨f54,func54,by kernel_rfl,by kernel_rfl⟩
theorem ca55:Callable prog 55:=⟨f55,func55,by kernel_rfl,by kernel_rfl⟩
theorem ca56:Callable prog 56:=⟨f56,func56,by kernel_rfl,by kernel_rfl⟩
theorem ca57:Callable prog 57:=⟨f57,func57,by kernel_rfl,by kernel_rfl⟩
theorem ca58:Callable prog 58:=⟨f58,func58,by kernel_rfl,by kernel_rfl⟩
theorem ca59:Callable prog 59:=⟨f59,func59,by kernel_rfl,by kernel_rfl⟩
theorem ca60:Callable prog 60:=⟨f60,func60,by kernel_rfl,by kernel_rfl⟩
theorem ca61:Callable prog 61:=⟨f61,func61,by kernel_rfl,by kernel_rfl⟩
theorem ca62:Callable prog 62:=⟨f62,func62,by kernel_rfl,by kernel_rfl⟩
theorem ca63:Callable prog 63:=⟨f63,func63,by kernel_rfl,by kernel_rfl⟩
theorem ca64:Callable prog 64:=⟨f64,func64,by kernel_rfl,by kernel_rfl⟩
theorem ca65:Callable prog 65:=⟨f65,func65,by kernel_rfl,by kernel_rfl⟩
theorem ca66:Callable prog 66:=⟨f66,func66,by kernel_rfl,by kernel_rfl⟩
theorem ca67:Callable prog 67:=⟨f67,func67,by kernel_rfl,by kernel_rfl⟩
theorem ca68:Callable prog 68:=⟨f68,func68,by kernel_rfl,by kernel_rfl⟩
theorem ca69:Callable prog 69:=⟨f69,func69,by kernel_rfl,by kernel_rfl⟩
theorem ca70:Callable prog 70:=⟨f70,func70,by kernel_rfl,by kernel_rfl⟩
theorem ca79:Callable prog 79:=⟨f79,func79,by kernel_rfl,by kernel_rfl⟩
theorem ca82:Callable prog 82:=⟨f82,func82,by kernel_rfl,by kernel_rfl⟩
theorem ca83:Callable prog 83:=⟨f83,func83,by kernel_rfl,by kernel_rfl⟩
theorem ca84:Callable prog 84:=⟨f84,func84,by kernel_rfl,by kernel_rfl⟩
theorem ca85:Callable prog 85:=⟨f85,func85,by kernel_rfl,by kernel_rfl⟩
theorem ca86:Callable prog 86:=⟨f86,func86,by kernel_rfl,by kernel_rfl⟩
theorem ca87:Callable prog 87:=⟨f87,func87,by kernel_rfl,by kernel_rfl⟩
theorem ca88:Callable prog 88:=⟨f88,func88,by kernel_rfl,by kernel_rfl⟩
theorem ca89:Callable prog 89:=⟨f89,func89,by kernel_rfl,by kernel_rfl⟩
theorem ca90:Callable prog 90:=⟨f90,func90,by kernel_rfl,by kernel_rfl⟩
theorem ca91:Callable prog 91:=⟨f91,func91,by kernel_rfl,by kernel_rfl⟩
theorem ca92:Callable prog 92:=⟨f92,func92,by kernel_rfl,by kernel_rfl⟩
theorem ca93:Callable prog 93:=⟨f93,func93,by kernel_rfl,by kernel_rfl⟩
theorem ca94:Callable prog 94:=⟨f94,func94,by kernel_rfl,by kernel_rfl⟩
theorem ca95:Callable prog 95:=⟨f95,func95,by kernel_rfl,by kernel_rfl⟩
theorem ca96:Callable prog 96:=⟨f96,func96,by kernel_rfl,by kernel_rfl⟩
theorem ca97:Callable prog 97:=⟨f97,func97,by kernel_rfl,by kernel_rfl⟩
theorem ca98:Callable prog 98:=⟨f98,func98,by kernel_rfl,by kernel_rfl⟩
theorem ca99:Callable prog 99:=⟨f99,func99,by kernel_rfl,by kernel_rfl⟩
theorem ca100:Callable prog 100:=⟨f100,func100,by kernel_rfl,by kernel_rfl⟩
theorem ca101:Callable prog 101:=⟨f101,func101,by kernel_rfl,by kernel_rfl⟩
theorem ca102:Callable prog 102:=⟨f102,func102,by kernel_rfl,by kernel_rfl⟩
theorem ca103:Callable prog 103:=⟨f103,func103,by kernel_rfl,by kernel_rfl⟩
theorem ca104:Callable prog 104:=⟨f104,func104,by kernel_rfl,by kernel_rfl⟩
theorem ca105:Callable prog 105:=⟨f105,func105,by kernel_rfl,by kernel_rfl⟩
theorem ca106:Callable prog 106:=⟨f106,func106,by kernel_rfl,by kernel_rfl⟩
theorem ca107:Callable prog 107:=⟨f107,func107,by kernel_rfl,by kernel_rfl⟩
theorem ca108:Callable prog 108:=⟨f108,func108,by kernel_rfl,by kernel_rfl⟩
theorem ca128:Callable prog 128:=⟨f128,func128,by kernel_rfl,by kernel_rfl⟩
theorem ca129:Callable prog 129:=⟨f129,func129,by kernel_rfl,by kernel_rfl⟩
theorem ca130:Callable prog 130:=⟨f130,func130,by kernel_rfl,by kernel_rfl⟩
theorem ca132:Callable prog 132:=⟨f132,func132,by kernel_rfl,by kernel_rfl⟩
theorem ca133:Callable prog 133:=⟨f133,func133,by kernel_rfl,by kernel_rfl⟩
theorem ca134:Callable prog 134:=⟨f134,func134,by kernel_rfl,by kernel_rfl⟩
theorem ca135:Callable prog 135:=⟨f135,func135,by kernel_rfl,by kernel_rfl⟩
theorem ca136:Callable prog 136:=⟨f136,func136,by kernel_rfl,by kernel_rfl⟩
theorem ca137:Callable prog 137:=⟨f137,func137,by kernel_rfl,by kernel_rfl⟩
theorem ca138:Callable prog 138:=⟨f138,func138,by kernel_rfl,by kernel_rfl⟩
theorem ca139:Callable prog 139:=⟨f139,func139,by kernel_rfl,by kernel_rfl⟩
theorem ca140:Callable prog 140:=⟨f140,func140,by kernel_rfl,by kernel_rfl⟩
theorem ca141:Callable prog 141:=⟨f141,func141,by kernel_rfl,by kernel_rfl⟩
theorem ca142:Callable prog 142:=⟨f142,func142,by kernel_rfl,by kernel_rfl⟩
theorem ca143:Callable prog 143:=⟨f143,func143,by kernel_rfl,by kernel_rfl⟩
theorem ca144:Callable prog 144:=⟨f144,func144,by kernel_rfl,by kernel_rfl⟩
theorem ca145:Callable prog 145:=⟨f145,func145,by kernel_rfl,by kernel_rfl⟩
theorem ca146:Callable prog 146:=⟨f146,func146,by kernel_rfl,by kernel_rfl⟩
theorem ca160:Callable prog 160:=⟨f160,func160,by kernel_rfl,by kernel_rfl⟩
theorem ca161:Callable prog 161:=⟨f161,func161,by kernel_rfl,by kernel_rfl⟩
theorem ca163:Callable prog 163:=⟨f163,func163,by kernel_rfl,by kernel_rfl⟩
theorem ca164:Callable prog 164:=⟨f164,func164,by kernel_rfl,by kernel_rfl⟩
theorem ca165:Callable prog 165:=⟨f165,func165,by kernel_rfl,by kernel_rfl⟩
theorem ca166:Callable prog 166:=⟨f166,func166,by kernel_rfl,by kernel_rfl⟩
theorem ca167:Callable prog 167:=⟨f167,func167,by kernel_rfl,by kernel_rfl⟩
theorem ca168:Callable prog 168:=⟨f168,func168,by kernel_rfl,by kernel_rfl⟩
theorem ca169:Callable prog 169:=⟨f169,func169,by kernel_rfl,by kernel_rfl⟩
theorem ca170:Callable prog 170:=⟨f170,func170,by kernel_rfl,by kernel_rfl⟩
theorem ca177:Callable prog 177:=⟨f177,func177,by kernel_rfl,by kernel_rfl⟩
theorem ca178:Callable prog 178:=⟨f178,func178,by kernel_rfl,by kernel_rfl⟩
theorem ca179:Callable prog 179:=⟨f179,func179,by kernel_rfl,by kernel_rfl⟩
theorem ca180:Callable prog 180:=⟨f180,func180,by kernel_rfl,by kernel_rfl⟩
theorem ca181:Callable prog 181:=⟨f181,func181,by kernel_rfl,by kernel_rfl⟩
theorem ca182:Callable prog 182:=⟨f182,func182,by kernel_rfl,by kernel_rfl⟩
theorem ca183:Callable prog 183:=⟨f183,func183,by kernel_rfl,by kernel_rfl⟩
theorem ca189:Callable prog 189:=⟨f189,func189,by kernel_rfl,by kernel_rfl⟩
theorem ca190:Callable prog 190:=⟨f190,func190,by kernel_rfl,by kernel_rfl⟩
theorem ca191:Callable prog 191:=⟨f191,func191,by kernel_rfl,by kernel_rfl⟩
theorem ca192:Callable prog 192:=⟨f192,func192,by kernel_rfl,by kernel_rfl⟩
theorem ca194:Callable prog 194:=⟨f194,func194,by kernel_rfl,by kernel_rfl⟩
theorem ca238:Callable prog 238:=⟨f238,func238,by kernel_rfl,by kernel_rfl⟩
theorem ca239:Callable prog 239:=⟨f239,func239,by kernel_rfl,by kernel_rfl⟩
theorem ca240:Callable prog 240:=⟨f240,func240,by kernel_rfl,by kernel_rfl⟩
theorem mixed:prog.follows .mixedOrders=true:=by kernel_rfl
end Ty
end Go.Proofs.YtggobegaiijhhaaGreatDoor
namespace Go.GV
open Go.RowKit Go.MapKept
structure MapK {κ:Type} (P:Program) (kt:TypeId) (f:κ→Value):Prop where
  ex:∃ d,P.underlying kt=some d∧(∀ a,IsKey d (f a)) ∧ ∀ a b,f a=f b→a=b
theorem mapK_i {P:Program} {kt:TypeId} (h:P.underlying kt=some (.int .i64)):MapK P kt vI:=⟨_,h,fun _=>rfl,fun a b h=>by simpa using h⟩
theorem mapK_s {P:Program} {kt:TypeId} (h:P.underlying kt=some .string):MapK P kt vS:=⟨_,h,fun _=>trivial,fun a b h=>by simpa using h⟩
def Born (es:Array MapEntry) (clock:Nat):Prop:=(es.toList.map (·.born)).Nodup ∧ ∀ e∈es.toList,e.born<clock
theorem Born.nil:Born #[] 0:=⟨List.nodup_nil,fun _ h=>by simp at h⟩
theorem Born.push {es:Array MapEntry} {clock:Nat} (h:Born es clock) (k v:Value):Born (es.push ⟨k,v,clock⟩) (clock+1):=by
  refine ⟨?_,fun e he=>?_⟩
  · rw [Array.toList_push,List.map_append,List.nodup_append]
    refine ⟨h.1,by simp,fun a ha b hb=>?_⟩
    simp only [List.map_cons,List.map_nil,List.mem_singleton] at hb
    subst hb
    obtain ⟨e,he,rfl⟩:=List.mem_map.1 ha
    have:=h.2 e he
    omega
  · rw [Array.toList_push,List.mem_append,List.mem_singleton] at he
    rcases he with he | rfl
    · have:=h.2 e he;omega
    · exact Nat.lt_succ_self _
theorem Born.modify {es:Array MapEntry} {clock:Nat} (h:Born es clock) (i:Nat) (g:MapEntry→MapEntry) (hg:∀ e,(g e).born=e.born):Born (es.modify i g) clock:=by
  have e1:(es.modify i g).toList.map (·.born)=es.toList.map (·.born):=by
    apply List.ext_getElem?
    intro j
    simp only [Array.toList_modify,List.getElem?_map,List.getElem?_modify]
    by_cases hij:i=j
    · subst hij
      cases es.toList[i]? <;> simp [hg]
    · simp [hij]
  refine ⟨by rw [e1];exact h.1,fun e he=>?_⟩
  have:e.born∈es.toList.map (·.born):=by rw [← e1];exact List.mem_map.2 ⟨e,he,rfl⟩
  obtain ⟨e',he',h2⟩:=List.mem_map.1 this
  have:=h.2 e' he'
  omega
def Ent.mp {κ:Type} (f:κ→Value) (b:Nat) (l:List (κ × Value)):Ent:=
  ⟨some b,fun o=>∃ es clock,o=some (.map es clock)∧es.toList.map (fun e=>(e.key,e.val))=l.map (fun p=>(f p.1,p.2))∧Born es clock⟩
def lk {κ:Type} [DecidableEq κ]:List (κ × Value)→κ→Option Value
  | [],_=>none
  | (a,v)::l,k=>if k=a then some v else lk l k
def upd {κ:Type} [DecidableEq κ]:List (κ × Value)→κ→Value→List (κ × Value)
  | [],k,v=>[(k,v)]
  | (a,u)::l,k,v=>if k=a then (k,v)::l else (a,u)::upd l k v
section
variable {κ:Type} [DecidableEq κ] {a k:κ} {v u:Value} {l:List (κ × Value)} {r:Option Value}
theorem lk_nil:lk [] k=none:=rfl
theorem lk_hit (h:k=a):lk ((a,v)::l) k=some v:=if_pos h
theorem lk_ne (h:k≠a) (hr:lk l k=r):lk ((a,v)::l) k=r:=(if_neg h).trans hr
theorem upd_new (h:lk l k=none):upd l k v=l++[(k,v)]:=by
  induction l with
  | nil=>rfl
  | cons p l ih =>
    obtain ⟨a,u⟩:=p
    unfold lk at h
    split at h
    · cases h
    · rename_i hne
      unfold upd
      rw [if_neg hne,ih h];rfl
theorem find_lk {d:TypeDesc} {f:κ→Value} (hd:∀ a,IsKey d (f a)) (hi:∀ a b,f a=f b→a=b) (k:κ):∀ (es:List MapEntry) (l:List (κ × Value)) (i:Nat),es.map (fun e=>(e.key,e.val))=l.map (fun p=>(f p.1,p.2)) →
    (Instr.findNow d (f k) es i=some none∧lk l k=none) ∨ ∃ j v,Instr.findNow d (f k) es i=some (some (i+j,v))∧lk l k=some v∧(∃ e,es[j]? = some e∧e.key=f k) ∧ ∀ u,(upd l k u).map (fun p=>(f p.1,p.2))=(l.map (fun p=>(f p.1,p.2))).set j (f k,u)
  | [],[],i,_=>.inl ⟨rfl,rfl⟩
  | [],_::_,i,h=>by cases h
  | _::_,[],i,h=>by cases h
  | e::es,(a,v)::l,i,h=>by
    simp only [List.map_cons,List.cons.injEq,Prod.mk.injEq] at h
    obtain ⟨⟨h1,h2⟩,h3⟩:=h
    obtain ⟨r,hr,hiff⟩:=sameNow_of_keys (hd k) (h1 ▸ hd a:IsKey d e.key)
    cases r with
    | true =>
      have hk:k=a:=hi _ _ ((hiff.1 rfl).trans h1)
      refine .inr ⟨0,v,by simp [Instr.findNow,hr,h2],by rw [lk,if_pos hk],⟨e,rfl,(hiff.1 rfl).symm⟩,fun u=>?_⟩
      simp [upd,if_pos hk]
    | false =>
      have hne:k≠a:=fun q=>by have:=hiff.2 (by rw [h1,q]);cases this
      rcases find_lk hd hi k es l (i+1) h3 with ⟨x1,x2⟩ | ⟨j,u,x1,x2,x3,x4⟩
      · exact .inl ⟨by simp [Instr.findNow,hr,x1],by rw [lk,if_neg hne,x2]⟩
      · refine .inr ⟨j+1,u,by simp [Instr.findNow,hr,x1];omega,by rw [lk,if_neg hne,x2],by simpa using x3,fun u=>?_⟩
        rw [upd,if_neg hne,List.map_cons,x4 u];rfl
end
theorem mp_at {κ:Type} {f:κ→Value} {b:Nat} {l:List (κ × Value)} {w:World} (h:(Ent.mp f b l).at w):∃ es clock,w.heap[b]? = some (.map es clock)∧es.toList.map (fun e=>(e.key,e.val))=l.map (fun p=>(f p.1,p.2))∧Born es clock:=by
  simpa [Ent.at,Ent.mp] using h.1
section
variable {E:Env} {P:Program} {x y z:Operand} {dst:Option Nat} {t t' ty u:TypeId} {pos:String} {af:Array Edge} {g:Option (Nat × Bool)} {κ:Type} [DecidableEq κ]
theorem run_lookup_mp {f:κ→Value} {b:Nat} {l:List (κ × Value)} {w:World} {kt et:TypeId} {zv:Value} {k:κ} (hat:(Ent.mp f b l).at w) (ht:P.underlying t=some (.map kt et)) (hK:MapK P kt f) (hz:zeroIs P et=some zv) (ok:Bool) :
    (Instr.lookup t (.map (some b)) (f k) ok).run P w = .ok (if ok then .tuple #[(lk l k).getD zv,.bool (lk l k).isSome] else (lk l k).getD zv) w:=by
  obtain ⟨es,clock,hb,hes,hborn⟩:=mp_at hat
  obtain ⟨d,hd,hkey,hinj⟩:=hK.ex
  unfold Instr.lookup
  simp only [Sem.run_bind,run_underlying ht,Result.andThen_ok,MapKept.run_getObj_map hb,Sem.run_pure,MapKept.run_checkKey hd (hkey k)]
  rcases find_lk hkey hinj k es.toList l 0 hes with ⟨h1,h2⟩ | ⟨j,v,h1,h2,_⟩
  · simp only [MapKept.run_findKey hd h1,Result.andThen_ok,Sem.run_bind,run_zeroValue_is hz,Sem.run_pure,h2]
    cases ok <;> rfl
  · simp only [MapKept.run_findKey hd h1,Result.andThen_ok,Sem.run_bind,Sem.run_pure,h2]
    cases ok <;> rfl
theorem x_lookup_ok {S:List Nat} {w0:World} {L:List Ent} (j:Nat) {f:κ→Value} {b:Nat} {l:List (κ × Value)} {kt et:TypeId} {zv:Value} {k:κ} {r:Option Value} (hx:ev E x = .map (some b)) (hy:ev E y=f k) (hj:L[j]? = some (Ent.mp f b l)) (ht:P.underlying t=some (.map kt et)) (hK:MapK P kt f) (hz:zeroIs P et=some zv) (hr:lk l k=r) :
    ∀ w,St S w0 w L→(execOp (ev E) ⟨dst,.lookup t x y true,ty,pos,af,g⟩).run P w = .ok (.value (.tuple #[r.getD zv,vB r.isSome])) w:=by
  intro w hS
  subst hr
  simp only [execOp,hx,hy]
  show Sem.run P (do let v ← Instr.lookup t (.map (some b)) (f k) true;pure (Next.value v)) w=_
  rw [Sem.run_bind,run_lookup_mp (k:=k) (hS.mem hj) ht hK hz true];rfl
theorem x_lookup {S:List Nat} {w0:World} {L:List Ent} (j:Nat) {f:κ→Value} {b:Nat} {l:List (κ × Value)} {kt et:TypeId} {zv:Value} {k:κ} {r:Option Value} (hx:ev E x = .map (some b)) (hy:ev E y=f k) (hj:L[j]? = some (Ent.mp f b l)) (ht:P.underlying t=some (.map kt et)) (hK:MapK P kt f) (hz:zeroIs P et=some zv) (hr:lk l k=r) :
    ∀ w,St S w0 w L→(execOp (ev E) ⟨dst,.lookup t x y false,ty,pos,af,g⟩).run P w = .ok (.value (r.getD zv)) w:=by
  intro w hS
  subst hr
  simp only [execOp,hx,hy]
  show Sem.run P (do let v ← Instr.lookup t (.map (some b)) (f k) false;pure (Next.value v)) w=_
  rw [Sem.run_bind,run_lookup_mp (k:=k) (hS.mem hj) ht hK hz false];rfl
theorem x_lookup_v {S:List Nat} {w0:World} {L:List Ent} (j:Nat) {f:κ→Value} {b:Nat} {l:List (κ × Value)} {kt et:TypeId} {zv v:Value} {k:κ} {r:Option Value} (hx:ev E x = .map (some b)) (hy:ev E y=f k) (hj:L[j]? = some (Ent.mp f b l)) (ht:P.underlying t=some (.map kt et)) (hK:MapK P kt f) (hz:zeroIs P et=some zv) (hr:lk l k=r) (hv:r.getD zv=v) :
    ∀ w,St S w0 w L→(execOp (ev E) ⟨dst,.lookup t x y false,ty,pos,af,g⟩).run P w = .ok (.value v) w:=by
  subst hv;exact x_lookup j hx hy hj ht hK hz hr
omit [DecidableEq κ] in
theorem O_makeMap {S:List Nat} {w0:World} {L:List Ent} {K:Value→List Ent→Prop} (f:κ→Value) (k:∀ b,K (.map (some b)) (Ent.mp f b []::L)):OpJ P S w0 E L ⟨dst,.makeMap t none,ty,pos,af,g⟩ K:=by
  intro w hS
  refine ⟨_,_,_,.inl ?_,hS.alloc (.map #[] 0) (Ent.mp f w.heap.size []) rfl ⟨_,_,rfl,rfl,Born.nil⟩,k w.heap.size⟩
  have hr:(Instr.makeMap t none).run P w = .ok (.map (some w.heap.size)) (w.alloc (.map #[] 0)):=by
    simp [Instr.makeMap,newObj,Sem.run]
  simp only [execOp]
  show Sem.run P (do let v ← Instr.makeMap t none;pure (Next.value v)) w=_
  rw [Sem.run_bind,hr];rfl
theorem run_update_mp {f:κ→Value} {b:Nat} {l:List (κ × Value)} {w:World} {kt et:TypeId} {k:κ} {v:Value} (hat:(Ent.mp f b l).at w) (ht:P.underlying t=some (.map kt et)) (hK:MapK P kt f) :
    ∃ w',(Instr.mapUpdate t (.map (some b)) (f k) v).run P w = .ok () w'∧Fr [b] w w'∧(Ent.mp f b (upd l k v)).prop w'.heap[b]?:=by
  obtain ⟨es,clock,hb,hes,hborn⟩:=mp_at hat
  obtain ⟨d,hd,hkey,hinj⟩:=hK.ex
  have fr:∀ o,Fr [b] w { w with heap:=w.heap.setIfInBounds b o }:=fun o=>⟨rfl,rfl,rfl,by simp,fun i hi hn=>(MapKept.heap_set (o':=o) hb).2 i (by simpa using hn)⟩
  unfold Instr.mapUpdate
  simp only [Sem.run_bind,run_underlying ht,Result.andThen_ok,MapKept.run_getObj_map hb,MapKept.run_checkKey hd (hkey k)]
  rcases find_lk hkey hinj k es.toList l 0 hes with ⟨h1,h2⟩ | ⟨j,v',h1,h2,⟨e,he,hek⟩,h4⟩
  · simp only [MapKept.run_findKey hd h1,Result.andThen_ok,MapKept.run_setObj_map _ hb]
    refine ⟨_,rfl,fr _,_,_,(MapKept.heap_set hb).1,?_,hborn.push _ _⟩
    rw [upd_new h2]
    simp [hes]
  · have he':es[j]? = some e:=by simpa using he
    simp only [MapKept.run_findKey hd h1,Result.andThen_ok,Nat.zero_add,he',Option.map_some,Option.getD_some,hek,MapKept.run_keyThatStays (hkey k),MapKept.run_setObj_map _ hb,Sem.run_bind]
    refine ⟨_,rfl,fr _,_,_,(MapKept.heap_set hb).1,?_,hborn.modify _ _ fun _=>rfl⟩
    rw [h4 v,← hes]
    apply List.ext_getElem?
    intro i
    simp only [Array.toList_modify,List.getElem?_map,List.getElem?_modify,List.getElem?_set,List.length_map]
    by_cases hij:j=i
    · subst hij
      have hlt:j<es.toList.length:=(List.getElem?_eq_some_iff.1 he).1
      have hlt':j<es.size:=by simpa using hlt
      simp [hlt']
    · simp [hij]
theorem O_mapUpdate {S:List Nat} {w0:World} {L:List Ent} {K:Value→List Ent→Prop} (j:Nat) {f:κ→Value} {b:Nat} {l:List (κ × Value)} {kt et:TypeId} {k:κ} {v:Value} (l':List (κ × Value)) (L':List Ent) (hx:ev E x = .map (some b)) (hy:ev E y=f k) (hz:ev E z=v) (hj:L[j]? = some (Ent.mp f b l)) (ht:P.underlying t=some (.map kt et)) (hK:MapK P kt f)
    (hl:upd l k v=l') (hL:L.set j (Ent.mp f b l')=L') (kk:K undef L'):OpJ P S w0 E L ⟨dst,.mapUpdate t x y z,ty,pos,af,g⟩ K:=by
  intro w hS
  subst hl;subst hL
  obtain ⟨w',hr,hF,hB⟩:=run_update_mp (P:=P) (t:=t) (k:=k) (v:=v) (hS.mem hj) ht hK
  refine ⟨undef,_,w',.inr ⟨?_,rfl⟩,hS.writeAt hj b rfl rfl hF hB,kk⟩
  simp only [execOp,hx,hy,hz]
  show Sem.run P (do Instr.mapUpdate t (.map (some b)) (f k) v;pure Next.skip) w=_
  rw [Sem.run_bind,hr];rfl
theorem O_insert {S:List Nat} {w0:World} {L:List Ent} {K:Value→List Ent→Prop} (j:Nat) {f:κ→Value} {b:Nat} {l:List (κ × Value)} {kt et:TypeId} {k:κ} {v:Value} (l':List (κ × Value)) (L':List Ent) (hx:ev E x = .map (some b)) (hy:ev E y=f k) (hz:ev E z=v) (hj:L[j]? = some (Ent.mp f b l)) (ht:P.underlying t=some (.map kt et)) (hK:MapK P kt f)
    (hl:upd l k v=l') (hL:L.set j (Ent.mp f b l')=L') (kk:K undef L'):OpJ P S w0 E L ⟨dst,.insert t x y z,ty,pos,af,g⟩ K:=by
  intro w hS
  subst hl;subst hL
  obtain ⟨w',hr,hF,hB⟩:=run_update_mp (P:=P) (t:=t) (k:=k) (v:=v) (hS.mem hj) ht hK
  refine ⟨undef,_,w',.inr ⟨?_,rfl⟩,hS.writeAt hj b rfl rfl hF hB,kk⟩
  simp only [execOp,hx,hy,hz]
  show Sem.run P (do Instr.mapUpdate t (.map (some b)) (f k) v;pure Next.skip) w=_
  rw [Sem.run_bind,hr];rfl
end
section
variable {E:Env} {P:Program} {w:World} {x y:Operand} {dst:Option Nat} {t t' ty:TypeId} {pos:String} {af:Array Edge} {g:Option (Nat × Bool)}
def isFn:Value→Bool
  | .func ..=>true
  | _=>false
theorem run_eqIn_nil {p q:Array TypeId} {v:Bool} (d:Nat) (ht:P.underlying t=some (.func p q v)):(Op.equalIn (d+1) t .nilFunc .nilFunc).run P w = .ok true w:=by
  unfold Op.equalIn
  simp only [Sem.run_bind,run_underlying ht,Result.andThen_ok];rfl
theorem run_eq_nil {p q:Array TypeId} {v:Bool} (ht:P.underlying t=some (.func p q v)):(Op.equal t .nilFunc .nilFunc).run P w = .ok true w:=run_eqIn_nil 9999 ht
end
end Go.GV
namespace Go.GV
open Go.RowKit Go.MapKept
def Ent.mx (b:Nat) (es:Array MapEntry) (clock:Nat):Ent:=⟨some b,fun o=>o=some (.map es clock)⟩
def Ent.rng {κ:Type} (f:κ→Value) (b bm:Nat) (es:Array MapEntry) (clock:Nat) (left:List (κ × Value)) (cur:Option (κ × Value)):Ent:=
  ⟨some b,fun o=>∃ seen,o=some (.mapIter (some bm) clock seen clock)∧(leftOf es seen).toList.map (fun e=>(e.key,e.val))=left.map (fun p=>(f p.1,p.2)) ∧ ∀ p,cur=some p → ∃ e∈es.toList,seen.back? = some e.born∧e.key=f p.1∧e.val=p.2⟩
def Holds' {κ:Type} (f:κ→Value) (es:Array MapEntry) (l:List (κ × Value)):Prop:=es.toList.map (fun e=>(e.key,e.val))=l.map (fun p=>(f p.1,p.2))
section
variable {E:Env} {P:Program} {x:Operand} {dst:Option Nat} {t ty:TypeId} {pos:String} {af:Array Edge} {g:Option (Nat × Bool)} {κ:Type}
theorem x_len_mp {S:List Nat} {w0:World} {L:List Ent} (j:Nat) {f:κ→Value} {b:Nat} {l:List (κ × Value)} {kt et:TypeId} {n:Nat} (hx:ev E x = .map (some b)) (hj:L[j]? = some (Ent.mp f b l)) (ht:P.underlying t=some (.map kt et)) (hn:l.length=n) :
    ∀ w,St S w0 w L→(execOp (ev E) ⟨dst,.call ⟨.builtin .len,#[x],#[t]⟩,ty,pos,af,g⟩).run P w = .ok (.value (vI (n:Int))) w:=by
  intro w hS
  subst hn
  obtain ⟨es,clock,hb,hes,_⟩:=mp_at (hS.mem hj)
  have hl:es.size=l.length:=by
    have:=congrArg List.length hes
    simpa using this
  rw [← hl]
  have hr:(Builtin.len_ #[t] ty #[.map (some b)]).run P w = .ok (vI (es.size:Int)) w:=by
    simp only [Builtin.len_]
    show Sem.run P (do let u ← underlying t;_) w=_
    simp [run_underlying ht,goInt,MapKept.run_getObj_map hb]
  simp [execOp,resolve,invoke,builtin,hx,hr]
end
def wpV (a:Nat) (o:Nat):Value:=.pointer (some ⟨a,o,none⟩)
def putV:List Value→List Nat→List Int→Nat→List Value
  | cs,[],_,_=>cs
  | cs,o::os,vs,i=>putV (cs.set o (vI (vs.getD i 0))) os vs (i+1)
section
variable {E:Env} {P:Program} {x y:Operand} {dst:Option Nat} {t ty:TypeId} {pos:String} {af:Array Edge} {g:Option (Nat × Bool)}
end
def kT {κ:Type} (s:κ):κ × Value:=(s,vB true)
section
variable {κ:Type} [DecidableEq κ]
def addK (l:List κ) (s:κ):List κ:=if s∈l then l else l++[s]
theorem upd_kT (l:List κ) (s:κ):upd (l.map kT) s (vB true)=(addK l s).map kT:=by
  unfold addK
  induction l with
  | nil=>rfl
  | cons a l ih =>
    rw [List.map_cons]
    unfold kT at *
    unfold upd
    by_cases h:s=a
    · rw [if_pos h,if_pos (by simp [h])]
      simp [h]
    · rw [if_neg h,ih]
      by_cases h2:s∈l
      · rw [if_pos h2,if_pos (by simp [h2])]
        rfl
      · rw [if_neg h2,if_neg (by simp [h,h2])]
        rfl
theorem lk_kT (l:List κ) (s:κ):lk (l.map kT) s=if s∈l then some (vB true) else none:=by
  induction l with
  | nil=>rfl
  | cons a l ih =>
    rw [List.map_cons]
    unfold kT at *
    unfold lk
    by_cases h:s=a
    · rw [if_pos h,if_pos (by simp [h])]
    · rw [if_neg h,ih]
      by_cases h2:s∈l
      · rw [if_pos h2,if_pos (by simp [h2])]
      · rw [if_neg h2,if_neg (by simp [h,h2])]
def hasK (l:List κ) (s:κ):Bool:=decide (s∈l)
theorem lk_kT_v (l:List κ) (s:κ):(lk (l.map kT) s).getD (vB false)=vB (hasK l s):=by
  unfold hasK
  rw [lk_kT]
  by_cases h:s∈l
  · rw [if_pos h,decide_eq_true h];rfl
  · rw [if_neg h,decide_eq_false h];rfl
theorem addK_len (l:List κ) (s:κ):(addK l s).length≤l.length+1:=by
  unfold addK
  split
  · exact Nat.le_succ _
  · rw [List.length_append];exact Nat.le_refl _
end
end Go.GV
namespace Go.GV
open Go.RowKit
theorem set_len {α:Type} (xs:List α) (k:Nat) (a:α):(xs.set k a).length=xs.length:=List.length_set
theorem splice_take {α:Type} : ∀ (vs cs:List α) (k m:Nat),k+vs.length≤m→(splice cs k vs).take m=splice (cs.take m) k vs
  | [],_,_,_,_=>rfl
  | v::vs,cs,k,m,h=>by
    rw [List.length_cons] at h
    rw [splice,splice,splice_take vs _ (k+1) m (by omega),List.take_set]
theorem splice_flat {α:Type} (f:α→List Value) (sz:Nat) (hf:∀ a,(f a).length=sz):∀ (xs:List α) (k:Nat) (a:α),k<xs.length→splice (xs.flatMap f) (k*sz) (f a)=(xs.set k a).flatMap f
  | [],_,_,h=>by simp at h
  | x::xs,0,a,_=>by
    rw [Nat.zero_mul,List.flatMap_cons,List.set_cons_zero,List.flatMap_cons,splice_eq _ _ _ (by rw [hf,List.length_append,hf];omega),hf,Nat.zero_add,List.take_zero,List.nil_append,List.drop_left' (hf x)]
  | x::xs,k+1,a,h=>by
    have h':k<xs.length:=by simpa using h
    have ih:=splice_flat f sz hf xs k a h'
    have hl:=flat_length f sz hf xs
    have hb:k*sz+sz≤xs.length*sz:=by
      have:=Nat.mul_le_mul_right sz h'
      rw [Nat.succ_mul] at this;exact this
    rw [List.set_cons_succ,List.flatMap_cons,List.flatMap_cons,← ih]
    rw [splice_eq _ _ _ (by rw [hf,List.length_append,hf,hl,Nat.succ_mul];omega),splice_eq _ _ _ (by rw [hf,hl];omega)]
    rw [hf,Nat.succ_mul,Nat.add_comm (k*sz) sz,List.take_append,List.drop_append,hf]
    rw [List.take_of_length_le (by rw [hf];omega),List.drop_of_length_le (by rw [hf];omega)]
    simp only [List.nil_append,List.append_assoc]
    rw [show sz+k*sz-sz=k*sz by omega,show sz+k*sz+sz-sz=k*sz+sz by omega,Nat.add_comm (k*sz) sz]
section
variable {E:Env} {P:Program} {x y:Operand} {dst:Option Nat} {t ty:TypeId} {pos:String} {af:Array Edge} {g:Option (Nat × Bool)}
theorem O_store_row_g {α:Type} {S:List Nat} {w0:World} {L:List Ent} {K:Value→List Ent→Prop} (j:Nat) (f:α→List Value) {A:Option Addr} {c k sz:Nat} {te:TypeId} {xs:List α} {a:α} {v:Value} (L':List Ent)
    (hx:ev E x = .pointer (some (adr A (k*sz)))) (hy:ev E y=v) (hv:v.cells.toList=f a) (hj:L[j]? = some (Ent.row (.slice A xs.length c) te sz xs.length (xs.flatMap f))) (hn:sizeIs P t=some sz) (hf:∀ a,(f a).length=sz) (h1:∀ a,(f a).all Value.oneCell'=true) (hk:k<xs.length)
    (hL:L.set j (Ent.row (.slice A (xs.set k a).length c) te sz (xs.set k a).length ((xs.set k a).flatMap f))=L') (kk:K undef L'):OpJ P S w0 E L ⟨dst,.store t x y,ty,pos,af,g⟩ K:=by
  intro w hS
  subst hL
  have hat:=hS.mem hj
  have hfl:=flat_length f sz hf xs
  have hb:k*sz+sz≤xs.length*sz:=by
    have:=Nat.mul_le_mul_right sz hk
    rw [Nat.succ_mul] at this;exact this
  rcases hat.1.2 with ⟨h2,h3⟩ | ⟨gb,cap,cur,h2,ho,hcap,hmax,hcs,htk⟩
  · omega
  · simp only [Value.slice.injEq] at h2
    obtain ⟨rfl,_,rfl⟩:=h2
    have ho':w.heap[gb]? = some (.cells cur te (0,0)):=by simpa [Ent.row,Value.ownBlock] using ho
    have hblk:(Ent.blk gb te cur.toList).at w:=by
      refine ⟨⟨?_,.inl (Nat.le_refl _)⟩,fun b hb2=>?_⟩
      · show w.heap[gb]? = _
        rw [ho']
      · cases hb2
        exact (Array.getElem?_eq_some_iff.1 ho').1
    have hvl:v.cells.toList.length=sz:=by rw [hv];exact hf a
    have hcl:xs.length*sz≤cur.toList.length:=by
      have e1:=Nat.mul_le_mul_right sz hcap
      have e2:cur.toList.length=c*sz:=hcs
      omega
    have hadr:adr (some ⟨gb,0,none⟩) (k*sz)=⟨gb,k*sz,none⟩:=by
      simp [adr,Addr.add]
      exact fun h=>h.symm
    rw [hadr] at hx
    obtain ⟨w',hr,hF,hB⟩:=run_storeVar_blk (P:=P) (t:=t) (o:=k*sz) hblk hn hvl (by omega) (by rw [hv];exact h1 a)
    refine ⟨undef,_,w',.inr ⟨?_,rfl⟩,hS.writeAt hj gb rfl rfl hF ?_,kk⟩
    · simp only [execOp,hx,hy]
      show Sem.run P (do (do storeVar t (← Instr.sureAddr (.pointer (some ⟨gb,k*sz,none⟩))) v);pure Next.skip) w=_
      simp only [Instr.sureAddr,Sem.run_bind,Sem.run_pure,Result.andThen_ok,hr]
    · have hB1:w'.heap[gb]? = some (.cells (splice cur.toList (k*sz) (f a)).toArray te (0,0)):=by rw [← hv];exact hB.1
      have hsl:(splice cur.toList (k*sz) (f a)).length=cur.toList.length:=splice_length _ _ _
      refine ⟨flat_length f sz hf _,.inr ⟨gb,c,_,by rw [List.length_set],hB1,by rw [List.length_set];exact hcap,hmax,?_,?_⟩⟩
      · rw [List.size_toArray,hsl,Array.length_toList,hcs]
      · rw [List.length_set]
        show (splice cur.toList (k*sz) (f a)).take (xs.length*sz)=_
        rw [splice_take _ _ _ _ (by rw [hf];exact hb),htk,splice_flat f sz hf xs k a hk]
theorem O_store_row_f {α:Type} {S:List Nat} {w0:World} {L:List Ent} {K:Value→List Ent→Prop} (j:Nat) (f:α→List Value) {A:Option Addr} {c k sz:Nat} {te:TypeId} {xs:List α} {a:α} (L':List Ent)
    (hx:ev E x = .pointer (some (adr A (k*sz)))) (hy:ev E y = .agg (f a).toArray) (hj:L[j]? = some (Ent.row (.slice A xs.length c) te sz xs.length (xs.flatMap f))) (hn:sizeIs P t=some sz) (hf:∀ a,(f a).length=sz) (h1:∀ a,(f a).all Value.oneCell'=true) (hk:k<xs.length)
    (hL:L.set j (Ent.row (.slice A (xs.set k a).length c) te sz (xs.set k a).length ((xs.set k a).flatMap f))=L') (kk:K undef L'):OpJ P S w0 E L ⟨dst,.store t x y,ty,pos,af,g⟩ K:=
  O_store_row_g j f L' hx hy (by simp [Value.cells]) hj hn hf h1 hk hL kk
theorem map_flat {α:Type} (g:α→Value) (xs:List α):xs.map g=xs.flatMap fun a=>[g a]:=by
  induction xs with
  | nil=>rfl
  | cons a xs ih=>rw [List.map_cons,List.flatMap_cons,ih];rfl
end
end Go.GV
namespace Go.GV
theorem lt_ {p:Prop} (h:p:=by first | omega | (simp only [List.length_append,List.length_cons,List.length_nil];omega) | (simp;omega) | (simp_all;omega) | (simp_all;done)):p:=h
theorem hy_ {p:Prop} (h:p:=by first | omega | assumption | (simp only [List.length_append,List.length_cons,List.length_nil];omega) | (simp only [sub,List.length_drop,List.length_take];omega) | (simp;omega) | (simp_all;done) | (simp_all;omega) | decide):p:=h
theorem ix_nat {v:Value} {i:Int} {k:Nat} (hv:v=vI i) (h:i=(k:Int)):v = .int .i64 (k:Int):=by rw [hv,h]
theorem st_all {cs vs:List Value} {n:Nat} (h:Nat.ble cs.length (0+n)=true):cs.take 0++(vs++cs.drop (0+n))=vs:=by
  rw [List.drop_of_length_le (Nat.le_of_ble_eq_true h),List.append_nil];rfl
section
variable {n:Dim} {S:List Nat} {w0:World} {P:Program} {ops:Array Oper} {Q:Post} {E:Env} {L Lg Lu:List Ent} {us:List Nat} {fuel:Nat} {listed:Array Bool}
theorem jr_ {o:Oper} {rest:List Oper} (v:Value) (h:JO P n S w0 ops rest Q (put E o.dst v) L) (hfit:fit n E o=true:=by rfl) (hw:wants ops E o:=by exact trivial) (hr:∀ w,St S w0 w L→(execOp (ev E) o).run P w = .ok (.value v) w:=by exact fun _ _=>rfl):JO P n S w0 ops (o::rest) Q E L:=JO_read v hfit hw hr h
theorem js_ {o:Oper} {rest:List Oper} (v:Value) (hr:∀ {w},(execOp (ev E) o).run P w = .ok (.value v) w) (h:JO P n S w0 ops rest Q (put E o.dst v) L) (hfit:fit n E o=true:=by rfl) (hw:wants ops E o:=by exact trivial):JO P n S w0 ops (o::rest) Q E L:=JO_read v hfit hw (fun _ _=>hr) h
theorem jg_ {o:Oper} {rest:List Oper} {t b:Bool} {j:Nat} (hg:t=b) (v:Value) (hr:∀ {w},(execOp (ev E) o).run P w = .ok (.value v) w) (h:JO P n S w0 ops rest Q (put E o.dst v) L) (hfit:fit n E o=true:=by rfl) (h1:o.guard=some (j,b):=by rfl) (h2:gval ops E j=some t:=by rfl):JO P n S w0 ops (o::rest) Q E L:=JO_read v hfit (by unfold wants;rw [h1];exact ⟨t,h2,hg⟩) (fun _ _=>hr) h
theorem sh_ {o:Oper} {rest:List Oper} {t b:Bool} {j:Nat} (hg:t = !b) (h:JO P n S w0 ops rest Q (put E o.dst undef) L) (hd:dstOk n o.dst=true:=by rfl) (h1:o.guard=some (j,b):=by rfl) (h2:gval ops E j=some t:=by rfl):JO P n S w0 ops (o::rest) Q E L:=JO_shun hd (by unfold shuns;rw [h1];exact ⟨t,h2,hg⟩) h
theorem jt_ (i:Nat) {o:Oper} (v:Value) (hi:ops[i]? = some o) (hv:∀ w,St S w0 w Lg→(execOp (ev E) o).run P w = .ok (.value v) w) (h:JA P n S w0 ops Q Lg us Lu fuel (listed.setIfInBounds i true) (put E o.dst v) L)
    (hs:Region.noSelect ops=true:=by kernel_rfl) (hf:Region.free .any ops listed i=true:=by kernel_rfl) (hr:(Region.ready .any ops listed).contains i=true:=by kernel_rfl) (hu:us.contains i=false:=by rfl)
    (hQ:∀ c a w,Q (.panic c) (a.put o.dst v) w→Q (.panic c) a w:=by exact fun _ _ _ h=>h) (hfit:fit n E o=true:=by rfl) (hw:wants ops E o:=by exact trivial):JA P n S w0 ops Q Lg us Lu (fuel+1) listed E L:=JA_take i v hi hs hf hr hu hQ hfit hw hv h
end
end Go.GV
namespace Go.GV
open Go.RowKit Go.Sort
def Lown (L:List Ent):List Nat:=L.filterMap Ent.own
theorem lown_mem {L:List Ent} : ∀ b∈Lown L,∃ e∈L,e.own=some b:=fun b h=>by
  obtain ⟨e,he,ho⟩:=List.mem_filterMap.1 h
  exact ⟨e,he,ho⟩
theorem lown_in {L:List Ent} : ∀ e∈L,∀ b,e.own=some b→b∈Lown L:=fun e he _ ho=>List.mem_filterMap.2 ⟨e,he,ho⟩
section
variable {α:Type} [Inhabited α] {f:α→Value} {w:World} {e:TypeId} {c:Nat} {xs:List α}
omit [Inhabited α] in
theorem row_cap {A:Option Addr} (h:(Ent.row (.slice A xs.length c) e 1 xs.length (xs.map f)).at w):xs.length≤c∨(A=none∧xs=[]∧c=0):=by
  rcases (row_owns h).2 with ⟨h1,h2⟩ | ⟨g,cap,cur,h1,_,ho,h3,h4,h5,h6⟩
  · simp only [Value.slice.injEq] at h1
    exact .inr ⟨h1.1,List.length_eq_zero_iff.1 h2,h1.2.2⟩
  · cases h1
    exact .inl h3
end
def subA (A:Option Addr) (cap lo sz:Nat):Option Addr:=if cap=lo then A else A.map (·.add (lo*sz))
section
variable {E:Env} {P:Program} {w:World} {x y:Operand} {dst:Option Nat} {t t' ty e:TypeId} {pos:String} {af:Array Edge} {g:Option (Nat × Bool)}
theorem x_subrow {A:Option Addr} {len cap n lo hi:Nat} {olo ohi:Option Operand} (hx:ev E x = .slice A len cap) (ht:P.underlying t=some (.slice e)) (hn:sizeIs P e=some n) (hlo:olo.map (ev E)=some (vI (lo:Int))∨(olo.map (ev E)=none∧lo=0)) (hhi:ohi.map (ev E)=some (vI (hi:Int))∨(ohi.map (ev E)=none∧hi=len))
    (h1:lo≤hi) (h2:hi≤cap):(execOp (ev E) ⟨dst,.slice t x olo ohi none,ty,pos,af,g⟩).run P w = .ok (.value (.slice (subA A cap lo n) (hi-lo) (cap-lo))) w:=by
  have e1:(0:Int)≤(hi:Int)∧(hi:Int)≤((cap:Nat):Int):=by omega
  have e2:(0:Int)≤(lo:Int)∧(lo:Int)≤((hi:Nat):Int):=by omega
  have hr:(Instr.sliceAt t (.slice A len cap) (olo.map (ev E)) (ohi.map (ev E)) none).run P w = .ok (.slice (subA A cap lo n) (hi-lo) (cap-lo)) w:=by
    rcases hlo with hlo | ⟨hlo,rfl⟩ <;> rcases hhi with hhi | ⟨hhi,rfl⟩ <;> rw [hlo,hhi]
    · simp only [Instr.sliceAt,Instr.slice,Instr.sliceBounds,Instr.sliceBound,asIntOf,run_underlying ht,run_sizeOf_is hn,Sem.run_bind,Sem.run_pure,Result.andThen_ok,if_pos e1,if_pos e2,Int.toNat_natCast];rfl
    · simp only [Instr.sliceAt,Instr.slice,Instr.sliceBounds,Instr.sliceBound,asIntOf,run_underlying ht,run_sizeOf_is hn,Sem.run_bind,Sem.run_pure,Result.andThen_ok,if_pos e2,Int.toNat_natCast];rfl
    · simp only [Instr.sliceAt,Instr.slice,Instr.sliceBounds,Instr.sliceBound,asIntOf,run_underlying ht,run_sizeOf_is hn,Sem.run_bind,Sem.run_pure,Result.andThen_ok,if_pos e1,Int.toNat_natCast];rfl
    · simp only [Instr.sliceAt,Instr.slice,Instr.sliceBounds,run_underlying ht,run_sizeOf_is hn,Sem.run_bind,Sem.run_pure,Result.andThen_ok];rfl
  simp only [execOp,hx]
  show Sem.run P (do let v ← Instr.sliceAt t (.slice A len cap) (olo.map (ev E)) (ohi.map (ev E)) none;pure (Next.value v)) w=_
  rw [Sem.run_bind,hr];rfl
theorem row_le {A:Option Addr} {n c sz:Nat} {cs:List Value} (h:(Ent.row (.slice A n c) e sz n cs).at w):n≤c:=by
  rcases (row_owns h).2 with ⟨h1,h2⟩ | ⟨g,cap,cur,h1,_,ho,h3,h4,h5,h6⟩
  · omega
  · cases h1;exact h3
end
end Go.GV
namespace Go.GV
open Go.RowKit
def methIs (P:Program) (t:TypeId) (name:String):Option FuncId:=match P.info? t with
  | some i=>match i.methods.find? (·.name == name) with
    | some m=>if m.path.toList.isEmpty then (match m.func,P.underlying t with
      | some (f,false),some (.struct _)=>some f
      | _,_=>none) else none
    | none=>none
  | none=>none
section
variable {E:Env} {P:Program} {w:World} {x:Operand} {dst:Option Nat} {t ty:TypeId} {pos:String} {af:Array Edge} {g:Option (Nat × Bool)}
theorem x_iface {y:TypeId} {v:Value} (hx:ev E x=v) (hu:(match P.underlying y with | some (.interface _)=>false | some _=>true | none=>false)=true) :
    (execOp (ev E) ⟨dst,.makeInterface y x,ty,pos,af,g⟩).run P w = .ok (.value (.iface y v)) w:=by
  cases h:P.underlying y with
  | none=>rw [h] at hu;cases hu
  | some d =>
    rw [h] at hu
    simp only [execOp,hx,Instr.makeInterface,Sem.run_bind,run_underlying h,Result.andThen_ok]
    cases d <;> first | rfl | cases hu
end
end Go.GV
