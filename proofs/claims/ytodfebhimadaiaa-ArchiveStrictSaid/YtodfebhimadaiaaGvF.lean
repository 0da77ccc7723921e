/- GvF: closed facts on the types and functions of this dump. (Printed by gv.py.) -/
import Derived.Test.YtodfebhimadaiaaRows
import Derived.Test.YtodfebhimadaiaaGvH
namespace Go.Proofs.Ytodfebhimadaiaa
open Go.GV
namespace Ty
theorem sc1 : scal Try.prog 1 = true := by kernel_rfl
theorem sz1 : sizeIs Try.prog 1 = some 1 := by kernel_rfl
theorem by1 : bytesIs Try.prog 1 = some 8 := by kernel_rfl
theorem ze1 : zeroIs Try.prog 1 = some (Value.nilFunc) := by kernel_rfl
theorem sc2 : scal Try.prog 2 = true := by kernel_rfl
theorem sz2 : sizeIs Try.prog 2 = some 1 := by kernel_rfl
theorem by2 : bytesIs Try.prog 2 = some 8 := by kernel_rfl
theorem ze2 : zeroIs Try.prog 2 = some (vI 0) := by kernel_rfl
theorem sc3 : scal Try.prog 3 = true := by kernel_rfl
theorem sz3 : sizeIs Try.prog 3 = some 1 := by kernel_rfl
theorem by3 : bytesIs Try.prog 3 = some 8 := by kernel_rfl
theorem ze3 : zeroIs Try.prog 3 = some (vI 0) := by kernel_rfl
theorem sc4 : scal Try.prog 4 = true := by kernel_rfl
theorem sz4 : sizeIs Try.prog 4 = some 1 := by kernel_rfl
theorem by4 : bytesIs Try.prog 4 = some 1 := by kernel_rfl
theorem ze4 : zeroIs Try.prog 4 = some (vB false) := by kernel_rfl
theorem sc5 : scal Try.prog 5 = true := by kernel_rfl
theorem sz5 : sizeIs Try.prog 5 = some 1 := by kernel_rfl
theorem by5 : bytesIs Try.prog 5 = some 1 := by kernel_rfl
theorem ze5 : zeroIs Try.prog 5 = some (vU8 0) := by kernel_rfl
theorem sc6 : scal Try.prog 6 = true := by kernel_rfl
theorem sz6 : sizeIs Try.prog 6 = some 1 := by kernel_rfl
theorem by6 : bytesIs Try.prog 6 = some 1 := by kernel_rfl
theorem ze6 : zeroIs Try.prog 6 = some (vU8 0) := by kernel_rfl
theorem ag7 : aggs Try.prog 7 = true := by kernel_rfl
theorem sz7 : sizeIs Try.prog 7 = some 4 := by kernel_rfl
theorem by7 : bytesIs Try.prog 7 = some 24 := by kernel_rfl
theorem ze7 : zeroIs Try.prog 7 = some (Value.agg #[vI 0, vI 0, vB false, vU8 0]) := by kernel_rfl
theorem fi7_0 : fieldIs Try.prog 7 0 = some (0, 2) := by kernel_rfl
theorem fi7_1 : fieldIs Try.prog 7 1 = some (1, 3) := by kernel_rfl
theorem fi7_2 : fieldIs Try.prog 7 2 = some (2, 4) := by kernel_rfl
theorem fi7_3 : fieldIs Try.prog 7 3 = some (3, 6) := by kernel_rfl
theorem ag8 : aggs Try.prog 8 = true := by kernel_rfl
theorem sz8 : sizeIs Try.prog 8 = some 4 := by kernel_rfl
theorem by8 : bytesIs Try.prog 8 = some 24 := by kernel_rfl
theorem ze8 : zeroIs Try.prog 8 = some (Value.agg #[vI 0, vI 0, vB false, vU8 0]) := by kernel_rfl
theorem fi8_0 : fieldIs Try.prog 8 0 = some (0, 2) := by kernel_rfl
theorem fi8_1 : fieldIs Try.prog 8 1 = some (1, 3) := by kernel_rfl
theorem fi8_2 : fieldIs Try.prog 8 2 = some (2, 4) := by kernel_rfl
theorem fi8_3 : fieldIs Try.prog 8 3 = some (3, 6) := by kernel_rfl
theorem sc9 : scal Try.prog 9 = true := by kernel_rfl
theorem sz9 : sizeIs Try.prog 9 = some 1 := by kernel_rfl
theorem by9 : bytesIs Try.prog 9 = some 16 := by kernel_rfl
theorem ze9 : zeroIs Try.prog 9 = some (vS []) := by kernel_rfl
theorem sc10 : scal Try.prog 10 = true := by kernel_rfl
theorem sz10 : sizeIs Try.prog 10 = some 1 := by kernel_rfl
theorem by10 : bytesIs Try.prog 10 = some 16 := by kernel_rfl
theorem ze10 : zeroIs Try.prog 10 = some (vS []) := by kernel_rfl
theorem sc11 : scal Try.prog 11 = true := by kernel_rfl
theorem sz11 : sizeIs Try.prog 11 = some 1 := by kernel_rfl
theorem by11 : bytesIs Try.prog 11 = some 16 := by kernel_rfl
theorem ze11 : zeroIs Try.prog 11 = some (vS []) := by kernel_rfl
theorem sc12 : scal Try.prog 12 = true := by kernel_rfl
theorem sz12 : sizeIs Try.prog 12 = some 1 := by kernel_rfl
theorem by12 : bytesIs Try.prog 12 = some 8 := by kernel_rfl
theorem ze12 : zeroIs Try.prog 12 = some (vU64 0) := by kernel_rfl
theorem ag13 : aggs Try.prog 13 = true := by kernel_rfl
theorem sz13 : sizeIs Try.prog 13 = some 2 := by kernel_rfl
theorem by13 : bytesIs Try.prog 13 = some 24 := by kernel_rfl
theorem ze13 : zeroIs Try.prog 13 = some (Value.agg #[vS [], vU64 0]) := by kernel_rfl
theorem fi13_0 : fieldIs Try.prog 13 0 = some (0, 9) := by kernel_rfl
theorem fi13_1 : fieldIs Try.prog 13 1 = some (1, 12) := by kernel_rfl
theorem ag14 : aggs Try.prog 14 = true := by kernel_rfl
theorem sz14 : sizeIs Try.prog 14 = some 2 := by kernel_rfl
theorem by14 : bytesIs Try.prog 14 = some 24 := by kernel_rfl
theorem ze14 : zeroIs Try.prog 14 = some (Value.agg #[vS [], vU64 0]) := by kernel_rfl
theorem fi14_0 : fieldIs Try.prog 14 0 = some (0, 9) := by kernel_rfl
theorem fi14_1 : fieldIs Try.prog 14 1 = some (1, 12) := by kernel_rfl
theorem sc15 : scal Try.prog 15 = true := by kernel_rfl
theorem sz15 : sizeIs Try.prog 15 = some 1 := by kernel_rfl
theorem by15 : bytesIs Try.prog 15 = some 8 := by kernel_rfl
theorem ze15 : zeroIs Try.prog 15 = some (Value.pointer none) := by kernel_rfl
theorem sc16 : scal Try.prog 16 = true := by kernel_rfl
theorem sz16 : sizeIs Try.prog 16 = some 1 := by kernel_rfl
theorem by16 : bytesIs Try.prog 16 = some 8 := by kernel_rfl
theorem ze16 : zeroIs Try.prog 16 = some (Value.pointer none) := by kernel_rfl
theorem sc17 : scal Try.prog 17 = true := by kernel_rfl
theorem sz17 : sizeIs Try.prog 17 = some 1 := by kernel_rfl
theorem by17 : bytesIs Try.prog 17 = some 8 := by kernel_rfl
theorem ze17 : zeroIs Try.prog 17 = some (Value.pointer none) := by kernel_rfl
theorem ag18 : aggs Try.prog 18 = true := by kernel_rfl
theorem sz18 : sizeIs Try.prog 18 = some 1 := by kernel_rfl
theorem by18 : bytesIs Try.prog 18 = some 8 := by kernel_rfl
theorem ze18 : zeroIs Try.prog 18 = some (Value.agg #[Value.pointer none]) := by kernel_rfl
theorem fi18_0 : fieldIs Try.prog 18 0 = some (0, 17) := by kernel_rfl
theorem ag19 : aggs Try.prog 19 = true := by kernel_rfl
theorem sz19 : sizeIs Try.prog 19 = some 1 := by kernel_rfl
theorem by19 : bytesIs Try.prog 19 = some 8 := by kernel_rfl
theorem ze19 : zeroIs Try.prog 19 = some (Value.agg #[Value.pointer none]) := by kernel_rfl
theorem fi19_0 : fieldIs Try.prog 19 0 = some (0, 17) := by kernel_rfl
theorem sc20 : scal Try.prog 20 = true := by kernel_rfl
theorem sz20 : sizeIs Try.prog 20 = some 1 := by kernel_rfl
theorem by20 : bytesIs Try.prog 20 = some 16 := by kernel_rfl
theorem ze20 : zeroIs Try.prog 20 = some (Value.nilIface) := by kernel_rfl
theorem sc21 : scal Try.prog 21 = true := by kernel_rfl
theorem sz21 : sizeIs Try.prog 21 = some 1 := by kernel_rfl
theorem by21 : bytesIs Try.prog 21 = some 4 := by kernel_rfl
theorem ze21 : zeroIs Try.prog 21 = some ((.int .i32 0)) := by kernel_rfl
theorem sc22 : scal Try.prog 22 = true := by kernel_rfl
theorem sz22 : sizeIs Try.prog 22 = some 1 := by kernel_rfl
theorem by22 : bytesIs Try.prog 22 = some 8 := by kernel_rfl
theorem ze22 : zeroIs Try.prog 22 = some (Value.nilFunc) := by kernel_rfl
theorem sc23 : scal Try.prog 23 = true := by kernel_rfl
theorem sz23 : sizeIs Try.prog 23 = some 1 := by kernel_rfl
theorem by23 : bytesIs Try.prog 23 = some 8 := by kernel_rfl
theorem ze23 : zeroIs Try.prog 23 = some (vI 0) := by kernel_rfl
theorem sc25 : scal Try.prog 25 = true := by kernel_rfl
theorem sz25 : sizeIs Try.prog 25 = some 1 := by kernel_rfl
theorem by25 : bytesIs Try.prog 25 = some 8 := by kernel_rfl
theorem ze25 : zeroIs Try.prog 25 = some (Value.nilFunc) := by kernel_rfl
theorem sc26 : scal Try.prog 26 = true := by kernel_rfl
theorem sz26 : sizeIs Try.prog 26 = some 1 := by kernel_rfl
theorem by26 : bytesIs Try.prog 26 = some 8 := by kernel_rfl
theorem ze26 : zeroIs Try.prog 26 = some (Value.nilFunc) := by kernel_rfl
theorem sc27 : scal Try.prog 27 = true := by kernel_rfl
theorem sz27 : sizeIs Try.prog 27 = some 1 := by kernel_rfl
theorem by27 : bytesIs Try.prog 27 = some 8 := by kernel_rfl
theorem ze27 : zeroIs Try.prog 27 = some (Value.nilFunc) := by kernel_rfl
theorem sc28 : scal Try.prog 28 = true := by kernel_rfl
theorem sz28 : sizeIs Try.prog 28 = some 1 := by kernel_rfl
theorem by28 : bytesIs Try.prog 28 = some 2 := by kernel_rfl
theorem ze28 : zeroIs Try.prog 28 = some (vU16 0) := by kernel_rfl
theorem sc29 : scal Try.prog 29 = true := by kernel_rfl
theorem sz29 : sizeIs Try.prog 29 = some 1 := by kernel_rfl
theorem by29 : bytesIs Try.prog 29 = some 4 := by kernel_rfl
theorem ze29 : zeroIs Try.prog 29 = some (vU32 0) := by kernel_rfl
theorem sc30 : scal Try.prog 30 = true := by kernel_rfl
theorem sz30 : sizeIs Try.prog 30 = some 1 := by kernel_rfl
theorem by30 : bytesIs Try.prog 30 = some 8 := by kernel_rfl
theorem ze30 : zeroIs Try.prog 30 = some (Value.nilFunc) := by kernel_rfl
theorem sc31 : scal Try.prog 31 = true := by kernel_rfl
theorem sz31 : sizeIs Try.prog 31 = some 1 := by kernel_rfl
theorem by31 : bytesIs Try.prog 31 = some 8 := by kernel_rfl
theorem ze31 : zeroIs Try.prog 31 = some (Value.nilFunc) := by kernel_rfl
theorem sc32 : scal Try.prog 32 = true := by kernel_rfl
theorem sz32 : sizeIs Try.prog 32 = some 1 := by kernel_rfl
theorem by32 : bytesIs Try.prog 32 = some 8 := by kernel_rfl
theorem ze32 : zeroIs Try.prog 32 = some (Value.nilFunc) := by kernel_rfl
theorem ag33 : aggs Try.prog 33 = true := by kernel_rfl
theorem sz33 : sizeIs Try.prog 33 = some 21 := by kernel_rfl
theorem by33 : bytesIs Try.prog 33 = some 184 := by kernel_rfl
theorem ze33 : zeroIs Try.prog 33 = some (Value.agg #[vI 0, vI 0, vI 0, vI 0, vI 0, vI 0, vI 0, vI 0, vI 0, vI 0, vI 0, vI 0, vI 0, vI 0, vB false, vI 0, vS [], vS [], vI 0, vI 0, vB false]) := by kernel_rfl
theorem fi33_0 : fieldIs Try.prog 33 0 = some (0, 3) := by kernel_rfl
theorem fi33_1 : fieldIs Try.prog 33 1 = some (1, 3) := by kernel_rfl
theorem fi33_2 : fieldIs Try.prog 33 2 = some (2, 3) := by kernel_rfl
theorem fi33_3 : fieldIs Try.prog 33 3 = some (3, 3) := by kernel_rfl
theorem fi33_4 : fieldIs Try.prog 33 4 = some (4, 3) := by kernel_rfl
theorem fi33_5 : fieldIs Try.prog 33 5 = some (5, 3) := by kernel_rfl
theorem fi33_6 : fieldIs Try.prog 33 6 = some (6, 3) := by kernel_rfl
theorem fi33_7 : fieldIs Try.prog 33 7 = some (7, 3) := by kernel_rfl
theorem fi33_8 : fieldIs Try.prog 33 8 = some (8, 3) := by kernel_rfl
theorem fi33_9 : fieldIs Try.prog 33 9 = some (9, 3) := by kernel_rfl
theorem fi33_10 : fieldIs Try.prog 33 10 = some (10, 3) := by kernel_rfl
theorem fi33_11 : fieldIs Try.prog 33 11 = some (11, 3) := by kernel_rfl
theorem fi33_12 : fieldIs Try.prog 33 12 = some (12, 3) := by kernel_rfl
theorem fi33_13 : fieldIs Try.prog 33 13 = some (13, 3) := by kernel_rfl
theorem fi33_14 : fieldIs Try.prog 33 14 = some (14, 4) := by kernel_rfl
theorem fi33_15 : fieldIs Try.prog 33 15 = some (15, 3) := by kernel_rfl
theorem fi33_16 : fieldIs Try.prog 33 16 = some (16, 9) := by kernel_rfl
theorem fi33_17 : fieldIs Try.prog 33 17 = some (17, 9) := by kernel_rfl
theorem fi33_18 : fieldIs Try.prog 33 18 = some (18, 3) := by kernel_rfl
theorem fi33_19 : fieldIs Try.prog 33 19 = some (19, 3) := by kernel_rfl
theorem fi33_20 : fieldIs Try.prog 33 20 = some (20, 4) := by kernel_rfl
theorem ag34 : aggs Try.prog 34 = true := by kernel_rfl
theorem sz34 : sizeIs Try.prog 34 = some 21 := by kernel_rfl
theorem by34 : bytesIs Try.prog 34 = some 184 := by kernel_rfl
theorem ze34 : zeroIs Try.prog 34 = some (Value.agg #[vI 0, vI 0, vI 0, vI 0, vI 0, vI 0, vI 0, vI 0, vI 0, vI 0, vI 0, vI 0, vI 0, vI 0, vB false, vI 0, vS [], vS [], vI 0, vI 0, vB false]) := by kernel_rfl
theorem fi34_0 : fieldIs Try.prog 34 0 = some (0, 3) := by kernel_rfl
theorem fi34_1 : fieldIs Try.prog 34 1 = some (1, 3) := by kernel_rfl
theorem fi34_2 : fieldIs Try.prog 34 2 = some (2, 3) := by kernel_rfl
theorem fi34_3 : fieldIs Try.prog 34 3 = some (3, 3) := by kernel_rfl
theorem fi34_4 : fieldIs Try.prog 34 4 = some (4, 3) := by kernel_rfl
theorem fi34_5 : fieldIs Try.prog 34 5 = some (5, 3) := by kernel_rfl
theorem fi34_6 : fieldIs Try.prog 34 6 = some (6, 3) := by kernel_rfl
theorem fi34_7 : fieldIs Try.prog 34 7 = some (7, 3) := by kernel_rfl
theorem fi34_8 : fieldIs Try.prog 34 8 = some (8, 3) := by kernel_rfl
theorem fi34_9 : fieldIs Try.prog 34 9 = some (9, 3) := by kernel_rfl
theorem fi34_10 : fieldIs Try.prog 34 10 = some (10, 3) := by kernel_rfl
theorem fi34_11 : fieldIs Try.prog 34 11 = some (11, 3) := by kernel_rfl
theorem fi34_12 : fieldIs Try.prog 34 12 = some (12, 3) := by kernel_rfl
theorem fi34_13 : fieldIs Try.prog 34 13 = some (13, 3) := by kernel_rfl
theorem fi34_14 : fieldIs Try.prog 34 14 = some (14, 4) := by kernel_rfl
theorem fi34_15 : fieldIs Try.prog 34 15 = some (15, 3) := by kernel_rfl
theorem fi34_16 : fieldIs Try.prog 34 16 = some (16, 9) := by kernel_rfl
theorem fi34_17 : fieldIs Try.prog 34 17 = some (17, 9) := by kernel_rfl
theorem fi34_18 : fieldIs Try.prog 34 18 = some (18, 3) := by kernel_rfl
theorem fi34_19 : fieldIs Try.prog 34 19 = some (19, 3) := by kernel_rfl
theorem fi34_20 : fieldIs Try.prog 34 20 = some (20, 4) := by kernel_rfl
theorem sc35 : scal Try.prog 35 = true := by kernel_rfl
theorem sz35 : sizeIs Try.prog 35 = some 1 := by kernel_rfl
theorem by35 : bytesIs Try.prog 35 = some 24 := by kernel_rfl
theorem ze35 : zeroIs Try.prog 35 = some (Value.slice none 0 0) := by kernel_rfl
theorem ag36 : aggs Try.prog 36 = true := by kernel_rfl
theorem sz36 : sizeIs Try.prog 36 = some 23 := by kernel_rfl
theorem by36 : bytesIs Try.prog 36 = some 216 := by kernel_rfl
theorem ze36 : zeroIs Try.prog 36 = some (Value.agg #[vI 0, vI 0, vI 0, vI 0, vI 0, vI 0, vI 0, vI 0, vI 0, vI 0, vI 0, vI 0, vI 0, vI 0, vB false, vI 0, vS [], vS [], vI 0, vI 0, vB false, vI 0, Value.slice none 0 0]) := by kernel_rfl
theorem fi36_0 : fieldIs Try.prog 36 0 = some (0, 34) := by kernel_rfl
theorem fi36_1 : fieldIs Try.prog 36 1 = some (21, 3) := by kernel_rfl
theorem fi36_2 : fieldIs Try.prog 36 2 = some (22, 35) := by kernel_rfl
theorem ag37 : aggs Try.prog 37 = true := by kernel_rfl
theorem sz37 : sizeIs Try.prog 37 = some 23 := by kernel_rfl
theorem by37 : bytesIs Try.prog 37 = some 216 := by kernel_rfl
theorem ze37 : zeroIs Try.prog 37 = some (Value.agg #[vI 0, vI 0, vI 0, vI 0, vI 0, vI 0, vI 0, vI 0, vI 0, vI 0, vI 0, vI 0, vI 0, vI 0, vB false, vI 0, vS [], vS [], vI 0, vI 0, vB false, vI 0, Value.slice none 0 0]) := by kernel_rfl
theorem fi37_0 : fieldIs Try.prog 37 0 = some (0, 34) := by kernel_rfl
theorem fi37_1 : fieldIs Try.prog 37 1 = some (21, 3) := by kernel_rfl
theorem fi37_2 : fieldIs Try.prog 37 2 = some (22, 35) := by kernel_rfl
theorem sc38 : scal Try.prog 38 = true := by kernel_rfl
theorem sz38 : sizeIs Try.prog 38 = some 1 := by kernel_rfl
theorem by38 : bytesIs Try.prog 38 = some 8 := by kernel_rfl
theorem ze38 : zeroIs Try.prog 38 = some (Value.nilFunc) := by kernel_rfl
theorem sc40 : scal Try.prog 40 = true := by kernel_rfl
theorem sz40 : sizeIs Try.prog 40 = some 1 := by kernel_rfl
theorem by40 : bytesIs Try.prog 40 = some 8 := by kernel_rfl
theorem ze40 : zeroIs Try.prog 40 = some (Value.nilFunc) := by kernel_rfl
theorem sc41 : scal Try.prog 41 = true := by kernel_rfl
theorem sz41 : sizeIs Try.prog 41 = some 1 := by kernel_rfl
theorem by41 : bytesIs Try.prog 41 = some 8 := by kernel_rfl
theorem ze41 : zeroIs Try.prog 41 = some (Value.nilFunc) := by kernel_rfl
theorem sc42 : scal Try.prog 42 = true := by kernel_rfl
theorem sz42 : sizeIs Try.prog 42 = some 1 := by kernel_rfl
theorem by42 : bytesIs Try.prog 42 = some 8 := by kernel_rfl
theorem ze42 : zeroIs Try.prog 42 = some (Value.nilFunc) := by kernel_rfl
theorem sc44 : scal Try.prog 44 = true := by kernel_rfl
theorem sz44 : sizeIs Try.prog 44 = some 1 := by kernel_rfl
theorem by44 : bytesIs Try.prog 44 = some 8 := by kernel_rfl
theorem ze44 : zeroIs Try.prog 44 = some (Value.nilFunc) := by kernel_rfl
theorem sc46 : scal Try.prog 46 = true := by kernel_rfl
theorem sz46 : sizeIs Try.prog 46 = some 1 := by kernel_rfl
theorem by46 : bytesIs Try.prog 46 = some 8 := by kernel_rfl
theorem ze46 : zeroIs Try.prog 46 = some (Value.nilFunc) := by kernel_rfl
theorem sc47 : scal Try.prog 47 = true := by kernel_rfl
theorem sz47 : sizeIs Try.prog 47 = some 1 := by kernel_rfl
theorem by47 : bytesIs Try.prog 47 = some 8 := by kernel_rfl
theorem ze47 : zeroIs Try.prog 47 = some (Value.nilFunc) := by kernel_rfl
theorem sc48 : scal Try.prog 48 = true := by kernel_rfl
theorem sz48 : sizeIs Try.prog 48 = some 1 := by kernel_rfl
theorem by48 : bytesIs Try.prog 48 = some 24 := by kernel_rfl
theorem ze48 : zeroIs Try.prog 48 = some (Value.slice none 0 0) := by kernel_rfl
theorem sc49 : scal Try.prog 49 = true := by kernel_rfl
theorem sz49 : sizeIs Try.prog 49 = some 1 := by kernel_rfl
theorem by49 : bytesIs Try.prog 49 = some 8 := by kernel_rfl
theorem ze49 : zeroIs Try.prog 49 = some (Value.map none) := by kernel_rfl
theorem sc51 : scal Try.prog 51 = true := by kernel_rfl
theorem sz51 : sizeIs Try.prog 51 = some 1 := by kernel_rfl
theorem by51 : bytesIs Try.prog 51 = some 8 := by kernel_rfl
theorem ze51 : zeroIs Try.prog 51 = some (Value.nilFunc) := by kernel_rfl
theorem sc52 : scal Try.prog 52 = true := by kernel_rfl
theorem sz52 : sizeIs Try.prog 52 = some 1 := by kernel_rfl
theorem by52 : bytesIs Try.prog 52 = some 24 := by kernel_rfl
theorem ze52 : zeroIs Try.prog 52 = some (Value.slice none 0 0) := by kernel_rfl
theorem ag53 : aggs Try.prog 53 = true := by kernel_rfl
theorem sz53 : sizeIs Try.prog 53 = some 2 := by kernel_rfl
theorem by53 : bytesIs Try.prog 53 = some 32 := by kernel_rfl
theorem ze53 : zeroIs Try.prog 53 = some (Value.agg #[vS [], vS []]) := by kernel_rfl
theorem fi53_0 : fieldIs Try.prog 53 0 = some (0, 9) := by kernel_rfl
theorem fi53_1 : fieldIs Try.prog 53 1 = some (1, 9) := by kernel_rfl
theorem ag54 : aggs Try.prog 54 = true := by kernel_rfl
theorem sz54 : sizeIs Try.prog 54 = some 2 := by kernel_rfl
theorem by54 : bytesIs Try.prog 54 = some 32 := by kernel_rfl
theorem ze54 : zeroIs Try.prog 54 = some (Value.agg #[vS [], vS []]) := by kernel_rfl
theorem fi54_0 : fieldIs Try.prog 54 0 = some (0, 9) := by kernel_rfl
theorem fi54_1 : fieldIs Try.prog 54 1 = some (1, 9) := by kernel_rfl
theorem sc55 : scal Try.prog 55 = true := by kernel_rfl
theorem sz55 : sizeIs Try.prog 55 = some 1 := by kernel_rfl
theorem by55 : bytesIs Try.prog 55 = some 8 := by kernel_rfl
theorem ze55 : zeroIs Try.prog 55 = some (Value.nilFunc) := by kernel_rfl
theorem sc56 : scal Try.prog 56 = true := by kernel_rfl
theorem sz56 : sizeIs Try.prog 56 = some 1 := by kernel_rfl
theorem by56 : bytesIs Try.prog 56 = some 8 := by kernel_rfl
theorem ze56 : zeroIs Try.prog 56 = some (vU64 0) := by kernel_rfl
theorem sc57 : scal Try.prog 57 = true := by kernel_rfl
theorem sz57 : sizeIs Try.prog 57 = some 1 := by kernel_rfl
theorem by57 : bytesIs Try.prog 57 = some 24 := by kernel_rfl
theorem ze57 : zeroIs Try.prog 57 = some (Value.slice none 0 0) := by kernel_rfl
theorem sc58 : scal Try.prog 58 = true := by kernel_rfl
theorem sz58 : sizeIs Try.prog 58 = some 1 := by kernel_rfl
theorem by58 : bytesIs Try.prog 58 = some 8 := by kernel_rfl
theorem ze58 : zeroIs Try.prog 58 = some (Value.nilFunc) := by kernel_rfl
theorem sc59 : scal Try.prog 59 = true := by kernel_rfl
theorem sz59 : sizeIs Try.prog 59 = some 1 := by kernel_rfl
theorem by59 : bytesIs Try.prog 59 = some 8 := by kernel_rfl
theorem ze59 : zeroIs Try.prog 59 = some (Value.nilFunc) := by kernel_rfl
theorem sc60 : scal Try.prog 60 = true := by kernel_rfl
theorem sz60 : sizeIs Try.prog 60 = some 1 := by kernel_rfl
theorem by60 : bytesIs Try.prog 60 = some 8 := by kernel_rfl
theorem ze60 : zeroIs Try.prog 60 = some (Value.nilFunc) := by kernel_rfl
theorem sc61 : scal Try.prog 61 = true := by kernel_rfl
theorem sz61 : sizeIs Try.prog 61 = some 1 := by kernel_rfl
theorem by61 : bytesIs Try.prog 61 = some 24 := by kernel_rfl
theorem ze61 : zeroIs Try.prog 61 = some (Value.slice none 0 0) := by kernel_rfl
theorem sc62 : scal Try.prog 62 = true := by kernel_rfl
theorem sz62 : sizeIs Try.prog 62 = some 1 := by kernel_rfl
theorem by62 : bytesIs Try.prog 62 = some 8 := by kernel_rfl
theorem ze62 : zeroIs Try.prog 62 = some (Value.nilFunc) := by kernel_rfl
theorem sc63 : scal Try.prog 63 = true := by kernel_rfl
theorem sz63 : sizeIs Try.prog 63 = some 1 := by kernel_rfl
theorem by63 : bytesIs Try.prog 63 = some 24 := by kernel_rfl
theorem ze63 : zeroIs Try.prog 63 = some (Value.slice none 0 0) := by kernel_rfl
theorem sc64 : scal Try.prog 64 = true := by kernel_rfl
theorem sz64 : sizeIs Try.prog 64 = some 1 := by kernel_rfl
theorem by64 : bytesIs Try.prog 64 = some 8 := by kernel_rfl
theorem ze64 : zeroIs Try.prog 64 = some (Value.nilFunc) := by kernel_rfl
theorem sc65 : scal Try.prog 65 = true := by kernel_rfl
theorem sz65 : sizeIs Try.prog 65 = some 1 := by kernel_rfl
theorem by65 : bytesIs Try.prog 65 = some 8 := by kernel_rfl
theorem ze65 : zeroIs Try.prog 65 = some (Value.pointer none) := by kernel_rfl
theorem sc66 : scal Try.prog 66 = true := by kernel_rfl
theorem sz66 : sizeIs Try.prog 66 = some 1 := by kernel_rfl
theorem by66 : bytesIs Try.prog 66 = some 8 := by kernel_rfl
theorem ze66 : zeroIs Try.prog 66 = some (Value.pointer none) := by kernel_rfl
theorem sc67 : scal Try.prog 67 = true := by kernel_rfl
theorem sz67 : sizeIs Try.prog 67 = some 1 := by kernel_rfl
theorem by67 : bytesIs Try.prog 67 = some 8 := by kernel_rfl
theorem ze67 : zeroIs Try.prog 67 = some (Value.nilFunc) := by kernel_rfl
theorem sc68 : scal Try.prog 68 = true := by kernel_rfl
theorem sz68 : sizeIs Try.prog 68 = some 1 := by kernel_rfl
theorem by68 : bytesIs Try.prog 68 = some 8 := by kernel_rfl
theorem ze68 : zeroIs Try.prog 68 = some (Value.nilFunc) := by kernel_rfl
theorem sc69 : scal Try.prog 69 = true := by kernel_rfl
theorem sz69 : sizeIs Try.prog 69 = some 1 := by kernel_rfl
theorem by69 : bytesIs Try.prog 69 = some 8 := by kernel_rfl
theorem ze69 : zeroIs Try.prog 69 = some (Value.nilFunc) := by kernel_rfl
theorem sc70 : scal Try.prog 70 = true := by kernel_rfl
theorem sz70 : sizeIs Try.prog 70 = some 1 := by kernel_rfl
theorem by70 : bytesIs Try.prog 70 = some 8 := by kernel_rfl
theorem ze70 : zeroIs Try.prog 70 = some (Value.nilFunc) := by kernel_rfl
theorem sc71 : scal Try.prog 71 = true := by kernel_rfl
theorem sz71 : sizeIs Try.prog 71 = some 1 := by kernel_rfl
theorem by71 : bytesIs Try.prog 71 = some 8 := by kernel_rfl
theorem ze71 : zeroIs Try.prog 71 = some (Value.nilFunc) := by kernel_rfl
theorem sc72 : scal Try.prog 72 = true := by kernel_rfl
theorem sz72 : sizeIs Try.prog 72 = some 1 := by kernel_rfl
theorem by72 : bytesIs Try.prog 72 = some 24 := by kernel_rfl
theorem ze72 : zeroIs Try.prog 72 = some (Value.slice none 0 0) := by kernel_rfl
theorem sc73 : scal Try.prog 73 = true := by kernel_rfl
theorem sz73 : sizeIs Try.prog 73 = some 1 := by kernel_rfl
theorem by73 : bytesIs Try.prog 73 = some 8 := by kernel_rfl
theorem ze73 : zeroIs Try.prog 73 = some (Value.nilFunc) := by kernel_rfl
theorem sc74 : scal Try.prog 74 = true := by kernel_rfl
theorem sz74 : sizeIs Try.prog 74 = some 1 := by kernel_rfl
theorem by74 : bytesIs Try.prog 74 = some 8 := by kernel_rfl
theorem ze74 : zeroIs Try.prog 74 = some (Value.nilFunc) := by kernel_rfl
theorem sc75 : scal Try.prog 75 = true := by kernel_rfl
theorem sz75 : sizeIs Try.prog 75 = some 1 := by kernel_rfl
theorem by75 : bytesIs Try.prog 75 = some 8 := by kernel_rfl
theorem ze75 : zeroIs Try.prog 75 = some (Value.map none) := by kernel_rfl
theorem ag76 : aggs Try.prog 76 = true := by kernel_rfl
theorem sz76 : sizeIs Try.prog 76 = some 3 := by kernel_rfl
theorem by76 : bytesIs Try.prog 76 = some 24 := by kernel_rfl
theorem ze76 : zeroIs Try.prog 76 = some (Value.agg #[vB false, vB false, vS []]) := by kernel_rfl
theorem fi76_0 : fieldIs Try.prog 76 0 = some (0, 4) := by kernel_rfl
theorem fi76_1 : fieldIs Try.prog 76 1 = some (1, 4) := by kernel_rfl
theorem fi76_2 : fieldIs Try.prog 76 2 = some (2, 9) := by kernel_rfl
theorem ag77 : aggs Try.prog 77 = true := by kernel_rfl
theorem sz77 : sizeIs Try.prog 77 = some 3 := by kernel_rfl
theorem by77 : bytesIs Try.prog 77 = some 24 := by kernel_rfl
theorem ze77 : zeroIs Try.prog 77 = some (Value.agg #[vB false, vB false, vS []]) := by kernel_rfl
theorem fi77_0 : fieldIs Try.prog 77 0 = some (0, 4) := by kernel_rfl
theorem fi77_1 : fieldIs Try.prog 77 1 = some (1, 4) := by kernel_rfl
theorem fi77_2 : fieldIs Try.prog 77 2 = some (2, 9) := by kernel_rfl
theorem sc80 : scal Try.prog 80 = true := by kernel_rfl
theorem sz80 : sizeIs Try.prog 80 = some 1 := by kernel_rfl
theorem by80 : bytesIs Try.prog 80 = some 8 := by kernel_rfl
theorem ze80 : zeroIs Try.prog 80 = some (Value.nilFunc) := by kernel_rfl
theorem sc82 : scal Try.prog 82 = true := by kernel_rfl
theorem sz82 : sizeIs Try.prog 82 = some 1 := by kernel_rfl
theorem by82 : bytesIs Try.prog 82 = some 8 := by kernel_rfl
theorem ze82 : zeroIs Try.prog 82 = some (Value.nilFunc) := by kernel_rfl
theorem sc83 : scal Try.prog 83 = true := by kernel_rfl
theorem sz83 : sizeIs Try.prog 83 = some 1 := by kernel_rfl
theorem by83 : bytesIs Try.prog 83 = some 8 := by kernel_rfl
theorem ze83 : zeroIs Try.prog 83 = some (Value.nilFunc) := by kernel_rfl
theorem sc84 : scal Try.prog 84 = true := by kernel_rfl
theorem sz84 : sizeIs Try.prog 84 = some 1 := by kernel_rfl
theorem by84 : bytesIs Try.prog 84 = some 8 := by kernel_rfl
theorem ze84 : zeroIs Try.prog 84 = some (Value.nilFunc) := by kernel_rfl
theorem sc85 : scal Try.prog 85 = true := by kernel_rfl
theorem sz85 : sizeIs Try.prog 85 = some 1 := by kernel_rfl
theorem by85 : bytesIs Try.prog 85 = some 8 := by kernel_rfl
theorem ze85 : zeroIs Try.prog 85 = some (Value.nilFunc) := by kernel_rfl
theorem sc86 : scal Try.prog 86 = true := by kernel_rfl
theorem sz86 : sizeIs Try.prog 86 = some 1 := by kernel_rfl
theorem by86 : bytesIs Try.prog 86 = some 8 := by kernel_rfl
theorem ze86 : zeroIs Try.prog 86 = some (Value.nilFunc) := by kernel_rfl
theorem sc87 : scal Try.prog 87 = true := by kernel_rfl
theorem sz87 : sizeIs Try.prog 87 = some 1 := by kernel_rfl
theorem by87 : bytesIs Try.prog 87 = some 8 := by kernel_rfl
theorem ze87 : zeroIs Try.prog 87 = some (Value.pointer none) := by kernel_rfl
theorem sc88 : scal Try.prog 88 = true := by kernel_rfl
theorem sz88 : sizeIs Try.prog 88 = some 1 := by kernel_rfl
theorem by88 : bytesIs Try.prog 88 = some 8 := by kernel_rfl
theorem ze88 : zeroIs Try.prog 88 = some (Value.nilFunc) := by kernel_rfl
theorem sc89 : scal Try.prog 89 = true := by kernel_rfl
theorem sz89 : sizeIs Try.prog 89 = some 1 := by kernel_rfl
theorem by89 : bytesIs Try.prog 89 = some 8 := by kernel_rfl
theorem ze89 : zeroIs Try.prog 89 = some (Value.nilFunc) := by kernel_rfl
theorem sc90 : scal Try.prog 90 = true := by kernel_rfl
theorem sz90 : sizeIs Try.prog 90 = some 1 := by kernel_rfl
theorem by90 : bytesIs Try.prog 90 = some 8 := by kernel_rfl
theorem ze90 : zeroIs Try.prog 90 = some (Value.nilFunc) := by kernel_rfl
theorem sc91 : scal Try.prog 91 = true := by kernel_rfl
theorem sz91 : sizeIs Try.prog 91 = some 1 := by kernel_rfl
theorem by91 : bytesIs Try.prog 91 = some 24 := by kernel_rfl
theorem ze91 : zeroIs Try.prog 91 = some (Value.slice none 0 0) := by kernel_rfl
theorem ag92 : aggs Try.prog 92 = true := by kernel_rfl
theorem sz92 : sizeIs Try.prog 92 = some 4 := by kernel_rfl
theorem by92 : bytesIs Try.prog 92 = some 24 := by kernel_rfl
theorem ze92 : zeroIs Try.prog 92 = some (Value.agg #[vB false, vB false, vB false, vS []]) := by kernel_rfl
theorem fi92_0 : fieldIs Try.prog 92 0 = some (0, 4) := by kernel_rfl
theorem fi92_1 : fieldIs Try.prog 92 1 = some (1, 4) := by kernel_rfl
theorem fi92_2 : fieldIs Try.prog 92 2 = some (2, 4) := by kernel_rfl
theorem fi92_3 : fieldIs Try.prog 92 3 = some (3, 9) := by kernel_rfl
theorem ag93 : aggs Try.prog 93 = true := by kernel_rfl
theorem sz93 : sizeIs Try.prog 93 = some 4 := by kernel_rfl
theorem by93 : bytesIs Try.prog 93 = some 24 := by kernel_rfl
theorem ze93 : zeroIs Try.prog 93 = some (Value.agg #[vB false, vB false, vB false, vS []]) := by kernel_rfl
theorem fi93_0 : fieldIs Try.prog 93 0 = some (0, 4) := by kernel_rfl
theorem fi93_1 : fieldIs Try.prog 93 1 = some (1, 4) := by kernel_rfl
theorem fi93_2 : fieldIs Try.prog 93 2 = some (2, 4) := by kernel_rfl
theorem fi93_3 : fieldIs Try.prog 93 3 = some (3, 9) := by kernel_rfl
theorem sc94 : scal Try.prog 94 = true := by kernel_rfl
theorem sz94 : sizeIs Try.prog 94 = some 1 := by kernel_rfl
theorem by94 : bytesIs Try.prog 94 = some 8 := by kernel_rfl
theorem ze94 : zeroIs Try.prog 94 = some (Value.nilFunc) := by kernel_rfl
theorem sc96 : scal Try.prog 96 = true := by kernel_rfl
theorem sz96 : sizeIs Try.prog 96 = some 1 := by kernel_rfl
theorem by96 : bytesIs Try.prog 96 = some 8 := by kernel_rfl
theorem ze96 : zeroIs Try.prog 96 = some (Value.nilFunc) := by kernel_rfl
theorem sc98 : scal Try.prog 98 = true := by kernel_rfl
theorem sz98 : sizeIs Try.prog 98 = some 1 := by kernel_rfl
theorem by98 : bytesIs Try.prog 98 = some 8 := by kernel_rfl
theorem ze98 : zeroIs Try.prog 98 = some (Value.nilFunc) := by kernel_rfl
theorem sc99 : scal Try.prog 99 = true := by kernel_rfl
theorem sz99 : sizeIs Try.prog 99 = some 1 := by kernel_rfl
theorem by99 : bytesIs Try.prog 99 = some 8 := by kernel_rfl
theorem ze99 : zeroIs Try.prog 99 = some (Value.map none) := by kernel_rfl
theorem ag100 : aggs Try.prog 100 = true := by kernel_rfl
theorem sz100 : sizeIs Try.prog 100 = some 4 := by kernel_rfl
theorem by100 : bytesIs Try.prog 100 = some 12 := by kernel_rfl
theorem ze100 : zeroIs Try.prog 100 = some (Value.agg #[vU16 0, vU16 0, vU32 0, vU8 0]) := by kernel_rfl
theorem fi100_0 : fieldIs Try.prog 100 0 = some (0, 28) := by kernel_rfl
theorem fi100_1 : fieldIs Try.prog 100 1 = some (1, 28) := by kernel_rfl
theorem fi100_2 : fieldIs Try.prog 100 2 = some (2, 29) := by kernel_rfl
theorem fi100_3 : fieldIs Try.prog 100 3 = some (3, 5) := by kernel_rfl
theorem ag101 : aggs Try.prog 101 = true := by kernel_rfl
theorem sz101 : sizeIs Try.prog 101 = some 4 := by kernel_rfl
theorem by101 : bytesIs Try.prog 101 = some 12 := by kernel_rfl
theorem ze101 : zeroIs Try.prog 101 = some (Value.agg #[vU16 0, vU16 0, vU32 0, vU8 0]) := by kernel_rfl
theorem fi101_0 : fieldIs Try.prog 101 0 = some (0, 28) := by kernel_rfl
theorem fi101_1 : fieldIs Try.prog 101 1 = some (1, 28) := by kernel_rfl
theorem fi101_2 : fieldIs Try.prog 101 2 = some (2, 29) := by kernel_rfl
theorem fi101_3 : fieldIs Try.prog 101 3 = some (3, 5) := by kernel_rfl
theorem sc102 : scal Try.prog 102 = true := by kernel_rfl
theorem sz102 : sizeIs Try.prog 102 = some 1 := by kernel_rfl
theorem by102 : bytesIs Try.prog 102 = some 8 := by kernel_rfl
theorem ze102 : zeroIs Try.prog 102 = some (Value.nilFunc) := by kernel_rfl
theorem sc103 : scal Try.prog 103 = true := by kernel_rfl
theorem sz103 : sizeIs Try.prog 103 = some 1 := by kernel_rfl
theorem by103 : bytesIs Try.prog 103 = some 8 := by kernel_rfl
theorem ze103 : zeroIs Try.prog 103 = some (Value.nilFunc) := by kernel_rfl
theorem sc104 : scal Try.prog 104 = true := by kernel_rfl
theorem sz104 : sizeIs Try.prog 104 = some 1 := by kernel_rfl
theorem by104 : bytesIs Try.prog 104 = some 8 := by kernel_rfl
theorem ze104 : zeroIs Try.prog 104 = some (vU64 0) := by kernel_rfl
theorem sc105 : scal Try.prog 105 = true := by kernel_rfl
theorem sz105 : sizeIs Try.prog 105 = some 1 := by kernel_rfl
theorem by105 : bytesIs Try.prog 105 = some 8 := by kernel_rfl
theorem ze105 : zeroIs Try.prog 105 = some (Value.nilFunc) := by kernel_rfl
theorem sc106 : scal Try.prog 106 = true := by kernel_rfl
theorem sz106 : sizeIs Try.prog 106 = some 1 := by kernel_rfl
theorem by106 : bytesIs Try.prog 106 = some 8 := by kernel_rfl
theorem ze106 : zeroIs Try.prog 106 = some (Value.nilFunc) := by kernel_rfl
theorem sc107 : scal Try.prog 107 = true := by kernel_rfl
theorem sz107 : sizeIs Try.prog 107 = some 1 := by kernel_rfl
theorem by107 : bytesIs Try.prog 107 = some 8 := by kernel_rfl
theorem ze107 : zeroIs Try.prog 107 = some (Value.nilFunc) := by kernel_rfl
theorem sc108 : scal Try.prog 108 = true := by kernel_rfl
theorem sz108 : sizeIs Try.prog 108 = some 1 := by kernel_rfl
theorem by108 : bytesIs Try.prog 108 = some 8 := by kernel_rfl
theorem ze108 : zeroIs Try.prog 108 = some (Value.nilFunc) := by kernel_rfl
theorem sc109 : scal Try.prog 109 = true := by kernel_rfl
theorem sz109 : sizeIs Try.prog 109 = some 1 := by kernel_rfl
theorem by109 : bytesIs Try.prog 109 = some 8 := by kernel_rfl
theorem ze109 : zeroIs Try.prog 109 = some (Value.nilFunc) := by kernel_rfl
theorem sc110 : scal Try.prog 110 = true := by kernel_rfl
theorem sz110 : sizeIs Try.prog 110 = some 1 := by kernel_rfl
theorem by110 : bytesIs Try.prog 110 = some 8 := by kernel_rfl
theorem ze110 : zeroIs Try.prog 110 = some (Value.nilFunc) := by kernel_rfl
theorem sc111 : scal Try.prog 111 = true := by kernel_rfl
theorem sz111 : sizeIs Try.prog 111 = some 1 := by kernel_rfl
theorem by111 : bytesIs Try.prog 111 = some 8 := by kernel_rfl
theorem ze111 : zeroIs Try.prog 111 = some (Value.nilFunc) := by kernel_rfl
theorem ag112 : aggs Try.prog 112 = true := by kernel_rfl
theorem sz112 : sizeIs Try.prog 112 = some 2 := by kernel_rfl
theorem by112 : bytesIs Try.prog 112 = some 24 := by kernel_rfl
theorem ze112 : zeroIs Try.prog 112 = some (Value.agg #[vS [], vI 0]) := by kernel_rfl
theorem fi112_0 : fieldIs Try.prog 112 0 = some (0, 9) := by kernel_rfl
theorem fi112_1 : fieldIs Try.prog 112 1 = some (1, 23) := by kernel_rfl
theorem ag113 : aggs Try.prog 113 = true := by kernel_rfl
theorem sz113 : sizeIs Try.prog 113 = some 2 := by kernel_rfl
theorem by113 : bytesIs Try.prog 113 = some 24 := by kernel_rfl
theorem ze113 : zeroIs Try.prog 113 = some (Value.agg #[vS [], vI 0]) := by kernel_rfl
theorem fi113_0 : fieldIs Try.prog 113 0 = some (0, 9) := by kernel_rfl
theorem fi113_1 : fieldIs Try.prog 113 1 = some (1, 23) := by kernel_rfl
theorem sc114 : scal Try.prog 114 = true := by kernel_rfl
theorem sz114 : sizeIs Try.prog 114 = some 1 := by kernel_rfl
theorem by114 : bytesIs Try.prog 114 = some 8 := by kernel_rfl
theorem ze114 : zeroIs Try.prog 114 = some (Value.nilFunc) := by kernel_rfl
theorem ag115 : aggs Try.prog 115 = true := by kernel_rfl
theorem sz115 : sizeIs Try.prog 115 = some 2 := by kernel_rfl
theorem by115 : bytesIs Try.prog 115 = some 24 := by kernel_rfl
theorem ze115 : zeroIs Try.prog 115 = some (Value.agg #[vS [], vI 0]) := by kernel_rfl
theorem fi115_0 : fieldIs Try.prog 115 0 = some (0, 9) := by kernel_rfl
theorem fi115_1 : fieldIs Try.prog 115 1 = some (1, 23) := by kernel_rfl
theorem ag116 : aggs Try.prog 116 = true := by kernel_rfl
theorem sz116 : sizeIs Try.prog 116 = some 2 := by kernel_rfl
theorem by116 : bytesIs Try.prog 116 = some 24 := by kernel_rfl
theorem ze116 : zeroIs Try.prog 116 = some (Value.agg #[vS [], vI 0]) := by kernel_rfl
theorem fi116_0 : fieldIs Try.prog 116 0 = some (0, 9) := by kernel_rfl
theorem fi116_1 : fieldIs Try.prog 116 1 = some (1, 23) := by kernel_rfl
theorem sc118 : scal Try.prog 118 = true := by kernel_rfl
theorem sz118 : sizeIs Try.prog 118 = some 1 := by kernel_rfl
theorem by118 : bytesIs Try.prog 118 = some 8 := by kernel_rfl
theorem ze118 : zeroIs Try.prog 118 = some (Value.nilFunc) := by kernel_rfl
theorem sc120 : scal Try.prog 120 = true := by kernel_rfl
theorem sz120 : sizeIs Try.prog 120 = some 1 := by kernel_rfl
theorem by120 : bytesIs Try.prog 120 = some 8 := by kernel_rfl
theorem ze120 : zeroIs Try.prog 120 = some (Value.nilFunc) := by kernel_rfl
theorem sc122 : scal Try.prog 122 = true := by kernel_rfl
theorem sz122 : sizeIs Try.prog 122 = some 1 := by kernel_rfl
theorem by122 : bytesIs Try.prog 122 = some 8 := by kernel_rfl
theorem ze122 : zeroIs Try.prog 122 = some (Value.nilFunc) := by kernel_rfl
theorem sc123 : scal Try.prog 123 = true := by kernel_rfl
theorem sz123 : sizeIs Try.prog 123 = some 1 := by kernel_rfl
theorem by123 : bytesIs Try.prog 123 = some 8 := by kernel_rfl
theorem ze123 : zeroIs Try.prog 123 = some (Value.nilFunc) := by kernel_rfl
theorem sc124 : scal Try.prog 124 = true := by kernel_rfl
theorem sz124 : sizeIs Try.prog 124 = some 1 := by kernel_rfl
theorem by124 : bytesIs Try.prog 124 = some 8 := by kernel_rfl
theorem ze124 : zeroIs Try.prog 124 = some (Value.nilFunc) := by kernel_rfl
theorem ag125 : aggs Try.prog 125 = true := by kernel_rfl
theorem sz125 : sizeIs Try.prog 125 = some 10 := by kernel_rfl
theorem by125 : bytesIs Try.prog 125 = some 10 := by kernel_rfl
theorem ze125 : zeroIs Try.prog 125 = some (Value.agg #[vU8 0, vU8 0, vU8 0, vU8 0, vU8 0, vU8 0, vU8 0, vU8 0, vU8 0, vU8 0]) := by kernel_rfl
theorem sc126 : scal Try.prog 126 = true := by kernel_rfl
theorem sz126 : sizeIs Try.prog 126 = some 1 := by kernel_rfl
theorem by126 : bytesIs Try.prog 126 = some 8 := by kernel_rfl
theorem ze126 : zeroIs Try.prog 126 = some (Value.nilFunc) := by kernel_rfl
theorem sc127 : scal Try.prog 127 = true := by kernel_rfl
theorem sz127 : sizeIs Try.prog 127 = some 1 := by kernel_rfl
theorem by127 : bytesIs Try.prog 127 = some 8 := by kernel_rfl
theorem ze127 : zeroIs Try.prog 127 = some (Value.nilFunc) := by kernel_rfl
theorem sc128 : scal Try.prog 128 = true := by kernel_rfl
theorem sz128 : sizeIs Try.prog 128 = some 1 := by kernel_rfl
theorem by128 : bytesIs Try.prog 128 = some 8 := by kernel_rfl
theorem ze128 : zeroIs Try.prog 128 = some (Value.nilFunc) := by kernel_rfl
theorem sc129 : scal Try.prog 129 = true := by kernel_rfl
theorem sz129 : sizeIs Try.prog 129 = some 1 := by kernel_rfl
theorem by129 : bytesIs Try.prog 129 = some 8 := by kernel_rfl
theorem ze129 : zeroIs Try.prog 129 = some (Value.nilFunc) := by kernel_rfl
theorem sc130 : scal Try.prog 130 = true := by kernel_rfl
theorem sz130 : sizeIs Try.prog 130 = some 1 := by kernel_rfl
theorem by130 : bytesIs Try.prog 130 = some 8 := by kernel_rfl
theorem ze130 : zeroIs Try.prog 130 = some (Value.nilFunc) := by kernel_rfl
theorem sc131 : scal Try.prog 131 = true := by kernel_rfl
theorem sz131 : sizeIs Try.prog 131 = some 1 := by kernel_rfl
theorem by131 : bytesIs Try.prog 131 = some 8 := by kernel_rfl
theorem ze131 : zeroIs Try.prog 131 = some (Value.nilFunc) := by kernel_rfl
theorem sc132 : scal Try.prog 132 = true := by kernel_rfl
theorem sz132 : sizeIs Try.prog 132 = some 1 := by kernel_rfl
theorem by132 : bytesIs Try.prog 132 = some 8 := by kernel_rfl
theorem ze132 : zeroIs Try.prog 132 = some (Value.nilFunc) := by kernel_rfl
theorem sc134 : scal Try.prog 134 = true := by kernel_rfl
theorem sz134 : sizeIs Try.prog 134 = some 1 := by kernel_rfl
theorem by134 : bytesIs Try.prog 134 = some 8 := by kernel_rfl
theorem ze134 : zeroIs Try.prog 134 = some (Value.nilFunc) := by kernel_rfl
theorem sc135 : scal Try.prog 135 = true := by kernel_rfl
theorem sz135 : sizeIs Try.prog 135 = some 1 := by kernel_rfl
theorem by135 : bytesIs Try.prog 135 = some 8 := by kernel_rfl
theorem ze135 : zeroIs Try.prog 135 = some (Value.nilFunc) := by kernel_rfl
theorem ag136 : aggs Try.prog 136 = true := by kernel_rfl
theorem sz136 : sizeIs Try.prog 136 = some 16 := by kernel_rfl
theorem by136 : bytesIs Try.prog 136 = some 64 := by kernel_rfl
theorem ze136 : zeroIs Try.prog 136 = some (Value.agg #[vU32 0, vU32 0, vU32 0, vU32 0, vU32 0, vU32 0, vU32 0, vU32 0, vU32 0, vU32 0, vU32 0, vU32 0, vU32 0, vU32 0, vU32 0, vU32 0]) := by kernel_rfl
theorem sc137 : scal Try.prog 137 = true := by kernel_rfl
theorem sz137 : sizeIs Try.prog 137 = some 1 := by kernel_rfl
theorem by137 : bytesIs Try.prog 137 = some 8 := by kernel_rfl
theorem ze137 : zeroIs Try.prog 137 = some (Value.nilFunc) := by kernel_rfl
theorem sc138 : scal Try.prog 138 = true := by kernel_rfl
theorem sz138 : sizeIs Try.prog 138 = some 1 := by kernel_rfl
theorem by138 : bytesIs Try.prog 138 = some 8 := by kernel_rfl
theorem ze138 : zeroIs Try.prog 138 = some (Value.nilFunc) := by kernel_rfl
theorem sc139 : scal Try.prog 139 = true := by kernel_rfl
theorem sz139 : sizeIs Try.prog 139 = some 1 := by kernel_rfl
theorem by139 : bytesIs Try.prog 139 = some 8 := by kernel_rfl
theorem ze139 : zeroIs Try.prog 139 = some (Value.nilFunc) := by kernel_rfl
theorem sc140 : scal Try.prog 140 = true := by kernel_rfl
theorem sz140 : sizeIs Try.prog 140 = some 1 := by kernel_rfl
theorem by140 : bytesIs Try.prog 140 = some 8 := by kernel_rfl
theorem ze140 : zeroIs Try.prog 140 = some (Value.nilFunc) := by kernel_rfl
theorem sc142 : scal Try.prog 142 = true := by kernel_rfl
theorem sz142 : sizeIs Try.prog 142 = some 1 := by kernel_rfl
theorem by142 : bytesIs Try.prog 142 = some 8 := by kernel_rfl
theorem ze142 : zeroIs Try.prog 142 = some (Value.nilFunc) := by kernel_rfl
theorem sc143 : scal Try.prog 143 = true := by kernel_rfl
theorem sz143 : sizeIs Try.prog 143 = some 1 := by kernel_rfl
theorem by143 : bytesIs Try.prog 143 = some 8 := by kernel_rfl
theorem ze143 : zeroIs Try.prog 143 = some (Value.nilFunc) := by kernel_rfl
theorem sc144 : scal Try.prog 144 = true := by kernel_rfl
theorem sz144 : sizeIs Try.prog 144 = some 1 := by kernel_rfl
theorem by144 : bytesIs Try.prog 144 = some 8 := by kernel_rfl
theorem ze144 : zeroIs Try.prog 144 = some (vI 0) := by kernel_rfl
theorem sc146 : scal Try.prog 146 = true := by kernel_rfl
theorem sz146 : sizeIs Try.prog 146 = some 1 := by kernel_rfl
theorem by146 : bytesIs Try.prog 146 = some 8 := by kernel_rfl
theorem ze146 : zeroIs Try.prog 146 = some (Value.nilFunc) := by kernel_rfl
theorem sc147 : scal Try.prog 147 = true := by kernel_rfl
theorem sz147 : sizeIs Try.prog 147 = some 1 := by kernel_rfl
theorem by147 : bytesIs Try.prog 147 = some 8 := by kernel_rfl
theorem ze147 : zeroIs Try.prog 147 = some (Value.nilFunc) := by kernel_rfl
theorem sc148 : scal Try.prog 148 = true := by kernel_rfl
theorem sz148 : sizeIs Try.prog 148 = some 1 := by kernel_rfl
theorem by148 : bytesIs Try.prog 148 = some 8 := by kernel_rfl
theorem ze148 : zeroIs Try.prog 148 = some (Value.nilFunc) := by kernel_rfl
theorem sc149 : scal Try.prog 149 = true := by kernel_rfl
theorem sz149 : sizeIs Try.prog 149 = some 1 := by kernel_rfl
theorem by149 : bytesIs Try.prog 149 = some 8 := by kernel_rfl
theorem ze149 : zeroIs Try.prog 149 = some (Value.nilFunc) := by kernel_rfl
theorem sc151 : scal Try.prog 151 = true := by kernel_rfl
theorem sz151 : sizeIs Try.prog 151 = some 1 := by kernel_rfl
theorem by151 : bytesIs Try.prog 151 = some 8 := by kernel_rfl
theorem ze151 : zeroIs Try.prog 151 = some (Value.nilFunc) := by kernel_rfl
theorem sc152 : scal Try.prog 152 = true := by kernel_rfl
theorem sz152 : sizeIs Try.prog 152 = some 1 := by kernel_rfl
theorem by152 : bytesIs Try.prog 152 = some 8 := by kernel_rfl
theorem ze152 : zeroIs Try.prog 152 = some (Value.nilFunc) := by kernel_rfl
theorem sc153 : scal Try.prog 153 = true := by kernel_rfl
theorem sz153 : sizeIs Try.prog 153 = some 1 := by kernel_rfl
theorem by153 : bytesIs Try.prog 153 = some 8 := by kernel_rfl
theorem ze153 : zeroIs Try.prog 153 = some (Value.nilFunc) := by kernel_rfl
theorem sc154 : scal Try.prog 154 = true := by kernel_rfl
theorem sz154 : sizeIs Try.prog 154 = some 1 := by kernel_rfl
theorem by154 : bytesIs Try.prog 154 = some 8 := by kernel_rfl
theorem ze154 : zeroIs Try.prog 154 = some (Value.nilFunc) := by kernel_rfl
theorem sc155 : scal Try.prog 155 = true := by kernel_rfl
theorem sz155 : sizeIs Try.prog 155 = some 1 := by kernel_rfl
theorem by155 : bytesIs Try.prog 155 = some 8 := by kernel_rfl
theorem ze155 : zeroIs Try.prog 155 = some (vU64 0) := by kernel_rfl
theorem sc156 : scal Try.prog 156 = true := by kernel_rfl
theorem sz156 : sizeIs Try.prog 156 = some 1 := by kernel_rfl
theorem by156 : bytesIs Try.prog 156 = some 8 := by kernel_rfl
theorem ze156 : zeroIs Try.prog 156 = some (Value.nilFunc) := by kernel_rfl
theorem sc157 : scal Try.prog 157 = true := by kernel_rfl
theorem sz157 : sizeIs Try.prog 157 = some 1 := by kernel_rfl
theorem by157 : bytesIs Try.prog 157 = some 8 := by kernel_rfl
theorem ze157 : zeroIs Try.prog 157 = some (Value.nilFunc) := by kernel_rfl
theorem sc158 : scal Try.prog 158 = true := by kernel_rfl
theorem sz158 : sizeIs Try.prog 158 = some 1 := by kernel_rfl
theorem by158 : bytesIs Try.prog 158 = some 8 := by kernel_rfl
theorem ze158 : zeroIs Try.prog 158 = some (Value.nilFunc) := by kernel_rfl
theorem sc159 : scal Try.prog 159 = true := by kernel_rfl
theorem sz159 : sizeIs Try.prog 159 = some 1 := by kernel_rfl
theorem by159 : bytesIs Try.prog 159 = some 8 := by kernel_rfl
theorem ze159 : zeroIs Try.prog 159 = some (Value.pointer none) := by kernel_rfl
theorem sc161 : scal Try.prog 161 = true := by kernel_rfl
theorem sz161 : sizeIs Try.prog 161 = some 1 := by kernel_rfl
theorem by161 : bytesIs Try.prog 161 = some 8 := by kernel_rfl
theorem ze161 : zeroIs Try.prog 161 = some (Value.nilFunc) := by kernel_rfl
theorem sc162 : scal Try.prog 162 = true := by kernel_rfl
theorem sz162 : sizeIs Try.prog 162 = some 1 := by kernel_rfl
theorem by162 : bytesIs Try.prog 162 = some 8 := by kernel_rfl
theorem ze162 : zeroIs Try.prog 162 = some (Value.nilFunc) := by kernel_rfl
theorem ag163 : aggs Try.prog 163 = true := by kernel_rfl
theorem sz163 : sizeIs Try.prog 163 = some 4 := by kernel_rfl
theorem by163 : bytesIs Try.prog 163 = some 40 := by kernel_rfl
theorem ze163 : zeroIs Try.prog 163 = some (Value.agg #[Value.pointer none, Value.pointer none, Value.pointer none, vS []]) := by kernel_rfl
theorem fi163_0 : fieldIs Try.prog 163 0 = some (0, 17) := by kernel_rfl
theorem fi163_1 : fieldIs Try.prog 163 1 = some (1, 17) := by kernel_rfl
theorem fi163_2 : fieldIs Try.prog 163 2 = some (2, 17) := by kernel_rfl
theorem fi163_3 : fieldIs Try.prog 163 3 = some (3, 9) := by kernel_rfl
theorem ag164 : aggs Try.prog 164 = true := by kernel_rfl
theorem sz164 : sizeIs Try.prog 164 = some 4 := by kernel_rfl
theorem by164 : bytesIs Try.prog 164 = some 40 := by kernel_rfl
theorem ze164 : zeroIs Try.prog 164 = some (Value.agg #[Value.pointer none, Value.pointer none, Value.pointer none, vS []]) := by kernel_rfl
theorem fi164_0 : fieldIs Try.prog 164 0 = some (0, 17) := by kernel_rfl
theorem fi164_1 : fieldIs Try.prog 164 1 = some (1, 17) := by kernel_rfl
theorem fi164_2 : fieldIs Try.prog 164 2 = some (2, 17) := by kernel_rfl
theorem fi164_3 : fieldIs Try.prog 164 3 = some (3, 9) := by kernel_rfl
theorem ag165 : aggs Try.prog 165 = true := by kernel_rfl
theorem sz165 : sizeIs Try.prog 165 = some 0 := by kernel_rfl
theorem by165 : bytesIs Try.prog 165 = some 0 := by kernel_rfl
theorem ze165 : zeroIs Try.prog 165 = some (Value.agg #[]) := by kernel_rfl
theorem ag166 : aggs Try.prog 166 = true := by kernel_rfl
theorem sz166 : sizeIs Try.prog 166 = some 0 := by kernel_rfl
theorem by166 : bytesIs Try.prog 166 = some 0 := by kernel_rfl
theorem ze166 : zeroIs Try.prog 166 = some (Value.agg #[]) := by kernel_rfl
theorem ag167 : aggs Try.prog 167 = true := by kernel_rfl
theorem sz167 : sizeIs Try.prog 167 = some 0 := by kernel_rfl
theorem by167 : bytesIs Try.prog 167 = some 0 := by kernel_rfl
theorem ze167 : zeroIs Try.prog 167 = some (Value.agg #[]) := by kernel_rfl
theorem sc168 : scal Try.prog 168 = true := by kernel_rfl
theorem sz168 : sizeIs Try.prog 168 = some 1 := by kernel_rfl
theorem by168 : bytesIs Try.prog 168 = some 8 := by kernel_rfl
theorem ze168 : zeroIs Try.prog 168 = some (Value.nilFunc) := by kernel_rfl
theorem sc169 : scal Try.prog 169 = true := by kernel_rfl
theorem sz169 : sizeIs Try.prog 169 = some 1 := by kernel_rfl
theorem by169 : bytesIs Try.prog 169 = some 1 := by kernel_rfl
theorem ze169 : zeroIs Try.prog 169 = some (vU8 0) := by kernel_rfl
theorem sc170 : scal Try.prog 170 = true := by kernel_rfl
theorem sz170 : sizeIs Try.prog 170 = some 1 := by kernel_rfl
theorem by170 : bytesIs Try.prog 170 = some 1 := by kernel_rfl
theorem ze170 : zeroIs Try.prog 170 = some (vU8 0) := by kernel_rfl
theorem sc171 : scal Try.prog 171 = true := by kernel_rfl
theorem sz171 : sizeIs Try.prog 171 = some 1 := by kernel_rfl
theorem by171 : bytesIs Try.prog 171 = some 8 := by kernel_rfl
theorem ze171 : zeroIs Try.prog 171 = some (Value.nilFunc) := by kernel_rfl
theorem sc172 : scal Try.prog 172 = true := by kernel_rfl
theorem sz172 : sizeIs Try.prog 172 = some 1 := by kernel_rfl
theorem by172 : bytesIs Try.prog 172 = some 8 := by kernel_rfl
theorem ze172 : zeroIs Try.prog 172 = some (Value.pointer none) := by kernel_rfl
theorem sc173 : scal Try.prog 173 = true := by kernel_rfl
theorem sz173 : sizeIs Try.prog 173 = some 1 := by kernel_rfl
theorem by173 : bytesIs Try.prog 173 = some 4 := by kernel_rfl
theorem ze173 : zeroIs Try.prog 173 = some ((.int .i32 0)) := by kernel_rfl
theorem sc174 : scal Try.prog 174 = true := by kernel_rfl
theorem sz174 : sizeIs Try.prog 174 = some 1 := by kernel_rfl
theorem by174 : bytesIs Try.prog 174 = some 4 := by kernel_rfl
theorem ze174 : zeroIs Try.prog 174 = some ((.int .i32 0)) := by kernel_rfl
theorem ag175 : aggs Try.prog 175 = true := by kernel_rfl
theorem sz175 : sizeIs Try.prog 175 = some 11 := by kernel_rfl
theorem by175 : bytesIs Try.prog 175 = some 48 := by kernel_rfl
theorem ze175 : zeroIs Try.prog 175 = some (Value.agg #[vU64 0, vU64 0, vU32 0, vU8 0, vU8 0, vU8 0, vU8 0, Value.nilFunc, Value.pointer none, (.int .i32 0), (.int .i32 0)]) := by kernel_rfl
theorem fi175_0 : fieldIs Try.prog 175 0 = some (0, 12) := by kernel_rfl
theorem fi175_1 : fieldIs Try.prog 175 1 = some (1, 12) := by kernel_rfl
theorem fi175_2 : fieldIs Try.prog 175 2 = some (2, 29) := by kernel_rfl
theorem fi175_3 : fieldIs Try.prog 175 3 = some (3, 169) := by kernel_rfl
theorem fi175_4 : fieldIs Try.prog 175 4 = some (4, 5) := by kernel_rfl
theorem fi175_5 : fieldIs Try.prog 175 5 = some (5, 5) := by kernel_rfl
theorem fi175_6 : fieldIs Try.prog 175 6 = some (6, 170) := by kernel_rfl
theorem fi175_7 : fieldIs Try.prog 175 7 = some (7, 171) := by kernel_rfl
theorem fi175_8 : fieldIs Try.prog 175 8 = some (8, 172) := by kernel_rfl
theorem fi175_9 : fieldIs Try.prog 175 9 = some (9, 173) := by kernel_rfl
theorem fi175_10 : fieldIs Try.prog 175 10 = some (10, 174) := by kernel_rfl
theorem ag176 : aggs Try.prog 176 = true := by kernel_rfl
theorem sz176 : sizeIs Try.prog 176 = some 11 := by kernel_rfl
theorem by176 : bytesIs Try.prog 176 = some 48 := by kernel_rfl
theorem ze176 : zeroIs Try.prog 176 = some (Value.agg #[vU64 0, vU64 0, vU32 0, vU8 0, vU8 0, vU8 0, vU8 0, Value.nilFunc, Value.pointer none, (.int .i32 0), (.int .i32 0)]) := by kernel_rfl
theorem fi176_0 : fieldIs Try.prog 176 0 = some (0, 12) := by kernel_rfl
theorem fi176_1 : fieldIs Try.prog 176 1 = some (1, 12) := by kernel_rfl
theorem fi176_2 : fieldIs Try.prog 176 2 = some (2, 29) := by kernel_rfl
theorem fi176_3 : fieldIs Try.prog 176 3 = some (3, 169) := by kernel_rfl
theorem fi176_4 : fieldIs Try.prog 176 4 = some (4, 5) := by kernel_rfl
theorem fi176_5 : fieldIs Try.prog 176 5 = some (5, 5) := by kernel_rfl
theorem fi176_6 : fieldIs Try.prog 176 6 = some (6, 170) := by kernel_rfl
theorem fi176_7 : fieldIs Try.prog 176 7 = some (7, 171) := by kernel_rfl
theorem fi176_8 : fieldIs Try.prog 176 8 = some (8, 172) := by kernel_rfl
theorem fi176_9 : fieldIs Try.prog 176 9 = some (9, 173) := by kernel_rfl
theorem fi176_10 : fieldIs Try.prog 176 10 = some (10, 174) := by kernel_rfl
theorem ca2 : Callable Try.prog 2 := ⟨Try.f2, Try.func2, by kernel_rfl, by kernel_rfl⟩
theorem ca3 : Callable Try.prog 3 := ⟨Try.f3, Try.func3, by kernel_rfl, by kernel_rfl⟩
theorem ca4 : Callable Try.prog 4 := ⟨Try.f4, Try.func4, by kernel_rfl, by kernel_rfl⟩
theorem ca5 : Callable Try.prog 5 := ⟨Try.f5, Try.func5, by kernel_rfl, by kernel_rfl⟩
theorem ca6 : Callable Try.prog 6 := ⟨Try.f6, Try.func6, by kernel_rfl, by kernel_rfl⟩
theorem ca7 : Callable Try.prog 7 := ⟨Try.f7, Try.func7, by kernel_rfl, by kernel_rfl⟩
theorem ca8 : Callable Try.prog 8 := ⟨Try.f8, Try.func8, by kernel_rfl, by kernel_rfl⟩
theorem ca9 : Callable Try.prog 9 := ⟨Try.f9, Try.func9, by kernel_rfl, by kernel_rfl⟩
theorem ca10 : Callable Try.prog 10 := ⟨Try.f10, Try.func10, by kernel_rfl, by kernel_rfl⟩
theorem ca11 : Callable Try.prog 11 := ⟨Try.f11, Try.func11, by kernel_rfl, by kernel_rfl⟩
theorem ca12 : Callable Try.prog 12 := ⟨Try.f12, Try.func12, by kernel_rfl, by kernel_rfl⟩
theorem ca13 : Callable Try.prog 13 := ⟨Try.f13, Try.func13, by kernel_rfl, by kernel_rfl⟩
theorem ca14 : Callable Try.prog 14 := ⟨Try.f14, Try.func14, by kernel_rfl, by kernel_rfl⟩
theorem ca15 : Callable Try.prog 15 := ⟨Try.f15, Try.func15, by kernel_rfl, by kernel_rfl⟩
theorem ca16 : Callable Try.prog 16 := ⟨Try.f16, Try.func16, by kernel_rfl, by kernel_rfl⟩
theorem ca17 : Callable Try.prog 17 := ⟨Try.f17, Try.func17, by kernel_rfl, by kernel_rfl⟩
theorem ca18 : Callable Try.prog 18 := ⟨Try.f18, Try.func18, by kernel_rfl, by kernel_rfl⟩
theorem ca19 : Callable Try.prog 19 := ⟨Try.f19, Try.func19, by kernel_rfl, by kernel_rfl⟩
theorem ca20 : Callable Try.prog 20 := ⟨Try.f20, Try.func20, by kernel_rfl, by kernel_rfl⟩
theorem ca21 : Callable Try.prog 21 := ⟨Try.f21, Try.func21, by kernel_rfl, by kernel_rfl⟩
theorem ca22 : Callable Try.prog 22 := ⟨Try.f22, Try.func22, by kernel_rfl, by kernel_rfl⟩
theorem ca23 : Callable Try.prog 23 := ⟨Try.f23, Try.func23, by kernel_rfl, by kernel_rfl⟩
theorem ca24 : Callable Try.prog 24 := ⟨Try.f24, Try.func24, by kernel_rfl, by kernel_rfl⟩
theorem ca25 : Callable Try.prog 25 := ⟨Try.f25, Try.func25, by kernel_rfl, by kernel_rfl⟩
theorem ca26 : Callable Try.prog 26 := ⟨Try.f26, Try.func26, by kernel_rfl, by kernel_rfl⟩
theorem ca27 : Callable Try.prog 27 := ⟨Try.f27, Try.func27, by kernel_rfl, by kernel_rfl⟩
theorem ca28 : Callable Try.prog 28 := ⟨Try.f28, Try.func28, by kernel_rfl, by kernel_rfl⟩
theorem ca29 : Callable Try.prog 29 := ⟨Try.f29, Try.func29, by kernel_rfl, by kernel_rfl⟩
theorem ca30 : Callable Try.prog 30 := ⟨Try.f30, Try.func30, by kernel_rfl, by kernel_rfl⟩
theorem ca31 : Callable Try.prog 31 := ⟨Try.f31, Try.func31, by kernel_rfl, by kernel_rfl⟩
theorem ca32 : Callable Try.prog 32 := ⟨Try.f32, Try.func32, by kernel_rfl, by kernel_rfl⟩
theorem ca33 : Callable Try.prog 33 := ⟨Try.f33, Try.func33, by kernel_rfl, by kernel_rfl⟩
theorem ca34 : Callable Try.prog 34 := ⟨Try.f34, Try.func34, by kernel_rfl, by kernel_rfl⟩
theorem ca35 : Callable Try.prog 35 := ⟨Try.f35, Try.func35, by kernel_rfl, by kernel_rfl⟩
theorem ca36 : Callable Try.prog 36 := ⟨Try.f36, Try.func36, by kernel_rfl, by kernel_rfl⟩
theorem ca37 : Callable Try.prog 37 := ⟨Try.f37, Try.func37, by kernel_rfl, by kernel_rfl⟩
theorem ca38 : Callable Try.prog 38 := ⟨Try.f38, Try.func38, by kernel_rfl, by kernel_rfl⟩
theorem ca39 : Callable Try.prog 39 := ⟨Try.f39, Try.func39, by kernel_rfl, by kernel_rfl⟩
theorem ca40 : Callable Try.prog 40 := ⟨Try.f40, Try.func40, by kernel_rfl, by kernel_rfl⟩
theorem ca41 : Callable Try.prog 41 := ⟨Try.f41, Try.func41, by kernel_rfl, by kernel_rfl⟩
theorem ca42 : Callable Try.prog 42 := ⟨Try.f42, Try.func42, by kernel_rfl, by kernel_rfl⟩
theorem ca43 : Callable Try.prog 43 := ⟨Try.f43, Try.func43, by kernel_rfl, by kernel_rfl⟩
theorem ca44 : Callable Try.prog 44 := ⟨Try.f44, Try.func44, by kernel_rfl, by kernel_rfl⟩
theorem ca45 : Callable Try.prog 45 := ⟨Try.f45, Try.func45, by kernel_rfl, by kernel_rfl⟩
theorem ca46 : Callable Try.prog 46 := ⟨Try.f46, Try.func46, by kernel_rfl, by kernel_rfl⟩
theorem ca47 : Callable Try.prog 47 := ⟨Try.f47, Try.func47, by kernel_rfl, by kernel_rfl⟩
theorem ca48 : Callable Try.prog 48 := ⟨Try.f48, Try.func48, by kernel_rfl, by kernel_rfl⟩
theorem ca49 : Callable Try.prog 49 := ⟨Try.f49, Try.func49, by kernel_rfl, by kernel_rfl⟩
theorem ca50 : Callable Try.prog 50 := ⟨Try.f50, Try.func50, by kernel_rfl, by kernel_rfl⟩
theorem ca51 : Callable Try.prog 51 := ⟨Try.f51, Try.func51, by kernel_rfl, by kernel_rfl⟩
theorem ca52 : Callable Try.prog 52 := ⟨Try.f52, Try.func52, by kernel_rfl, by kernel_rfl⟩
theorem ca53 : Callable Try.prog 53 := ⟨Try.f53, Try.func53, by kernel_rfl, by kernel_rfl⟩
theorem ca54 : Callable Try.prog 54 := ⟨Try.f54, Try.func54, by kernel_rfl, by kernel_rfl⟩
theorem ca55 : Callable Try.prog 55 := ⟨Try.f55, Try.func55, by kernel_rfl, by kernel_rfl⟩
theorem ca56 : Callable Try.prog 56 := ⟨Try.f56, Try.func56, by kernel_rfl, by kernel_rfl⟩
theorem ca57 : Callable Try.prog 57 := ⟨Try.f57, Try.func57, by kernel_rfl, by kernel_rfl⟩
theorem ca58 : Callable Try.prog 58 := ⟨Try.f58, Try.func58, by kernel_rfl, by kernel_rfl⟩
theorem ca59 : Callable Try.prog 59 := ⟨Try.f59, Try.func59, by kernel_rfl, by kernel_rfl⟩
theorem ca60 : Callable Try.prog 60 := ⟨Try.f60, Try.func60, by kernel_rfl, by kernel_rfl⟩
theorem ca61 : Callable Try.prog 61 := ⟨Try.f61, Try.func61, by kernel_rfl, by kernel_rfl⟩
theorem ca62 : Callable Try.prog 62 := ⟨Try.f62, Try.func62, by kernel_rfl, by kernel_rfl⟩
theorem ca63 : Callable Try.prog 63 := ⟨Try.f63, Try.func63, by kernel_rfl, by kernel_rfl⟩
theorem ca64 : Callable Try.prog 64 := ⟨Try.f64, Try.func64, by kernel_rfl, by kernel_rfl⟩
theorem ca65 : Callable Try.prog 65 := ⟨Try.f65, Try.func65, by kernel_rfl, by kernel_rfl⟩
theorem ca66 : Callable Try.prog 66 := ⟨Try.f66, Try.func66, by kernel_rfl, by kernel_rfl⟩
theorem ca67 : Callable Try.prog 67 := ⟨Try.f67, Try.func67, by kernel_rfl, by kernel_rfl⟩
theorem ca68 : Callable Try.prog 68 := ⟨Try.f68, Try.func68, by kernel_rfl, by kernel_rfl⟩
theorem ca69 : Callable Try.prog 69 := ⟨Try.f69, Try.func69, by kernel_rfl, by kernel_rfl⟩
theorem ca70 : Callable Try.prog 70 := ⟨Try.f70, Try.func70, by kernel_rfl, by kernel_rfl⟩
theorem ca71 : Callable Try.prog 71 := ⟨Try.f71, Try.func71, by kernel_rfl, by kernel_rfl⟩
theorem ca72 : Callable Try.prog 72 := ⟨Try.f72, Try.func72, by kernel_rfl, by kernel_rfl⟩
theorem ca73 : Callable Try.prog 73 := ⟨Try.f73, Try.func73, by kernel_rfl, by kernel_rfl⟩
theorem ca74 : Callable Try.prog 74 := ⟨Try.f74, Try.func74, by kernel_rfl, by kernel_rfl⟩
theorem ca75 : Callable Try.prog 75 := ⟨Try.f75, Try.func75, by kernel_rfl, by kernel_rfl⟩
theorem ca76 : Callable Try.prog 76 := ⟨Try.f76, Try.func76, by kernel_rfl, by kernel_rfl⟩
theorem ca77 : Callable Try.prog 77 := ⟨Try.f77, Try.func77, by kernel_rfl, by kernel_rfl⟩
theorem ca78 : Callable Try.prog 78 := ⟨Try.f78, Try.func78, by kernel_rfl, by kernel_rfl⟩
theorem ca79 : Callable Try.prog 79 := ⟨Try.f79, Try.func79, by kernel_rfl, by kernel_rfl⟩
theorem ca80 : Callable Try.prog 80 := ⟨Try.f80, Try.func80, by kernel_rfl, by kernel_rfl⟩
theorem ca81 : Callable Try.prog 81 := ⟨Try.f81, Try.func81, by kernel_rfl, by kernel_rfl⟩
theorem ca82 : Callable Try.prog 82 := ⟨Try.f82, Try.func82, by kernel_rfl, by kernel_rfl⟩
theorem ca83 : Callable Try.prog 83 := ⟨Try.f83, Try.func83, by kernel_rfl, by kernel_rfl⟩
theorem ca84 : Callable Try.prog 84 := ⟨Try.f84, Try.func84, by kernel_rfl, by kernel_rfl⟩
theorem ca85 : Callable Try.prog 85 := ⟨Try.f85, Try.func85, by kernel_rfl, by kernel_rfl⟩
theorem ca86 : Callable Try.prog 86 := ⟨Try.f86, Try.func86, by kernel_rfl, by kernel_rfl⟩
theorem ca87 : Callable Try.prog 87 := ⟨Try.f87, Try.func87, by kernel_rfl, by kernel_rfl⟩
theorem ca88 : Callable Try.prog 88 := ⟨Try.f88, Try.func88, by kernel_rfl, by kernel_rfl⟩
theorem ca89 : Callable Try.prog 89 := ⟨Try.f89, Try.func89, by kernel_rfl, by kernel_rfl⟩
theorem ca90 : Callable Try.prog 90 := ⟨Try.f90, Try.func90, by kernel_rfl, by kernel_rfl⟩
theorem ca91 : Callable Try.prog 91 := ⟨Try.f91, Try.func91, by kernel_rfl, by kernel_rfl⟩
theorem ca92 : Callable Try.prog 92 := ⟨Try.f92, Try.func92, by kernel_rfl, by kernel_rfl⟩
theorem ca93 : Callable Try.prog 93 := ⟨Try.f93, Try.func93, by kernel_rfl, by kernel_rfl⟩
theorem ca94 : Callable Try.prog 94 := ⟨Try.f94, Try.func94, by kernel_rfl, by kernel_rfl⟩
theorem ca95 : Callable Try.prog 95 := ⟨Try.f95, Try.func95, by kernel_rfl, by kernel_rfl⟩
theorem ca96 : Callable Try.prog 96 := ⟨Try.f96, Try.func96, by kernel_rfl, by kernel_rfl⟩
theorem ca97 : Callable Try.prog 97 := ⟨Try.f97, Try.func97, by kernel_rfl, by kernel_rfl⟩
theorem ca98 : Callable Try.prog 98 := ⟨Try.f98, Try.func98, by kernel_rfl, by kernel_rfl⟩
theorem ca99 : Callable Try.prog 99 := ⟨Try.f99, Try.func99, by kernel_rfl, by kernel_rfl⟩
theorem ca100 : Callable Try.prog 100 := ⟨Try.f100, Try.func100, by kernel_rfl, by kernel_rfl⟩
theorem ca101 : Callable Try.prog 101 := ⟨Try.f101, Try.func101, by kernel_rfl, by kernel_rfl⟩
theorem ca102 : Callable Try.prog 102 := ⟨Try.f102, Try.func102, by kernel_rfl, by kernel_rfl⟩
theorem ca103 : Callable Try.prog 103 := ⟨Try.f103, Try.func103, by kernel_rfl, by kernel_rfl⟩
theorem ca104 : Callable Try.prog 104 := ⟨Try.f104, Try.func104, by kernel_rfl, by kernel_rfl⟩
theorem ca105 : Callable Try.prog 105 := ⟨Try.f105, Try.func105, by kernel_rfl, by kernel_rfl⟩
theorem ca106 : Callable Try.prog 106 := ⟨Try.f106, Try.func106, by kernel_rfl, by kernel_rfl⟩
theorem ca107 : Callable Try.prog 107 := ⟨Try.f107, Try.func107, by kernel_rfl, by kernel_rfl⟩
theorem ca108 : Callable Try.prog 108 := ⟨Try.f108, Try.func108, by kernel_rfl, by kernel_rfl⟩
theorem ca109 : Callable Try.prog 109 := ⟨Try.f109, Try.func109, by kernel_rfl, by kernel_rfl⟩
theorem ca110 : Callable Try.prog 110 := ⟨Try.f110, Try.func110, by kernel_rfl, by kernel_rfl⟩
theorem ca111 : Callable Try.prog 111 := ⟨Try.f111, Try.func111, by kernel_rfl, by kernel_rfl⟩
theorem ca112 : Callable Try.prog 112 := ⟨Try.f112, Try.func112, by kernel_rfl, by kernel_rfl⟩
theorem mixed : Try.prog.follows .mixedOrders = true := by kernel_rfl
end Ty
end Go.Proofs.Ytodfebhimadaiaa
