/- GvF: closed facts on the types and functions of this dump. (Printed by gv.py.) -/
import Derived.Test.YtknibpmmjhmjeaaDoorRows
import Derived.Test.YtknibpmmjhmjeaaDoorGvH
namespace Go.Proofs.YtknibpmmjhmjeaaDoor
open Go.GV
namespace Ty
theorem sc1 : scal Tryd.prog 1 = true := by kernel_rfl
theorem sz1 : sizeIs Tryd.prog 1 = some 1 := by kernel_rfl
theorem by1 : bytesIs Tryd.prog 1 = some 8 := by kernel_rfl
theorem ze1 : zeroIs Tryd.prog 1 = some (Value.nilFunc) := by kernel_rfl
theorem sc2 : scal Tryd.prog 2 = true := by kernel_rfl
theorem sz2 : sizeIs Tryd.prog 2 = some 1 := by kernel_rfl
theorem by2 : bytesIs Tryd.prog 2 = some 8 := by kernel_rfl
theorem ze2 : zeroIs Tryd.prog 2 = some (vI 0) := by kernel_rfl
theorem sc3 : scal Tryd.prog 3 = true := by kernel_rfl
theorem sz3 : sizeIs Tryd.prog 3 = some 1 := by kernel_rfl
theorem by3 : bytesIs Tryd.prog 3 = some 8 := by kernel_rfl
theorem ze3 : zeroIs Tryd.prog 3 = some (vI 0) := by kernel_rfl
theorem sc4 : scal Tryd.prog 4 = true := by kernel_rfl
theorem sz4 : sizeIs Tryd.prog 4 = some 1 := by kernel_rfl
theorem by4 : bytesIs Tryd.prog 4 = some 1 := by kernel_rfl
theorem ze4 : zeroIs Tryd.prog 4 = some (vB false) := by kernel_rfl
theorem sc5 : scal Tryd.prog 5 = true := by kernel_rfl
theorem sz5 : sizeIs Tryd.prog 5 = some 1 := by kernel_rfl
theorem by5 : bytesIs Tryd.prog 5 = some 1 := by kernel_rfl
theorem ze5 : zeroIs Tryd.prog 5 = some (vU8 0) := by kernel_rfl
theorem sc6 : scal Tryd.prog 6 = true := by kernel_rfl
theorem sz6 : sizeIs Tryd.prog 6 = some 1 := by kernel_rfl
theorem by6 : bytesIs Tryd.prog 6 = some 1 := by kernel_rfl
theorem ze6 : zeroIs Tryd.prog 6 = some (vU8 0) := by kernel_rfl
theorem ag7 : aggs Tryd.prog 7 = true := by kernel_rfl
theorem sz7 : sizeIs Tryd.prog 7 = some 4 := by kernel_rfl
theorem by7 : bytesIs Tryd.prog 7 = some 24 := by kernel_rfl
theorem ze7 : zeroIs Tryd.prog 7 = some (Value.agg #[vI 0, vI 0, vB false, vU8 0]) := by kernel_rfl
theorem fi7_0 : fieldIs Tryd.prog 7 0 = some (0, 2) := by kernel_rfl
theorem fi7_1 : fieldIs Tryd.prog 7 1 = some (1, 3) := by kernel_rfl
theorem fi7_2 : fieldIs Tryd.prog 7 2 = some (2, 4) := by kernel_rfl
theorem fi7_3 : fieldIs Tryd.prog 7 3 = some (3, 6) := by kernel_rfl
theorem ag8 : aggs Tryd.prog 8 = true := by kernel_rfl
theorem sz8 : sizeIs Tryd.prog 8 = some 4 := by kernel_rfl
theorem by8 : bytesIs Tryd.prog 8 = some 24 := by kernel_rfl
theorem ze8 : zeroIs Tryd.prog 8 = some (Value.agg #[vI 0, vI 0, vB false, vU8 0]) := by kernel_rfl
theorem fi8_0 : fieldIs Tryd.prog 8 0 = some (0, 2) := by kernel_rfl
theorem fi8_1 : fieldIs Tryd.prog 8 1 = some (1, 3) := by kernel_rfl
theorem fi8_2 : fieldIs Tryd.prog 8 2 = some (2, 4) := by kernel_rfl
theorem fi8_3 : fieldIs Tryd.prog 8 3 = some (3, 6) := by kernel_rfl
theorem sc9 : scal Tryd.prog 9 = true := by kernel_rfl
theorem sz9 : sizeIs Tryd.prog 9 = some 1 := by kernel_rfl
theorem by9 : bytesIs Tryd.prog 9 = some 16 := by kernel_rfl
theorem ze9 : zeroIs Tryd.prog 9 = some (vS []) := by kernel_rfl
theorem sc10 : scal Tryd.prog 10 = true := by kernel_rfl
theorem sz10 : sizeIs Tryd.prog 10 = some 1 := by kernel_rfl
theorem by10 : bytesIs Tryd.prog 10 = some 16 := by kernel_rfl
theorem ze10 : zeroIs Tryd.prog 10 = some (vS []) := by kernel_rfl
theorem sc11 : scal Tryd.prog 11 = true := by kernel_rfl
theorem sz11 : sizeIs Tryd.prog 11 = some 1 := by kernel_rfl
theorem by11 : bytesIs Tryd.prog 11 = some 16 := by kernel_rfl
theorem ze11 : zeroIs Tryd.prog 11 = some (vS []) := by kernel_rfl
theorem sc12 : scal Tryd.prog 12 = true := by kernel_rfl
theorem sz12 : sizeIs Tryd.prog 12 = some 1 := by kernel_rfl
theorem by12 : bytesIs Tryd.prog 12 = some 8 := by kernel_rfl
theorem ze12 : zeroIs Tryd.prog 12 = some (vU64 0) := by kernel_rfl
theorem ag13 : aggs Tryd.prog 13 = true := by kernel_rfl
theorem sz13 : sizeIs Tryd.prog 13 = some 2 := by kernel_rfl
theorem by13 : bytesIs Tryd.prog 13 = some 24 := by kernel_rfl
theorem ze13 : zeroIs Tryd.prog 13 = some (Value.agg #[vS [], vU64 0]) := by kernel_rfl
theorem fi13_0 : fieldIs Tryd.prog 13 0 = some (0, 9) := by kernel_rfl
theorem fi13_1 : fieldIs Tryd.prog 13 1 = some (1, 12) := by kernel_rfl
theorem ag14 : aggs Tryd.prog 14 = true := by kernel_rfl
theorem sz14 : sizeIs Tryd.prog 14 = some 2 := by kernel_rfl
theorem by14 : bytesIs Tryd.prog 14 = some 24 := by kernel_rfl
theorem ze14 : zeroIs Tryd.prog 14 = some (Value.agg #[vS [], vU64 0]) := by kernel_rfl
theorem fi14_0 : fieldIs Tryd.prog 14 0 = some (0, 9) := by kernel_rfl
theorem fi14_1 : fieldIs Tryd.prog 14 1 = some (1, 12) := by kernel_rfl
theorem sc15 : scal Tryd.prog 15 = true := by kernel_rfl
theorem sz15 : sizeIs Tryd.prog 15 = some 1 := by kernel_rfl
theorem by15 : bytesIs Tryd.prog 15 = some 8 := by kernel_rfl
theorem ze15 : zeroIs Tryd.prog 15 = some (Value.pointer none) := by kernel_rfl
theorem sc16 : scal Tryd.prog 16 = true := by kernel_rfl
theorem sz16 : sizeIs Tryd.prog 16 = some 1 := by kernel_rfl
theorem by16 : bytesIs Tryd.prog 16 = some 8 := by kernel_rfl
theorem ze16 : zeroIs Tryd.prog 16 = some (Value.pointer none) := by kernel_rfl
theorem sc17 : scal Tryd.prog 17 = true := by kernel_rfl
theorem sz17 : sizeIs Tryd.prog 17 = some 1 := by kernel_rfl
theorem by17 : bytesIs Tryd.prog 17 = some 8 := by kernel_rfl
theorem ze17 : zeroIs Tryd.prog 17 = some (Value.pointer none) := by kernel_rfl
theorem ag18 : aggs Tryd.prog 18 = true := by kernel_rfl
theorem sz18 : sizeIs Tryd.prog 18 = some 1 := by kernel_rfl
theorem by18 : bytesIs Tryd.prog 18 = some 8 := by kernel_rfl
theorem ze18 : zeroIs Tryd.prog 18 = some (Value.agg #[Value.pointer none]) := by kernel_rfl
theorem fi18_0 : fieldIs Tryd.prog 18 0 = some (0, 17) := by kernel_rfl
theorem ag19 : aggs Tryd.prog 19 = true := by kernel_rfl
theorem sz19 : sizeIs Tryd.prog 19 = some 1 := by kernel_rfl
theorem by19 : bytesIs Tryd.prog 19 = some 8 := by kernel_rfl
theorem ze19 : zeroIs Tryd.prog 19 = some (Value.agg #[Value.pointer none]) := by kernel_rfl
theorem fi19_0 : fieldIs Tryd.prog 19 0 = some (0, 17) := by kernel_rfl
theorem sc20 : scal Tryd.prog 20 = true := by kernel_rfl
theorem sz20 : sizeIs Tryd.prog 20 = some 1 := by kernel_rfl
theorem by20 : bytesIs Tryd.prog 20 = some 16 := by kernel_rfl
theorem ze20 : zeroIs Tryd.prog 20 = some (Value.nilIface) := by kernel_rfl
theorem sc21 : scal Tryd.prog 21 = true := by kernel_rfl
theorem sz21 : sizeIs Tryd.prog 21 = some 1 := by kernel_rfl
theorem by21 : bytesIs Tryd.prog 21 = some 4 := by kernel_rfl
theorem ze21 : zeroIs Tryd.prog 21 = some ((.int .i32 0)) := by kernel_rfl
theorem ag22 : aggs Tryd.prog 22 = true := by kernel_rfl
theorem sz22 : sizeIs Tryd.prog 22 = some 5 := by kernel_rfl
theorem by22 : bytesIs Tryd.prog 22 = some 64 := by kernel_rfl
theorem ze22 : zeroIs Tryd.prog 22 = some (Value.agg #[vI 0, vI 0, vS [], vS [], vS []]) := by kernel_rfl
theorem fi22_0 : fieldIs Tryd.prog 22 0 = some (0, 3) := by kernel_rfl
theorem fi22_1 : fieldIs Tryd.prog 22 1 = some (1, 3) := by kernel_rfl
theorem fi22_2 : fieldIs Tryd.prog 22 2 = some (2, 9) := by kernel_rfl
theorem fi22_3 : fieldIs Tryd.prog 22 3 = some (3, 9) := by kernel_rfl
theorem fi22_4 : fieldIs Tryd.prog 22 4 = some (4, 9) := by kernel_rfl
theorem ag23 : aggs Tryd.prog 23 = true := by kernel_rfl
theorem sz23 : sizeIs Tryd.prog 23 = some 5 := by kernel_rfl
theorem by23 : bytesIs Tryd.prog 23 = some 64 := by kernel_rfl
theorem ze23 : zeroIs Tryd.prog 23 = some (Value.agg #[vI 0, vI 0, vS [], vS [], vS []]) := by kernel_rfl
theorem fi23_0 : fieldIs Tryd.prog 23 0 = some (0, 3) := by kernel_rfl
theorem fi23_1 : fieldIs Tryd.prog 23 1 = some (1, 3) := by kernel_rfl
theorem fi23_2 : fieldIs Tryd.prog 23 2 = some (2, 9) := by kernel_rfl
theorem fi23_3 : fieldIs Tryd.prog 23 3 = some (3, 9) := by kernel_rfl
theorem fi23_4 : fieldIs Tryd.prog 23 4 = some (4, 9) := by kernel_rfl
theorem sc24 : scal Tryd.prog 24 = true := by kernel_rfl
theorem sz24 : sizeIs Tryd.prog 24 = some 1 := by kernel_rfl
theorem by24 : bytesIs Tryd.prog 24 = some 8 := by kernel_rfl
theorem ze24 : zeroIs Tryd.prog 24 = some (Value.nilFunc) := by kernel_rfl
theorem sc25 : scal Tryd.prog 25 = true := by kernel_rfl
theorem sz25 : sizeIs Tryd.prog 25 = some 1 := by kernel_rfl
theorem by25 : bytesIs Tryd.prog 25 = some 8 := by kernel_rfl
theorem ze25 : zeroIs Tryd.prog 25 = some (Value.nilFunc) := by kernel_rfl
theorem sc26 : scal Tryd.prog 26 = true := by kernel_rfl
theorem sz26 : sizeIs Tryd.prog 26 = some 1 := by kernel_rfl
theorem by26 : bytesIs Tryd.prog 26 = some 8 := by kernel_rfl
theorem ze26 : zeroIs Tryd.prog 26 = some (Value.nilFunc) := by kernel_rfl
theorem sc27 : scal Tryd.prog 27 = true := by kernel_rfl
theorem sz27 : sizeIs Tryd.prog 27 = some 1 := by kernel_rfl
theorem by27 : bytesIs Tryd.prog 27 = some 24 := by kernel_rfl
theorem ze27 : zeroIs Tryd.prog 27 = some (Value.slice none 0 0) := by kernel_rfl
theorem ag28 : aggs Tryd.prog 28 = true := by kernel_rfl
theorem sz28 : sizeIs Tryd.prog 28 = some 3 := by kernel_rfl
theorem by28 : bytesIs Tryd.prog 28 = some 40 := by kernel_rfl
theorem ze28 : zeroIs Tryd.prog 28 = some (Value.agg #[vI 0, vI 0, Value.slice none 0 0]) := by kernel_rfl
theorem fi28_0 : fieldIs Tryd.prog 28 0 = some (0, 3) := by kernel_rfl
theorem fi28_1 : fieldIs Tryd.prog 28 1 = some (1, 3) := by kernel_rfl
theorem fi28_2 : fieldIs Tryd.prog 28 2 = some (2, 27) := by kernel_rfl
theorem ag29 : aggs Tryd.prog 29 = true := by kernel_rfl
theorem sz29 : sizeIs Tryd.prog 29 = some 3 := by kernel_rfl
theorem by29 : bytesIs Tryd.prog 29 = some 40 := by kernel_rfl
theorem ze29 : zeroIs Tryd.prog 29 = some (Value.agg #[vI 0, vI 0, Value.slice none 0 0]) := by kernel_rfl
theorem fi29_0 : fieldIs Tryd.prog 29 0 = some (0, 3) := by kernel_rfl
theorem fi29_1 : fieldIs Tryd.prog 29 1 = some (1, 3) := by kernel_rfl
theorem fi29_2 : fieldIs Tryd.prog 29 2 = some (2, 27) := by kernel_rfl
theorem sc30 : scal Tryd.prog 30 = true := by kernel_rfl
theorem sz30 : sizeIs Tryd.prog 30 = some 1 := by kernel_rfl
theorem by30 : bytesIs Tryd.prog 30 = some 8 := by kernel_rfl
theorem ze30 : zeroIs Tryd.prog 30 = some (vI 0) := by kernel_rfl
theorem sc32 : scal Tryd.prog 32 = true := by kernel_rfl
theorem sz32 : sizeIs Tryd.prog 32 = some 1 := by kernel_rfl
theorem by32 : bytesIs Tryd.prog 32 = some 8 := by kernel_rfl
theorem ze32 : zeroIs Tryd.prog 32 = some (Value.nilFunc) := by kernel_rfl
theorem sc33 : scal Tryd.prog 33 = true := by kernel_rfl
theorem sz33 : sizeIs Tryd.prog 33 = some 1 := by kernel_rfl
theorem by33 : bytesIs Tryd.prog 33 = some 8 := by kernel_rfl
theorem ze33 : zeroIs Tryd.prog 33 = some (Value.nilFunc) := by kernel_rfl
theorem sc35 : scal Tryd.prog 35 = true := by kernel_rfl
theorem sz35 : sizeIs Tryd.prog 35 = some 1 := by kernel_rfl
theorem by35 : bytesIs Tryd.prog 35 = some 8 := by kernel_rfl
theorem ze35 : zeroIs Tryd.prog 35 = some (Value.nilFunc) := by kernel_rfl
theorem sc36 : scal Tryd.prog 36 = true := by kernel_rfl
theorem sz36 : sizeIs Tryd.prog 36 = some 1 := by kernel_rfl
theorem by36 : bytesIs Tryd.prog 36 = some 8 := by kernel_rfl
theorem ze36 : zeroIs Tryd.prog 36 = some (Value.nilFunc) := by kernel_rfl
theorem sc37 : scal Tryd.prog 37 = true := by kernel_rfl
theorem sz37 : sizeIs Tryd.prog 37 = some 1 := by kernel_rfl
theorem by37 : bytesIs Tryd.prog 37 = some 8 := by kernel_rfl
theorem ze37 : zeroIs Tryd.prog 37 = some (Value.nilFunc) := by kernel_rfl
theorem sc39 : scal Tryd.prog 39 = true := by kernel_rfl
theorem sz39 : sizeIs Tryd.prog 39 = some 1 := by kernel_rfl
theorem by39 : bytesIs Tryd.prog 39 = some 8 := by kernel_rfl
theorem ze39 : zeroIs Tryd.prog 39 = some (Value.nilFunc) := by kernel_rfl
theorem sc40 : scal Tryd.prog 40 = true := by kernel_rfl
theorem sz40 : sizeIs Tryd.prog 40 = some 1 := by kernel_rfl
theorem by40 : bytesIs Tryd.prog 40 = some 8 := by kernel_rfl
theorem ze40 : zeroIs Tryd.prog 40 = some (Value.nilFunc) := by kernel_rfl
theorem sc41 : scal Tryd.prog 41 = true := by kernel_rfl
theorem sz41 : sizeIs Tryd.prog 41 = some 1 := by kernel_rfl
theorem by41 : bytesIs Tryd.prog 41 = some 8 := by kernel_rfl
theorem ze41 : zeroIs Tryd.prog 41 = some (Value.nilFunc) := by kernel_rfl
theorem sc42 : scal Tryd.prog 42 = true := by kernel_rfl
theorem sz42 : sizeIs Tryd.prog 42 = some 1 := by kernel_rfl
theorem by42 : bytesIs Tryd.prog 42 = some 8 := by kernel_rfl
theorem ze42 : zeroIs Tryd.prog 42 = some (Value.nilFunc) := by kernel_rfl
theorem sc43 : scal Tryd.prog 43 = true := by kernel_rfl
theorem sz43 : sizeIs Tryd.prog 43 = some 1 := by kernel_rfl
theorem by43 : bytesIs Tryd.prog 43 = some 8 := by kernel_rfl
theorem ze43 : zeroIs Tryd.prog 43 = some (Value.nilFunc) := by kernel_rfl
theorem sc45 : scal Tryd.prog 45 = true := by kernel_rfl
theorem sz45 : sizeIs Tryd.prog 45 = some 1 := by kernel_rfl
theorem by45 : bytesIs Tryd.prog 45 = some 8 := by kernel_rfl
theorem ze45 : zeroIs Tryd.prog 45 = some (Value.nilFunc) := by kernel_rfl
theorem sc46 : scal Tryd.prog 46 = true := by kernel_rfl
theorem sz46 : sizeIs Tryd.prog 46 = some 1 := by kernel_rfl
theorem by46 : bytesIs Tryd.prog 46 = some 8 := by kernel_rfl
theorem ze46 : zeroIs Tryd.prog 46 = some (Value.nilFunc) := by kernel_rfl
theorem sc47 : scal Tryd.prog 47 = true := by kernel_rfl
theorem sz47 : sizeIs Tryd.prog 47 = some 1 := by kernel_rfl
theorem by47 : bytesIs Tryd.prog 47 = some 8 := by kernel_rfl
theorem ze47 : zeroIs Tryd.prog 47 = some (Value.nilFunc) := by kernel_rfl
theorem sc48 : scal Tryd.prog 48 = true := by kernel_rfl
theorem sz48 : sizeIs Tryd.prog 48 = some 1 := by kernel_rfl
theorem by48 : bytesIs Tryd.prog 48 = some 24 := by kernel_rfl
theorem ze48 : zeroIs Tryd.prog 48 = some (Value.slice none 0 0) := by kernel_rfl
theorem sc49 : scal Tryd.prog 49 = true := by kernel_rfl
theorem sz49 : sizeIs Tryd.prog 49 = some 1 := by kernel_rfl
theorem by49 : bytesIs Tryd.prog 49 = some 8 := by kernel_rfl
theorem ze49 : zeroIs Tryd.prog 49 = some (Value.nilFunc) := by kernel_rfl
theorem sc50 : scal Tryd.prog 50 = true := by kernel_rfl
theorem sz50 : sizeIs Tryd.prog 50 = some 1 := by kernel_rfl
theorem by50 : bytesIs Tryd.prog 50 = some 8 := by kernel_rfl
theorem ze50 : zeroIs Tryd.prog 50 = some (Value.nilFunc) := by kernel_rfl
theorem sc51 : scal Tryd.prog 51 = true := by kernel_rfl
theorem sz51 : sizeIs Tryd.prog 51 = some 1 := by kernel_rfl
theorem by51 : bytesIs Tryd.prog 51 = some 8 := by kernel_rfl
theorem ze51 : zeroIs Tryd.prog 51 = some (Value.nilFunc) := by kernel_rfl
theorem sc52 : scal Tryd.prog 52 = true := by kernel_rfl
theorem sz52 : sizeIs Tryd.prog 52 = some 1 := by kernel_rfl
theorem by52 : bytesIs Tryd.prog 52 = some 8 := by kernel_rfl
theorem ze52 : zeroIs Tryd.prog 52 = some (Value.map none) := by kernel_rfl
theorem sc53 : scal Tryd.prog 53 = true := by kernel_rfl
theorem sz53 : sizeIs Tryd.prog 53 = some 1 := by kernel_rfl
theorem by53 : bytesIs Tryd.prog 53 = some 24 := by kernel_rfl
theorem ze53 : zeroIs Tryd.prog 53 = some (Value.slice none 0 0) := by kernel_rfl
theorem sc54 : scal Tryd.prog 54 = true := by kernel_rfl
theorem sz54 : sizeIs Tryd.prog 54 = some 1 := by kernel_rfl
theorem by54 : bytesIs Tryd.prog 54 = some 8 := by kernel_rfl
theorem ze54 : zeroIs Tryd.prog 54 = some (Value.nilFunc) := by kernel_rfl
theorem ag55 : aggs Tryd.prog 55 = true := by kernel_rfl
theorem sz55 : sizeIs Tryd.prog 55 = some 6 := by kernel_rfl
theorem by55 : bytesIs Tryd.prog 55 = some 72 := by kernel_rfl
theorem ze55 : zeroIs Tryd.prog 55 = some (Value.agg #[vI 0, vI 0, vI 0, vS [], vS [], vS []]) := by kernel_rfl
theorem fi55_0 : fieldIs Tryd.prog 55 0 = some (0, 3) := by kernel_rfl
theorem fi55_1 : fieldIs Tryd.prog 55 1 = some (1, 23) := by kernel_rfl
theorem ag56 : aggs Tryd.prog 56 = true := by kernel_rfl
theorem sz56 : sizeIs Tryd.prog 56 = some 6 := by kernel_rfl
theorem by56 : bytesIs Tryd.prog 56 = some 72 := by kernel_rfl
theorem ze56 : zeroIs Tryd.prog 56 = some (Value.agg #[vI 0, vI 0, vI 0, vS [], vS [], vS []]) := by kernel_rfl
theorem fi56_0 : fieldIs Tryd.prog 56 0 = some (0, 3) := by kernel_rfl
theorem fi56_1 : fieldIs Tryd.prog 56 1 = some (1, 23) := by kernel_rfl
theorem ag58 : aggs Tryd.prog 58 = true := by kernel_rfl
theorem sz58 : sizeIs Tryd.prog 58 = some 2 := by kernel_rfl
theorem by58 : bytesIs Tryd.prog 58 = some 16 := by kernel_rfl
theorem ze58 : zeroIs Tryd.prog 58 = some (Value.agg #[vI 0, vI 0]) := by kernel_rfl
theorem fi58_0 : fieldIs Tryd.prog 58 0 = some (0, 3) := by kernel_rfl
theorem fi58_1 : fieldIs Tryd.prog 58 1 = some (1, 3) := by kernel_rfl
theorem ag59 : aggs Tryd.prog 59 = true := by kernel_rfl
theorem sz59 : sizeIs Tryd.prog 59 = some 2 := by kernel_rfl
theorem by59 : bytesIs Tryd.prog 59 = some 16 := by kernel_rfl
theorem ze59 : zeroIs Tryd.prog 59 = some (Value.agg #[vI 0, vI 0]) := by kernel_rfl
theorem fi59_0 : fieldIs Tryd.prog 59 0 = some (0, 3) := by kernel_rfl
theorem fi59_1 : fieldIs Tryd.prog 59 1 = some (1, 3) := by kernel_rfl
theorem ag60 : aggs Tryd.prog 60 = true := by kernel_rfl
theorem sz60 : sizeIs Tryd.prog 60 = some 7 := by kernel_rfl
theorem by60 : bytesIs Tryd.prog 60 = some 64 := by kernel_rfl
theorem ze60 : zeroIs Tryd.prog 60 = some (Value.agg #[vS [], vI 0, vI 0, vI 0, vI 0, vB false, Value.nilFunc]) := by kernel_rfl
theorem fi60_0 : fieldIs Tryd.prog 60 0 = some (0, 9) := by kernel_rfl
theorem fi60_1 : fieldIs Tryd.prog 60 1 = some (1, 59) := by kernel_rfl
theorem fi60_2 : fieldIs Tryd.prog 60 2 = some (3, 59) := by kernel_rfl
theorem fi60_3 : fieldIs Tryd.prog 60 3 = some (5, 4) := by kernel_rfl
theorem fi60_4 : fieldIs Tryd.prog 60 4 = some (6, 26) := by kernel_rfl
theorem ag61 : aggs Tryd.prog 61 = true := by kernel_rfl
theorem sz61 : sizeIs Tryd.prog 61 = some 7 := by kernel_rfl
theorem by61 : bytesIs Tryd.prog 61 = some 64 := by kernel_rfl
theorem ze61 : zeroIs Tryd.prog 61 = some (Value.agg #[vS [], vI 0, vI 0, vI 0, vI 0, vB false, Value.nilFunc]) := by kernel_rfl
theorem fi61_0 : fieldIs Tryd.prog 61 0 = some (0, 9) := by kernel_rfl
theorem fi61_1 : fieldIs Tryd.prog 61 1 = some (1, 59) := by kernel_rfl
theorem fi61_2 : fieldIs Tryd.prog 61 2 = some (3, 59) := by kernel_rfl
theorem fi61_3 : fieldIs Tryd.prog 61 3 = some (5, 4) := by kernel_rfl
theorem fi61_4 : fieldIs Tryd.prog 61 4 = some (6, 26) := by kernel_rfl
theorem sc63 : scal Tryd.prog 63 = true := by kernel_rfl
theorem sz63 : sizeIs Tryd.prog 63 = some 1 := by kernel_rfl
theorem by63 : bytesIs Tryd.prog 63 = some 8 := by kernel_rfl
theorem ze63 : zeroIs Tryd.prog 63 = some (Value.map none) := by kernel_rfl
theorem sc64 : scal Tryd.prog 64 = true := by kernel_rfl
theorem sz64 : sizeIs Tryd.prog 64 = some 1 := by kernel_rfl
theorem by64 : bytesIs Tryd.prog 64 = some 8 := by kernel_rfl
theorem ze64 : zeroIs Tryd.prog 64 = some (Value.nilFunc) := by kernel_rfl
theorem sc65 : scal Tryd.prog 65 = true := by kernel_rfl
theorem sz65 : sizeIs Tryd.prog 65 = some 1 := by kernel_rfl
theorem by65 : bytesIs Tryd.prog 65 = some 8 := by kernel_rfl
theorem ze65 : zeroIs Tryd.prog 65 = some (Value.nilFunc) := by kernel_rfl
theorem sc66 : scal Tryd.prog 66 = true := by kernel_rfl
theorem sz66 : sizeIs Tryd.prog 66 = some 1 := by kernel_rfl
theorem by66 : bytesIs Tryd.prog 66 = some 8 := by kernel_rfl
theorem ze66 : zeroIs Tryd.prog 66 = some (Value.nilFunc) := by kernel_rfl
theorem sc67 : scal Tryd.prog 67 = true := by kernel_rfl
theorem sz67 : sizeIs Tryd.prog 67 = some 1 := by kernel_rfl
theorem by67 : bytesIs Tryd.prog 67 = some 8 := by kernel_rfl
theorem ze67 : zeroIs Tryd.prog 67 = some (Value.pointer none) := by kernel_rfl
theorem sc68 : scal Tryd.prog 68 = true := by kernel_rfl
theorem sz68 : sizeIs Tryd.prog 68 = some 1 := by kernel_rfl
theorem by68 : bytesIs Tryd.prog 68 = some 8 := by kernel_rfl
theorem ze68 : zeroIs Tryd.prog 68 = some (Value.nilFunc) := by kernel_rfl
theorem sc69 : scal Tryd.prog 69 = true := by kernel_rfl
theorem sz69 : sizeIs Tryd.prog 69 = some 1 := by kernel_rfl
theorem by69 : bytesIs Tryd.prog 69 = some 8 := by kernel_rfl
theorem ze69 : zeroIs Tryd.prog 69 = some (Value.nilFunc) := by kernel_rfl
theorem sc70 : scal Tryd.prog 70 = true := by kernel_rfl
theorem sz70 : sizeIs Tryd.prog 70 = some 1 := by kernel_rfl
theorem by70 : bytesIs Tryd.prog 70 = some 8 := by kernel_rfl
theorem ze70 : zeroIs Tryd.prog 70 = some (Value.nilFunc) := by kernel_rfl
theorem sc71 : scal Tryd.prog 71 = true := by kernel_rfl
theorem sz71 : sizeIs Tryd.prog 71 = some 1 := by kernel_rfl
theorem by71 : bytesIs Tryd.prog 71 = some 8 := by kernel_rfl
theorem ze71 : zeroIs Tryd.prog 71 = some (Value.nilFunc) := by kernel_rfl
theorem sc72 : scal Tryd.prog 72 = true := by kernel_rfl
theorem sz72 : sizeIs Tryd.prog 72 = some 1 := by kernel_rfl
theorem by72 : bytesIs Tryd.prog 72 = some 8 := by kernel_rfl
theorem ze72 : zeroIs Tryd.prog 72 = some (Value.nilFunc) := by kernel_rfl
theorem sc73 : scal Tryd.prog 73 = true := by kernel_rfl
theorem sz73 : sizeIs Tryd.prog 73 = some 1 := by kernel_rfl
theorem by73 : bytesIs Tryd.prog 73 = some 8 := by kernel_rfl
theorem ze73 : zeroIs Tryd.prog 73 = some (Value.nilFunc) := by kernel_rfl
theorem sc74 : scal Tryd.prog 74 = true := by kernel_rfl
theorem sz74 : sizeIs Tryd.prog 74 = some 1 := by kernel_rfl
theorem by74 : bytesIs Tryd.prog 74 = some 24 := by kernel_rfl
theorem ze74 : zeroIs Tryd.prog 74 = some (Value.slice none 0 0) := by kernel_rfl
theorem ag75 : aggs Tryd.prog 75 = true := by kernel_rfl
theorem sz75 : sizeIs Tryd.prog 75 = some 2 := by kernel_rfl
theorem by75 : bytesIs Tryd.prog 75 = some 24 := by kernel_rfl
theorem ze75 : zeroIs Tryd.prog 75 = some (Value.agg #[vS [], vI 0]) := by kernel_rfl
theorem fi75_0 : fieldIs Tryd.prog 75 0 = some (0, 9) := by kernel_rfl
theorem fi75_1 : fieldIs Tryd.prog 75 1 = some (1, 30) := by kernel_rfl
theorem ag76 : aggs Tryd.prog 76 = true := by kernel_rfl
theorem sz76 : sizeIs Tryd.prog 76 = some 2 := by kernel_rfl
theorem by76 : bytesIs Tryd.prog 76 = some 24 := by kernel_rfl
theorem ze76 : zeroIs Tryd.prog 76 = some (Value.agg #[vS [], vI 0]) := by kernel_rfl
theorem fi76_0 : fieldIs Tryd.prog 76 0 = some (0, 9) := by kernel_rfl
theorem fi76_1 : fieldIs Tryd.prog 76 1 = some (1, 30) := by kernel_rfl
theorem sc77 : scal Tryd.prog 77 = true := by kernel_rfl
theorem sz77 : sizeIs Tryd.prog 77 = some 1 := by kernel_rfl
theorem by77 : bytesIs Tryd.prog 77 = some 8 := by kernel_rfl
theorem ze77 : zeroIs Tryd.prog 77 = some (vU64 0) := by kernel_rfl
theorem sc78 : scal Tryd.prog 78 = true := by kernel_rfl
theorem sz78 : sizeIs Tryd.prog 78 = some 1 := by kernel_rfl
theorem by78 : bytesIs Tryd.prog 78 = some 8 := by kernel_rfl
theorem ze78 : zeroIs Tryd.prog 78 = some (Value.nilFunc) := by kernel_rfl
theorem sc79 : scal Tryd.prog 79 = true := by kernel_rfl
theorem sz79 : sizeIs Tryd.prog 79 = some 1 := by kernel_rfl
theorem by79 : bytesIs Tryd.prog 79 = some 8 := by kernel_rfl
theorem ze79 : zeroIs Tryd.prog 79 = some (Value.nilFunc) := by kernel_rfl
theorem sc80 : scal Tryd.prog 80 = true := by kernel_rfl
theorem sz80 : sizeIs Tryd.prog 80 = some 1 := by kernel_rfl
theorem by80 : bytesIs Tryd.prog 80 = some 8 := by kernel_rfl
theorem ze80 : zeroIs Tryd.prog 80 = some (Value.nilFunc) := by kernel_rfl
theorem sc81 : scal Tryd.prog 81 = true := by kernel_rfl
theorem sz81 : sizeIs Tryd.prog 81 = some 1 := by kernel_rfl
theorem by81 : bytesIs Tryd.prog 81 = some 8 := by kernel_rfl
theorem ze81 : zeroIs Tryd.prog 81 = some (Value.nilFunc) := by kernel_rfl
theorem sc82 : scal Tryd.prog 82 = true := by kernel_rfl
theorem sz82 : sizeIs Tryd.prog 82 = some 1 := by kernel_rfl
theorem by82 : bytesIs Tryd.prog 82 = some 24 := by kernel_rfl
theorem ze82 : zeroIs Tryd.prog 82 = some (Value.slice none 0 0) := by kernel_rfl
theorem sc83 : scal Tryd.prog 83 = true := by kernel_rfl
theorem sz83 : sizeIs Tryd.prog 83 = some 1 := by kernel_rfl
theorem by83 : bytesIs Tryd.prog 83 = some 8 := by kernel_rfl
theorem ze83 : zeroIs Tryd.prog 83 = some (Value.nilFunc) := by kernel_rfl
theorem sc84 : scal Tryd.prog 84 = true := by kernel_rfl
theorem sz84 : sizeIs Tryd.prog 84 = some 1 := by kernel_rfl
theorem by84 : bytesIs Tryd.prog 84 = some 8 := by kernel_rfl
theorem ze84 : zeroIs Tryd.prog 84 = some (Value.nilFunc) := by kernel_rfl
theorem sc85 : scal Tryd.prog 85 = true := by kernel_rfl
theorem sz85 : sizeIs Tryd.prog 85 = some 1 := by kernel_rfl
theorem by85 : bytesIs Tryd.prog 85 = some 8 := by kernel_rfl
theorem ze85 : zeroIs Tryd.prog 85 = some (Value.nilFunc) := by kernel_rfl
theorem sc86 : scal Tryd.prog 86 = true := by kernel_rfl
theorem sz86 : sizeIs Tryd.prog 86 = some 1 := by kernel_rfl
theorem by86 : bytesIs Tryd.prog 86 = some 8 := by kernel_rfl
theorem ze86 : zeroIs Tryd.prog 86 = some (Value.nilFunc) := by kernel_rfl
theorem sc87 : scal Tryd.prog 87 = true := by kernel_rfl
theorem sz87 : sizeIs Tryd.prog 87 = some 1 := by kernel_rfl
theorem by87 : bytesIs Tryd.prog 87 = some 8 := by kernel_rfl
theorem ze87 : zeroIs Tryd.prog 87 = some (vU64 0) := by kernel_rfl
theorem sc88 : scal Tryd.prog 88 = true := by kernel_rfl
theorem sz88 : sizeIs Tryd.prog 88 = some 1 := by kernel_rfl
theorem by88 : bytesIs Tryd.prog 88 = some 8 := by kernel_rfl
theorem ze88 : zeroIs Tryd.prog 88 = some (Value.nilFunc) := by kernel_rfl
theorem sc89 : scal Tryd.prog 89 = true := by kernel_rfl
theorem sz89 : sizeIs Tryd.prog 89 = some 1 := by kernel_rfl
theorem by89 : bytesIs Tryd.prog 89 = some 8 := by kernel_rfl
theorem ze89 : zeroIs Tryd.prog 89 = some (Value.nilFunc) := by kernel_rfl
theorem sc91 : scal Tryd.prog 91 = true := by kernel_rfl
theorem sz91 : sizeIs Tryd.prog 91 = some 1 := by kernel_rfl
theorem by91 : bytesIs Tryd.prog 91 = some 8 := by kernel_rfl
theorem ze91 : zeroIs Tryd.prog 91 = some (Value.nilFunc) := by kernel_rfl
theorem sc92 : scal Tryd.prog 92 = true := by kernel_rfl
theorem sz92 : sizeIs Tryd.prog 92 = some 1 := by kernel_rfl
theorem by92 : bytesIs Tryd.prog 92 = some 8 := by kernel_rfl
theorem ze92 : zeroIs Tryd.prog 92 = some (Value.nilFunc) := by kernel_rfl
theorem sc93 : scal Tryd.prog 93 = true := by kernel_rfl
theorem sz93 : sizeIs Tryd.prog 93 = some 1 := by kernel_rfl
theorem by93 : bytesIs Tryd.prog 93 = some 8 := by kernel_rfl
theorem ze93 : zeroIs Tryd.prog 93 = some (Value.nilFunc) := by kernel_rfl
theorem ag94 : aggs Tryd.prog 94 = true := by kernel_rfl
theorem sz94 : sizeIs Tryd.prog 94 = some 10 := by kernel_rfl
theorem by94 : bytesIs Tryd.prog 94 = some 10 := by kernel_rfl
theorem ze94 : zeroIs Tryd.prog 94 = some (Value.agg #[vU8 0, vU8 0, vU8 0, vU8 0, vU8 0, vU8 0, vU8 0, vU8 0, vU8 0, vU8 0]) := by kernel_rfl
theorem sc95 : scal Tryd.prog 95 = true := by kernel_rfl
theorem sz95 : sizeIs Tryd.prog 95 = some 1 := by kernel_rfl
theorem by95 : bytesIs Tryd.prog 95 = some 8 := by kernel_rfl
theorem ze95 : zeroIs Tryd.prog 95 = some (Value.nilFunc) := by kernel_rfl
theorem sc96 : scal Tryd.prog 96 = true := by kernel_rfl
theorem sz96 : sizeIs Tryd.prog 96 = some 1 := by kernel_rfl
theorem by96 : bytesIs Tryd.prog 96 = some 8 := by kernel_rfl
theorem ze96 : zeroIs Tryd.prog 96 = some (vI 0) := by kernel_rfl
theorem sc98 : scal Tryd.prog 98 = true := by kernel_rfl
theorem sz98 : sizeIs Tryd.prog 98 = some 1 := by kernel_rfl
theorem by98 : bytesIs Tryd.prog 98 = some 8 := by kernel_rfl
theorem ze98 : zeroIs Tryd.prog 98 = some (Value.nilFunc) := by kernel_rfl
theorem sc99 : scal Tryd.prog 99 = true := by kernel_rfl
theorem sz99 : sizeIs Tryd.prog 99 = some 1 := by kernel_rfl
theorem by99 : bytesIs Tryd.prog 99 = some 8 := by kernel_rfl
theorem ze99 : zeroIs Tryd.prog 99 = some (Value.nilFunc) := by kernel_rfl
theorem sc100 : scal Tryd.prog 100 = true := by kernel_rfl
theorem sz100 : sizeIs Tryd.prog 100 = some 1 := by kernel_rfl
theorem by100 : bytesIs Tryd.prog 100 = some 8 := by kernel_rfl
theorem ze100 : zeroIs Tryd.prog 100 = some (Value.nilFunc) := by kernel_rfl
theorem sc102 : scal Tryd.prog 102 = true := by kernel_rfl
theorem sz102 : sizeIs Tryd.prog 102 = some 1 := by kernel_rfl
theorem by102 : bytesIs Tryd.prog 102 = some 8 := by kernel_rfl
theorem ze102 : zeroIs Tryd.prog 102 = some (Value.nilFunc) := by kernel_rfl
theorem sc103 : scal Tryd.prog 103 = true := by kernel_rfl
theorem sz103 : sizeIs Tryd.prog 103 = some 1 := by kernel_rfl
theorem by103 : bytesIs Tryd.prog 103 = some 8 := by kernel_rfl
theorem ze103 : zeroIs Tryd.prog 103 = some (Value.nilFunc) := by kernel_rfl
theorem sc104 : scal Tryd.prog 104 = true := by kernel_rfl
theorem sz104 : sizeIs Tryd.prog 104 = some 1 := by kernel_rfl
theorem by104 : bytesIs Tryd.prog 104 = some 4 := by kernel_rfl
theorem ze104 : zeroIs Tryd.prog 104 = some (vU32 0) := by kernel_rfl
theorem sc105 : scal Tryd.prog 105 = true := by kernel_rfl
theorem sz105 : sizeIs Tryd.prog 105 = some 1 := by kernel_rfl
theorem by105 : bytesIs Tryd.prog 105 = some 8 := by kernel_rfl
theorem ze105 : zeroIs Tryd.prog 105 = some (Value.nilFunc) := by kernel_rfl
theorem ag106 : aggs Tryd.prog 106 = true := by kernel_rfl
theorem sz106 : sizeIs Tryd.prog 106 = some 24 := by kernel_rfl
theorem by106 : bytesIs Tryd.prog 106 = some 24 := by kernel_rfl
theorem ze106 : zeroIs Tryd.prog 106 = some (Value.agg #[vU8 0, vU8 0, vU8 0, vU8 0, vU8 0, vU8 0, vU8 0, vU8 0, vU8 0, vU8 0, vU8 0, vU8 0, vU8 0, vU8 0, vU8 0, vU8 0, vU8 0, vU8 0, vU8 0, vU8 0, vU8 0, vU8 0, vU8 0, vU8 0]) := by kernel_rfl
theorem sc107 : scal Tryd.prog 107 = true := by kernel_rfl
theorem sz107 : sizeIs Tryd.prog 107 = some 1 := by kernel_rfl
theorem by107 : bytesIs Tryd.prog 107 = some 8 := by kernel_rfl
theorem ze107 : zeroIs Tryd.prog 107 = some (Value.nilFunc) := by kernel_rfl
theorem sc109 : scal Tryd.prog 109 = true := by kernel_rfl
theorem sz109 : sizeIs Tryd.prog 109 = some 1 := by kernel_rfl
theorem by109 : bytesIs Tryd.prog 109 = some 8 := by kernel_rfl
theorem ze109 : zeroIs Tryd.prog 109 = some (Value.nilFunc) := by kernel_rfl
theorem sc110 : scal Tryd.prog 110 = true := by kernel_rfl
theorem sz110 : sizeIs Tryd.prog 110 = some 1 := by kernel_rfl
theorem by110 : bytesIs Tryd.prog 110 = some 8 := by kernel_rfl
theorem ze110 : zeroIs Tryd.prog 110 = some (vU64 0) := by kernel_rfl
theorem sc111 : scal Tryd.prog 111 = true := by kernel_rfl
theorem sz111 : sizeIs Tryd.prog 111 = some 1 := by kernel_rfl
theorem by111 : bytesIs Tryd.prog 111 = some 8 := by kernel_rfl
theorem ze111 : zeroIs Tryd.prog 111 = some (Value.nilFunc) := by kernel_rfl
theorem sc112 : scal Tryd.prog 112 = true := by kernel_rfl
theorem sz112 : sizeIs Tryd.prog 112 = some 1 := by kernel_rfl
theorem by112 : bytesIs Tryd.prog 112 = some 8 := by kernel_rfl
theorem ze112 : zeroIs Tryd.prog 112 = some (Value.nilFunc) := by kernel_rfl
theorem sc113 : scal Tryd.prog 113 = true := by kernel_rfl
theorem sz113 : sizeIs Tryd.prog 113 = some 1 := by kernel_rfl
theorem by113 : bytesIs Tryd.prog 113 = some 8 := by kernel_rfl
theorem ze113 : zeroIs Tryd.prog 113 = some (Value.pointer none) := by kernel_rfl
theorem sc114 : scal Tryd.prog 114 = true := by kernel_rfl
theorem sz114 : sizeIs Tryd.prog 114 = some 1 := by kernel_rfl
theorem by114 : bytesIs Tryd.prog 114 = some 8 := by kernel_rfl
theorem ze114 : zeroIs Tryd.prog 114 = some (Value.nilFunc) := by kernel_rfl
theorem sc115 : scal Tryd.prog 115 = true := by kernel_rfl
theorem sz115 : sizeIs Tryd.prog 115 = some 1 := by kernel_rfl
theorem by115 : bytesIs Tryd.prog 115 = some 8 := by kernel_rfl
theorem ze115 : zeroIs Tryd.prog 115 = some (Value.nilFunc) := by kernel_rfl
theorem ag116 : aggs Tryd.prog 116 = true := by kernel_rfl
theorem sz116 : sizeIs Tryd.prog 116 = some 20 := by kernel_rfl
theorem by116 : bytesIs Tryd.prog 116 = some 160 := by kernel_rfl
theorem ze116 : zeroIs Tryd.prog 116 = some (Value.agg #[vU64 0, vU64 0, vU64 0, vU64 0, vU64 0, vU64 0, vU64 0, vU64 0, vU64 0, vU64 0, vU64 0, vU64 0, vU64 0, vU64 0, vU64 0, vU64 0, vU64 0, vU64 0, vU64 0, vU64 0]) := by kernel_rfl
theorem ag117 : aggs Tryd.prog 117 = true := by kernel_rfl
theorem sz117 : sizeIs Tryd.prog 117 = some 65 := by kernel_rfl
theorem by117 : bytesIs Tryd.prog 117 = some 65 := by kernel_rfl
theorem ze117 : zeroIs Tryd.prog 117 = some (Value.agg #[vU8 0, vU8 0, vU8 0, vU8 0, vU8 0, vU8 0, vU8 0, vU8 0, vU8 0, vU8 0, vU8 0, vU8 0, vU8 0, vU8 0, vU8 0, vU8 0, vU8 0, vU8 0, vU8 0, vU8 0, vU8 0, vU8 0, vU8 0, vU8 0, vU8 0, vU8 0, vU8 0, vU8 0, vU8 0, vU8 0, vU8 0, vU8 0, vU8 0, vU8 0, vU8 0, vU8 0, vU8 0, vU8 0, vU8 0, vU8 0, vU8 0, vU8 0, vU8 0, vU8 0, vU8 0, vU8 0, vU8 0, vU8 0, vU8 0, vU8 0, vU8 0, vU8 0, vU8 0, vU8 0, vU8 0, vU8 0, vU8 0, vU8 0, vU8 0, vU8 0, vU8 0, vU8 0, vU8 0, vU8 0, vU8 0]) := by kernel_rfl
theorem sc118 : scal Tryd.prog 118 = true := by kernel_rfl
theorem sz118 : sizeIs Tryd.prog 118 = some 1 := by kernel_rfl
theorem by118 : bytesIs Tryd.prog 118 = some 8 := by kernel_rfl
theorem ze118 : zeroIs Tryd.prog 118 = some (Value.pointer none) := by kernel_rfl
theorem sc120 : scal Tryd.prog 120 = true := by kernel_rfl
theorem sz120 : sizeIs Tryd.prog 120 = some 1 := by kernel_rfl
theorem by120 : bytesIs Tryd.prog 120 = some 8 := by kernel_rfl
theorem ze120 : zeroIs Tryd.prog 120 = some (Value.nilFunc) := by kernel_rfl
theorem ag121 : aggs Tryd.prog 121 = true := by kernel_rfl
theorem sz121 : sizeIs Tryd.prog 121 = some 32 := by kernel_rfl
theorem by121 : bytesIs Tryd.prog 121 = some 32 := by kernel_rfl
theorem ze121 : zeroIs Tryd.prog 121 = some (Value.agg #[vU8 0, vU8 0, vU8 0, vU8 0, vU8 0, vU8 0, vU8 0, vU8 0, vU8 0, vU8 0, vU8 0, vU8 0, vU8 0, vU8 0, vU8 0, vU8 0, vU8 0, vU8 0, vU8 0, vU8 0, vU8 0, vU8 0, vU8 0, vU8 0, vU8 0, vU8 0, vU8 0, vU8 0, vU8 0, vU8 0, vU8 0, vU8 0]) := by kernel_rfl
theorem ag122 : aggs Tryd.prog 122 = true := by kernel_rfl
theorem sz122 : sizeIs Tryd.prog 122 = some 64 := by kernel_rfl
theorem by122 : bytesIs Tryd.prog 122 = some 64 := by kernel_rfl
theorem ze122 : zeroIs Tryd.prog 122 = some (Value.agg #[vU8 0, vU8 0, vU8 0, vU8 0, vU8 0, vU8 0, vU8 0, vU8 0, vU8 0, vU8 0, vU8 0, vU8 0, vU8 0, vU8 0, vU8 0, vU8 0, vU8 0, vU8 0, vU8 0, vU8 0, vU8 0, vU8 0, vU8 0, vU8 0, vU8 0, vU8 0, vU8 0, vU8 0, vU8 0, vU8 0, vU8 0, vU8 0, vU8 0, vU8 0, vU8 0, vU8 0, vU8 0, vU8 0, vU8 0, vU8 0, vU8 0, vU8 0, vU8 0, vU8 0, vU8 0, vU8 0, vU8 0, vU8 0, vU8 0, vU8 0, vU8 0, vU8 0, vU8 0, vU8 0, vU8 0, vU8 0, vU8 0, vU8 0, vU8 0, vU8 0, vU8 0, vU8 0, vU8 0, vU8 0]) := by kernel_rfl
theorem sc123 : scal Tryd.prog 123 = true := by kernel_rfl
theorem sz123 : sizeIs Tryd.prog 123 = some 1 := by kernel_rfl
theorem by123 : bytesIs Tryd.prog 123 = some 8 := by kernel_rfl
theorem ze123 : zeroIs Tryd.prog 123 = some (Value.nilFunc) := by kernel_rfl
theorem ag124 : aggs Tryd.prog 124 = true := by kernel_rfl
theorem sz124 : sizeIs Tryd.prog 124 = some 4 := by kernel_rfl
theorem by124 : bytesIs Tryd.prog 124 = some 40 := by kernel_rfl
theorem ze124 : zeroIs Tryd.prog 124 = some (Value.agg #[Value.pointer none, Value.pointer none, Value.pointer none, vS []]) := by kernel_rfl
theorem fi124_0 : fieldIs Tryd.prog 124 0 = some (0, 17) := by kernel_rfl
theorem fi124_1 : fieldIs Tryd.prog 124 1 = some (1, 17) := by kernel_rfl
theorem fi124_2 : fieldIs Tryd.prog 124 2 = some (2, 17) := by kernel_rfl
theorem fi124_3 : fieldIs Tryd.prog 124 3 = some (3, 9) := by kernel_rfl
theorem ag125 : aggs Tryd.prog 125 = true := by kernel_rfl
theorem sz125 : sizeIs Tryd.prog 125 = some 4 := by kernel_rfl
theorem by125 : bytesIs Tryd.prog 125 = some 40 := by kernel_rfl
theorem ze125 : zeroIs Tryd.prog 125 = some (Value.agg #[Value.pointer none, Value.pointer none, Value.pointer none, vS []]) := by kernel_rfl
theorem fi125_0 : fieldIs Tryd.prog 125 0 = some (0, 17) := by kernel_rfl
theorem fi125_1 : fieldIs Tryd.prog 125 1 = some (1, 17) := by kernel_rfl
theorem fi125_2 : fieldIs Tryd.prog 125 2 = some (2, 17) := by kernel_rfl
theorem fi125_3 : fieldIs Tryd.prog 125 3 = some (3, 9) := by kernel_rfl
theorem ag126 : aggs Tryd.prog 126 = true := by kernel_rfl
theorem sz126 : sizeIs Tryd.prog 126 = some 0 := by kernel_rfl
theorem by126 : bytesIs Tryd.prog 126 = some 0 := by kernel_rfl
theorem ze126 : zeroIs Tryd.prog 126 = some (Value.agg #[]) := by kernel_rfl
theorem ag127 : aggs Tryd.prog 127 = true := by kernel_rfl
theorem sz127 : sizeIs Tryd.prog 127 = some 0 := by kernel_rfl
theorem by127 : bytesIs Tryd.prog 127 = some 0 := by kernel_rfl
theorem ze127 : zeroIs Tryd.prog 127 = some (Value.agg #[]) := by kernel_rfl
theorem ag128 : aggs Tryd.prog 128 = true := by kernel_rfl
theorem sz128 : sizeIs Tryd.prog 128 = some 0 := by kernel_rfl
theorem by128 : bytesIs Tryd.prog 128 = some 0 := by kernel_rfl
theorem ze128 : zeroIs Tryd.prog 128 = some (Value.agg #[]) := by kernel_rfl
theorem sc129 : scal Tryd.prog 129 = true := by kernel_rfl
theorem sz129 : sizeIs Tryd.prog 129 = some 1 := by kernel_rfl
theorem by129 : bytesIs Tryd.prog 129 = some 8 := by kernel_rfl
theorem ze129 : zeroIs Tryd.prog 129 = some (Value.nilFunc) := by kernel_rfl
theorem sc130 : scal Tryd.prog 130 = true := by kernel_rfl
theorem sz130 : sizeIs Tryd.prog 130 = some 1 := by kernel_rfl
theorem by130 : bytesIs Tryd.prog 130 = some 1 := by kernel_rfl
theorem ze130 : zeroIs Tryd.prog 130 = some (vU8 0) := by kernel_rfl
theorem sc131 : scal Tryd.prog 131 = true := by kernel_rfl
theorem sz131 : sizeIs Tryd.prog 131 = some 1 := by kernel_rfl
theorem by131 : bytesIs Tryd.prog 131 = some 1 := by kernel_rfl
theorem ze131 : zeroIs Tryd.prog 131 = some (vU8 0) := by kernel_rfl
theorem sc132 : scal Tryd.prog 132 = true := by kernel_rfl
theorem sz132 : sizeIs Tryd.prog 132 = some 1 := by kernel_rfl
theorem by132 : bytesIs Tryd.prog 132 = some 8 := by kernel_rfl
theorem ze132 : zeroIs Tryd.prog 132 = some (Value.nilFunc) := by kernel_rfl
theorem sc133 : scal Tryd.prog 133 = true := by kernel_rfl
theorem sz133 : sizeIs Tryd.prog 133 = some 1 := by kernel_rfl
theorem by133 : bytesIs Tryd.prog 133 = some 8 := by kernel_rfl
theorem ze133 : zeroIs Tryd.prog 133 = some (Value.pointer none) := by kernel_rfl
theorem sc134 : scal Tryd.prog 134 = true := by kernel_rfl
theorem sz134 : sizeIs Tryd.prog 134 = some 1 := by kernel_rfl
theorem by134 : bytesIs Tryd.prog 134 = some 4 := by kernel_rfl
theorem ze134 : zeroIs Tryd.prog 134 = some ((.int .i32 0)) := by kernel_rfl
theorem sc135 : scal Tryd.prog 135 = true := by kernel_rfl
theorem sz135 : sizeIs Tryd.prog 135 = some 1 := by kernel_rfl
theorem by135 : bytesIs Tryd.prog 135 = some 4 := by kernel_rfl
theorem ze135 : zeroIs Tryd.prog 135 = some ((.int .i32 0)) := by kernel_rfl
theorem ag136 : aggs Tryd.prog 136 = true := by kernel_rfl
theorem sz136 : sizeIs Tryd.prog 136 = some 11 := by kernel_rfl
theorem by136 : bytesIs Tryd.prog 136 = some 48 := by kernel_rfl
theorem ze136 : zeroIs Tryd.prog 136 = some (Value.agg #[vU64 0, vU64 0, vU32 0, vU8 0, vU8 0, vU8 0, vU8 0, Value.nilFunc, Value.pointer none, (.int .i32 0), (.int .i32 0)]) := by kernel_rfl
theorem fi136_0 : fieldIs Tryd.prog 136 0 = some (0, 12) := by kernel_rfl
theorem fi136_1 : fieldIs Tryd.prog 136 1 = some (1, 12) := by kernel_rfl
theorem fi136_2 : fieldIs Tryd.prog 136 2 = some (2, 104) := by kernel_rfl
theorem fi136_3 : fieldIs Tryd.prog 136 3 = some (3, 130) := by kernel_rfl
theorem fi136_4 : fieldIs Tryd.prog 136 4 = some (4, 5) := by kernel_rfl
theorem fi136_5 : fieldIs Tryd.prog 136 5 = some (5, 5) := by kernel_rfl
theorem fi136_6 : fieldIs Tryd.prog 136 6 = some (6, 131) := by kernel_rfl
theorem fi136_7 : fieldIs Tryd.prog 136 7 = some (7, 132) := by kernel_rfl
theorem fi136_8 : fieldIs Tryd.prog 136 8 = some (8, 133) := by kernel_rfl
theorem fi136_9 : fieldIs Tryd.prog 136 9 = some (9, 134) := by kernel_rfl
theorem fi136_10 : fieldIs Tryd.prog 136 10 = some (10, 135) := by kernel_rfl
theorem ag137 : aggs Tryd.prog 137 = true := by kernel_rfl
theorem sz137 : sizeIs Tryd.prog 137 = some 11 := by kernel_rfl
theorem by137 : bytesIs Tryd.prog 137 = some 48 := by kernel_rfl
theorem ze137 : zeroIs Tryd.prog 137 = some (Value.agg #[vU64 0, vU64 0, vU32 0, vU8 0, vU8 0, vU8 0, vU8 0, Value.nilFunc, Value.pointer none, (.int .i32 0), (.int .i32 0)]) := by kernel_rfl
theorem fi137_0 : fieldIs Tryd.prog 137 0 = some (0, 12) := by kernel_rfl
theorem fi137_1 : fieldIs Tryd.prog 137 1 = some (1, 12) := by kernel_rfl
theorem fi137_2 : fieldIs Tryd.prog 137 2 = some (2, 104) := by kernel_rfl
theorem fi137_3 : fieldIs Tryd.prog 137 3 = some (3, 130) := by kernel_rfl
theorem fi137_4 : fieldIs Tryd.prog 137 4 = some (4, 5) := by kernel_rfl
theorem fi137_5 : fieldIs Tryd.prog 137 5 = some (5, 5) := by kernel_rfl
theorem fi137_6 : fieldIs Tryd.prog 137 6 = some (6, 131) := by kernel_rfl
theorem fi137_7 : fieldIs Tryd.prog 137 7 = some (7, 132) := by kernel_rfl
theorem fi137_8 : fieldIs Tryd.prog 137 8 = some (8, 133) := by kernel_rfl
theorem fi137_9 : fieldIs Tryd.prog 137 9 = some (9, 134) := by kernel_rfl
theorem fi137_10 : fieldIs Tryd.prog 137 10 = some (10, 135) := by kernel_rfl
theorem ca2 : Callable Tryd.prog 2 := ⟨Tryd.f2, Tryd.func2, by kernel_rfl, by kernel_rfl⟩
theorem ca3 : Callable Tryd.prog 3 := ⟨Tryd.f3, Tryd.func3, by kernel_rfl, by kernel_rfl⟩
theorem ca4 : Callable Tryd.prog 4 := ⟨Tryd.f4, Tryd.func4, by kernel_rfl, by kernel_rfl⟩
theorem ca5 : Callable Tryd.prog 5 := ⟨Tryd.f5, Tryd.func5, by kernel_rfl, by kernel_rfl⟩
theorem ca6 : Callable Tryd.prog 6 := ⟨Tryd.f6, Tryd.func6, by kernel_rfl, by kernel_rfl⟩
theorem ca7 : Callable Tryd.prog 7 := ⟨Tryd.f7, Tryd.func7, by kernel_rfl, by kernel_rfl⟩
theorem ca8 : Callable Tryd.prog 8 := ⟨Tryd.f8, Tryd.func8, by kernel_rfl, by kernel_rfl⟩
theorem ca9 : Callable Tryd.prog 9 := ⟨Tryd.f9, Tryd.func9, by kernel_rfl, by kernel_rfl⟩
theorem ca10 : Callable Tryd.prog 10 := ⟨Tryd.f10, Tryd.func10, by kernel_rfl, by kernel_rfl⟩
theorem ca11 : Callable Tryd.prog 11 := ⟨Tryd.f11, Tryd.func11, by kernel_rfl, by kernel_rfl⟩
theorem ca12 : Callable Tryd.prog 12 := ⟨Tryd.f12, Tryd.func12, by kernel_rfl, by kernel_rfl⟩
theorem ca13 : Callable Tryd.prog 13 := ⟨Tryd.f13, Tryd.func13, by kernel_rfl, by kernel_rfl⟩
theorem ca14 : Callable Tryd.prog 14 := ⟨Tryd.f14, Tryd.func14, by kernel_rfl, by kernel_rfl⟩
theorem ca15 : Callable Tryd.prog 15 := ⟨Tryd.f15, Tryd.func15, by kernel_rfl, by kernel_rfl⟩
theorem ca16 : Callable Tryd.prog 16 := ⟨Tryd.f16, Tryd.func16, by kernel_rfl, by kernel_rfl⟩
theorem ca17 : Callable Tryd.prog 17 := ⟨Tryd.f17, Tryd.func17, by kernel_rfl, by kernel_rfl⟩
theorem ca18 : Callable Tryd.prog 18 := ⟨Tryd.f18, Tryd.func18, by kernel_rfl, by kernel_rfl⟩
theorem ca19 : Callable Tryd.prog 19 := ⟨Tryd.f19, Tryd.func19, by kernel_rfl, by kernel_rfl⟩
theorem ca20 : Callable Tryd.prog 20 := ⟨Tryd.f20, Tryd.func20, by kernel_rfl, by kernel_rfl⟩
theorem ca21 : Callable Tryd.prog 21 := ⟨Tryd.f21, Tryd.func21, by kernel_rfl, by kernel_rfl⟩
theorem ca22 : Callable Tryd.prog 22 := ⟨Tryd.f22, Tryd.func22, by kernel_rfl, by kernel_rfl⟩
theorem ca23 : Callable Tryd.prog 23 := ⟨Tryd.f23, Tryd.func23, by kernel_rfl, by kernel_rfl⟩
theorem ca24 : Callable Tryd.prog 24 := ⟨Tryd.f24, Tryd.func24, by kernel_rfl, by kernel_rfl⟩
theorem ca25 : Callable Tryd.prog 25 := ⟨Tryd.f25, Tryd.func25, by kernel_rfl, by kernel_rfl⟩
theorem ca26 : Callable Tryd.prog 26 := ⟨Tryd.f26, Tryd.func26, by kernel_rfl, by kernel_rfl⟩
theorem ca27 : Callable Tryd.prog 27 := ⟨Tryd.f27, Tryd.func27, by kernel_rfl, by kernel_rfl⟩
theorem ca28 : Callable Tryd.prog 28 := ⟨Tryd.f28, Tryd.func28, by kernel_rfl, by kernel_rfl⟩
theorem ca29 : Callable Tryd.prog 29 := ⟨Tryd.f29, Tryd.func29, by kernel_rfl, by kernel_rfl⟩
theorem ca30 : Callable Tryd.prog 30 := ⟨Tryd.f30, Tryd.func30, by kernel_rfl, by kernel_rfl⟩
theorem ca31 : Callable Tryd.prog 31 := ⟨Tryd.f31, Tryd.func31, by kernel_rfl, by kernel_rfl⟩
theorem ca32 : Callable Tryd.prog 32 := ⟨Tryd.f32, Tryd.func32, by kernel_rfl, by kernel_rfl⟩
theorem ca33 : Callable Tryd.prog 33 := ⟨Tryd.f33, Tryd.func33, by kernel_rfl, by kernel_rfl⟩
theorem ca34 : Callable Tryd.prog 34 := ⟨Tryd.f34, Tryd.func34, by kernel_rfl, by kernel_rfl⟩
theorem ca35 : Callable Tryd.prog 35 := ⟨Tryd.f35, Tryd.func35, by kernel_rfl, by kernel_rfl⟩
theorem ca36 : Callable Tryd.prog 36 := ⟨Tryd.f36, Tryd.func36, by kernel_rfl, by kernel_rfl⟩
theorem ca37 : Callable Tryd.prog 37 := ⟨Tryd.f37, Tryd.func37, by kernel_rfl, by kernel_rfl⟩
theorem ca38 : Callable Tryd.prog 38 := ⟨Tryd.f38, Tryd.func38, by kernel_rfl, by kernel_rfl⟩
theorem ca39 : Callable Tryd.prog 39 := ⟨Tryd.f39, Tryd.func39, by kernel_rfl, by kernel_rfl⟩
theorem ca40 : Callable Tryd.prog 40 := ⟨Tryd.f40, Tryd.func40, by kernel_rfl, by kernel_rfl⟩
theorem ca41 : Callable Tryd.prog 41 := ⟨Tryd.f41, Tryd.func41, by kernel_rfl, by kernel_rfl⟩
theorem ca42 : Callable Tryd.prog 42 := ⟨Tryd.f42, Tryd.func42, by kernel_rfl, by kernel_rfl⟩
theorem ca43 : Callable Tryd.prog 43 := ⟨Tryd.f43, Tryd.func43, by kernel_rfl, by kernel_rfl⟩
theorem ca44 : Callable Tryd.prog 44 := ⟨Tryd.f44, Tryd.func44, by kernel_rfl, by kernel_rfl⟩
theorem ca45 : Callable Tryd.prog 45 := ⟨Tryd.f45, Tryd.func45, by kernel_rfl, by kernel_rfl⟩
theorem ca46 : Callable Tryd.prog 46 := ⟨Tryd.f46, Tryd.func46, by kernel_rfl, by kernel_rfl⟩
theorem ca47 : Callable Tryd.prog 47 := ⟨Tryd.f47, Tryd.func47, by kernel_rfl, by kernel_rfl⟩
theorem ca48 : Callable Tryd.prog 48 := ⟨Tryd.f48, Tryd.func48, by kernel_rfl, by kernel_rfl⟩
theorem ca49 : Callable Tryd.prog 49 := ⟨Tryd.f49, Tryd.func49, by kernel_rfl, by kernel_rfl⟩
theorem ca50 : Callable Tryd.prog 50 := ⟨Tryd.f50, Tryd.func50, by kernel_rfl, by kernel_rfl⟩
theorem ca51 : Callable Tryd.prog 51 := ⟨Tryd.f51, Tryd.func51, by kernel_rfl, by kernel_rfl⟩
theorem ca52 : Callable Tryd.prog 52 := ⟨Tryd.f52, Tryd.func52, by kernel_rfl, by kernel_rfl⟩
theorem ca53 : Callable Tryd.prog 53 := ⟨Tryd.f53, Tryd.func53, by kernel_rfl, by kernel_rfl⟩
theorem ca54 : Callable Tryd.prog 54 := ⟨Tryd.f54, Tryd.func54, by kernel_rfl, by kernel_rfl⟩
theorem ca55 : Callable Tryd.prog 55 := ⟨Tryd.f55, Tryd.func55, by kernel_rfl, by kernel_rfl⟩
theorem ca56 : Callable Tryd.prog 56 := ⟨Tryd.f56, Tryd.func56, by kernel_rfl, by kernel_rfl⟩
theorem ca57 : Callable Tryd.prog 57 := ⟨Tryd.f57, Tryd.func57, by kernel_rfl, by kernel_rfl⟩
theorem ca58 : Callable Tryd.prog 58 := ⟨Tryd.f58, Tryd.func58, by kernel_rfl, by kernel_rfl⟩
theorem ca59 : Callable Tryd.prog 59 := ⟨Tryd.f59, Tryd.func59, by kernel_rfl, by kernel_rfl⟩
theorem ca60 : Callable Tryd.prog 60 := ⟨Tryd.f60, Tryd.func60, by kernel_rfl, by kernel_rfl⟩
theorem ca61 : Callable Tryd.prog 61 := ⟨Tryd.f61, Tryd.func61, by kernel_rfl, by kernel_rfl⟩
theorem ca62 : Callable Tryd.prog 62 := ⟨Tryd.f62, Tryd.func62, by kernel_rfl, by kernel_rfl⟩
theorem ca63 : Callable Tryd.prog 63 := ⟨Tryd.f63, Tryd.func63, by kernel_rfl, by kernel_rfl⟩
theorem ca64 : Callable Tryd.prog 64 := ⟨Tryd.f64, Tryd.func64, by kernel_rfl, by kernel_rfl⟩
theorem ca65 : Callable Tryd.prog 65 := ⟨Tryd.f65, Tryd.func65, by kernel_rfl, by kernel_rfl⟩
theorem ca66 : Callable Tryd.prog 66 := ⟨Tryd.f66, Tryd.func66, by kernel_rfl, by kernel_rfl⟩
theorem ca67 : Callable Tryd.prog 67 := ⟨Tryd.f67, Tryd.func67, by kernel_rfl, by kernel_rfl⟩
theorem ca68 : Callable Tryd.prog 68 := ⟨Tryd.f68, Tryd.func68, by kernel_rfl, by kernel_rfl⟩
theorem ca69 : Callable Tryd.prog 69 := ⟨Tryd.f69, Tryd.func69, by kernel_rfl, by kernel_rfl⟩
theorem ca70 : Callable Tryd.prog 70 := ⟨Tryd.f70, Tryd.func70, by kernel_rfl, by kernel_rfl⟩
theorem ca71 : Callable Tryd.prog 71 := ⟨Tryd.f71, Tryd.func71, by kernel_rfl, by kernel_rfl⟩
theorem ca72 : Callable Tryd.prog 72 := ⟨Tryd.f72, Tryd.func72, by kernel_rfl, by kernel_rfl⟩
theorem ca73 : Callable Tryd.prog 73 := ⟨Tryd.f73, Tryd.func73, by kernel_rfl, by kernel_rfl⟩
theorem ca74 : Callable Tryd.prog 74 := ⟨Tryd.f74, Tryd.func74, by kernel_rfl, by kernel_rfl⟩
theorem ca75 : Callable Tryd.prog 75 := ⟨Tryd.f75, Tryd.func75, by kernel_rfl, by kernel_rfl⟩
theorem ca76 : Callable Tryd.prog 76 := ⟨Tryd.f76, Tryd.func76, by kernel_rfl, by kernel_rfl⟩
theorem ca77 : Callable Tryd.prog 77 := ⟨Tryd.f77, Tryd.func77, by kernel_rfl, by kernel_rfl⟩
theorem ca78 : Callable Tryd.prog 78 := ⟨Tryd.f78, Tryd.func78, by kernel_rfl, by kernel_rfl⟩
theorem ca79 : Callable Tryd.prog 79 := ⟨Tryd.f79, Tryd.func79, by kernel_rfl, by kernel_rfl⟩
theorem ca80 : Callable Tryd.prog 80 := ⟨Tryd.f80, Tryd.func80, by kernel_rfl, by kernel_rfl⟩
theorem ca81 : Callable Tryd.prog 81 := ⟨Tryd.f81, Tryd.func81, by kernel_rfl, by kernel_rfl⟩
theorem ca82 : Callable Tryd.prog 82 := ⟨Tryd.f82, Tryd.func82, by kernel_rfl, by kernel_rfl⟩
theorem ca83 : Callable Tryd.prog 83 := ⟨Tryd.f83, Tryd.func83, by kernel_rfl, by kernel_rfl⟩
theorem ca84 : Callable Tryd.prog 84 := ⟨Tryd.f84, Tryd.func84, by kernel_rfl, by kernel_rfl⟩
theorem ca85 : Callable Tryd.prog 85 := ⟨Tryd.f85, Tryd.func85, by kernel_rfl, by kernel_rfl⟩
theorem ca86 : Callable Tryd.prog 86 := ⟨Tryd.f86, Tryd.func86, by kernel_rfl, by kernel_rfl⟩
theorem ca87 : Callable Tryd.prog 87 := ⟨Tryd.f87, Tryd.func87, by kernel_rfl, by kernel_rfl⟩
theorem ca88 : Callable Tryd.prog 88 := ⟨Tryd.f88, Tryd.func88, by kernel_rfl, by kernel_rfl⟩
theorem ca89 : Callable Tryd.prog 89 := ⟨Tryd.f89, Tryd.func89, by kernel_rfl, by kernel_rfl⟩
theorem ca90 : Callable Tryd.prog 90 := ⟨Tryd.f90, Tryd.func90, by kernel_rfl, by kernel_rfl⟩
theorem ca91 : Callable Tryd.prog 91 := ⟨Tryd.f91, Tryd.func91, by kernel_rfl, by kernel_rfl⟩
theorem ca92 : Callable Tryd.prog 92 := ⟨Tryd.f92, Tryd.func92, by kernel_rfl, by kernel_rfl⟩
theorem ca93 : Callable Tryd.prog 93 := ⟨Tryd.f93, Tryd.func93, by kernel_rfl, by kernel_rfl⟩
theorem ca94 : Callable Tryd.prog 94 := ⟨Tryd.f94, Tryd.func94, by kernel_rfl, by kernel_rfl⟩
theorem ca95 : Callable Tryd.prog 95 := ⟨Tryd.f95, Tryd.func95, by kernel_rfl, by kernel_rfl⟩
theorem ca96 : Callable Tryd.prog 96 := ⟨Tryd.f96, Tryd.func96, by kernel_rfl, by kernel_rfl⟩
theorem ca97 : Callable Tryd.prog 97 := ⟨Tryd.f97, Tryd.func97, by kernel_rfl, by kernel_rfl⟩
theorem ca98 : Callable Tryd.prog 98 := ⟨Tryd.f98, Tryd.func98, by kernel_rfl, by kernel_rfl⟩
theorem ca99 : Callable Tryd.prog 99 := ⟨Tryd.f99, Tryd.func99, by kernel_rfl, by kernel_rfl⟩
theorem ca100 : Callable Tryd.prog 100 := ⟨Tryd.f100, Tryd.func100, by kernel_rfl, by kernel_rfl⟩
theorem ca101 : Callable Tryd.prog 101 := ⟨Tryd.f101, Tryd.func101, by kernel_rfl, by kernel_rfl⟩
theorem ca102 : Callable Tryd.prog 102 := ⟨Tryd.f102, Tryd.func102, by kernel_rfl, by kernel_rfl⟩
theorem ca125 : Callable Tryd.prog 125 := ⟨Tryd.f125, Tryd.func125, by kernel_rfl, by kernel_rfl⟩
theorem mixed : Tryd.prog.follows .mixedOrders = true := by kernel_rfl
end Ty
end Go.Proofs.YtknibpmmjhmjeaaDoor
