/- GvF: closed facts on the types and functions of this dump. (Printed by gv.py.) -/
import Derived.Test.YtodfebhimadaiaaRows
import Derived.Test.YtodfebhimadaiaaGvH
namespace Go.Proofs.Ytodfebhimadaiaa
open Go.GV
namespace Ty
theorem sc3 : scal Try.prog 3 = true := by kernel_rfl
theorem sz3 : sizeIs Try.prog 3 = some 1 := by kernel_rfl
theorem by3 : bytesIs Try.prog 3 = some 8 := by kernel_rfl
theorem ze3 : zeroIs Try.prog 3 = some (vI 0) := by kernel_rfl
theorem sc4 : scal Try.prog 4 = true := by kernel_rfl
theorem sz4 : sizeIs Try.prog 4 = some 1 := by kernel_rfl
theorem by4 : bytesIs Try.prog 4 = some 1 := by kernel_rfl
theorem ze4 : zeroIs Try.prog 4 = some (vB false) := by kernel_rfl
theorem sc5 : scal Try.prog 5 = true := by kernel_rfl
theorem sz5 : sizeIs Try.prog 5 = some 1 := by kernel_rfl
theorem by5 : bytesIs Try.prog 5 = some 1 := by kernel_rfl
theorem ze5 : zeroIs Try.prog 5 = some (vU8 0) := by kernel_rfl
theorem sc9 : scal Try.prog 9 = true := by kernel_rfl
theorem sz9 : sizeIs Try.prog 9 = some 1 := by kernel_rfl
theorem by9 : bytesIs Try.prog 9 = some 16 := by kernel_rfl
theorem ze9 : zeroIs Try.prog 9 = some (vS []) := by kernel_rfl
theorem sc23 : scal Try.prog 23 = true := by kernel_rfl
theorem sz23 : sizeIs Try.prog 23 = some 1 := by kernel_rfl
theorem sc28 : scal Try.prog 28 = true := by kernel_rfl
theorem sc29 : scal Try.prog 29 = true := by kernel_rfl
theorem sz29 : sizeIs Try.prog 29 = some 1 := by kernel_rfl
theorem ze29 : zeroIs Try.prog 29 = some (vU32 0) := by kernel_rfl
theorem ag34 : aggs Try.prog 34 = true := by kernel_rfl
theorem sz34 : sizeIs Try.prog 34 = some 21 := by kernel_rfl
theorem ze34 : zeroIs Try.prog 34 = some (Value.agg #[vI 0, vI 0, vI 0, vI 0, vI 0, vI 0, vI 0, vI 0, vI 0, vI 0, vI 0, vI 0, vI 0, vI 0, vB false, vI 0, vS [], vS [], vI 0, vI 0, vB false]) := by kernel_rfl
theorem fi34_0 : fieldIs Try.prog 34 0 = some (0, 3) := by kernel_rfl
theorem fi34_1 : fieldIs Try.prog 34 1 = some (1, 3) := by kernel_rfl
theorem fi34_2 : fieldIs Try.prog 34 2 = some (2, 3) := by kernel_rfl
theorem fi34_3 : fieldIs Try.prog 34 3 = some (3, 3) := by kernel_rfl
theorem fi34_4 : fieldIs Try.prog 34 4 = some (4, 3) := by kernel_rfl
theorem fi34_5 : fieldIs Try.prog 34 5 = some (5, 3) := by kernel_rfl
theorem fi34_6 : fieldIs Try.prog 34 6 = some (6, 3) := by kernel_rfl
theorem fi34_7 : fieldIs Try.prog 34 7 = some (7, 3) := by kernel_rfl
theorem fi34_8 : fieldIs Try.prog 34 8 = some (8, 3) := by kernel_rfl
theorem fi34_9 : fieldIs Try.prog 34 9 = some (9, 3) := by kernel_rfl
theorem fi34_10 : fieldIs Try.prog 34 10 = some (10, 3) := by kernel_rfl
theorem fi34_11 : fieldIs Try.prog 34 11 = some (11, 3) := by kernel_rfl
theorem fi34_12 : fieldIs Try.prog 34 12 = some (12, 3) := by kernel_rfl
theorem fi34_13 : fieldIs Try.prog 34 13 = some (13, 3) := by kernel_rfl
theorem fi34_14 : fieldIs Try.prog 34 14 = some (14, 4) := by kernel_rfl
theorem fi34_15 : fieldIs Try.prog 34 15 = some (15, 3) := by kernel_rfl
theorem fi34_16 : fieldIs Try.prog 34 16 = some (16, 9) := by kernel_rfl
theorem fi34_17 : fieldIs Try.prog 34 17 = some (17, 9) := by kernel_rfl
theorem fi34_18 : fieldIs Try.prog 34 18 = some (18, 3) := by kernel_rfl
theorem fi34_19 : fieldIs Try.prog 34 19 = some (19, 3) := by kernel_rfl
theorem fi34_20 : fieldIs Try.prog 34 20 = some (20, 4) := by kernel_rfl
theorem sc35 : scal Try.prog 35 = true := by kernel_rfl
theorem sz35 : sizeIs Try.prog 35 = some 1 := by kernel_rfl
theorem ag37 : aggs Try.prog 37 = true := by kernel_rfl
theorem sz37 : sizeIs Try.prog 37 = some 23 := by kernel_rfl
theorem ze37 : zeroIs Try.prog 37 = some (Value.agg #[vI 0, vI 0, vI 0, vI 0, vI 0, vI 0, vI 0, vI 0, vI 0, vI 0, vI 0, vI 0, vI 0, vI 0, vB false, vI 0, vS [], vS [], vI 0, vI 0, vB false, vI 0, Value.slice none 0 0]) := by kernel_rfl
theorem fi37_0 : fieldIs Try.prog 37 0 = some (0, 34) := by kernel_rfl
theorem fi37_1 : fieldIs Try.prog 37 1 = some (21, 3) := by kernel_rfl
theorem fi37_2 : fieldIs Try.prog 37 2 = some (22, 35) := by kernel_rfl
theorem ag54 : aggs Try.prog 54 = true := by kernel_rfl
theorem sz54 : sizeIs Try.prog 54 = some 2 := by kernel_rfl
theorem by54 : bytesIs Try.prog 54 = some 32 := by kernel_rfl
theorem ze54 : zeroIs Try.prog 54 = some (Value.agg #[vS [], vS []]) := by kernel_rfl
theorem fi54_0 : fieldIs Try.prog 54 0 = some (0, 9) := by kernel_rfl
theorem fi54_1 : fieldIs Try.prog 54 1 = some (1, 9) := by kernel_rfl
theorem sc66 : scal Try.prog 66 = true := by kernel_rfl
theorem sz66 : sizeIs Try.prog 66 = some 1 := by kernel_rfl
theorem by66 : bytesIs Try.prog 66 = some 8 := by kernel_rfl
theorem ze66 : zeroIs Try.prog 66 = some (Value.pointer none) := by kernel_rfl
theorem sz77 : sizeIs Try.prog 77 = some 3 := by kernel_rfl
theorem ze77 : zeroIs Try.prog 77 = some (Value.agg #[vB false, vB false, vS []]) := by kernel_rfl
theorem fi77_0 : fieldIs Try.prog 77 0 = some (0, 4) := by kernel_rfl
theorem fi77_1 : fieldIs Try.prog 77 1 = some (1, 4) := by kernel_rfl
theorem fi77_2 : fieldIs Try.prog 77 2 = some (2, 9) := by kernel_rfl
theorem sc87 : scal Try.prog 87 = true := by kernel_rfl
theorem sz87 : sizeIs Try.prog 87 = some 1 := by kernel_rfl
theorem ze87 : zeroIs Try.prog 87 = some (Value.pointer none) := by kernel_rfl
theorem ag101 : aggs Try.prog 101 = true := by kernel_rfl
theorem sz101 : sizeIs Try.prog 101 = some 4 := by kernel_rfl
theorem ze101 : zeroIs Try.prog 101 = some (Value.agg #[vU16 0, vU16 0, vU32 0, vU8 0]) := by kernel_rfl
theorem fi101_0 : fieldIs Try.prog 101 0 = some (0, 28) := by kernel_rfl
theorem fi101_1 : fieldIs Try.prog 101 1 = some (1, 28) := by kernel_rfl
theorem fi101_2 : fieldIs Try.prog 101 2 = some (2, 29) := by kernel_rfl
theorem fi101_3 : fieldIs Try.prog 101 3 = some (3, 5) := by kernel_rfl
theorem sc104 : scal Try.prog 104 = true := by kernel_rfl
theorem sz104 : sizeIs Try.prog 104 = some 1 := by kernel_rfl
theorem ze104 : zeroIs Try.prog 104 = some (vU64 0) := by kernel_rfl
theorem fi113_0 : fieldIs Try.prog 113 0 = some (0, 9) := by kernel_rfl
theorem fi113_1 : fieldIs Try.prog 113 1 = some (1, 23) := by kernel_rfl
theorem ze125 : zeroIs Try.prog 125 = some (Value.agg #[vU8 0, vU8 0, vU8 0, vU8 0, vU8 0, vU8 0, vU8 0, vU8 0, vU8 0, vU8 0]) := by kernel_rfl
theorem ag136 : aggs Try.prog 136 = true := by kernel_rfl
theorem sz136 : sizeIs Try.prog 136 = some 16 := by kernel_rfl
theorem ze136 : zeroIs Try.prog 136 = some (Value.agg #[vU32 0, vU32 0, vU32 0, vU32 0, vU32 0, vU32 0, vU32 0, vU32 0, vU32 0, vU32 0, vU32 0, vU32 0, vU32 0, vU32 0, vU32 0, vU32 0]) := by kernel_rfl
theorem ca10 : Callable Try.prog 10 := ⟨Try.f10, Try.func10, by kernel_rfl, by kernel_rfl⟩
theorem ca11 : Callable Try.prog 11 := ⟨Try.f11, Try.func11, by kernel_rfl, by kernel_rfl⟩
theorem ca13 : Callable Try.prog 13 := ⟨Try.f13, Try.func13, by kernel_rfl, by kernel_rfl⟩
theorem ca15 : Callable Try.prog 15 := ⟨Try.f15, Try.func15, by kernel_rfl, by kernel_rfl⟩
theorem ca16 : Callable Try.prog 16 := ⟨Try.f16, Try.func16, by kernel_rfl, by kernel_rfl⟩
theorem ca17 : Callable Try.prog 17 := ⟨Try.f17, Try.func17, by kernel_rfl, by kernel_rfl⟩
theorem ca18 : Callable Try.prog 18 := ⟨Try.f18, Try.func18, by kernel_rfl, by kernel_rfl⟩
theorem ca20 : Callable Try.prog 20 := ⟨Try.f20, Try.func20, by kernel_rfl, by kernel_rfl⟩
theorem ca22 : Callable Try.prog 22 := ⟨Try.f22, Try.func22, by kernel_rfl, by kernel_rfl⟩
theorem ca24 : Callable Try.prog 24 := ⟨Try.f24, Try.func24, by kernel_rfl, by kernel_rfl⟩
theorem ca28 : Callable Try.prog 28 := ⟨Try.f28, Try.func28, by kernel_rfl, by kernel_rfl⟩
theorem ca30 : Callable Try.prog 30 := ⟨Try.f30, Try.func30, by kernel_rfl, by kernel_rfl⟩
theorem ca31 : Callable Try.prog 31 := ⟨Try.f31, Try.func31, by kernel_rfl, by kernel_rfl⟩
theorem ca34 : Callable Try.prog 34 := ⟨Try.f34, Try.func34, by kernel_rfl, by kernel_rfl⟩
theorem ca36 : Callable Try.prog 36 := ⟨Try.f36, Try.func36, by kernel_rfl, by kernel_rfl⟩
theorem ca37 : Callable Try.prog 37 := ⟨Try.f37, Try.func37, by kernel_rfl, by kernel_rfl⟩
theorem ca38 : Callable Try.prog 38 := ⟨Try.f38, Try.func38, by kernel_rfl, by kernel_rfl⟩
theorem ca39 : Callable Try.prog 39 := ⟨Try.f39, Try.func39, by kernel_rfl, by kernel_rfl⟩
theorem ca40 : Callable Try.prog 40 := ⟨Try.f40, Try.func40, by kernel_rfl, by kernel_rfl⟩
theorem ca41 : Callable Try.prog 41 := ⟨Try.f41, Try.func41, by kernel_rfl, by kernel_rfl⟩
theorem ca43 : Callable Try.prog 43 := ⟨Try.f43, Try.func43, by kernel_rfl, by kernel_rfl⟩
theorem ca44 : Callable Try.prog 44 := ⟨Try.f44, Try.func44, by kernel_rfl, by kernel_rfl⟩
theorem ca45 : Callable Try.prog 45 := ⟨Try.f45, Try.func45, by kernel_rfl, by kernel_rfl⟩
theorem ca46 : Callable Try.prog 46 := ⟨Try.f46, Try.func46, by kernel_rfl, by kernel_rfl⟩
theorem ca47 : Callable Try.prog 47 := ⟨Try.f47, Try.func47, by kernel_rfl, by kernel_rfl⟩
theorem ca48 : Callable Try.prog 48 := ⟨Try.f48, Try.func48, by kernel_rfl, by kernel_rfl⟩
theorem ca49 : Callable Try.prog 49 := ⟨Try.f49, Try.func49, by kernel_rfl, by kernel_rfl⟩
theorem ca50 : Callable Try.prog 50 := ⟨Try.f50, Try.func50, by kernel_rfl, by kernel_rfl⟩
theorem ca54 : Callable Try.prog 54 := ⟨Try.f54, Try.func54, by kernel_rfl, by kernel_rfl⟩
theorem ca55 : Callable Try.prog 55 := ⟨Try.f55, Try.func55, by kernel_rfl, by kernel_rfl⟩
theorem ca57 : Callable Try.prog 57 := ⟨Try.f57, Try.func57, by kernel_rfl, by kernel_rfl⟩
theorem ca58 : Callable Try.prog 58 := ⟨Try.f58, Try.func58, by kernel_rfl, by kernel_rfl⟩
theorem ca59 : Callable Try.prog 59 := ⟨Try.f59, Try.func59, by kernel_rfl, by kernel_rfl⟩
theorem ca60 : Callable Try.prog 60 := ⟨Try.f60, Try.func60, by kernel_rfl, by kernel_rfl⟩
theorem ca62 : Callable Try.prog 62 := ⟨Try.f62, Try.func62, by kernel_rfl, by kernel_rfl⟩
theorem ca63 : Callable Try.prog 63 := ⟨Try.f63, Try.func63, by kernel_rfl, by kernel_rfl⟩
theorem ca64 : Callable Try.prog 64 := ⟨Try.f64, Try.func64, by kernel_rfl, by kernel_rfl⟩
theorem ca65 : Callable Try.prog 65 := ⟨Try.f65, Try.func65, by kernel_rfl, by kernel_rfl⟩
theorem ca66 : Callable Try.prog 66 := ⟨Try.f66, Try.func66, by kernel_rfl, by kernel_rfl⟩
theorem ca70 : Callable Try.prog 70 := ⟨Try.f70, Try.func70, by kernel_rfl, by kernel_rfl⟩
theorem ca71 : Callable Try.prog 71 := ⟨Try.f71, Try.func71, by kernel_rfl, by kernel_rfl⟩
theorem ca76 : Callable Try.prog 76 := ⟨Try.f76, Try.func76, by kernel_rfl, by kernel_rfl⟩
theorem ca80 : Callable Try.prog 80 := ⟨Try.f80, Try.func80, by kernel_rfl, by kernel_rfl⟩
theorem ca81 : Callable Try.prog 81 := ⟨Try.f81, Try.func81, by kernel_rfl, by kernel_rfl⟩
theorem ca82 : Callable Try.prog 82 := ⟨Try.f82, Try.func82, by kernel_rfl, by kernel_rfl⟩
theorem ca88 : Callable Try.prog 88 := ⟨Try.f88, Try.func88, by kernel_rfl, by kernel_rfl⟩
theorem ca89 : Callable Try.prog 89 := ⟨Try.f89, Try.func89, by kernel_rfl, by kernel_rfl⟩
theorem ca92 : Callable Try.prog 92 := ⟨Try.f92, Try.func92, by kernel_rfl, by kernel_rfl⟩
theorem ca93 : Callable Try.prog 93 := ⟨Try.f93, Try.func93, by kernel_rfl, by kernel_rfl⟩
theorem ca105 : Callable Try.prog 105 := ⟨Try.f105, Try.func105, by kernel_rfl, by kernel_rfl⟩
theorem mixed : Try.prog.follows .mixedOrders = true := by kernel_rfl
end Ty
end Go.Proofs.Ytodfebhimadaiaa
