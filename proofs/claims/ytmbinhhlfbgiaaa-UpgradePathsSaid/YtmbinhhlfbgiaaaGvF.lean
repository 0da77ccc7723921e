/- GvF: closed facts on the types and functions of this dump. (Printed by gv.py.) -/
import Derived.Test.YtmbinhhlfbgiaaaRows
import Derived.Test.YtmbinhhlfbgiaaaGvH
namespace Go.Proofs.Ytmbinhhlfbgiaaa
open Go.GV
namespace Ty
theorem sc3 : scal Try.prog 3 = true := by kernel_rfl
theorem sz3 : sizeIs Try.prog 3 = some 1 := by kernel_rfl
theorem ze3 : zeroIs Try.prog 3 = some (vI 0) := by kernel_rfl
theorem sc4 : scal Try.prog 4 = true := by kernel_rfl
theorem sz4 : sizeIs Try.prog 4 = some 1 := by kernel_rfl
theorem ze4 : zeroIs Try.prog 4 = some (vB false) := by kernel_rfl
theorem sc5 : scal Try.prog 5 = true := by kernel_rfl
theorem sz5 : sizeIs Try.prog 5 = some 1 := by kernel_rfl
theorem sc9 : scal Try.prog 9 = true := by kernel_rfl
theorem sz9 : sizeIs Try.prog 9 = some 1 := by kernel_rfl
theorem by9 : bytesIs Try.prog 9 = some 16 := by kernel_rfl
theorem ze9 : zeroIs Try.prog 9 = some (vS []) := by kernel_rfl
theorem sc22 : scal Try.prog 22 = true := by kernel_rfl
theorem sz22 : sizeIs Try.prog 22 = some 1 := by kernel_rfl
theorem ag24 : aggs Try.prog 24 = true := by kernel_rfl
theorem sz24 : sizeIs Try.prog 24 = some 21 := by kernel_rfl
theorem ze24 : zeroIs Try.prog 24 = some (Value.agg #[vI 0, vI 0, vI 0, vI 0, vI 0, vI 0, vI 0, vI 0, vI 0, vI 0, vI 0, vI 0, vI 0, vI 0, vB false, vI 0, vS [], vS [], vI 0, vI 0, vB false]) := by kernel_rfl
theorem fi24_0 : fieldIs Try.prog 24 0 = some (0, 3) := by kernel_rfl
theorem fi24_1 : fieldIs Try.prog 24 1 = some (1, 3) := by kernel_rfl
theorem fi24_2 : fieldIs Try.prog 24 2 = some (2, 3) := by kernel_rfl
theorem fi24_3 : fieldIs Try.prog 24 3 = some (3, 3) := by kernel_rfl
theorem fi24_4 : fieldIs Try.prog 24 4 = some (4, 3) := by kernel_rfl
theorem fi24_5 : fieldIs Try.prog 24 5 = some (5, 3) := by kernel_rfl
theorem fi24_6 : fieldIs Try.prog 24 6 = some (6, 3) := by kernel_rfl
theorem fi24_7 : fieldIs Try.prog 24 7 = some (7, 3) := by kernel_rfl
theorem fi24_8 : fieldIs Try.prog 24 8 = some (8, 3) := by kernel_rfl
theorem fi24_9 : fieldIs Try.prog 24 9 = some (9, 3) := by kernel_rfl
theorem fi24_10 : fieldIs Try.prog 24 10 = some (10, 3) := by kernel_rfl
theorem fi24_11 : fieldIs Try.prog 24 11 = some (11, 3) := by kernel_rfl
theorem fi24_12 : fieldIs Try.prog 24 12 = some (12, 3) := by kernel_rfl
theorem fi24_13 : fieldIs Try.prog 24 13 = some (13, 3) := by kernel_rfl
theorem fi24_14 : fieldIs Try.prog 24 14 = some (14, 4) := by kernel_rfl
theorem fi24_15 : fieldIs Try.prog 24 15 = some (15, 3) := by kernel_rfl
theorem fi24_16 : fieldIs Try.prog 24 16 = some (16, 9) := by kernel_rfl
theorem fi24_17 : fieldIs Try.prog 24 17 = some (17, 9) := by kernel_rfl
theorem fi24_18 : fieldIs Try.prog 24 18 = some (18, 3) := by kernel_rfl
theorem fi24_19 : fieldIs Try.prog 24 19 = some (19, 3) := by kernel_rfl
theorem sc25 : scal Try.prog 25 = true := by kernel_rfl
theorem ag27 : aggs Try.prog 27 = true := by kernel_rfl
theorem sz27 : sizeIs Try.prog 27 = some 5 := by kernel_rfl
theorem by27 : bytesIs Try.prog 27 = some 64 := by kernel_rfl
theorem ze27 : zeroIs Try.prog 27 = some (Value.agg #[vI 0, vI 0, vS [], vS [], vS []]) := by kernel_rfl
theorem fi27_0 : fieldIs Try.prog 27 0 = some (0, 3) := by kernel_rfl
theorem fi27_1 : fieldIs Try.prog 27 1 = some (1, 3) := by kernel_rfl
theorem fi27_2 : fieldIs Try.prog 27 2 = some (2, 9) := by kernel_rfl
theorem fi27_3 : fieldIs Try.prog 27 3 = some (3, 9) := by kernel_rfl
theorem fi27_4 : fieldIs Try.prog 27 4 = some (4, 9) := by kernel_rfl
theorem sc31 : scal Try.prog 31 = true := by kernel_rfl
theorem sz31 : sizeIs Try.prog 31 = some 1 := by kernel_rfl
theorem ze31 : zeroIs Try.prog 31 = some (Value.slice none 0 0) := by kernel_rfl
theorem sc32 : scal Try.prog 32 = true := by kernel_rfl
theorem ag34 : aggs Try.prog 34 = true := by kernel_rfl
theorem sz34 : sizeIs Try.prog 34 = some 2 := by kernel_rfl
theorem ze34 : zeroIs Try.prog 34 = some (Value.agg #[Value.slice none 0 0, Value.pointer none]) := by kernel_rfl
theorem fi34_0 : fieldIs Try.prog 34 0 = some (0, 22) := by kernel_rfl
theorem fi34_1 : fieldIs Try.prog 34 1 = some (1, 32) := by kernel_rfl
theorem sc50 : scal Try.prog 50 = true := by kernel_rfl
theorem sz50 : sizeIs Try.prog 50 = some 1 := by kernel_rfl
theorem ag53 : aggs Try.prog 53 = true := by kernel_rfl
theorem sz53 : sizeIs Try.prog 53 = some 2 := by kernel_rfl
theorem by53 : bytesIs Try.prog 53 = some 32 := by kernel_rfl
theorem ze53 : zeroIs Try.prog 53 = some (Value.agg #[vS [], vS []]) := by kernel_rfl
theorem fi53_0 : fieldIs Try.prog 53 0 = some (0, 9) := by kernel_rfl
theorem fi53_1 : fieldIs Try.prog 53 1 = some (1, 9) := by kernel_rfl
theorem ag67 : aggs Try.prog 67 = true := by kernel_rfl
theorem sz67 : sizeIs Try.prog 67 = some 2 := by kernel_rfl
theorem by67 : bytesIs Try.prog 67 = some 32 := by kernel_rfl
theorem ze67 : zeroIs Try.prog 67 = some (Value.agg #[vI 0, Value.slice none 0 0]) := by kernel_rfl
theorem fi67_0 : fieldIs Try.prog 67 0 = some (0, 3) := by kernel_rfl
theorem fi67_1 : fieldIs Try.prog 67 1 = some (1, 50) := by kernel_rfl
theorem sc70 : scal Try.prog 70 = true := by kernel_rfl
theorem ag78 : aggs Try.prog 78 = true := by kernel_rfl
theorem sz78 : sizeIs Try.prog 78 = some 2 := by kernel_rfl
theorem ze78 : zeroIs Try.prog 78 = some (Value.agg #[vS [], vB false]) := by kernel_rfl
theorem fi78_0 : fieldIs Try.prog 78 0 = some (0, 9) := by kernel_rfl
theorem fi78_1 : fieldIs Try.prog 78 1 = some (1, 4) := by kernel_rfl
theorem ag85 : aggs Try.prog 85 = true := by kernel_rfl
theorem sz85 : sizeIs Try.prog 85 = some 3 := by kernel_rfl
theorem ze85 : zeroIs Try.prog 85 = some (Value.agg #[vS [], vS [], vB false]) := by kernel_rfl
theorem ze102 : zeroIs Try.prog 102 = some (Value.nilFunc) := by kernel_rfl
theorem ag146 : aggs Try.prog 146 = true := by kernel_rfl
theorem sz146 : sizeIs Try.prog 146 = some 3 := by kernel_rfl
theorem ze146 : zeroIs Try.prog 146 = some (Value.agg #[vI 0, vI 0, vI 0]) := by kernel_rfl
theorem ca7 : Callable Try.prog 7 := ⟨Try.f7, Try.func7, by kernel_rfl, by kernel_rfl⟩
theorem ca9 : Callable Try.prog 9 := ⟨Try.f9, Try.func9, by kernel_rfl, by kernel_rfl⟩
theorem ca10 : Callable Try.prog 10 := ⟨Try.f10, Try.func10, by kernel_rfl, by kernel_rfl⟩
theorem ca12 : Callable Try.prog 12 := ⟨Try.f12, Try.func12, by kernel_rfl, by kernel_rfl⟩
theorem ca13 : Callable Try.prog 13 := ⟨Try.f13, Try.func13, by kernel_rfl, by kernel_rfl⟩
theorem ca14 : Callable Try.prog 14 := ⟨Try.f14, Try.func14, by kernel_rfl, by kernel_rfl⟩
theorem ca15 : Callable Try.prog 15 := ⟨Try.f15, Try.func15, by kernel_rfl, by kernel_rfl⟩
theorem ca16 : Callable Try.prog 16 := ⟨Try.f16, Try.func16, by kernel_rfl, by kernel_rfl⟩
theorem ca17 : Callable Try.prog 17 := ⟨Try.f17, Try.func17, by kernel_rfl, by kernel_rfl⟩
theorem ca18 : Callable Try.prog 18 := ⟨Try.f18, Try.func18, by kernel_rfl, by kernel_rfl⟩
theorem ca21 : Callable Try.prog 21 := ⟨Try.f21, Try.func21, by kernel_rfl, by kernel_rfl⟩
theorem ca23 : Callable Try.prog 23 := ⟨Try.f23, Try.func23, by kernel_rfl, by kernel_rfl⟩
theorem ca24 : Callable Try.prog 24 := ⟨Try.f24, Try.func24, by kernel_rfl, by kernel_rfl⟩
theorem ca25 : Callable Try.prog 25 := ⟨Try.f25, Try.func25, by kernel_rfl, by kernel_rfl⟩
theorem ca26 : Callable Try.prog 26 := ⟨Try.f26, Try.func26, by kernel_rfl, by kernel_rfl⟩
theorem ca27 : Callable Try.prog 27 := ⟨Try.f27, Try.func27, by kernel_rfl, by kernel_rfl⟩
theorem ca28 : Callable Try.prog 28 := ⟨Try.f28, Try.func28, by kernel_rfl, by kernel_rfl⟩
theorem ca29 : Callable Try.prog 29 := ⟨Try.f29, Try.func29, by kernel_rfl, by kernel_rfl⟩
theorem ca30 : Callable Try.prog 30 := ⟨Try.f30, Try.func30, by kernel_rfl, by kernel_rfl⟩
theorem ca32 : Callable Try.prog 32 := ⟨Try.f32, Try.func32, by kernel_rfl, by kernel_rfl⟩
theorem ca34 : Callable Try.prog 34 := ⟨Try.f34, Try.func34, by kernel_rfl, by kernel_rfl⟩
theorem ca35 : Callable Try.prog 35 := ⟨Try.f35, Try.func35, by kernel_rfl, by kernel_rfl⟩
theorem ca36 : Callable Try.prog 36 := ⟨Try.f36, Try.func36, by kernel_rfl, by kernel_rfl⟩
theorem ca37 : Callable Try.prog 37 := ⟨Try.f37, Try.func37, by kernel_rfl, by kernel_rfl⟩
theorem ca38 : Callable Try.prog 38 := ⟨Try.f38, Try.func38, by kernel_rfl, by kernel_rfl⟩
theorem ca39 : Callable Try.prog 39 := ⟨Try.f39, Try.func39, by kernel_rfl, by kernel_rfl⟩
theorem ca44 : Callable Try.prog 44 := ⟨Try.f44, Try.func44, by kernel_rfl, by kernel_rfl⟩
theorem ca45 : Callable Try.prog 45 := ⟨Try.f45, Try.func45, by kernel_rfl, by kernel_rfl⟩
theorem ca46 : Callable Try.prog 46 := ⟨Try.f46, Try.func46, by kernel_rfl, by kernel_rfl⟩
theorem ca47 : Callable Try.prog 47 := ⟨Try.f47, Try.func47, by kernel_rfl, by kernel_rfl⟩
theorem ca48 : Callable Try.prog 48 := ⟨Try.f48, Try.func48, by kernel_rfl, by kernel_rfl⟩
theorem ca49 : Callable Try.prog 49 := ⟨Try.f49, Try.func49, by kernel_rfl, by kernel_rfl⟩
theorem ca50 : Callable Try.prog 50 := ⟨Try.f50, Try.func50, by kernel_rfl, by kernel_rfl⟩
theorem ca53 : Callable Try.prog 53 := ⟨Try.f53, Try.func53, by kernel_rfl, by kernel_rfl⟩
theorem ca54 : Callable Try.prog 54 := ⟨Try.f54, Try.func54, by kernel_rfl, by kernel_rfl⟩
theorem ca56 : Callable Try.prog 56 := ⟨Try.f56, Try.func56, by kernel_rfl, by kernel_rfl⟩
theorem ca57 : Callable Try.prog 57 := ⟨Try.f57, Try.func57, by kernel_rfl, by kernel_rfl⟩
theorem ca58 : Callable Try.prog 58 := ⟨Try.f58, Try.func58, by kernel_rfl, by kernel_rfl⟩
theorem ca59 : Callable Try.prog 59 := ⟨Try.f59, Try.func59, by kernel_rfl, by kernel_rfl⟩
theorem ca60 : Callable Try.prog 60 := ⟨Try.f60, Try.func60, by kernel_rfl, by kernel_rfl⟩
theorem ca61 : Callable Try.prog 61 := ⟨Try.f61, Try.func61, by kernel_rfl, by kernel_rfl⟩
theorem ca66 : Callable Try.prog 66 := ⟨Try.f66, Try.func66, by kernel_rfl, by kernel_rfl⟩
theorem ca67 : Callable Try.prog 67 := ⟨Try.f67, Try.func67, by kernel_rfl, by kernel_rfl⟩
theorem ca68 : Callable Try.prog 68 := ⟨Try.f68, Try.func68, by kernel_rfl, by kernel_rfl⟩
theorem ca69 : Callable Try.prog 69 := ⟨Try.f69, Try.func69, by kernel_rfl, by kernel_rfl⟩
theorem ca70 : Callable Try.prog 70 := ⟨Try.f70, Try.func70, by kernel_rfl, by kernel_rfl⟩
theorem ca71 : Callable Try.prog 71 := ⟨Try.f71, Try.func71, by kernel_rfl, by kernel_rfl⟩
theorem ca72 : Callable Try.prog 72 := ⟨Try.f72, Try.func72, by kernel_rfl, by kernel_rfl⟩
theorem ca73 : Callable Try.prog 73 := ⟨Try.f73, Try.func73, by kernel_rfl, by kernel_rfl⟩
theorem ca74 : Callable Try.prog 74 := ⟨Try.f74, Try.func74, by kernel_rfl, by kernel_rfl⟩
theorem ca75 : Callable Try.prog 75 := ⟨Try.f75, Try.func75, by kernel_rfl, by kernel_rfl⟩
theorem ca76 : Callable Try.prog 76 := ⟨Try.f76, Try.func76, by kernel_rfl, by kernel_rfl⟩
theorem ca77 : Callable Try.prog 77 := ⟨Try.f77, Try.func77, by kernel_rfl, by kernel_rfl⟩
theorem ca78 : Callable Try.prog 78 := ⟨Try.f78, Try.func78, by kernel_rfl, by kernel_rfl⟩
theorem ca79 : Callable Try.prog 79 := ⟨Try.f79, Try.func79, by kernel_rfl, by kernel_rfl⟩
theorem ca80 : Callable Try.prog 80 := ⟨Try.f80, Try.func80, by kernel_rfl, by kernel_rfl⟩
theorem ca81 : Callable Try.prog 81 := ⟨Try.f81, Try.func81, by kernel_rfl, by kernel_rfl⟩
theorem ca82 : Callable Try.prog 82 := ⟨Try.f82, Try.func82, by kernel_rfl, by kernel_rfl⟩
theorem ca99 : Callable Try.prog 99 := ⟨Try.f99, Try.func99, by kernel_rfl, by kernel_rfl⟩
theorem ca100 : Callable Try.prog 100 := ⟨Try.f100, Try.func100, by kernel_rfl, by kernel_rfl⟩
theorem ca101 : Callable Try.prog 101 := ⟨Try.f101, Try.func101, by kernel_rfl, by kernel_rfl⟩
theorem mixed : Try.prog.follows .mixedOrders = true := by kernel_rfl
end Ty
end Go.Proofs.Ytmbinhhlfbgiaaa
