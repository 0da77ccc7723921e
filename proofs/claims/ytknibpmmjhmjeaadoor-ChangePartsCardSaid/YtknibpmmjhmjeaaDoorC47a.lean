/- contracts C47a -/
import Derived.Test.YtknibpmmjhmjeaaDoorGvF
import Derived.Test.YtknibpmmjhmjeaaDoorEq47
import Derived.Test.YtknibpmmjhmjeaaDoorPl47
import Derived.Test.YtknibpmmjhmjeaaDoorGvT
namespace Go.Proofs.YtknibpmmjhmjeaaDoor
open Go.GV
set_option linter.unusedVariables false
set_option linter.unusedSimpArgs false

set_option maxRecDepth 20000 in
theorem f34_ok (w : World) : Calls Tryd.prog 34 #[] w (Gives [] w fun v L => ∃ M : Nat, ∃ B : Nat, v = Value.map (some M) ∧ L = [Ent.mp vI M (R47.entries B), Ent.blk B 26 [Value.func (.func 53) #[] #[]]]) := by
  refine calls_J [] 39 Tryd.func34 rfl Tryd.ntmps34 [] rfl rfl (Give.nil w) ?_
  refine J_seq ?_
  refine J_region ?_
  refine JO_read (Value.map none) rfl trivial (fun _ _ => rfl) ?_
  refine JO_nil ?_
  refine JX_then ?_
  refine J_seq ?_
  refine J_region ?_
  refine JO_read (Value.agg #[vI 1, vI 32]) rfl trivial (fun _ _ => x_build (by kernel_rfl)) ?_
  refine JO_read (Value.agg #[vI 0, vI 400]) rfl trivial (fun _ _ => x_build (by kernel_rfl)) ?_
  refine JO_op rfl trivial (O_alloc Ty.ze59 rfl fun b1 => ?_)
  refine JO_op rfl trivial (O_alloc Ty.ze59 rfl fun b2 => ?_)
  refine JO_op rfl trivial (O_store 1 [vI 1, vI 32] [Ent.blk b2 59 [vI 0, vI 0], Ent.blk b1 59 [vI 1, vI 32]] rfl rfl rfl Ty.sz59 rfl (Nat.le_of_ble_eq_true rfl) rfl rfl rfl ?_)
  refine JO_op rfl trivial (O_store 0 [vI 0, vI 400] [Ent.blk b2 59 [vI 0, vI 400], Ent.blk b1 59 [vI 1, vI 32]] rfl rfl rfl Ty.sz59 rfl (Nat.le_of_ble_eq_true rfl) rfl rfl rfl ?_)
  refine JO_nil ?_
  refine JX_then ?_
  refine J_seq ?_
  refine J_region ?_
  refine JO_op rfl trivial (O_alloc Ty.ze26 rfl fun b3 => ?_)
  refine JO_op rfl trivial (O_store 0 [Value.func (.func 53) #[] #[]] [Ent.blk b3 26 [Value.func (.func 53) #[] #[]], Ent.blk b2 59 [vI 0, vI 400], Ent.blk b1 59 [vI 1, vI 32]] rfl rfl rfl Ty.sz26 rfl (Nat.le_of_ble_eq_true rfl) rfl rfl rfl ?_)
  refine JO_nil ?_
  refine JX_then ?_
  refine J_seq ?_
  refine J_region ?_
  refine JO_read (Value.func (.func 54) #[] #[]) rfl trivial (fun _ _ => rfl) ?_
  refine JO_nil ?_
  refine JX_then ?_
  refine J_seq ?_
  refine J_region ?_
  refine JO_op rfl trivial (O_makeMap vI fun b4 => ?_)
  refine JO_read (Value.agg #[vI 1, vI 32]) rfl trivial (x_loadN 3 [vI 1, vI 32] rfl rfl Ty.ag59 Ty.sz59 rfl) ?_
  refine JO_read (Value.agg #[vI 1, vI 200]) rfl trivial (fun _ _ => x_build (by kernel_rfl)) ?_
  refine JO_read (Value.func (.func 55) #[] #[Value.pointer (some ⟨b3, 0, none⟩)]) rfl trivial (fun _ _ => x_makeFunc rfl rfl) ?_
  refine JO_read (Value.agg #[vS [112, 117, 116], vI 1, vI 32, vI 1, vI 200, vB false, Value.func (.func 55) #[] #[Value.pointer (some ⟨b3, 0, none⟩)]]) rfl trivial (fun _ _ => x_build (by kernel_rfl)) ?_
  refine JO_op rfl trivial (O_insert 0 (f := vI) (k := 0) [(0, Value.agg #[vS [112, 117, 116], vI 1, vI 32, vI 1, vI 200, vB false, Value.func (.func 55) #[] #[Value.pointer (some ⟨b3, 0, none⟩)]])] [Ent.mp vI b4 [(0, Value.agg #[vS [112, 117, 116], vI 1, vI 32, vI 1, vI 200, vB false, Value.func (.func 55) #[] #[Value.pointer (some ⟨b3, 0, none⟩)]])], Ent.blk b3 26 [Value.func (.func 53) #[] #[]], Ent.blk b2 59 [vI 0, vI 400], Ent.blk b1 59 [vI 1, vI 32]] rfl rfl rfl rfl Tryd.underlying63 (mapK_i Tryd.underlying3) rfl rfl ?_)
  refine JO_read (Value.agg #[vI 1, vI 32]) rfl trivial (x_loadN 3 [vI 1, vI 32] rfl rfl Ty.ag59 Ty.sz59 rfl) ?_
  refine JO_read (Value.agg #[vI 0, vI 0]) rfl trivial (fun _ _ => x_build (by kernel_rfl)) ?_
  refine JO_read (Value.agg #[vS [101, 114, 97, 115, 101], vI 1, vI 32, vI 0, vI 0, vB false, Value.func (.func 57) #[] #[]]) rfl trivial (fun _ _ => x_build (by kernel_rfl)) ?_
  refine JO_op rfl trivial (O_insert 0 (f := vI) (k := 1) [(0, Value.agg #[vS [112, 117, 116], vI 1, vI 32, vI 1, vI 200, vB false, Value.func (.func 55) #[] #[Value.pointer (some ⟨b3, 0, none⟩)]]), (1, Value.agg #[vS [101, 114, 97, 115, 101], vI 1, vI 32, vI 0, vI 0, vB false, Value.func (.func 57) #[] #[]])] [Ent.mp vI b4 [(0, Value.agg #[vS [112, 117, 116], vI 1, vI 32, vI 1, vI 200, vB false, Value.func (.func 55) #[] #[Value.pointer (some ⟨b3, 0, none⟩)]]), (1, Value.agg #[vS [101, 114, 97, 115, 101], vI 1, vI 32, vI 0, vI 0, vB false, Value.func (.func 57) #[] #[]])], Ent.blk b3 26 [Value.func (.func 53) #[] #[]], Ent.blk b2 59 [vI 0, vI 400], Ent.blk b1 59 [vI 1, vI 32]] rfl rfl rfl rfl Tryd.underlying63 (mapK_i Tryd.underlying3) rfl rfl ?_)
  refine JO_read (Value.agg #[vI 0, vI 0]) rfl trivial (fun _ _ => x_build (by kernel_rfl)) ?_
  refine JO_read (Value.agg #[vI 0, vI 1000]) rfl trivial (fun _ _ => x_build (by kernel_rfl)) ?_
  refine JO_read (Value.func (.func 53) #[] #[]) rfl trivial (x_load 1 rfl rfl Ty.sc26 rfl) ?_
  refine JO_read (Value.agg #[vS [97, 112, 112, 101, 110, 100], vI 0, vI 0, vI 0, vI 1000, vB false, Value.func (.func 53) #[] #[]]) rfl trivial (fun _ _ => x_build (by kernel_rfl)) ?_
  refine JO_op rfl trivial (O_insert 0 (f := vI) (k := 2) [(0, Value.agg #[vS [112, 117, 116], vI 1, vI 32, vI 1, vI 200, vB false, Value.func (.func 55) #[] #[Value.pointer (some ⟨b3, 0, none⟩)]]), (1, Value.agg #[vS [101, 114, 97, 115, 101], vI 1, vI 32, vI 0, vI 0, vB false, Value.func (.func 57) #[] #[]]), (2, Value.agg #[vS [97, 112, 112, 101, 110, 100], vI 0, vI 0, vI 0, vI 1000, vB false, Value.func (.func 53) #[] #[]])] [Ent.mp vI b4 [(0, Value.agg #[vS [112, 117, 116], vI 1, vI 32, vI 1, vI 200, vB false, Value.func (.func 55) #[] #[Value.pointer (some ⟨b3, 0, none⟩)]]), (1, Value.agg #[vS [101, 114, 97, 115, 101], vI 1, vI 32, vI 0, vI 0, vB false, Value.func (.func 57) #[] #[]]), (2, Value.agg #[vS [97, 112, 112, 101, 110, 100], vI 0, vI 0, vI 0, vI 1000, vB false, Value.func (.func 53) #[] #[]])], Ent.blk b3 26 [Value.func (.func 53) #[] #[]], Ent.blk b2 59 [vI 0, vI 400], Ent.blk b1 59 [vI 1, vI 32]] rfl rfl rfl rfl Tryd.underlying63 (mapK_i Tryd.underlying3) rfl rfl ?_)
  refine JO_read (Value.agg #[vI 0, vI 0]) rfl trivial (fun _ _ => x_build (by kernel_rfl)) ?_
  refine JO_read (Value.agg #[vI 0, vI 0]) rfl trivial (fun _ _ => x_build (by kernel_rfl)) ?_
  refine JO_read (Value.agg #[vS [101, 109, 112, 116, 121], vI 0, vI 0, vI 0, vI 0, vB false, Value.nilFunc]) rfl trivial (fun _ _ => x_build (by kernel_rfl)) ?_
  refine JO_op rfl trivial (O_insert 0 (f := vI) (k := 3) [(0, Value.agg #[vS [112, 117, 116], vI 1, vI 32, vI 1, vI 200, vB false, Value.func (.func 55) #[] #[Value.pointer (some ⟨b3, 0, none⟩)]]), (1, Value.agg #[vS [101, 114, 97, 115, 101], vI 1, vI 32, vI 0, vI 0, vB false, Value.func (.func 57) #[] #[]]), (2, Value.agg #[vS [97, 112, 112, 101, 110, 100], vI 0, vI 0, vI 0, vI 1000, vB false, Value.func (.func 53) #[] #[]]), (3, Value.agg #[vS [101, 109, 112, 116, 121], vI 0, vI 0, vI 0, vI 0, vB false, Value.nilFunc])] [Ent.mp vI b4 [(0, Value.agg #[vS [112, 117, 116], vI 1, vI 32, vI 1, vI 200, vB false, Value.func (.func 55) #[] #[Value.pointer (some ⟨b3, 0, none⟩)]]), (1, Value.agg #[vS [101, 114, 97, 115, 101], vI 1, vI 32, vI 0, vI 0, vB false, Value.func (.func 57) #[] #[]]), (2, Value.agg #[vS [97, 112, 112, 101, 110, 100], vI 0, vI 0, vI 0, vI 1000, vB false, Value.func (.func 53) #[] #[]]), (3, Value.agg #[vS [101, 109, 112, 116, 121], vI 0, vI 0, vI 0, vI 0, vB false, Value.nilFunc])], Ent.blk b3 26 [Value.func (.func 53) #[] #[]], Ent.blk b2 59 [vI 0, vI 400], Ent.blk b1 59 [vI 1, vI 32]] rfl rfl rfl rfl Tryd.underlying63 (mapK_i Tryd.underlying3) rfl rfl ?_)
  refine JO_read (Value.agg #[vI 0, vI 0]) rfl trivial (fun _ _ => x_build (by kernel_rfl)) ?_
  refine JO_read (Value.agg #[vI 0, vI 400]) rfl trivial (x_loadN 2 [vI 0, vI 400] rfl rfl Ty.ag59 Ty.sz59 rfl) ?_
  refine JO_read (Value.func (.func 54) #[] #[]) rfl trivial (fun _ _ => rfl) ?_
  refine JO_read (Value.agg #[vS [99, 114, 101, 97, 116, 101], vI 0, vI 0, vI 0, vI 400, vB true, Value.func (.func 54) #[] #[]]) rfl trivial (fun _ _ => x_build (by kernel_rfl)) ?_
  refine JO_op rfl trivial (O_insert 0 (f := vI) (k := 4) [(0, Value.agg #[vS [112, 117, 116], vI 1, vI 32, vI 1, vI 200, vB false, Value.func (.func 55) #[] #[Value.pointer (some ⟨b3, 0, none⟩)]]), (1, Value.agg #[vS [101, 114, 97, 115, 101], vI 1, vI 32, vI 0, vI 0, vB false, Value.func (.func 57) #[] #[]]), (2, Value.agg #[vS [97, 112, 112, 101, 110, 100], vI 0, vI 0, vI 0, vI 1000, vB false, Value.func (.func 53) #[] #[]]), (3, Value.agg #[vS [101, 109, 112, 116, 121], vI 0, vI 0, vI 0, vI 0, vB false, Value.nilFunc]), (4, Value.agg #[vS [99, 114, 101, 97, 116, 101], vI 0, vI 0, vI 0, vI 400, vB true, Value.func (.func 54) #[] #[]])] [Ent.mp vI b4 [(0, Value.agg #[vS [112, 117, 116], vI 1, vI 32, vI 1, vI 200, vB false, Value.func (.func 55) #[] #[Value.pointer (some ⟨b3, 0, none⟩)]]), (1, Value.agg #[vS [101, 114, 97, 115, 101], vI 1, vI 32, vI 0, vI 0, vB false, Value.func (.func 57) #[] #[]]), (2, Value.agg #[vS [97, 112, 112, 101, 110, 100], vI 0, vI 0, vI 0, vI 1000, vB false, Value.func (.func 53) #[] #[]]), (3, Value.agg #[vS [101, 109, 112, 116, 121], vI 0, vI 0, vI 0, vI 0, vB false, Value.nilFunc]), (4, Value.agg #[vS [99, 114, 101, 97, 116, 101], vI 0, vI 0, vI 0, vI 400, vB true, Value.func (.func 54) #[] #[]])], Ent.blk b3 26 [Value.func (.func 53) #[] #[]], Ent.blk b2 59 [vI 0, vI 400], Ent.blk b1 59 [vI 1, vI 32]] rfl rfl rfl rfl Tryd.underlying63 (mapK_i Tryd.underlying3) rfl rfl ?_)
  refine JO_read (Value.agg #[vI 0, vI 0]) rfl trivial (fun _ _ => x_build (by kernel_rfl)) ?_
  refine JO_read (Value.agg #[vI 0, vI 0]) rfl trivial (fun _ _ => x_build (by kernel_rfl)) ?_
  refine JO_read (Value.func (.func 54) #[] #[]) rfl trivial (fun _ _ => rfl) ?_
  refine JO_read (Value.agg #[vS [114, 101, 109, 111, 118, 101], vI 0, vI 0, vI 0, vI 0, vB true, Value.func (.func 54) #[] #[]]) rfl trivial (fun _ _ => x_build (by kernel_rfl)) ?_
  refine JO_op rfl trivial (O_insert 0 (f := vI) (k := 5) [(0, Value.agg #[vS [112, 117, 116], vI 1, vI 32, vI 1, vI 200, vB false, Value.func (.func 55) #[] #[Value.pointer (some ⟨b3, 0, none⟩)]]), (1, Value.agg #[vS [101, 114, 97, 115, 101], vI 1, vI 32, vI 0, vI 0, vB false, Value.func (.func 57) #[] #[]]), (2, Value.agg #[vS [97, 112, 112, 101, 110, 100], vI 0, vI 0, vI 0, vI 1000, vB false, Value.func (.func 53) #[] #[]]), (3, Value.agg #[vS [101, 109, 112, 116, 121], vI 0, vI 0, vI 0, vI 0, vB false, Value.nilFunc]), (4, Value.agg #[vS [99, 114, 101, 97, 116, 101], vI 0, vI 0, vI 0, vI 400, vB true, Value.func (.func 54) #[] #[]]), (5, Value.agg #[vS [114, 101, 109, 111, 118, 101], vI 0, vI 0, vI 0, vI 0, vB true, Value.func (.func 54) #[] #[]])] [Ent.mp vI b4 [(0, Value.agg #[vS [112, 117, 116], vI 1, vI 32, vI 1, vI 200, vB false, Value.func (.func 55) #[] #[Value.pointer (some ⟨b3, 0, none⟩)]]), (1, Value.agg #[vS [101, 114, 97, 115, 101], vI 1, vI 32, vI 0, vI 0, vB false, Value.func (.func 57) #[] #[]]), (2, Value.agg #[vS [97, 112, 112, 101, 110, 100], vI 0, vI 0, vI 0, vI 1000, vB false, Value.func (.func 53) #[] #[]]), (3, Value.agg #[vS [101, 109, 112, 116, 121], vI 0, vI 0, vI 0, vI 0, vB false, Value.nilFunc]), (4, Value.agg #[vS [99, 114, 101, 97, 116, 101], vI 0, vI 0, vI 0, vI 400, vB true, Value.func (.func 54) #[] #[]]), (5, Value.agg #[vS [114, 101, 109, 111, 118, 101], vI 0, vI 0, vI 0, vI 0, vB true, Value.func (.func 54) #[] #[]])], Ent.blk b3 26 [Value.func (.func 53) #[] #[]], Ent.blk b2 59 [vI 0, vI 400], Ent.blk b1 59 [vI 1, vI 32]] rfl rfl rfl rfl Tryd.underlying63 (mapK_i Tryd.underlying3) rfl rfl ?_)
  refine JO_read (Value.agg #[vI 0, vI 0]) rfl trivial (fun _ _ => x_build (by kernel_rfl)) ?_
  refine JO_read (Value.agg #[vI 0, vI 400]) rfl trivial (x_loadN 2 [vI 0, vI 400] rfl rfl Ty.ag59 Ty.sz59 rfl) ?_
  refine JO_read (Value.func (.func 54) #[] #[]) rfl trivial (fun _ _ => rfl) ?_
  refine JO_read (Value.agg #[vS [109, 111, 118, 101], vI 0, vI 0, vI 0, vI 400, vB true, Value.func (.func 54) #[] #[]]) rfl trivial (fun _ _ => x_build (by kernel_rfl)) ?_
  refine JO_op rfl trivial (O_insert 0 (f := vI) (k := 6) [(0, Value.agg #[vS [112, 117, 116], vI 1, vI 32, vI 1, vI 200, vB false, Value.func (.func 55) #[] #[Value.pointer (some ⟨b3, 0, none⟩)]]), (1, Value.agg #[vS [101, 114, 97, 115, 101], vI 1, vI 32, vI 0, vI 0, vB false, Value.func (.func 57) #[] #[]]), (2, Value.agg #[vS [97, 112, 112, 101, 110, 100], vI 0, vI 0, vI 0, vI 1000, vB false, Value.func (.func 53) #[] #[]]), (3, Value.agg #[vS [101, 109, 112, 116, 121], vI 0, vI 0, vI 0, vI 0, vB false, Value.nilFunc]), (4, Value.agg #[vS [99, 114, 101, 97, 116, 101], vI 0, vI 0, vI 0, vI 400, vB true, Value.func (.func 54) #[] #[]]), (5, Value.agg #[vS [114, 101, 109, 111, 118, 101], vI 0, vI 0, vI 0, vI 0, vB true, Value.func (.func 54) #[] #[]]), (6, Value.agg #[vS [109, 111, 118, 101], vI 0, vI 0, vI 0, vI 400, vB true, Value.func (.func 54) #[] #[]])] [Ent.mp vI b4 [(0, Value.agg #[vS [112, 117, 116], vI 1, vI 32, vI 1, vI 200, vB false, Value.func (.func 55) #[] #[Value.pointer (some ⟨b3, 0, none⟩)]]), (1, Value.agg #[vS [101, 114, 97, 115, 101], vI 1, vI 32, vI 0, vI 0, vB false, Value.func (.func 57) #[] #[]]), (2, Value.agg #[vS [97, 112, 112, 101, 110, 100], vI 0, vI 0, vI 0, vI 1000, vB false, Value.func (.func 53) #[] #[]]), (3, Value.agg #[vS [101, 109, 112, 116, 121], vI 0, vI 0, vI 0, vI 0, vB false, Value.nilFunc]), (4, Value.agg #[vS [99, 114, 101, 97, 116, 101], vI 0, vI 0, vI 0, vI 400, vB true, Value.func (.func 54) #[] #[]]), (5, Value.agg #[vS [114, 101, 109, 111, 118, 101], vI 0, vI 0, vI 0, vI 0, vB true, Value.func (.func 54) #[] #[]]), (6, Value.agg #[vS [109, 111, 118, 101], vI 0, vI 0, vI 0, vI 400, vB true, Value.func (.func 54) #[] #[]])], Ent.blk b3 26 [Value.func (.func 53) #[] #[]], Ent.blk b2 59 [vI 0, vI 400], Ent.blk b1 59 [vI 1, vI 32]] rfl rfl rfl rfl Tryd.underlying63 (mapK_i Tryd.underlying3) rfl rfl ?_)
  refine JO_read (Value.agg #[vI 0, vI 0]) rfl trivial (fun _ _ => x_build (by kernel_rfl)) ?_
  refine JO_read (Value.agg #[vI 0, vI 400]) rfl trivial (x_loadN 2 [vI 0, vI 400] rfl rfl Ty.ag59 Ty.sz59 rfl) ?_
  refine JO_read (Value.func (.func 54) #[] #[]) rfl trivial (fun _ _ => rfl) ?_
  refine JO_read (Value.agg #[vS [110, 111, 116, 101], vI 0, vI 0, vI 0, vI 400, vB true, Value.func (.func 54) #[] #[]]) rfl trivial (fun _ _ => x_build (by kernel_rfl)) ?_
  refine JO_op rfl trivial (O_insert 0 (f := vI) (k := 7) [(0, Value.agg #[vS [112, 117, 116], vI 1, vI 32, vI 1, vI 200, vB false, Value.func (.func 55) #[] #[Value.pointer (some ⟨b3, 0, none⟩)]]), (1, Value.agg #[vS [101, 114, 97, 115, 101], vI 1, vI 32, vI 0, vI 0, vB false, Value.func (.func 57) #[] #[]]), (2, Value.agg #[vS [97, 112, 112, 101, 110, 100], vI 0, vI 0, vI 0, vI 1000, vB false, Value.func (.func 53) #[] #[]]), (3, Value.agg #[vS [101, 109, 112, 116, 121], vI 0, vI 0, vI 0, vI 0, vB false, Value.nilFunc]), (4, Value.agg #[vS [99, 114, 101, 97, 116, 101], vI 0, vI 0, vI 0, vI 400, vB true, Value.func (.func 54) #[] #[]]), (5, Value.agg #[vS [114, 101, 109, 111, 118, 101], vI 0, vI 0, vI 0, vI 0, vB true, Value.func (.func 54) #[] #[]]), (6, Value.agg #[vS [109, 111, 118, 101], vI 0, vI 0, vI 0, vI 400, vB true, Value.func (.func 54) #[] #[]]), (7, Value.agg #[vS [110, 111, 116, 101], vI 0, vI 0, vI 0, vI 400, vB true, Value.func (.func 54) #[] #[]])] [Ent.mp vI b4 [(0, Value.agg #[vS [112, 117, 116], vI 1, vI 32, vI 1, vI 200, vB false, Value.func (.func 55) #[] #[Value.pointer (some ⟨b3, 0, none⟩)]]), (1, Value.agg #[vS [101, 114, 97, 115, 101], vI 1, vI 32, vI 0, vI 0, vB false, Value.func (.func 57) #[] #[]]), (2, Value.agg #[vS [97, 112, 112, 101, 110, 100], vI 0, vI 0, vI 0, vI 1000, vB false, Value.func (.func 53) #[] #[]]), (3, Value.agg #[vS [101, 109, 112, 116, 121], vI 0, vI 0, vI 0, vI 0, vB false, Value.nilFunc]), (4, Value.agg #[vS [99, 114, 101, 97, 116, 101], vI 0, vI 0, vI 0, vI 400, vB true, Value.func (.func 54) #[] #[]]), (5, Value.agg #[vS [114, 101, 109, 111, 118, 101], vI 0, vI 0, vI 0, vI 0, vB true, Value.func (.func 54) #[] #[]]), (6, Value.agg #[vS [109, 111, 118, 101], vI 0, vI 0, vI 0, vI 400, vB true, Value.func (.func 54) #[] #[]]), (7, Value.agg #[vS [110, 111, 116, 101], vI 0, vI 0, vI 0, vI 400, vB true, Value.func (.func 54) #[] #[]])], Ent.blk b3 26 [Value.func (.func 53) #[] #[]], Ent.blk b2 59 [vI 0, vI 400], Ent.blk b1 59 [vI 1, vI 32]] rfl rfl rfl rfl Tryd.underlying63 (mapK_i Tryd.underlying3) rfl rfl ?_)
  refine JO_read (Value.map (some b4)) rfl trivial (fun _ _ => rfl) ?_
  refine JO_read (Value.map (some b4)) rfl trivial (fun _ _ => rfl) ?_
  refine JO_nil ?_
  refine JX_then ?_
  refine J_ret ?_
  refine JX_rets [Value.map (some b4)] (Value.map (some b4)) Tryd.results34 (fun w h => ⟨rfl, trivial⟩) rfl [Ent.mp vI b4 [(0, Value.agg #[vS [112, 117, 116], vI 1, vI 32, vI 1, vI 200, vB false, Value.func (.func 55) #[] #[Value.pointer (some ⟨b3, 0, none⟩)]]), (1, Value.agg #[vS [101, 114, 97, 115, 101], vI 1, vI 32, vI 0, vI 0, vB false, Value.func (.func 57) #[] #[]]), (2, Value.agg #[vS [97, 112, 112, 101, 110, 100], vI 0, vI 0, vI 0, vI 1000, vB false, Value.func (.func 53) #[] #[]]), (3, Value.agg #[vS [101, 109, 112, 116, 121], vI 0, vI 0, vI 0, vI 0, vB false, Value.nilFunc]), (4, Value.agg #[vS [99, 114, 101, 97, 116, 101], vI 0, vI 0, vI 0, vI 400, vB true, Value.func (.func 54) #[] #[]]), (5, Value.agg #[vS [114, 101, 109, 111, 118, 101], vI 0, vI 0, vI 0, vI 0, vB true, Value.func (.func 54) #[] #[]]), (6, Value.agg #[vS [109, 111, 118, 101], vI 0, vI 0, vI 0, vI 400, vB true, Value.func (.func 54) #[] #[]]), (7, Value.agg #[vS [110, 111, 116, 101], vI 0, vI 0, vI 0, vI 400, vB true, Value.func (.func 54) #[] #[]])], Ent.blk b3 26 [Value.func (.func 53) #[] #[]]] (fun _ h => h.keep [true, true, false, false] rfl) ⟨b4, b3, ?_, ?_⟩
  · rfl
  · have e_y0 : ([(0, Value.agg #[vS [112, 117, 116], vI 1, vI 32, vI 1, vI 200, vB false, Value.func (.func 55) #[] #[Value.pointer (some ⟨b3, 0, none⟩)]]), (1, Value.agg #[vS [101, 114, 97, 115, 101], vI 1, vI 32, vI 0, vI 0, vB false, Value.func (.func 57) #[] #[]]), (2, Value.agg #[vS [97, 112, 112, 101, 110, 100], vI 0, vI 0, vI 0, vI 1000, vB false, Value.func (.func 53) #[] #[]]), (3, Value.agg #[vS [101, 109, 112, 116, 121], vI 0, vI 0, vI 0, vI 0, vB false, Value.nilFunc]), (4, Value.agg #[vS [99, 114, 101, 97, 116, 101], vI 0, vI 0, vI 0, vI 400, vB true, Value.func (.func 54) #[] #[]]), (5, Value.agg #[vS [114, 101, 109, 111, 118, 101], vI 0, vI 0, vI 0, vI 0, vB true, Value.func (.func 54) #[] #[]]), (6, Value.agg #[vS [109, 111, 118, 101], vI 0, vI 0, vI 0, vI 400, vB true, Value.func (.func 54) #[] #[]]), (7, Value.agg #[vS [110, 111, 116, 101], vI 0, vI 0, vI 0, vI 400, vB true, Value.func (.func 54) #[] #[]])] : List (Int × Value)) = (R47.entries b3) := by
      first | rfl | omega | (simp_all; done) | (simp_all; omega)
    have e_all := (congrArg (fun (y0 : List (Int × Value)) => [Ent.mp vI b4 y0, Ent.blk b3 26 [Value.func (.func 53) #[] #[]]]) e_y0)
    exact e_all

set_option maxRecDepth 20000 in
theorem f35_ok (lo : Int) (hi : Int) (s : Bytes) (w : World) : Calls Tryd.prog 35 #[Value.agg #[vI lo, vI hi], vS s] w (Gives [] w fun v L => v = vB ((decide (lo ≤ s.length)) && (decide ((s.length : Int) ≤ hi))) ∧ L = []) := by
  refine calls_J [] 17 Tryd.func35 rfl Tryd.ntmps35 [(0, Value.agg #[vI lo, vI hi]), (1, vS s)] rfl rfl (Give.nil w) ?_
  refine J_seq ?_
  refine J_region ?_
  refine JO_op rfl trivial (O_box rfl rfl fun b1 => ?_)
  refine JO_read (vB false) rfl trivial (fun _ _ => rfl) ?_
  refine JO_nil ?_
  refine JX_then ?_
  refine J_seq ?_
  refine J_region ?_
  refine JO_read (vS s) rfl trivial (fun _ _ => rfl) ?_
  refine JO_read (vI ((s.length : Nat) : Int)) rfl trivial (fun _ _ => x_len_s rfl Tryd.underlying9) ?_
  refine JO_read (Value.pointer (some ⟨b1, 0, none⟩)) rfl trivial (fun _ _ => x_fieldAddr Ty.fi59_0 rfl rfl) ?_
  refine JO_read (vI lo) rfl trivial (x_load 0 rfl rfl Ty.sc3 rfl) ?_
  refine JO_read (vB (decide (lo ≤ ((s.length : Nat) : Int)))) rfl trivial (fun _ _ => x_geq_i rfl rfl) ?_
  refine JO_read (vB (decide (lo ≤ ((s.length : Nat) : Int)))) rfl trivial (fun _ _ => rfl) ?_
  refine JO_cut (X := Bool) 6 (fun z => z = ((decide (lo ≤ ((s.length : Nat) : Int))) && (decide (((s.length : Nat) : Int) ≤ hi)))) (fun z => [(4, vB false), (16, vB z)]) (fun _ => [Ent.blk b1 59 [vI lo, vI hi]]) ?_ ?_
  · rcases Bool.eq_false_or_eq_true (decide (lo ≤ ((s.length : Nat) : Int))) with g3 | g3
    · have g3r := g3
      have g3r := of_decide_eq_true g3r
      refine JO_read (vS s) rfl ⟨_, rfl, g3⟩ (fun _ _ => rfl) ?_
      refine JO_read (vI ((s.length : Nat) : Int)) rfl ⟨_, rfl, g3⟩ (fun _ _ => x_len_s rfl Tryd.underlying9) ?_
      refine JO_read (Value.pointer (some ⟨b1, 1, none⟩)) rfl ⟨_, rfl, g3⟩ (fun _ _ => x_fieldAddr Ty.fi59_1 rfl rfl) ?_
      refine JO_read (vI hi) rfl ⟨_, rfl, g3⟩ (x_load 0 rfl rfl Ty.sc3 rfl) ?_
      refine JO_read (vB (decide (((s.length : Nat) : Int) ≤ hi))) rfl ⟨_, rfl, g3⟩ (fun _ _ => x_leq_i rfl rfl) ?_
      refine JO_read (vB (decide (((s.length : Nat) : Int) ≤ hi))) rfl trivial (fun _ _ => x_pick_t rfl g3 rfl) ?_
      refine JO_nil (JX_cut (decide (((s.length : Nat) : Int) ≤ hi)) (by rw [g3]; simp) ⟨rfl, rfl, trivial⟩ (fun _ h => h))
    · have g3r := g3
      have g3r := of_decide_eq_false g3r
      refine JO_shun rfl ⟨_, rfl, g3⟩ ?_
      refine JO_shun rfl ⟨_, rfl, g3⟩ ?_
      refine JO_shun rfl ⟨_, rfl, g3⟩ ?_
      refine JO_shun rfl ⟨_, rfl, g3⟩ ?_
      refine JO_shun rfl ⟨_, rfl, g3⟩ ?_
      refine JO_read (vB false) rfl trivial (fun _ _ => x_pick_f rfl g3 rfl) ?_
      refine JO_nil (JX_cut (false) (by rw [g3]; simp) ⟨rfl, rfl, trivial⟩ (fun _ h => h))
  rintro z2 rfl
  refine JO_read (vB ((decide (lo ≤ ((s.length : Nat) : Int))) && (decide (((s.length : Nat) : Int) ≤ hi)))) rfl trivial (fun _ _ => rfl) ?_
  refine JO_nil ?_
  refine JX_then ?_
  refine J_ret ?_
  refine JX_rets [vB ((decide (lo ≤ ((s.length : Nat) : Int))) && (decide (((s.length : Nat) : Int) ≤ hi)))] (vB ((decide (lo ≤ ((s.length : Nat) : Int))) && (decide (((s.length : Nat) : Int) ≤ hi)))) Tryd.results35 (fun w h => ⟨rfl, trivial⟩) rfl [] (fun _ h => h.keep [false] rfl) ⟨?_, ?_⟩
  · have e_x0 : ((decide (lo ≤ ((s.length : Nat) : Int))) && (decide (((s.length : Nat) : Int) ≤ hi)) : Bool) = ((decide (lo ≤ s.length)) && (decide ((s.length : Int) ≤ hi))) := by
      first | rfl | omega | (simp_all; done) | (simp_all; omega)
    exact congrArg (fun (x0 : Bool) => vB x0) e_x0
  · rfl

set_option maxRecDepth 20000 in
theorem f36_ok (s : Bytes) (w : World) (q0 : s.length ≤ 9223372036854775807) : Calls Tryd.prog 36 #[vS s] w (Gives [] w fun v L => v = vB (R47.volName s) ∧ L = []) := by
  refine calls_J [] 46 Tryd.func36 rfl Tryd.ntmps36 [(0, vS s)] rfl rfl (Give.nil w) ?_
  refine J_seq ?_
  refine J_region ?_
  refine JO_read (vB false) rfl trivial (fun _ _ => rfl) ?_
  refine JO_nil ?_
  refine JX_then ?_
  refine J_seq ?_
  refine J_seq ?_
  refine J_region ?_
  refine JO_read (vS s) rfl trivial (fun _ _ => rfl) ?_
  refine JO_op rfl trivial (O_str_bytes s rfl Tryd.underlying9 Tryd.underlying74 Tryd.underlying5 fun b1 c2 z3 hz4 => ?_)
  refine JO_read (vI ((s.length : Nat) : Int)) rfl trivial (fun _ _ => x_len_sl Tryd.underlying74 rfl) ?_
  refine JO_read (vI 0) rfl trivial (fun _ _ => rfl) ?_
  refine JO_nil ?_
  refine JX_then ?_
  refine J_block ?_
  refine J_loop (X := Nat) (fun (k : Nat) => (k ≤ s.length) ∧ (∀ i, i < k → (R47.letter (s.getD i 0) = true ∨ (R47.digit (s.getD i 0) = true ∧ i ≠ 0)))) (fun (k : Nat) => [(0, vS s), (8, Value.slice (some ⟨b1, 0, none⟩) s.length c2), (9, vI ((s.length : Nat) : Int)), (10, vI ((k : Nat) : Int))]) (fun (k : Nat) => [Ent.blk b1 5 ((s ++ List.replicate z3 (0 : UInt8)).map vU8) (s.length + z3, s.length + z3 + 1)]) (fun (k : Nat) => s.length - k) (0 : Nat) ?_ ⟨rfl, rfl, rfl, rfl, trivial⟩ (fun _ h => h) ?_
  · show (0 ≤ s.length) ∧ (∀ i, i < 0 → (R47.letter (s.getD i 0) = true ∨ (R47.digit (s.getD i 0) = true ∧ i ≠ 0)))
    refine ⟨?_, ?_⟩
    · first | rfl | omega | (simp_all; done) | (simp_all; omega)
    · intro i hi; omega
  intro k hI1
  obtain ⟨i1_0, i1_1⟩ : (k ≤ s.length) ∧ (∀ i, i < k → (R47.letter (s.getD i 0) = true ∨ (R47.digit (s.getD i 0) = true ∧ i ≠ 0))) := hI1
  refine J_weaken (E' := [(0, vS s), (8, Value.slice (some ⟨b1, 0, none⟩) s.length c2), (9, vI ((s.length : Nat) : Int)), (10, vI ((k : Nat) : Int))]) (L' := [Ent.blk b1 5 ((s ++ List.replicate z3 (0 : UInt8)).map vU8) (s.length + z3, s.length + z3 + 1)]) ⟨rfl, rfl, rfl, rfl, trivial⟩ (fun _ h => h) ?_
  refine J_seq ?_
  refine J_region ?_
  refine JO_read (vB (decide (((k : Nat) : Int) < ((s.length : Nat) : Int)))) rfl trivial (fun _ _ => x_lss_i rfl rfl) ?_
  refine JO_nil ?_
  refine JX_then ?_
  refine J_seq ?_
  refine J_cond (decide (((k : Nat) : Int) < ((s.length : Nat) : Int))) rfl rfl (fun h5 => ?_) (fun h5 => ?_)
  · have h5w := h5
    have h5 := of_decide_eq_true h5
    refine J_skip ?_
    refine JX_then ?_
    refine J_seq ?_
    refine J_block ?_
    refine J_seq ?_
    refine J_region ?_
    refine JO_read (vI ((k : Nat) : Int)) rfl trivial (fun _ _ => rfl) ?_
    refine JO_read (Value.pointer (some ⟨b1, k, none⟩)) rfl trivial (fun _ _ => x_indexAddr_sl (k := k) Tryd.underlying74 Ty.sz5 rfl rfl lt_ (add_0k1 _ _)) ?_
    refine JO_read (vU8 ((s ++ List.replicate z3 (0 : UInt8)).getD k 0)) rfl trivial (x_load_arr 0 vU8 0 rfl rfl Ty.sc5 lt_) ?_
    refine JO_read (vI ((k : Nat) : Int)) rfl trivial (fun _ _ => rfl) ?_
    refine JO_read (vU8 ((s ++ List.replicate z3 (0 : UInt8)).getD k 0)) rfl trivial (fun _ _ => rfl) ?_
    refine JO_nil ?_
    refine JX_then ?_
    refine J_seq ?_
    refine J_region ?_
    refine JO_read (vU8 ((s ++ List.replicate z3 (0 : UInt8)).getD k 0)) rfl trivial (fun _ _ => rfl) ?_
    refine JO_read (vB (decide ((65 : UInt8) ≤ ((s ++ List.replicate z3 (0 : UInt8)).getD k 0)))) rfl trivial (fun _ _ => x_geq_u8 rfl rfl) ?_
    refine JO_read (vB (decide ((65 : UInt8) ≤ ((s ++ List.replicate z3 (0 : UInt8)).getD k 0)))) rfl trivial (fun _ _ => rfl) ?_
    refine JO_cut (X := Bool) 3 (fun z => z = ((decide ((65 : UInt8) ≤ ((s ++ List.replicate z3 (0 : UInt8)).getD k 0))) && (decide (((s ++ List.replicate z3 (0 : UInt8)).getD k 0) ≤ (90 : UInt8))))) (fun z => [(0, vS s), (8, Value.slice (some ⟨b1, 0, none⟩) s.length c2), (9, vI ((s.length : Nat) : Int)), (10, vI ((k : Nat) : Int)), (3, vI ((k : Nat) : Int)), (4, vU8 ((s ++ List.replicate z3 (0 : UInt8)).getD k 0)), (20, vB z)]) (fun _ => [Ent.blk b1 5 ((s ++ List.replicate z3 (0 : UInt8)).map vU8) (s.length + z3, s.length + z3 + 1)]) ?_ ?_
    · rcases Bool.eq_false_or_eq_true (decide ((65 : UInt8) ≤ ((s ++ List.replicate z3 (0 : UInt8)).getD k 0))) with g7 | g7
      · have g7r := g7
        have g7r := of_decide_eq_true g7r
        have g7ru := g7r
        try simp only [UInt8.lt_iff_toNat_lt, UInt8.le_iff_toNat_le, UInt8.reduceToNat, UInt32.lt_iff_toNat_lt, UInt32.le_iff_toNat_le, UInt32.reduceToNat, UInt64.lt_iff_toNat_lt, UInt64.le_iff_toNat_le, UInt64.reduceToNat] at g7ru
        refine JO_read (vU8 ((s ++ List.replicate z3 (0 : UInt8)).getD k 0)) rfl ⟨_, rfl, g7⟩ (fun _ _ => rfl) ?_
        refine JO_read (vB (decide (((s ++ List.replicate z3 (0 : UInt8)).getD k 0) ≤ (90 : UInt8)))) rfl ⟨_, rfl, g7⟩ (fun _ _ => x_leq_u8 rfl rfl) ?_
        refine JO_read (vB (decide (((s ++ List.replicate z3 (0 : UInt8)).getD k 0) ≤ (90 : UInt8)))) rfl trivial (fun _ _ => x_pick_t rfl g7 rfl) ?_
        refine JO_nil (JX_cut (decide (((s ++ List.replicate z3 (0 : UInt8)).getD k 0) ≤ (90 : UInt8))) (by rw [g7]; simp) ⟨rfl, rfl, rfl, rfl, rfl, rfl, rfl, trivial⟩ (fun _ h => h))
      · have g7r := g7
        have g7r := of_decide_eq_false g7r
        have g7ru := g7r
        try simp only [UInt8.lt_iff_toNat_lt, UInt8.le_iff_toNat_le, UInt8.reduceToNat, UInt32.lt_iff_toNat_lt, UInt32.le_iff_toNat_le, UInt32.reduceToNat, UInt64.lt_iff_toNat_lt, UInt64.le_iff_toNat_le, UInt64.reduceToNat] at g7ru
        refine JO_shun rfl ⟨_, rfl, g7⟩ ?_
        refine JO_shun rfl ⟨_, rfl, g7⟩ ?_
        refine JO_read (vB false) rfl trivial (fun _ _ => x_pick_f rfl g7 rfl) ?_
        refine JO_nil (JX_cut (false) (by rw [g7]; simp) ⟨rfl, rfl, rfl, rfl, rfl, rfl, rfl, trivial⟩ (fun _ h => h))
    rintro z6 rfl
    refine JO_read (vU8 ((s ++ List.replicate z3 (0 : UInt8)).getD k 0)) rfl trivial (fun _ _ => rfl) ?_
    refine JO_read (vB (decide ((48 : UInt8) ≤ ((s ++ List.replicate z3 (0 : UInt8)).getD k 0)))) rfl trivial (fun _ _ => x_geq_u8 rfl rfl) ?_
    refine JO_read (vB (decide ((48 : UInt8) ≤ ((s ++ List.replicate z3 (0 : UInt8)).getD k 0)))) rfl trivial (fun _ _ => rfl) ?_
    refine JO_cut (X := Bool) 3 (fun z => z = ((decide ((48 : UInt8) ≤ ((s ++ List.replicate z3 (0 : UInt8)).getD k 0))) && (decide (((s ++ List.replicate z3 (0 : UInt8)).getD k 0) ≤ (57 : UInt8))))) (fun z => [(0, vS s), (8, Value.slice (some ⟨b1, 0, none⟩) s.length c2), (9, vI ((s.length : Nat) : Int)), (10, vI ((k : Nat) : Int)), (3, vI ((k : Nat) : Int)), (20, vB ((decide ((65 : UInt8) ≤ ((s ++ List.replicate z3 (0 : UInt8)).getD k 0))) && (decide (((s ++ List.replicate z3 (0 : UInt8)).getD k 0) ≤ (90 : UInt8))))), (26, vB z)]) (fun _ => [Ent.blk b1 5 ((s ++ List.replicate z3 (0 : UInt8)).map vU8) (s.length + z3, s.length + z3 + 1)]) ?_ ?_
    · rcases Bool.eq_false_or_eq_true (decide ((48 : UInt8) ≤ ((s ++ List.replicate z3 (0 : UInt8)).getD k 0))) with g9 | g9
      · have g9r := g9
        have g9r := of_decide_eq_true g9r
        have g9ru := g9r
        try simp only [UInt8.lt_iff_toNat_lt, UInt8.le_iff_toNat_le, UInt8.reduceToNat, UInt32.lt_iff_toNat_lt, UInt32.le_iff_toNat_le, UInt32.reduceToNat, UInt64.lt_iff_toNat_lt, UInt64.le_iff_toNat_le, UInt64.reduceToNat] at g9ru
        refine JO_read (vU8 ((s ++ List.replicate z3 (0 : UInt8)).getD k 0)) rfl ⟨_, rfl, g9⟩ (fun _ _ => rfl) ?_
        refine JO_read (vB (decide (((s ++ List.replicate z3 (0 : UInt8)).getD k 0) ≤ (57 : UInt8)))) rfl ⟨_, rfl, g9⟩ (fun _ _ => x_leq_u8 rfl rfl) ?_
        refine JO_read (vB (decide (((s ++ List.replicate z3 (0 : UInt8)).getD k 0) ≤ (57 : UInt8)))) rfl trivial (fun _ _ => x_pick_t rfl g9 rfl) ?_
        refine JO_nil (JX_cut (decide (((s ++ List.replicate z3 (0 : UInt8)).getD k 0) ≤ (57 : UInt8))) (by rw [g9]; simp) ⟨rfl, rfl, rfl, rfl, rfl, rfl, rfl, trivial⟩ (fun _ h => h))
      · have g9r := g9
        have g9r := of_decide_eq_false g9r
        have g9ru := g9r
        try simp only [UInt8.lt_iff_toNat_lt, UInt8.le_iff_toNat_le, UInt8.reduceToNat, UInt32.lt_iff_toNat_lt, UInt32.le_iff_toNat_le, UInt32.reduceToNat, UInt64.lt_iff_toNat_lt, UInt64.le_iff_toNat_le, UInt64.reduceToNat] at g9ru
        refine JO_shun rfl ⟨_, rfl, g9⟩ ?_
        refine JO_shun rfl ⟨_, rfl, g9⟩ ?_
        refine JO_read (vB false) rfl trivial (fun _ _ => x_pick_f rfl g9 rfl) ?_
        refine JO_nil (JX_cut (false) (by rw [g9]; simp) ⟨rfl, rfl, rfl, rfl, rfl, rfl, rfl, trivial⟩ (fun _ h => h))
    rintro z8 rfl
    refine JO_read (vB ((decide ((65 : UInt8) ≤ ((s ++ List.replicate z3 (0 : UInt8)).getD k 0))) && (decide (((s ++ List.replicate z3 (0 : UInt8)).getD k 0) ≤ (90 : UInt8))))) rfl trivial (fun _ _ => rfl) ?_
    refine JO_read (vB ((decide ((48 : UInt8) ≤ ((s ++ List.replicate z3 (0 : UInt8)).getD k 0))) && (decide (((s ++ List.replicate z3 (0 : UInt8)).getD k 0) ≤ (57 : UInt8))))) rfl trivial (fun _ _ => rfl) ?_
    refine JO_nil ?_
    refine JX_then ?_
    refine J_seq ?_
    refine J_region ?_
    refine JO_read (vB ((decide ((65 : UInt8) ≤ ((s ++ List.replicate z3 (0 : UInt8)).getD k 0))) && (decide (((s ++ List.replicate z3 (0 : UInt8)).getD k 0) ≤ (90 : UInt8))))) rfl trivial (fun _ _ => rfl) ?_
    refine JO_read (vB (!((decide ((65 : UInt8) ≤ ((s ++ List.replicate z3 (0 : UInt8)).getD k 0))) && (decide (((s ++ List.replicate z3 (0 : UInt8)).getD k 0) ≤ (90 : UInt8)))))) rfl trivial (fun _ _ => x_not rfl) ?_
    refine JO_read (vB (!((decide ((65 : UInt8) ≤ ((s ++ List.replicate z3 (0 : UInt8)).getD k 0))) && (decide (((s ++ List.replicate z3 (0 : UInt8)).getD k 0) ≤ (90 : UInt8)))))) rfl trivial (fun _ _ => rfl) ?_
    refine JO_cut (X := Bool) 7 (fun z => z = ((!((decide ((65 : UInt8) ≤ ((s ++ List.replicate z3 (0 : UInt8)).getD k 0))) && (decide (((s ++ List.replicate z3 (0 : UInt8)).getD k 0) ≤ (90 : UInt8))))) && ((!((decide ((48 : UInt8) ≤ ((s ++ List.replicate z3 (0 : UInt8)).getD k 0))) && (decide (((s ++ List.replicate z3 (0 : UInt8)).getD k 0) ≤ (57 : UInt8))))) || (decide (((k : Nat) : Int) = 0))))) (fun z => [(0, vS s), (8, Value.slice (some ⟨b1, 0, none⟩) s.length c2), (9, vI ((s.length : Nat) : Int)), (10, vI ((k : Nat) : Int)), (36, vB z)]) (fun _ => [Ent.blk b1 5 ((s ++ List.replicate z3 (0 : UInt8)).map vU8) (s.length + z3, s.length + z3 + 1)]) ?_ ?_
    · rcases Bool.eq_false_or_eq_true (!((decide ((65 : UInt8) ≤ ((s ++ List.replicate z3 (0 : UInt8)).getD k 0))) && (decide (((s ++ List.replicate z3 (0 : UInt8)).getD k 0) ≤ (90 : UInt8))))) with g11 | g11
      · have g11r := g11
        have g11r : ((decide ((65 : UInt8) ≤ ((s ++ List.replicate z3 (0 : UInt8)).getD k 0))) && (decide (((s ++ List.replicate z3 (0 : UInt8)).getD k 0) ≤ (90 : UInt8)))) = false := bnot_true g11r
        simp only [Bool.and_eq_true, Bool.or_eq_true, Bool.and_eq_false_iff, Bool.or_eq_false_iff, Bool.not_eq_true', Bool.not_eq_false', decide_eq_true_eq, decide_eq_false_iff_not] at g11r
        refine JO_read (vB ((decide ((48 : UInt8) ≤ ((s ++ List.replicate z3 (0 : UInt8)).getD k 0))) && (decide (((s ++ List.replicate z3 (0 : UInt8)).getD k 0) ≤ (57 : UInt8))))) rfl ⟨_, rfl, g11⟩ (fun _ _ => rfl) ?_
        refine JO_read (vB (!((decide ((48 : UInt8) ≤ ((s ++ List.replicate z3 (0 : UInt8)).getD k 0))) && (decide (((s ++ List.replicate z3 (0 : UInt8)).getD k 0) ≤ (57 : UInt8)))))) rfl ⟨_, rfl, g11⟩ (fun _ _ => x_not rfl) ?_
        refine JO_read (vB (!((decide ((48 : UInt8) ≤ ((s ++ List.replicate z3 (0 : UInt8)).getD k 0))) && (decide (((s ++ List.replicate z3 (0 : UInt8)).getD k 0) ≤ (57 : UInt8)))))) rfl ⟨_, rfl, g11⟩ (fun _ _ => rfl) ?_
        refine JO_cut (X := Bool) 3 (fun z => z = ((!((decide ((48 : UInt8) ≤ ((s ++ List.replicate z3 (0 : UInt8)).getD k 0))) && (decide (((s ++ List.replicate z3 (0 : UInt8)).getD k 0) ≤ (57 : UInt8))))) || (decide (((k : Nat) : Int) = 0)))) (fun z => [(0, vS s), (8, Value.slice (some ⟨b1, 0, none⟩) s.length c2), (9, vI ((s.length : Nat) : Int)), (10, vI ((k : Nat) : Int)), (29, vB (!((decide ((65 : UInt8) ≤ ((s ++ List.replicate z3 (0 : UInt8)).getD k 0))) && (decide (((s ++ List.replicate z3 (0 : UInt8)).getD k 0) ≤ (90 : UInt8)))))), (35, vB z)]) (fun _ => [Ent.blk b1 5 ((s ++ List.replicate z3 (0 : UInt8)).map vU8) (s.length + z3, s.length + z3 + 1)]) ?_ ?_
        · rcases Bool.eq_false_or_eq_true (!((decide ((48 : UInt8) ≤ ((s ++ List.replicate z3 (0 : UInt8)).getD k 0))) && (decide (((s ++ List.replicate z3 (0 : UInt8)).getD k 0) ≤ (57 : UInt8))))) with g13 | g13
          · have g13r := g13
            have g13r : ((decide ((48 : UInt8) ≤ ((s ++ List.replicate z3 (0 : UInt8)).getD k 0))) && (decide (((s ++ List.replicate z3 (0 : UInt8)).getD k 0) ≤ (57 : UInt8)))) = false := bnot_true g13r
            simp only [Bool.and_eq_true, Bool.or_eq_true, Bool.and_eq_false_iff, Bool.or_eq_false_iff, Bool.not_eq_true', Bool.not_eq_false', decide_eq_true_eq, decide_eq_false_iff_not] at g13r
            refine JO_shun rfl ⟨_, rfl, g13⟩ ?_
            refine JO_shun rfl ⟨_, rfl, g13⟩ ?_
            refine JO_read (vB true) rfl ⟨_, rfl, g11⟩ (fun _ _ => x_pick_t rfl g13 rfl) ?_
            refine JO_nil (JX_cut (true) (by rw [g13]; simp) ⟨rfl, rfl, rfl, rfl, rfl, rfl, trivial⟩ (fun _ h => h))
          · have g13r := g13
            have g13r : ((decide ((48 : UInt8) ≤ ((s ++ List.replicate z3 (0 : UInt8)).getD k 0))) && (decide (((s ++ List.replicate z3 (0 : UInt8)).getD k 0) ≤ (57 : UInt8)))) = true := bnot_false g13r
            have ⟨g13r, h14⟩ := band_true g13r
            have g13r := of_decide_eq_true g13r
            have g13ru := g13r
            try simp only [UInt8.lt_iff_toNat_lt, UInt8.le_iff_toNat_le, UInt8.reduceToNat, UInt32.lt_iff_toNat_lt, UInt32.le_iff_toNat_le, UInt32.reduceToNat, UInt64.lt_iff_toNat_lt, UInt64.le_iff_toNat_le, UInt64.reduceToNat] at g13ru
            have h14 := of_decide_eq_true h14
            have h14u := h14
            try simp only [UInt8.lt_iff_toNat_lt, UInt8.le_iff_toNat_le, UInt8.reduceToNat, UInt32.lt_iff_toNat_lt, UInt32.le_iff_toNat_le, UInt32.reduceToNat, UInt64.lt_iff_toNat_lt, UInt64.le_iff_toNat_le, UInt64.reduceToNat] at h14u
            refine JO_read (vI ((k : Nat) : Int)) rfl ⟨_, rfl, g13⟩ (fun _ _ => rfl) ?_
            refine JO_read (vB (decide (((k : Nat) : Int) = 0))) rfl ⟨_, rfl, g13⟩ (fun _ _ => x_eql_i rfl rfl) ?_
            refine JO_read (vB (decide (((k : Nat) : Int) = 0))) rfl ⟨_, rfl, g11⟩ (fun _ _ => x_pick_f rfl g13 rfl) ?_
            refine JO_nil (JX_cut (decide (((k : Nat) : Int) = 0)) (by rw [g13]; simp) ⟨rfl, rfl, rfl, rfl, rfl, rfl, trivial⟩ (fun _ h => h))
        rintro z12 rfl
        refine JO_read (vB ((!((decide ((48 : UInt8) ≤ ((s ++ List.replicate z3 (0 : UInt8)).getD k 0))) && (decide (((s ++ List.replicate z3 (0 : UInt8)).getD k 0) ≤ (57 : UInt8))))) || (decide (((k : Nat) : Int) = 0)))) rfl trivial (fun _ _ => x_pick_t rfl g11 rfl) ?_
        refine JO_nil (JX_cut ((!((decide ((48 : UInt8) ≤ ((s ++ List.replicate z3 (0 : UInt8)).getD k 0))) && (decide (((s ++ List.replicate z3 (0 : UInt8)).getD k 0) ≤ (57 : UInt8))))) || (decide (((k : Nat) : Int) = 0))) (by rw [g11]; simp) ⟨rfl, rfl, rfl, rfl, rfl, trivial⟩ (fun _ h => h))
      · have g11r := g11
        have g11r : ((decide ((65 : UInt8) ≤ ((s ++ List.replicate z3 (0 : UInt8)).getD k 0))) && (decide (((s ++ List.replicate z3 (0 : UInt8)).getD k 0) ≤ (90 : UInt8)))) = true := bnot_false g11r
        have ⟨g11r, h15⟩ := band_true g11r
        have g11r := of_decide_eq_true g11r
        have g11ru := g11r
        try simp only [UInt8.lt_iff_toNat_lt, UInt8.le_iff_toNat_le, UInt8.reduceToNat, UInt32.lt_iff_toNat_lt, UInt32.le_iff_toNat_le, UInt32.reduceToNat, UInt64.lt_iff_toNat_lt, UInt64.le_iff_toNat_le, UInt64.reduceToNat] at g11ru
        have h15 := of_decide_eq_true h15
        have h15u := h15
        try simp only [UInt8.lt_iff_toNat_lt, UInt8.le_iff_toNat_le, UInt8.reduceToNat, UInt32.lt_iff_toNat_lt, UInt32.le_iff_toNat_le, UInt32.reduceToNat, UInt64.lt_iff_toNat_lt, UInt64.le_iff_toNat_le, UInt64.reduceToNat] at h15u
        refine JO_shun rfl ⟨_, rfl, g11⟩ ?_
        refine JO_shun rfl ⟨_, rfl, g11⟩ ?_
        refine JO_shun rfl ⟨_, rfl, g11⟩ ?_
        refine JO_shunU rfl ⟨_, rfl, rfl⟩ ?_
        refine JO_shunU rfl ⟨_, rfl, rfl⟩ ?_
        refine JO_shun rfl ⟨_, rfl, g11⟩ ?_
        refine JO_read (vB false) rfl trivial (fun _ _ => x_pick_f rfl g11 rfl) ?_
        refine JO_nil (JX_cut (false) (by rw [g11]; simp) ⟨rfl, rfl, rfl, rfl, rfl, trivial⟩ (fun _ h => h))
    rintro z10 rfl
    refine JO_nil ?_
    refine JX_then ?_
    refine J_cond ((!((decide ((65 : UInt8) ≤ ((s ++ List.replicate z3 (0 : UInt8)).getD k 0))) && (decide (((s ++ List.replicate z3 (0 : UInt8)).getD k 0) ≤ (90 : UInt8))))) && ((!((decide ((48 : UInt8) ≤ ((s ++ List.replicate z3 (0 : UInt8)).getD k 0))) && (decide (((s ++ List.replicate z3 (0 : UInt8)).getD k 0) ≤ (57 : UInt8))))) || (decide (((k : Nat) : Int) = 0)))) rfl rfl (fun h16 => ?_) (fun h16 => ?_)
    · have h16w := h16
      have ⟨h16, h17⟩ := band_true h16
      have h16 : ((decide ((65 : UInt8) ≤ ((s ++ List.replicate z3 (0 : UInt8)).getD k 0))) && (decide (((s ++ List.replicate z3 (0 : UInt8)).getD k 0) ≤ (90 : UInt8)))) = false := bnot_true h16
      simp only [Bool.and_eq_true, Bool.or_eq_true, Bool.and_eq_false_iff, Bool.or_eq_false_iff, Bool.not_eq_true', Bool.not_eq_false', decide_eq_true_eq, decide_eq_false_iff_not] at h16
      simp only [Bool.and_eq_true, Bool.or_eq_true, Bool.and_eq_false_iff, Bool.or_eq_false_iff, Bool.not_eq_true', Bool.not_eq_false', decide_eq_true_eq, decide_eq_false_iff_not] at h17
      refine J_seq ?_
      refine J_region ?_
      refine JO_read (vB false) rfl trivial (fun _ _ => rfl) ?_
      refine JO_nil ?_
      refine JX_then ?_
      refine J_ret ?_
      refine JX_block_ret ?_
      refine JX_then_ret ?_
      refine JX_round_ret ?_
      refine JX_block_ret ?_
      refine JX_then_ret ?_
      refine JX_rets [vB false] (vB false) Tryd.results36 (fun w h => ⟨rfl, trivial⟩) rfl [] (fun _ h => h.keep [false] rfl) ⟨?_, ?_⟩
      · have e_x0 : (false : Bool) = (R47.volName s) := by
          first | exact (R47.vol_stop (k := k) (by omega) (by assumption)).symm | (rw [← R47.vol_end (fun i hi => i1_1 i (by omega))]; rw [Bool.eq_iff_iff]; simp only [Bool.and_eq_true, decide_eq_true_eq]; omega)
        exact congrArg (fun (x0 : Bool) => vB x0) e_x0
      · rfl
    · have h16w := h16
      simp only [Bool.and_eq_true, Bool.or_eq_true, Bool.and_eq_false_iff, Bool.or_eq_false_iff, Bool.not_eq_true', Bool.not_eq_false', decide_eq_true_eq, decide_eq_false_iff_not] at h16
      refine J_skip ?_
      refine JX_block ?_
      refine JX_then ?_
      refine J_region ?_
      refine JO_read (vI ((k + 1 : Nat) : Int)) rfl trivial (fun _ _ => x_add_n (a := k) (b := 1) rfl rfl (by omega)) ?_
      refine JO_read (vI ((k + 1 : Nat) : Int)) rfl trivial (fun _ _ => rfl) ?_
      refine JO_nil ?_
      refine JX_round (k + 1 : Nat) ?_ ?_ ⟨rfl, rfl, rfl, rfl, trivial⟩ (fun _ h => h)
      · show ((k + 1) ≤ s.length) ∧ (∀ i, i < (k + 1) → (R47.letter (s.getD i 0) = true ∨ (R47.digit (s.getD i 0) = true ∧ i ≠ 0)))
        refine ⟨?_, ?_⟩
        · first | rfl | omega | (simp_all; done) | (simp_all; omega)
        · intro i hi
          by_cases hik : i = k
          · subst hik; exact R47.vol_step (by omega) (by assumption)
          · exact i1_1 i (by omega)
      · show s.length - (k + 1) < s.length - k
        first | omega | (simp; omega) | (simp_all; omega)
  · have h5w := h5
    have h5 := of_decide_eq_false h5
    refine J_exit ?_
    refine JX_then_exit ?_
    refine JX_round_exit ?_
    refine JX_block_hit ?_
    refine JX_then ?_
    refine J_seq ?_
    refine J_region ?_
    refine JO_read (vS s) rfl trivial (fun _ _ => rfl) ?_
    refine JO_read (vI ((s.length : Nat) : Int)) rfl trivial (fun _ _ => x_len_s rfl Tryd.underlying9) ?_
    refine JO_read (vB (decide ((1 : Int) ≤ ((s.length : Nat) : Int)))) rfl trivial (fun _ _ => x_geq_i rfl rfl) ?_
    refine JO_read (vB (decide ((1 : Int) ≤ ((s.length : Nat) : Int)))) rfl trivial (fun _ _ => rfl) ?_
    refine JO_cut (X := Bool) 4 (fun z => z = ((decide ((1 : Int) ≤ ((s.length : Nat) : Int))) && (decide (((s.length : Nat) : Int) ≤ 8)))) (fun z => [(45, vB z)]) (fun _ => [Ent.blk b1 5 ((s ++ List.replicate z3 (0 : UInt8)).map vU8) (s.length + z3, s.length + z3 + 1)]) ?_ ?_
    · rcases Bool.eq_false_or_eq_true (decide ((1 : Int) ≤ ((s.length : Nat) : Int))) with g19 | g19
      · have g19r := g19
        have g19r := of_decide_eq_true g19r
        refine JO_read (vS s) rfl ⟨_, rfl, g19⟩ (fun _ _ => rfl) ?_
        refine JO_read (vI ((s.length : Nat) : Int)) rfl ⟨_, rfl, g19⟩ (fun _ _ => x_len_s rfl Tryd.underlying9) ?_
        refine JO_read (vB (decide (((s.length : Nat) : Int) ≤ 8))) rfl ⟨_, rfl, g19⟩ (fun _ _ => x_leq_i rfl rfl) ?_
        refine JO_read (vB (decide (((s.length : Nat) : Int) ≤ 8))) rfl trivial (fun _ _ => x_pick_t rfl g19 rfl) ?_
        refine JO_nil (JX_cut (decide (((s.length : Nat) : Int) ≤ 8)) (by rw [g19]; simp) ⟨rfl, trivial⟩ (fun _ h => h))
      · have g19r := g19
        have g19r := of_decide_eq_false g19r
        refine JO_shun rfl ⟨_, rfl, g19⟩ ?_
        refine JO_shun rfl ⟨_, rfl, g19⟩ ?_
        refine JO_shun rfl ⟨_, rfl, g19⟩ ?_
        refine JO_read (vB false) rfl trivial (fun _ _ => x_pick_f rfl g19 rfl) ?_
        refine JO_nil (JX_cut (false) (by rw [g19]; simp) ⟨rfl, trivial⟩ (fun _ h => h))
    rintro z18 rfl
    refine JO_read (vB ((decide ((1 : Int) ≤ ((s.length : Nat) : Int))) && (decide (((s.length : Nat) : Int) ≤ 8)))) rfl trivial (fun _ _ => rfl) ?_
    refine JO_nil ?_
    refine JX_then ?_
    refine J_ret ?_
    refine JX_rets [vB ((decide ((1 : Int) ≤ ((s.length : Nat) : Int))) && (decide (((s.length : Nat) : Int) ≤ 8)))] (vB ((decide ((1 : Int) ≤ ((s.length : Nat) : Int))) && (decide (((s.length : Nat) : Int) ≤ 8)))) Tryd.results36 (fun w h => ⟨rfl, trivial⟩) rfl [] (fun _ h => h.keep [false] rfl) ⟨?_, ?_⟩
    · have e_x0 : ((decide ((1 : Int) ≤ ((s.length : Nat) : Int))) && (decide (((s.length : Nat) : Int) ≤ 8)) : Bool) = (R47.volName s) := by
        first | exact (R47.vol_stop (k := k) (by omega) (by assumption)).symm | (rw [← R47.vol_end (fun i hi => i1_1 i (by omega))]; rw [Bool.eq_iff_iff]; simp only [Bool.and_eq_true, decide_eq_true_eq]; omega)
      exact congrArg (fun (x0 : Bool) => vB x0) e_x0
    · rfl

set_option maxRecDepth 20000 in
theorem f37_ok (s : Bytes) (w : World) (q0 : s.length ≤ 9223372036854775807) : Calls Tryd.prog 37 #[vS s] w (Gives [] w fun v L => v = vB (R47.volName s) ∧ L = []) := by
  refine calls_J [] 50 Tryd.func37 rfl Tryd.ntmps37 [(0, vS s)] rfl rfl (Give.nil w) ?_
  refine J_seq ?_
  refine J_region ?_
  refine JO_read (vB false) rfl trivial (fun _ _ => rfl) ?_
  refine JO_nil ?_
  refine JX_then ?_
  refine J_seq ?_
  refine J_seq ?_
  refine J_region ?_
  refine JO_read (vS s) rfl trivial (fun _ _ => rfl) ?_
  refine JO_read (vI ((s.length : Nat) : Int)) rfl trivial (fun _ _ => x_len_s rfl Tryd.underlying9) ?_
  refine JO_read (vB (decide (((s.length : Nat) : Int) < 1))) rfl trivial (fun _ _ => x_lss_i rfl rfl) ?_
  refine JO_read (vB (decide (((s.length : Nat) : Int) < 1))) rfl trivial (fun _ _ => rfl) ?_
  refine JO_cut (X := Bool) 4 (fun z => z = ((decide (((s.length : Nat) : Int) < 1)) || (decide ((8 : Int) < ((s.length : Nat) : Int))))) (fun z => [(0, vS s), (2, vB false), (11, vB z)]) (fun _ => []) ?_ ?_
  · rcases Bool.eq_false_or_eq_true (decide (((s.length : Nat) : Int) < 1)) with g2 | g2
    · have g2r := g2
      have g2r := of_decide_eq_true g2r
      refine JO_shun rfl ⟨_, rfl, g2⟩ ?_
      refine JO_shun rfl ⟨_, rfl, g2⟩ ?_
      refine JO_shun rfl ⟨_, rfl, g2⟩ ?_
      refine JO_read (vB true) rfl trivial (fun _ _ => x_pick_t rfl g2 rfl) ?_
      refine JO_nil (JX_cut (true) (by rw [g2]; simp) ⟨rfl, rfl, rfl, trivial⟩ (fun _ h => h))
    · have g2r := g2
      have g2r := of_decide_eq_false g2r
      refine JO_read (vS s) rfl ⟨_, rfl, g2⟩ (fun _ _ => rfl) ?_
      refine JO_read (vI ((s.length : Nat) : Int)) rfl ⟨_, rfl, g2⟩ (fun _ _ => x_len_s rfl Tryd.underlying9) ?_
      refine JO_read (vB (decide ((8 : Int) < ((s.length : Nat) : Int)))) rfl ⟨_, rfl, g2⟩ (fun _ _ => x_gtr_i rfl rfl) ?_
      refine JO_read (vB (decide ((8 : Int) < ((s.length : Nat) : Int)))) rfl trivial (fun _ _ => x_pick_f rfl g2 rfl) ?_
      refine JO_nil (JX_cut (decide ((8 : Int) < ((s.length : Nat) : Int))) (by rw [g2]; simp) ⟨rfl, rfl, rfl, trivial⟩ (fun _ h => h))
  rintro z1 rfl
  refine JO_read (vB ((decide (((s.length : Nat) : Int) < 1)) || (decide ((8 : Int) < ((s.length : Nat) : Int))))) rfl trivial (fun _ _ => rfl) ?_
  refine JO_cut (X := Bool) 4 (fun z => z = (((decide (((s.length : Nat) : Int) < 1)) || (decide ((8 : Int) < ((s.length : Nat) : Int)))) || (decide (s.getD 0 0 < (65 : UInt8))))) (fun z => [(0, vS s), (2, vB false), (16, vB z)]) (fun _ => []) ?_ ?_
  · rcases Bool.eq_false_or_eq_true ((decide (((s.length : Nat) : Int) < 1)) || (decide ((8 : Int) < ((s.length : Nat) : Int)))) with g4 | g4
    · have g4r := g4
      simp only [Bool.and_eq_true, Bool.or_eq_true, Bool.and_eq_false_iff, Bool.or_eq_false_iff, Bool.not_eq_true', Bool.not_eq_false', decide_eq_true_eq, decide_eq_false_iff_not] at g4r
      refine JO_shun rfl ⟨_, rfl, g4⟩ ?_
      refine JO_shun rfl ⟨_, rfl, g4⟩ ?_
      refine JO_shun rfl ⟨_, rfl, g4⟩ ?_
      refine JO_read (vB true) rfl trivial (fun _ _ => x_pick_t rfl g4 rfl) ?_
      refine JO_nil (JX_cut (true) (by rw [g4]; simp) ⟨rfl, rfl, rfl, trivial⟩ (fun _ h => h))
    · have g4r := g4
      have ⟨g4r, h5⟩ := bor_false g4r
      have g4r := of_decide_eq_false g4r
      have h5 := of_decide_eq_false h5
      refine JO_read (vS s) rfl ⟨_, rfl, g4⟩ (fun _ _ => rfl) ?_
      refine JO_read (vU8 (s.getD 0 0)) rfl ⟨_, rfl, g4⟩ (fun _ _ => x_idx_s (k := 0) rfl rfl Tryd.underlying9 (by omega)) ?_
      refine JO_read (vB (decide (s.getD 0 0 < (65 : UInt8)))) rfl ⟨_, rfl, g4⟩ (fun _ _ => x_lss_u8 rfl rfl) ?_
      refine JO_read (vB (decide (s.getD 0 0 < (65 : UInt8)))) rfl trivial (fun _ _ => x_pick_f rfl g4 rfl) ?_
      refine JO_nil (JX_cut (decide (s.getD 0 0 < (65 : UInt8))) (by rw [g4]; simp) ⟨rfl, rfl, rfl, trivial⟩ (fun _ h => h))
  rintro z3 rfl
  refine JO_read (vB (((decide (((s.length : Nat) : Int) < 1)) || (decide ((8 : Int) < ((s.length : Nat) : Int)))) || (decide (s.getD 0 0 < (65 : UInt8))))) rfl trivial (fun _ _ => rfl) ?_
  refine JO_cut (X := Bool) 4 (fun z => z = ((((decide (((s.length : Nat) : Int) < 1)) || (decide ((8 : Int) < ((s.length : Nat) : Int)))) || (decide (s.getD 0 0 < (65 : UInt8)))) || (decide ((90 : UInt8) < s.getD 0 0)))) (fun z => [(0, vS s), (2, vB false), (21, vB z)]) (fun _ => []) ?_ ?_
  · rcases Bool.eq_false_or_eq_true (((decide (((s.length : Nat) : Int) < 1)) || (decide ((8 : Int) < ((s.length : Nat) : Int)))) || (decide (s.getD 0 0 < (65 : UInt8)))) with g7 | g7
    · have g7r := g7
      simp only [Bool.and_eq_true, Bool.or_eq_true, Bool.and_eq_false_iff, Bool.or_eq_false_iff, Bool.not_eq_true', Bool.not_eq_false', decide_eq_true_eq, decide_eq_false_iff_not] at g7r
      refine JO_shun rfl ⟨_, rfl, g7⟩ ?_
      refine JO_shun rfl ⟨_, rfl, g7⟩ ?_
      refine JO_shun rfl ⟨_, rfl, g7⟩ ?_
      refine JO_read (vB true) rfl trivial (fun _ _ => x_pick_t rfl g7 rfl) ?_
      refine JO_nil (JX_cut (true) (by rw [g7]; simp) ⟨rfl, rfl, rfl, trivial⟩ (fun _ h => h))
    · have g7r := g7
      have ⟨g7r, h8⟩ := bor_false g7r
      have ⟨g7r, h9⟩ := bor_false g7r
      have g7r := of_decide_eq_false g7r
      have h9 := of_decide_eq_false h9
      have h8 := of_decide_eq_false h8
      have h8u := h8
      try simp only [UInt8.lt_iff_toNat_lt, UInt8.le_iff_toNat_le, UInt8.reduceToNat, UInt32.lt_iff_toNat_lt, UInt32.le_iff_toNat_le, UInt32.reduceToNat, UInt64.lt_iff_toNat_lt, UInt64.le_iff_toNat_le, UInt64.reduceToNat] at h8u
      refine JO_read (vS s) rfl ⟨_, rfl, g7⟩ (fun _ _ => rfl) ?_
      refine JO_read (vU8 (s.getD 0 0)) rfl ⟨_, rfl, g7⟩ (fun _ _ => x_idx_s (k := 0) rfl rfl Tryd.underlying9 (by omega)) ?_
      refine JO_read (vB (decide ((90 : UInt8) < s.getD 0 0))) rfl ⟨_, rfl, g7⟩ (fun _ _ => x_gtr_u8 rfl rfl) ?_
      refine JO_read (vB (decide ((90 : UInt8) < s.getD 0 0))) rfl trivial (fun _ _ => x_pick_f rfl g7 rfl) ?_
      refine JO_nil (JX_cut (decide ((90 : UInt8) < s.getD 0 0)) (by rw [g7]; simp) ⟨rfl, rfl, rfl, trivial⟩ (fun _ h => h))
  rintro z6 rfl
  refine JO_nil ?_
  refine JX_then ?_
  refine J_cond ((((decide (((s.length : Nat) : Int) < 1)) || (decide ((8 : Int) < ((s.length : Nat) : Int)))) || (decide (s.getD 0 0 < (65 : UInt8)))) || (decide ((90 : UInt8) < s.getD 0 0))) rfl rfl (fun h10 => ?_) (fun h10 => ?_)
  · have h10w := h10
    simp only [Bool.and_eq_true, Bool.or_eq_true, Bool.and_eq_false_iff, Bool.or_eq_false_iff, Bool.not_eq_true', Bool.not_eq_false', decide_eq_true_eq, decide_eq_false_iff_not] at h10
    refine J_seq ?_
    refine J_region ?_
    refine JO_read (vB false) rfl trivial (fun _ _ => rfl) ?_
    refine JO_nil ?_
    refine JX_then ?_
    refine J_ret ?_
    refine JX_then_ret ?_
    refine JX_rets [vB false] (vB false) Tryd.results37 (fun w h => ⟨rfl, trivial⟩) rfl [] (fun _ h => h) ⟨?_, ?_⟩
    · have e_x0 : (false : Bool) = (R47.volName s) := by
        first | exact (R47.ref_bad (by assumption)).symm | exact (R47.ref_stop (k := k) (by omega) (by assumption)).symm | exact (R47.vol_all i1_1 i1_2 i1_3 (fun i hi => i1_4 i (by omega))).symm
      exact congrArg (fun (x0 : Bool) => vB x0) e_x0
    · rfl
  · have h10w := h10
    have ⟨h10, h11⟩ := bor_false h10
    have ⟨h10, h12⟩ := bor_false h10
    have ⟨h10, h13⟩ := bor_false h10
    have h10 := of_decide_eq_false h10
    have h13 := of_decide_eq_false h13
    have h12 := of_decide_eq_false h12
    have h12u := h12
    try simp only [UInt8.lt_iff_toNat_lt, UInt8.le_iff_toNat_le, UInt8.reduceToNat, UInt32.lt_iff_toNat_lt, UInt32.le_iff_toNat_le, UInt32.reduceToNat, UInt64.lt_iff_toNat_lt, UInt64.le_iff_toNat_le, UInt64.reduceToNat] at h12u
    have h11 := of_decide_eq_false h11
    have h11u := h11
    try simp only [UInt8.lt_iff_toNat_lt, UInt8.le_iff_toNat_le, UInt8.reduceToNat, UInt32.lt_iff_toNat_lt, UInt32.le_iff_toNat_le, UInt32.reduceToNat, UInt64.lt_iff_toNat_lt, UInt64.le_iff_toNat_le, UInt64.reduceToNat] at h11u
    refine J_skip ?_
    refine JX_then ?_
    refine J_seq ?_
    refine J_seq ?_
    refine J_region ?_
    refine JO_read (vI 0) rfl trivial (fun _ _ => rfl) ?_
    refine JO_nil ?_
    refine JX_then ?_
    refine J_block ?_
    refine J_loop (X := Nat) (fun (k : Nat) => (k ≤ s.length) ∧ (1 ≤ s.length) ∧ (s.length ≤ 8) ∧ (R47.letter (s.getD 0 0) = true) ∧ (∀ i, i < k → (R47.letter (s.getD i 0) || R47.digit (s.getD i 0)) = true)) (fun (k : Nat) => [(0, vS s), (3, vI ((k : Nat) : Int))]) (fun (k : Nat) => []) (fun (k : Nat) => s.length - k) (0 : Nat) ?_ ⟨rfl, rfl, trivial⟩ (fun _ h => h) ?_
    · show (0 ≤ s.length) ∧ (1 ≤ s.length) ∧ (s.length ≤ 8) ∧ (R47.letter (s.getD 0 0) = true) ∧ (∀ i, i < 0 → (R47.letter (s.getD i 0) || R47.digit (s.getD i 0)) = true)
      refine ⟨?_, ?_, ?_, ?_, ?_⟩
      · first | rfl | omega | (simp_all; done) | (simp_all; omega)
      · first | rfl | omega | (simp_all; done) | (simp_all; omega)
      · first | rfl | omega | (simp_all; done) | (simp_all; omega)
      · exact R47.vol_start (by assumption)
      · intro i hi; omega
    intro k hI1
    obtain ⟨i1_0, i1_1, i1_2, i1_3, i1_4⟩ : (k ≤ s.length) ∧ (1 ≤ s.length) ∧ (s.length ≤ 8) ∧ (R47.letter (s.getD 0 0) = true) ∧ (∀ i, i < k → (R47.letter (s.getD i 0) || R47.digit (s.getD i 0)) = true) := hI1
    refine J_weaken (E' := [(0, vS s), (3, vI ((k : Nat) : Int))]) (L' := []) ⟨rfl, rfl, trivial⟩ (fun _ h => h) ?_
    refine J_seq ?_
    refine J_seq ?_
    refine J_region ?_
    refine JO_read (vI ((k : Nat) : Int)) rfl trivial (fun _ _ => rfl) ?_
    refine JO_read (vS s) rfl trivial (fun _ _ => rfl) ?_
    refine JO_read (vI ((s.length : Nat) : Int)) rfl trivial (fun _ _ => x_len_s rfl Tryd.underlying9) ?_
    refine JO_read (vB (decide (((k : Nat) : Int) < ((s.length : Nat) : Int)))) rfl trivial (fun _ _ => x_lss_i rfl rfl) ?_
    refine JO_nil ?_
    refine JX_then ?_
    refine J_cond (decide (((k : Nat) : Int) < ((s.length : Nat) : Int))) rfl rfl (fun h14 => ?_) (fun h14 => ?_)
    · have h14w := h14
      have h14 := of_decide_eq_true h14
      refine J_skip ?_
      refine JX_then ?_
      refine J_seq ?_
      refine J_block ?_
      refine J_seq ?_
      refine J_region ?_
      refine JO_read (vS s) rfl trivial (fun _ _ => rfl) ?_
      refine JO_read (vI ((k : Nat) : Int)) rfl trivial (fun _ _ => rfl) ?_
      refine JO_read (vU8 (s.getD k 0)) rfl trivial (fun _ _ => x_idx_s (k := k) rfl rfl Tryd.underlying9 (by omega)) ?_
      refine JO_read (vB (decide (s.getD k 0 < (65 : UInt8)))) rfl trivial (fun _ _ => x_lss_u8 rfl rfl) ?_
      refine JO_read (vB (decide (s.getD k 0 < (65 : UInt8)))) rfl trivial (fun _ _ => rfl) ?_
      refine JO_cut (X := Bool) 5 (fun z => z = ((decide (s.getD k 0 < (65 : UInt8))) || (decide ((90 : UInt8) < s.getD k 0)))) (fun z => [(0, vS s), (3, vI ((k : Nat) : Int)), (37, vB z)]) (fun _ => []) ?_ ?_
      · rcases Bool.eq_false_or_eq_true (decide (s.getD k 0 < (65 : UInt8))) with g16 | g16
        · have g16r := g16
          have g16r := of_decide_eq_true g16r
          have g16ru := g16r
          try simp only [UInt8.lt_iff_toNat_lt, UInt8.le_iff_toNat_le, UInt8.reduceToNat, UInt32.lt_iff_toNat_lt, UInt32.le_iff_toNat_le, UInt32.reduceToNat, UInt64.lt_iff_toNat_lt, UInt64.le_iff_toNat_le, UInt64.reduceToNat] at g16ru
          refine JO_shun rfl ⟨_, rfl, g16⟩ ?_
          refine JO_shun rfl ⟨_, rfl, g16⟩ ?_
          refine JO_shun rfl ⟨_, rfl, g16⟩ ?_
          refine JO_shun rfl ⟨_, rfl, g16⟩ ?_
          refine JO_read (vB true) rfl trivial (fun _ _ => x_pick_t rfl g16 rfl) ?_
          refine JO_nil (JX_cut (true) (by rw [g16]; simp) ⟨rfl, rfl, rfl, trivial⟩ (fun _ h => h))
        · have g16r := g16
          have g16r := of_decide_eq_false g16r
          have g16ru := g16r
          try simp only [UInt8.lt_iff_toNat_lt, UInt8.le_iff_toNat_le, UInt8.reduceToNat, UInt32.lt_iff_toNat_lt, UInt32.le_iff_toNat_le, UInt32.reduceToNat, UInt64.lt_iff_toNat_lt, UInt64.le_iff_toNat_le, UInt64.reduceToNat] at g16ru
          refine JO_read (vS s) rfl ⟨_, rfl, g16⟩ (fun _ _ => rfl) ?_
          refine JO_read (vI ((k : Nat) : Int)) rfl ⟨_, rfl, g16⟩ (fun _ _ => rfl) ?_
          refine JO_read (vU8 (s.getD k 0)) rfl ⟨_, rfl, g16⟩ (fun _ _ => x_idx_s (k := k) rfl rfl Tryd.underlying9 (by omega)) ?_
          refine JO_read (vB (decide ((90 : UInt8) < s.getD k 0))) rfl ⟨_, rfl, g16⟩ (fun _ _ => x_gtr_u8 rfl rfl) ?_
          refine JO_read (vB (decide ((90 : UInt8) < s.getD k 0))) rfl trivial (fun _ _ => x_pick_f rfl g16 rfl) ?_
          refine JO_nil (JX_cut (decide ((90 : UInt8) < s.getD k 0)) (by rw [g16]; simp) ⟨rfl, rfl, rfl, trivial⟩ (fun _ h => h))
      rintro z15 rfl
      refine JO_read (vB ((decide (s.getD k 0 < (65 : UInt8))) || (decide ((90 : UInt8) < s.getD k 0)))) rfl trivial (fun _ _ => rfl) ?_
      refine JO_cut (X := Bool) 11 (fun z => z = (((decide (s.getD k 0 < (65 : UInt8))) || (decide ((90 : UInt8) < s.getD k 0))) && ((decide (s.getD k 0 < (48 : UInt8))) || (decide ((57 : UInt8) < s.getD k 0))))) (fun z => [(0, vS s), (3, vI ((k : Nat) : Int)), (49, vB z)]) (fun _ => []) ?_ ?_
      · rcases Bool.eq_false_or_eq_true ((decide (s.getD k 0 < (65 : UInt8))) || (decide ((90 : UInt8) < s.getD k 0))) with g18 | g18
        · have g18r := g18
          simp only [Bool.and_eq_true, Bool.or_eq_true, Bool.and_eq_false_iff, Bool.or_eq_false_iff, Bool.not_eq_true', Bool.not_eq_false', decide_eq_true_eq, decide_eq_false_iff_not] at g18r
          refine JO_read (vS s) rfl ⟨_, rfl, g18⟩ (fun _ _ => rfl) ?_
          refine JO_read (vI ((k : Nat) : Int)) rfl ⟨_, rfl, g18⟩ (fun _ _ => rfl) ?_
          refine JO_read (vU8 (s.getD k 0)) rfl ⟨_, rfl, g18⟩ (fun _ _ => x_idx_s (k := k) rfl rfl Tryd.underlying9 (by omega)) ?_
          refine JO_read (vB (decide (s.getD k 0 < (48 : UInt8)))) rfl ⟨_, rfl, g18⟩ (fun _ _ => x_lss_u8 rfl rfl) ?_
          refine JO_read (vB (decide (s.getD k 0 < (48 : UInt8)))) rfl ⟨_, rfl, g18⟩ (fun _ _ => rfl) ?_
          refine JO_cut (X := Bool) 5 (fun z => z = ((decide (s.getD k 0 < (48 : UInt8))) || (decide ((57 : UInt8) < s.getD k 0)))) (fun z => [(0, vS s), (3, vI ((k : Nat) : Int)), (38, vB ((decide (s.getD k 0 < (65 : UInt8))) || (decide ((90 : UInt8) < s.getD k 0)))), (48, vB z)]) (fun _ => []) ?_ ?_
          · rcases Bool.eq_false_or_eq_true (decide (s.getD k 0 < (48 : UInt8))) with g20 | g20
            · have g20r := g20
              have g20r := of_decide_eq_true g20r
              have g20ru := g20r
              try simp only [UInt8.lt_iff_toNat_lt, UInt8.le_iff_toNat_le, UInt8.reduceToNat, UInt32.lt_iff_toNat_lt, UInt32.le_iff_toNat_le, UInt32.reduceToNat, UInt64.lt_iff_toNat_lt, UInt64.le_iff_toNat_le, UInt64.reduceToNat] at g20ru
              refine JO_shun rfl ⟨_, rfl, g20⟩ ?_
              refine JO_shun rfl ⟨_, rfl, g20⟩ ?_
              refine JO_shun rfl ⟨_, rfl, g20⟩ ?_
              refine JO_shun rfl ⟨_, rfl, g20⟩ ?_
              refine JO_read (vB true) rfl ⟨_, rfl, g18⟩ (fun _ _ => x_pick_t rfl g20 rfl) ?_
              refine JO_nil (JX_cut (true) (by rw [g20]; simp) ⟨rfl, rfl, rfl, rfl, trivial⟩ (fun _ h => h))
            · have g20r := g20
              have g20r := of_decide_eq_false g20r
              have g20ru := g20r
              try simp only [UInt8.lt_iff_toNat_lt, UInt8.le_iff_toNat_le, UInt8.reduceToNat, UInt32.lt_iff_toNat_lt, UInt32.le_iff_toNat_le, UInt32.reduceToNat, UInt64.lt_iff_toNat_lt, UInt64.le_iff_toNat_le, UInt64.reduceToNat] at g20ru
              refine JO_read (vS s) rfl ⟨_, rfl, g20⟩ (fun _ _ => rfl) ?_
              refine JO_read (vI ((k : Nat) : Int)) rfl ⟨_, rfl, g20⟩ (fun _ _ => rfl) ?_
              refine JO_read (vU8 (s.getD k 0)) rfl ⟨_, rfl, g20⟩ (fun _ _ => x_idx_s (k := k) rfl rfl Tryd.underlying9 (by omega)) ?_
              refine JO_read (vB (decide ((57 : UInt8) < s.getD k 0))) rfl ⟨_, rfl, g20⟩ (fun _ _ => x_gtr_u8 rfl rfl) ?_
              refine JO_read (vB (decide ((57 : UInt8) < s.getD k 0))) rfl ⟨_, rfl, g18⟩ (fun _ _ => x_pick_f rfl g20 rfl) ?_
              refine JO_nil (JX_cut (decide ((57 : UInt8) < s.getD k 0)) (by rw [g20]; simp) ⟨rfl, rfl, rfl, rfl, trivial⟩ (fun _ h => h))
          rintro z19 rfl
          refine JO_read (vB ((decide (s.getD k 0 < (48 : UInt8))) || (decide ((57 : UInt8) < s.getD k 0)))) rfl trivial (fun _ _ => x_pick_t rfl g18 rfl) ?_
          refine JO_nil (JX_cut ((decide (s.getD k 0 < (48 : UInt8))) || (decide ((57 : UInt8) < s.getD k 0))) (by rw [g18]; simp) ⟨rfl, rfl, rfl, trivial⟩ (fun _ h => h))
        · have g18r := g18
          have ⟨g18r, h21⟩ := bor_false g18r
          have g18r := of_decide_eq_false g18r
          have g18ru := g18r
          try simp only [UInt8.lt_iff_toNat_lt, UInt8.le_iff_toNat_le, UInt8.reduceToNat, UInt32.lt_iff_toNat_lt, UInt32.le_iff_toNat_le, UInt32.reduceToNat, UInt64.lt_iff_toNat_lt, UInt64.le_iff_toNat_le, UInt64.reduceToNat] at g18ru
          have h21 := of_decide_eq_false h21
          have h21u := h21
          try simp only [UInt8.lt_iff_toNat_lt, UInt8.le_iff_toNat_le, UInt8.reduceToNat, UInt32.lt_iff_toNat_lt, UInt32.le_iff_toNat_le, UInt32.reduceToNat, UInt64.lt_iff_toNat_lt, UInt64.le_iff_toNat_le, UInt64.reduceToNat] at h21u
          refine JO_shun rfl ⟨_, rfl, g18⟩ ?_
          refine JO_shun rfl ⟨_, rfl, g18⟩ ?_
          refine JO_shun rfl ⟨_, rfl, g18⟩ ?_
          refine JO_shun rfl ⟨_, rfl, g18⟩ ?_
          refine JO_shun rfl ⟨_, rfl, g18⟩ ?_
          refine JO_shunU rfl ⟨_, rfl, rfl⟩ ?_
          refine JO_shunU rfl ⟨_, rfl, rfl⟩ ?_
          refine JO_shunU rfl ⟨_, rfl, rfl⟩ ?_
          refine JO_shunU rfl ⟨_, rfl, rfl⟩ ?_
          refine JO_shun rfl ⟨_, rfl, g18⟩ ?_
          refine JO_read (vB false) rfl trivial (fun _ _ => x_pick_f rfl g18 rfl) ?_
          refine JO_nil (JX_cut (false) (by rw [g18]; simp) ⟨rfl, rfl, rfl, trivial⟩ (fun _ h => h))
      rintro z17 rfl
      refine JO_nil ?_
      refine JX_then ?_
      refine J_cond (((decide (s.getD k 0 < (65 : UInt8))) || (decide ((90 : UInt8) < s.getD k 0))) && ((decide (s.getD k 0 < (48 : UInt8))) || (decide ((57 : UInt8) < s.getD k 0)))) rfl rfl (fun h22 => ?_) (fun h22 => ?_)
      · have h22w := h22
        have ⟨h22, h23⟩ := band_true h22
        simp only [Bool.and_eq_true, Bool.or_eq_true, Bool.and_eq_false_iff, Bool.or_eq_false_iff, Bool.not_eq_true', Bool.not_eq_false', decide_eq_true_eq, decide_eq_false_iff_not] at h22
        simp only [Bool.and_eq_true, Bool.or_eq_true, Bool.and_eq_false_iff, Bool.or_eq_false_iff, Bool.not_eq_true', Bool.not_eq_false', decide_eq_true_eq, decide_eq_false_iff_not] at h23
        refine J_seq ?_
        refine J_region ?_
        refine JO_read (vB false) rfl trivial (fun _ _ => rfl) ?_
        refine JO_nil ?_
        refine JX_then ?_
        refine J_ret ?_
        refine JX_block_ret ?_
        refine JX_then_ret ?_
        refine JX_round_ret ?_
        refine JX_block_ret ?_
        refine JX_then_ret ?_
        refine JX_rets [vB false] (vB false) Tryd.results37 (fun w h => ⟨rfl, trivial⟩) rfl [] (fun _ h => h) ⟨?_, ?_⟩
        · have e_x0 : (false : Bool) = (R47.volName s) := by
            first | exact (R47.ref_bad (by assumption)).symm | exact (R47.ref_stop (k := k) (by omega) (by assumption)).symm | exact (R47.vol_all i1_1 i1_2 i1_3 (fun i hi => i1_4 i (by omega))).symm
          exact congrArg (fun (x0 : Bool) => vB x0) e_x0
        · rfl
      · have h22w := h22
        simp only [Bool.and_eq_true, Bool.or_eq_true, Bool.and_eq_false_iff, Bool.or_eq_false_iff, Bool.not_eq_true', Bool.not_eq_false', decide_eq_true_eq, decide_eq_false_iff_not] at h22
        refine J_skip ?_
        refine JX_block ?_
        refine JX_then ?_
        refine J_region ?_
        refine JO_read (vI ((k : Nat) : Int)) rfl trivial (fun _ _ => rfl) ?_
        refine JO_read (vI ((k + 1 : Nat) : Int)) rfl trivial (fun _ _ => x_add_n (a := k) (b := 1) rfl rfl (by omega)) ?_
        refine JO_read (vI ((k + 1 : Nat) : Int)) rfl trivial (fun _ _ => rfl) ?_
        refine JO_nil ?_
        refine JX_round (k + 1 : Nat) ?_ ?_ ⟨rfl, rfl, trivial⟩ (fun _ h => h)
        · show ((k + 1) ≤ s.length) ∧ (1 ≤ s.length) ∧ (s.length ≤ 8) ∧ (R47.letter (s.getD 0 0) = true) ∧ (∀ i, i < (k + 1) → (R47.letter (s.getD i 0) || R47.digit (s.getD i 0)) = true)
          refine ⟨?_, ?_, ?_, ?_, ?_⟩
          · first | rfl | omega | (simp_all; done) | (simp_all; omega)
          · first | rfl | omega | (simp_all; done) | (simp_all; omega)
          · first | rfl | omega | (simp_all; done) | (simp_all; omega)
          · exact i1_3
          · intro i hi
            by_cases hik : i = k
            · subst hik; exact R47.ref_step (by assumption)
            · exact i1_4 i (by omega)
        · show s.length - (k + 1) < s.length - k
          first | omega | (simp; omega) | (simp_all; omega)
    · have h14w := h14
      have h14 := of_decide_eq_false h14
      refine J_exit ?_
      refine JX_then_exit ?_
      refine JX_round_exit ?_
      refine JX_block_hit ?_
      refine JX_then ?_
      refine J_seq ?_
      refine J_region ?_
      refine JO_read (vB true) rfl trivial (fun _ _ => rfl) ?_
      refine JO_nil ?_
      refine JX_then ?_
      refine J_ret ?_
      refine JX_rets [vB true] (vB true) Tryd.results37 (fun w h => ⟨rfl, trivial⟩) rfl [] (fun _ h => h) ⟨?_, ?_⟩
      · have e_x0 : (true : Bool) = (R47.volName s) := by
          first | exact (R47.ref_bad (by assumption)).symm | exact (R47.ref_stop (k := k) (by omega) (by assumption)).symm | exact (R47.vol_all i1_1 i1_2 i1_3 (fun i hi => i1_4 i (by omega))).symm
        exact congrArg (fun (x0 : Bool) => vB x0) e_x0
      · rfl

end Go.Proofs.YtknibpmmjhmjeaaDoor
