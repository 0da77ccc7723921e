/- contracts C26e -/
import Derived.Test.YtimjfpioenkbjaaC26d
namespace Go.Proofs.Ytimjfpioenkbjaa
open Go.GV
set_option linter.unusedVariables false
set_option linter.unusedSimpArgs false

set_option maxRecDepth 20000 in
theorem f30_ok (w : World) : Calls Try.prog 30 #[] w (Gives [] w fun v L => v = Value.tuple #[Value.agg ((DataSet.enc R26.exBase)).toArray, Value.agg ((DataSet.enc R26.exAlt)).toArray] ∧ L = []) := by
  refine calls_J [] 13 Try.func30 rfl Try.ntmps30 [] rfl rfl (Give.nil w) ?_
  refine J_seq ?_
  refine J_region ?_
  refine JO_op rfl trivial (O_alloc Ty.ze23 rfl fun b1 => ?_)
  refine JO_op rfl trivial (O_alloc Ty.ze23 rfl fun b2 => ?_)
  refine JO_nil ?_
  refine JX_then ?_
  refine J_seq ?_
  refine J_region ?_
  refine JO_read (Value.agg #[vI 3, vI 3, vI 0, vI 20, vI 0, vI 0, vI 3, vI 128, vI 2, vI 0, vI 0, vI 0, vI 0, vI 0, vB false, vI 0, vS [], vS [], vI 0, vI 0, vB false]) rfl trivial (fun _ _ => x_build (by kernel_rfl)) ?_
  refine JO_op rfl trivial (O_alloc Ty.ze23 rfl fun b3 => ?_)
  refine JO_op rfl trivial (O_storeS (vs := [vI 3, vI 3, vI 0, vI 20, vI 0, vI 0, vI 3, vI 128, vI 2, vI 0, vI 0, vI 0, vI 0, vI 0, vB false, vI 0, vS [], vS [], vI 0, vI 0, vB false]) 0 [vI 3, vI 3, vI 0, vI 20, vI 0, vI 0, vI 3, vI 128, vI 2, vI 0, vI 0, vI 0, vI 0, vI 0, vB false, vI 0, vS [], vS [], vI 0, vI 0, vB false] [Ent.blk b3 23 [vI 3, vI 3, vI 0, vI 20, vI 0, vI 0, vI 3, vI 128, vI 2, vI 0, vI 0, vI 0, vI 0, vI 0, vB false, vI 0, vS [], vS [], vI 0, vI 0, vB false], Ent.blk b2 23 [vI 0, vI 0, vI 0, vI 0, vI 0, vI 0, vI 0, vI 0, vI 0, vI 0, vI 0, vI 0, vI 0, vI 0, vB false, vI 0, vS [], vS [], vI 0, vI 0, vB false], Ent.blk b1 23 [vI 0, vI 0, vI 0, vI 0, vI 0, vI 0, vI 0, vI 0, vI 0, vI 0, vI 0, vI 0, vI 0, vI 0, vB false, vI 0, vS [], vS [], vI 0, vI 0, vB false]] rfl rfl rfl Ty.sz23 rfl (Nat.le_of_ble_eq_true rfl) rfl rfl rfl ?_)
  refine JO_nil ?_
  refine JX_then ?_
  refine J_seq ?_
  refine J_region ?_
  refine JO_read (Value.agg #[vI 3, vI 3, vI 0, vI 20, vI 0, vI 0, vI 3, vI 128, vI 2, vI 0, vI 0, vI 0, vI 0, vI 0, vB false, vI 0, vS [], vS [], vI 0, vI 0, vB false]) rfl trivial (x_loadN 0 [vI 3, vI 3, vI 0, vI 20, vI 0, vI 0, vI 3, vI 128, vI 2, vI 0, vI 0, vI 0, vI 0, vI 0, vB false, vI 0, vS [], vS [], vI 0, vI 0, vB false] rfl rfl Ty.ag23 Ty.sz23 rfl) ?_
  refine JO_call [] [] [Ent.blk b3 23 [vI 3, vI 3, vI 0, vI 20, vI 0, vI 0, vI 3, vI 128, vI 2, vI 0, vI 0, vI 0, vI 0, vI 0, vB false, vI 0, vS [], vS [], vI 0, vI 0, vB false], Ent.blk b2 23 [vI 0, vI 0, vI 0, vI 0, vI 0, vI 0, vI 0, vI 0, vI 0, vI 0, vI 0, vI 0, vI 0, vI 0, vB false, vI 0, vS [], vS [], vI 0, vI 0, vB false], Ent.blk b1 23 [vI 0, vI 0, vI 0, vI 0, vI 0, vI 0, vI 0, vI 0, vI 0, vI 0, vI 0, vI 0, vI 0, vI 0, vB false, vI 0, vS [], vS [], vI 0, vI 0, vB false]] rfl trivial (fun _ => x_call Ty.ca11 rfl) (fun _ h => h) (fun _ h => by cases h) (fun w hS => f11_ok (DataSet.mk 3 3 0 20 0 0 3 128 2 0 0 0 0 0 false 0 [] [] 0 0 false) 4 5 2 false w) ?_
  rintro _ _ ⟨rfl, rfl⟩
  refine JO_read (Value.tuple #[Value.agg ((DataSet.enc ((R26.describe (DataSet.mk 3 3 0 20 0 0 3 128 2 0 0 0 0 0 false 0 [] [] 0 0 false) 4 5 2 false).1))).toArray, vI ((R26.describe (DataSet.mk 3 3 0 20 0 0 3 128 2 0 0 0 0 0 false 0 [] [] 0 0 false) 4 5 2 false).2)]) rfl trivial (fun _ _ => rfl) ?_
  refine JO_read (Value.agg ((DataSet.enc ((R26.describe (DataSet.mk 3 3 0 20 0 0 3 128 2 0 0 0 0 0 false 0 [] [] 0 0 false) 4 5 2 false).1))).toArray) rfl trivial (fun _ _ => rfl) ?_
  refine JO_read (vI ((R26.describe (DataSet.mk 3 3 0 20 0 0 3 128 2 0 0 0 0 0 false 0 [] [] 0 0 false) 4 5 2 false).2)) rfl trivial (fun _ _ => rfl) ?_
  refine JO_op rfl trivial (O_alloc Ty.ze23 rfl fun b4 => ?_)
  refine JO_op rfl trivial (O_storeS (vs := (DataSet.enc ((R26.describe (DataSet.mk 3 3 0 20 0 0 3 128 2 0 0 0 0 0 false 0 [] [] 0 0 false) 4 5 2 false).1))) 0 (DataSet.enc ((R26.describe (DataSet.mk 3 3 0 20 0 0 3 128 2 0 0 0 0 0 false 0 [] [] 0 0 false) 4 5 2 false).1)) [Ent.blk b4 23 (DataSet.enc ((R26.describe (DataSet.mk 3 3 0 20 0 0 3 128 2 0 0 0 0 0 false 0 [] [] 0 0 false) 4 5 2 false).1)), Ent.blk b3 23 [vI 3, vI 3, vI 0, vI 20, vI 0, vI 0, vI 3, vI 128, vI 2, vI 0, vI 0, vI 0, vI 0, vI 0, vB false, vI 0, vS [], vS [], vI 0, vI 0, vB false], Ent.blk b2 23 [vI 0, vI 0, vI 0, vI 0, vI 0, vI 0, vI 0, vI 0, vI 0, vI 0, vI 0, vI 0, vI 0, vI 0, vB false, vI 0, vS [], vS [], vI 0, vI 0, vB false], Ent.blk b1 23 [vI 0, vI 0, vI 0, vI 0, vI 0, vI 0, vI 0, vI 0, vI 0, vI 0, vI 0, vI 0, vI 0, vI 0, vB false, vI 0, vS [], vS [], vI 0, vI 0, vB false]] rfl rfl rfl Ty.sz23 rfl (Nat.le_of_ble_eq_true rfl) rfl rfl rfl ?_)
  refine JO_read (vI ((R26.describe (DataSet.mk 3 3 0 20 0 0 3 128 2 0 0 0 0 0 false 0 [] [] 0 0 false) 4 5 2 false).2)) rfl trivial (fun _ _ => rfl) ?_
  refine JO_nil ?_
  refine JX_then ?_
  refine J_seq ?_
  refine J_draw [Ent.blk b4 23 (DataSet.enc ((R26.describe (DataSet.mk 3 3 0 20 0 0 3 128 2 0 0 0 0 0 false 0 [] [] 0 0 false) 4 5 2 false).1)), Ent.blk b3 23 [vI 3, vI 3, vI 0, vI 20, vI 0, vI 0, vI 3, vI 128, vI 2, vI 0, vI 0, vI 0, vI 0, vI 0, vB false, vI 0, vS [], vS [], vI 0, vI 0, vB false]] [2, 3] [Ent.blk b4 23 (DataSet.enc ((R26.describe (DataSet.mk 3 3 0 20 0 0 3 128 2 0 0 0 0 0 false 0 [] [] 0 0 false) 4 5 2 false).1)), Ent.blk b3 23 [vI 3, vI 3, vI 0, vI 20, vI 0, vI 0, vI 3, vI 128, vI 2, vI 0, vI 0, vI 0, vI 0, vI 0, vB false, vI 0, vS [], vS [], vI 0, vI 0, vB false], Ent.blk b2 23 [vI 0, vI 0, vI 0, vI 0, vI 0, vI 0, vI 0, vI 0, vI 0, vI 0, vI 0, vI 0, vI 0, vI 0, vB false, vI 0, vS [], vS [], vI 0, vI 0, vB false], Ent.blk b1 23 [vI 0, vI 0, vI 0, vI 0, vI 0, vI 0, vI 0, vI 0, vI 0, vI 0, vI 0, vI 0, vI 0, vI 0, vB false, vI 0, vS [], vS [], vI 0, vI 0, vB false]] 4 Ty.mixed rfl ?_
  refine JA_take 0 (Value.agg #[vI 3, vI 3, vI 0, vI 20, vI 0, vI 0, vI 3, vI 128, vI 2, vI 0, vI 0, vI 0, vI 0, vI 0, vB false, vI 0, vS [], vS [], vI 0, vI 0, vB false]) rfl (by kernel_rfl) (by kernel_rfl) (by kernel_rfl) rfl (fun _ _ _ h => h) rfl trivial (x_loadN 1 [vI 3, vI 3, vI 0, vI 20, vI 0, vI 0, vI 3, vI 128, vI 2, vI 0, vI 0, vI 0, vI 0, vI 0, vB false, vI 0, vS [], vS [], vI 0, vI 0, vB false] rfl rfl Ty.ag23 Ty.sz23 rfl) ?_
  refine JA_take 1 (Value.agg ((DataSet.enc ((R26.describe (DataSet.mk 3 3 0 20 0 0 3 128 2 0 0 0 0 0 false 0 [] [] 0 0 false) 4 5 2 false).1))).toArray) rfl (by kernel_rfl) (by kernel_rfl) (by kernel_rfl) rfl (fun _ _ _ h => h) rfl trivial (x_loadN 0 (DataSet.enc ((R26.describe (DataSet.mk 3 3 0 20 0 0 3 128 2 0 0 0 0 0 false 0 [] [] 0 0 false) 4 5 2 false).1)) rfl rfl Ty.ag23 Ty.sz23 rfl) ?_
  refine JA_one 2 (by kernel_rfl) (fun _ h => ⟨h.keep [true, true, false, false] rfl, fun _ => h⟩) ?_
  refine JI_op rfl rfl trivial (O_storeS (vs := [vI 3, vI 3, vI 0, vI 20, vI 0, vI 0, vI 3, vI 128, vI 2, vI 0, vI 0, vI 0, vI 0, vI 0, vB false, vI 0, vS [], vS [], vI 0, vI 0, vB false]) 3 [vI 3, vI 3, vI 0, vI 20, vI 0, vI 0, vI 3, vI 128, vI 2, vI 0, vI 0, vI 0, vI 0, vI 0, vB false, vI 0, vS [], vS [], vI 0, vI 0, vB false] [Ent.blk b4 23 (DataSet.enc ((R26.describe (DataSet.mk 3 3 0 20 0 0 3 128 2 0 0 0 0 0 false 0 [] [] 0 0 false) 4 5 2 false).1)), Ent.blk b3 23 [vI 3, vI 3, vI 0, vI 20, vI 0, vI 0, vI 3, vI 128, vI 2, vI 0, vI 0, vI 0, vI 0, vI 0, vB false, vI 0, vS [], vS [], vI 0, vI 0, vB false], Ent.blk b2 23 [vI 0, vI 0, vI 0, vI 0, vI 0, vI 0, vI 0, vI 0, vI 0, vI 0, vI 0, vI 0, vI 0, vI 0, vB false, vI 0, vS [], vS [], vI 0, vI 0, vB false], Ent.blk b1 23 [vI 3, vI 3, vI 0, vI 20, vI 0, vI 0, vI 3, vI 128, vI 2, vI 0, vI 0, vI 0, vI 0, vI 0, vB false, vI 0, vS [], vS [], vI 0, vI 0, vB false]] rfl rfl rfl Ty.sz23 rfl (Nat.le_of_ble_eq_true rfl) rfl rfl rfl ?_)
  refine JA_one 3 (by kernel_rfl) (fun _ h => ⟨h.keep [true, true, false, false] rfl, fun hh => Bool.noConfusion (show false = true from hh)⟩) ?_
  refine JI_op rfl rfl trivial (O_storeS (vs := (DataSet.enc ((R26.describe (DataSet.mk 3 3 0 20 0 0 3 128 2 0 0 0 0 0 false 0 [] [] 0 0 false) 4 5 2 false).1))) 2 (DataSet.enc ((R26.describe (DataSet.mk 3 3 0 20 0 0 3 128 2 0 0 0 0 0 false 0 [] [] 0 0 false) 4 5 2 false).1)) [Ent.blk b4 23 (DataSet.enc ((R26.describe (DataSet.mk 3 3 0 20 0 0 3 128 2 0 0 0 0 0 false 0 [] [] 0 0 false) 4 5 2 false).1)), Ent.blk b3 23 [vI 3, vI 3, vI 0, vI 20, vI 0, vI 0, vI 3, vI 128, vI 2, vI 0, vI 0, vI 0, vI 0, vI 0, vB false, vI 0, vS [], vS [], vI 0, vI 0, vB false], Ent.blk b2 23 (DataSet.enc ((R26.describe (DataSet.mk 3 3 0 20 0 0 3 128 2 0 0 0 0 0 false 0 [] [] 0 0 false) 4 5 2 false).1)), Ent.blk b1 23 [vI 3, vI 3, vI 0, vI 20, vI 0, vI 0, vI 3, vI 128, vI 2, vI 0, vI 0, vI 0, vI 0, vI 0, vB false, vI 0, vS [], vS [], vI 0, vI 0, vB false]] rfl rfl rfl Ty.sz23 rfl (Nat.le_of_ble_eq_true rfl) rfl rfl rfl ?_)
  refine JA_done (by kernel_rfl) (fun _ h => ⟨h.keep [true, true, false, false] rfl, fun hh => Bool.noConfusion (show false = true from hh)⟩) ?_
  refine JX_then ?_
  refine J_ret ?_
  refine JX_rets [Value.agg #[vI 3, vI 3, vI 0, vI 20, vI 0, vI 0, vI 3, vI 128, vI 2, vI 0, vI 0, vI 0, vI 0, vI 0, vB false, vI 0, vS [], vS [], vI 0, vI 0, vB false], Value.agg ((DataSet.enc ((R26.describe (DataSet.mk 3 3 0 20 0 0 3 128 2 0 0 0 0 0 false 0 [] [] 0 0 false) 4 5 2 false).1))).toArray] (Value.tuple #[Value.agg #[vI 3, vI 3, vI 0, vI 20, vI 0, vI 0, vI 3, vI 128, vI 2, vI 0, vI 0, vI 0, vI 0, vI 0, vB false, vI 0, vS [], vS [], vI 0, vI 0, vB false], Value.agg ((DataSet.enc ((R26.describe (DataSet.mk 3 3 0 20 0 0 3 128 2 0 0 0 0 0 false 0 [] [] 0 0 false) 4 5 2 false).1))).toArray]) Try.results30 (fun w h => ⟨⟨_, rfl, load_blkN 3 [vI 3, vI 3, vI 0, vI 20, vI 0, vI 0, vI 3, vI 128, vI 2, vI 0, vI 0, vI 0, vI 0, vI 0, vB false, vI 0, vS [], vS [], vI 0, vI 0, vB false] h rfl Ty.ag23 Ty.sz23 rfl⟩, ⟨_, rfl, load_blkN 2 (DataSet.enc ((R26.describe (DataSet.mk 3 3 0 20 0 0 3 128 2 0 0 0 0 0 false 0 [] [] 0 0 false) 4 5 2 false).1)) h rfl Ty.ag23 Ty.sz23 rfl⟩, trivial⟩) rfl [] (fun _ h => h.keep [false, false, false, false] rfl) ⟨?_, ?_⟩
  · have e_x0 : ((DataSet.mk 3 3 0 20 0 0 3 128 2 0 0 0 0 0 false 0 [] [] 0 0 false) : DataSet) = R26.exBase := by
      first | rfl | omega | (simp_all; done) | (simp_all; omega)
    have e_x1 : (((R26.describe (DataSet.mk 3 3 0 20 0 0 3 128 2 0 0 0 0 0 false 0 [] [] 0 0 false) 4 5 2 false).1) : DataSet) = R26.exAlt := by
      first | rfl | omega | (simp_all; done) | (simp_all; omega)
    have e_all := (congr (congrArg (fun (x0 : DataSet) (x1 : DataSet) => Value.tuple #[Value.agg ((DataSet.enc x0)).toArray, Value.agg ((DataSet.enc x1)).toArray]) e_x0) e_x1)
    exact e_all
  · rfl

set_option maxRecDepth 20000 in
theorem f10_ok (w : World) : Calls Try.prog 10 #[] w (Gives [] w fun v L => v = vB true ∧ L = []) := by
  refine calls_J [] 65 Try.func10 rfl Try.ntmps10 [] rfl rfl (Give.nil w) ?_
  refine J_seq ?_
  refine J_region ?_
  refine JO_read (vB false) rfl trivial (fun _ _ => rfl) ?_
  refine JO_nil ?_
  refine JX_then ?_
  refine J_seq ?_
  refine J_region ?_
  refine JO_call [] [] [] rfl trivial (fun _ => x_call Ty.ca30 rfl) (fun _ h => h) (fun _ h => by cases h) (fun w hS => f30_ok w) ?_
  rintro _ _ ⟨rfl, rfl⟩
  refine JO_read (Value.tuple #[Value.agg ((DataSet.enc R26.exBase)).toArray, Value.agg ((DataSet.enc R26.exAlt)).toArray]) rfl trivial (fun _ _ => rfl) ?_
  refine JO_read (Value.agg ((DataSet.enc R26.exBase)).toArray) rfl trivial (fun _ _ => rfl) ?_
  refine JO_read (Value.agg ((DataSet.enc R26.exAlt)).toArray) rfl trivial (fun _ _ => rfl) ?_
  refine JO_op rfl trivial (O_alloc Ty.ze23 rfl fun b1 => ?_)
  refine JO_op rfl trivial (O_alloc Ty.ze23 rfl fun b2 => ?_)
  refine JO_op rfl trivial (O_storeS (vs := (DataSet.enc R26.exBase)) 1 (DataSet.enc R26.exBase) [Ent.blk b2 23 [vI 0, vI 0, vI 0, vI 0, vI 0, vI 0, vI 0, vI 0, vI 0, vI 0, vI 0, vI 0, vI 0, vI 0, vB false, vI 0, vS [], vS [], vI 0, vI 0, vB false], Ent.blk b1 23 (DataSet.enc R26.exBase)] rfl rfl rfl Ty.sz23 rfl (Nat.le_of_ble_eq_true rfl) rfl rfl rfl ?_)
  refine JO_op rfl trivial (O_storeS (vs := (DataSet.enc R26.exAlt)) 0 (DataSet.enc R26.exAlt) [Ent.blk b2 23 (DataSet.enc R26.exAlt), Ent.blk b1 23 (DataSet.enc R26.exBase)] rfl rfl rfl Ty.sz23 rfl (Nat.le_of_ble_eq_true rfl) rfl rfl rfl ?_)
  refine JO_nil ?_
  refine JX_then ?_
  refine J_seq ?_
  refine J_region ?_
  refine JO_read (Value.agg ((DataSet.enc R26.exAlt)).toArray) rfl trivial (x_loadN 0 (DataSet.enc R26.exAlt) rfl rfl Ty.ag23 Ty.sz23 rfl) ?_
  refine JO_call [] [] [Ent.blk b2 23 (DataSet.enc R26.exAlt), Ent.blk b1 23 (DataSet.enc R26.exBase)] rfl trivial (fun _ => x_call Ty.ca17 rfl) (fun _ h => h) (fun _ h => by cases h) (fun w hS => f17_ok R26.exAlt [48, 48, 55, 46, 46, 78, 89] w) ?_
  rintro _ _ ⟨rfl, rfl⟩
  refine JO_read (Value.tuple #[vS ((R26.key R26.exAlt [48, 48, 55, 46, 46, 78, 89]).1), vB ((R26.key R26.exAlt [48, 48, 55, 46, 46, 78, 89]).2)]) rfl trivial (fun _ _ => rfl) ?_
  refine JO_read (vS ((R26.key R26.exAlt [48, 48, 55, 46, 46, 78, 89]).1)) rfl trivial (fun _ _ => rfl) ?_
  refine JO_read (vB ((R26.key R26.exAlt [48, 48, 55, 46, 46, 78, 89]).2)) rfl trivial (fun _ _ => rfl) ?_
  refine JO_read (vS ((R26.key R26.exAlt [48, 48, 55, 46, 46, 78, 89]).1)) rfl trivial (fun _ _ => rfl) ?_
  refine JO_read (vB ((R26.key R26.exAlt [48, 48, 55, 46, 46, 78, 89]).2)) rfl trivial (fun _ _ => rfl) ?_
  refine JO_nil ?_
  refine JX_then ?_
  refine J_seq ?_
  refine J_region ?_
  refine JO_read (Value.agg ((DataSet.enc R26.exAlt)).toArray) rfl trivial (x_loadN 0 (DataSet.enc R26.exAlt) rfl rfl Ty.ag23 Ty.sz23 rfl) ?_
  refine JO_call [] [] [Ent.blk b2 23 (DataSet.enc R26.exAlt), Ent.blk b1 23 (DataSet.enc R26.exBase)] rfl trivial (fun _ => x_call Ty.ca19 rfl) (fun _ h => h) (fun _ h => by cases h) (fun w hS => f19_ok R26.exAlt [78, 89] [48, 48, 55] w) ?_
  rintro _ _ ⟨rfl, rfl⟩
  refine JO_read (Value.tuple #[vS ((R26.record R26.exAlt [78, 89] [48, 48, 55]).1), vI ((R26.record R26.exAlt [78, 89] [48, 48, 55]).2)]) rfl trivial (fun _ _ => rfl) ?_
  refine JO_read (vS ((R26.record R26.exAlt [78, 89] [48, 48, 55]).1)) rfl trivial (fun _ _ => rfl) ?_
  refine JO_read (vI ((R26.record R26.exAlt [78, 89] [48, 48, 55]).2)) rfl trivial (fun _ _ => rfl) ?_
  refine JO_read (vS ((R26.record R26.exAlt [78, 89] [48, 48, 55]).1)) rfl trivial (fun _ _ => rfl) ?_
  refine JO_read (vI ((R26.record R26.exAlt [78, 89] [48, 48, 55]).2)) rfl trivial (fun _ _ => rfl) ?_
  refine JO_nil ?_
  refine JX_then ?_
  refine J_seq ?_
  refine J_region ?_
  refine JO_read (Value.agg ((DataSet.enc R26.exAlt)).toArray) rfl trivial (x_loadN 0 (DataSet.enc R26.exAlt) rfl rfl Ty.ag23 Ty.sz23 rfl) ?_
  refine JO_call [] [] [Ent.blk b2 23 (DataSet.enc R26.exAlt), Ent.blk b1 23 (DataSet.enc R26.exBase)] rfl trivial (fun _ => x_call Ty.ca23 rfl) (fun _ h => h) (fun _ h => by cases h) (fun w hS => f23_ok R26.exAlt [78, 89] w) ?_
  rintro _ _ ⟨rfl, rfl⟩
  refine JO_read (Value.tuple #[Value.agg #[vS (((R26.span R26.exAlt [78, 89]).1).Low), vS (((R26.span R26.exAlt [78, 89]).1).High), vB (((R26.span R26.exAlt [78, 89]).1).End)], vI ((R26.span R26.exAlt [78, 89]).2)]) rfl trivial (fun _ _ => rfl) ?_
  refine JO_read (Value.agg #[vS (((R26.span R26.exAlt [78, 89]).1).Low), vS (((R26.span R26.exAlt [78, 89]).1).High), vB (((R26.span R26.exAlt [78, 89]).1).End)]) rfl trivial (fun _ _ => rfl) ?_
  refine JO_read (vI ((R26.span R26.exAlt [78, 89]).2)) rfl trivial (fun _ _ => rfl) ?_
  refine JO_op rfl trivial (O_alloc Ty.ze41 rfl fun b3 => ?_)
  refine JO_op rfl trivial (O_store 0 [vS (((R26.span R26.exAlt [78, 89]).1).Low), vS (((R26.span R26.exAlt [78, 89]).1).High), vB (((R26.span R26.exAlt [78, 89]).1).End)] [Ent.blk b3 41 [vS (((R26.span R26.exAlt [78, 89]).1).Low), vS (((R26.span R26.exAlt [78, 89]).1).High), vB (((R26.span R26.exAlt [78, 89]).1).End)], Ent.blk b2 23 (DataSet.enc R26.exAlt), Ent.blk b1 23 (DataSet.enc R26.exBase)] rfl rfl rfl Ty.sz41 rfl (Nat.le_of_ble_eq_true rfl) rfl rfl rfl ?_)
  refine JO_read (vI ((R26.span R26.exAlt [78, 89]).2)) rfl trivial (fun _ _ => rfl) ?_
  refine JO_nil ?_
  refine JX_then ?_
  refine J_seq ?_
  refine J_region ?_
  refine JO_read (Value.agg ((DataSet.enc R26.exBase)).toArray) rfl trivial (x_loadN 2 (DataSet.enc R26.exBase) rfl rfl Ty.ag23 Ty.sz23 rfl) ?_
  refine JO_read (Value.agg ((DataSet.enc R26.exAlt)).toArray) rfl trivial (x_loadN 1 (DataSet.enc R26.exAlt) rfl rfl Ty.ag23 Ty.sz23 rfl) ?_
  refine JO_call [] [] [Ent.blk b3 41 [vS (((R26.span R26.exAlt [78, 89]).1).Low), vS (((R26.span R26.exAlt [78, 89]).1).High), vB (((R26.span R26.exAlt [78, 89]).1).End)], Ent.blk b2 23 (DataSet.enc R26.exAlt), Ent.blk b1 23 (DataSet.enc R26.exBase)] rfl trivial (fun _ => x_call Ty.ca13 rfl) (fun _ h => h) (fun _ h => by cases h) (fun w hS => f13_ok R26.exBase R26.exAlt w) ?_
  rintro _ _ ⟨rfl, rfl⟩
  refine JO_read (vB (R26.valid R26.exBase R26.exAlt)) rfl trivial (fun _ _ => rfl) ?_
  refine JO_cut (X := Bool) 4 (fun z => z = ((R26.valid R26.exBase R26.exAlt) && (decide (R26.exAlt.KeyLength = 5)))) (fun z => [(0, vB false), (2, Value.pointer (some ⟨b2, 0, none⟩)), (3, vS ((R26.key R26.exAlt [48, 48, 55, 46, 46, 78, 89]).1)), (4, vB ((R26.key R26.exAlt [48, 48, 55, 46, 46, 78, 89]).2)), (5, vS ((R26.record R26.exAlt [78, 89] [48, 48, 55]).1)), (6, vI ((R26.record R26.exAlt [78, 89] [48, 48, 55]).2)), (7, Value.pointer (some ⟨b3, 0, none⟩)), (8, vI ((R26.span R26.exAlt [78, 89]).2)), (35, vB z)]) (fun _ => [Ent.blk b3 41 [vS (((R26.span R26.exAlt [78, 89]).1).Low), vS (((R26.span R26.exAlt [78, 89]).1).High), vB (((R26.span R26.exAlt [78, 89]).1).End)], Ent.blk b2 23 (DataSet.enc R26.exAlt), Ent.blk b1 23 (DataSet.enc R26.exBase)]) ?_ ?_
  · rcases Bool.eq_false_or_eq_true (R26.valid R26.exBase R26.exAlt) with g5 | g5
    · have g5r := g5
      have hi6 := R26.valid_facts g5r
      refine JO_read (Value.pointer (some ⟨b2, 6, none⟩)) rfl ⟨_, rfl, g5⟩ (fun _ _ => x_fieldAddr Ty.fi23_6 rfl rfl) ?_
      refine JO_read (vI R26.exAlt.KeyLength) rfl ⟨_, rfl, g5⟩ (x_load 1 rfl rfl Ty.sc3 rfl) ?_
      refine JO_read (vB (decide (R26.exAlt.KeyLength = 5))) rfl ⟨_, rfl, g5⟩ (fun _ _ => x_eql_i rfl rfl) ?_
      refine JO_read (vB (decide (R26.exAlt.KeyLength = 5))) rfl trivial (fun _ _ => x_pick_t rfl g5 rfl) ?_
      refine JO_nil (JX_cut (decide (R26.exAlt.KeyLength = 5)) (by rw [g5]; simp) ⟨rfl, rfl, rfl, rfl, rfl, rfl, rfl, rfl, rfl, trivial⟩ (fun _ h => h))
    · have g5r := g5
      refine JO_shun rfl ⟨_, rfl, g5⟩ ?_
      refine JO_shun rfl ⟨_, rfl, g5⟩ ?_
      refine JO_shun rfl ⟨_, rfl, g5⟩ ?_
      refine JO_read (vB false) rfl trivial (fun _ _ => x_pick_f rfl g5 rfl) ?_
      refine JO_nil (JX_cut (false) (by rw [g5]; simp) ⟨rfl, rfl, rfl, rfl, rfl, rfl, rfl, rfl, rfl, trivial⟩ (fun _ h => h))
  rintro z4 rfl
  refine JO_read (vB ((R26.valid R26.exBase R26.exAlt) && (decide (R26.exAlt.KeyLength = 5)))) rfl trivial (fun _ _ => rfl) ?_
  refine JO_cut (X := Bool) 4 (fun z => z = (((R26.valid R26.exBase R26.exAlt) && (decide (R26.exAlt.KeyLength = 5))) && (decide (R26.exAlt.Interval = 128)))) (fun z => [(0, vB false), (3, vS ((R26.key R26.exAlt [48, 48, 55, 46, 46, 78, 89]).1)), (4, vB ((R26.key R26.exAlt [48, 48, 55, 46, 46, 78, 89]).2)), (5, vS ((R26.record R26.exAlt [78, 89] [48, 48, 55]).1)), (6, vI ((R26.record R26.exAlt [78, 89] [48, 48, 55]).2)), (7, Value.pointer (some ⟨b3, 0, none⟩)), (8, vI ((R26.span R26.exAlt [78, 89]).2)), (40, vB z)]) (fun _ => [Ent.blk b3 41 [vS (((R26.span R26.exAlt [78, 89]).1).Low), vS (((R26.span R26.exAlt [78, 89]).1).High), vB (((R26.span R26.exAlt [78, 89]).1).End)], Ent.blk b2 23 (DataSet.enc R26.exAlt), Ent.blk b1 23 (DataSet.enc R26.exBase)]) ?_ ?_
  · rcases Bool.eq_false_or_eq_true ((R26.valid R26.exBase R26.exAlt) && (decide (R26.exAlt.KeyLength = 5))) with g8 | g8
    · have g8r := g8
      have ⟨g8r, h9⟩ := band_true g8r
      have hi10 := R26.valid_facts g8r
      have h9 := of_decide_eq_true h9
      refine JO_read (Value.pointer (some ⟨b2, 7, none⟩)) rfl ⟨_, rfl, g8⟩ (fun _ _ => x_fieldAddr Ty.fi23_7 rfl rfl) ?_
      refine JO_read (vI R26.exAlt.Interval) rfl ⟨_, rfl, g8⟩ (x_load 1 rfl rfl Ty.sc3 rfl) ?_
      refine JO_read (vB (decide (R26.exAlt.Interval = 128))) rfl ⟨_, rfl, g8⟩ (fun _ _ => x_eql_i rfl rfl) ?_
      refine JO_read (vB (decide (R26.exAlt.Interval = 128))) rfl trivial (fun _ _ => x_pick_t rfl g8 rfl) ?_
      refine JO_nil (JX_cut (decide (R26.exAlt.Interval = 128)) (by rw [g8]; simp) ⟨rfl, rfl, rfl, rfl, rfl, rfl, rfl, rfl, trivial⟩ (fun _ h => h))
    · have g8r := g8
      simp only [Bool.and_eq_true, Bool.or_eq_true, Bool.and_eq_false_iff, Bool.or_eq_false_iff, Bool.not_eq_true', Bool.not_eq_false', decide_eq_true_eq, decide_eq_false_iff_not] at g8r
      refine JO_shun rfl ⟨_, rfl, g8⟩ ?_
      refine JO_shun rfl ⟨_, rfl, g8⟩ ?_
      refine JO_shun rfl ⟨_, rfl, g8⟩ ?_
      refine JO_read (vB false) rfl trivial (fun _ _ => x_pick_f rfl g8 rfl) ?_
      refine JO_nil (JX_cut (false) (by rw [g8]; simp) ⟨rfl, rfl, rfl, rfl, rfl, rfl, rfl, rfl, trivial⟩ (fun _ h => h))
  rintro z7 rfl
  refine JO_read (vB (((R26.valid R26.exBase R26.exAlt) && (decide (R26.exAlt.KeyLength = 5))) && (decide (R26.exAlt.Interval = 128)))) rfl trivial (fun _ _ => rfl) ?_
  refine JO_cut (X := Bool) 3 (fun z => z = ((((R26.valid R26.exBase R26.exAlt) && (decide (R26.exAlt.KeyLength = 5))) && (decide (R26.exAlt.Interval = 128))) && (decide ((R26.key R26.exAlt [48, 48, 55, 46, 46, 78, 89]).1 = ([78, 89] : Bytes))))) (fun z => [(0, vB false), (4, vB ((R26.key R26.exAlt [48, 48, 55, 46, 46, 78, 89]).2)), (5, vS ((R26.record R26.exAlt [78, 89] [48, 48, 55]).1)), (6, vI ((R26.record R26.exAlt [78, 89] [48, 48, 55]).2)), (7, Value.pointer (some ⟨b3, 0, none⟩)), (8, vI ((R26.span R26.exAlt [78, 89]).2)), (44, vB z)]) (fun _ => [Ent.blk b3 41 [vS (((R26.span R26.exAlt [78, 89]).1).Low), vS (((R26.span R26.exAlt [78, 89]).1).High), vB (((R26.span R26.exAlt [78, 89]).1).End)], Ent.blk b2 23 (DataSet.enc R26.exAlt), Ent.blk b1 23 (DataSet.enc R26.exBase)]) ?_ ?_
  · rcases Bool.eq_false_or_eq_true (((R26.valid R26.exBase R26.exAlt) && (decide (R26.exAlt.KeyLength = 5))) && (decide (R26.exAlt.Interval = 128))) with g12 | g12
    · have g12r := g12
      have ⟨g12r, h13⟩ := band_true g12r
      have ⟨g12r, h14⟩ := band_true g12r
      have hi15 := R26.valid_facts g12r
      have h14 := of_decide_eq_true h14
      have h13 := of_decide_eq_true h13
      refine JO_read (vS ((R26.key R26.exAlt [48, 48, 55, 46, 46, 78, 89]).1)) rfl ⟨_, rfl, g12⟩ (fun _ _ => rfl) ?_
      refine JO_read (vB (decide ((R26.key R26.exAlt [48, 48, 55, 46, 46, 78, 89]).1 = ([78, 89] : Bytes)))) rfl ⟨_, rfl, g12⟩ (fun _ _ => x_eql_s rfl rfl) ?_
      refine JO_read (vB (decide ((R26.key R26.exAlt [48, 48, 55, 46, 46, 78, 89]).1 = ([78, 89] : Bytes)))) rfl trivial (fun _ _ => x_pick_t rfl g12 rfl) ?_
      refine JO_nil (JX_cut (decide ((R26.key R26.exAlt [48, 48, 55, 46, 46, 78, 89]).1 = ([78, 89] : Bytes))) (by rw [g12]; simp) ⟨rfl, rfl, rfl, rfl, rfl, rfl, rfl, trivial⟩ (fun _ h => h))
    · have g12r := g12
      simp only [Bool.and_eq_true, Bool.or_eq_true, Bool.and_eq_false_iff, Bool.or_eq_false_iff, Bool.not_eq_true', Bool.not_eq_false', decide_eq_true_eq, decide_eq_false_iff_not] at g12r
      refine JO_shun rfl ⟨_, rfl, g12⟩ ?_
      refine JO_shun rfl ⟨_, rfl, g12⟩ ?_
      refine JO_read (vB false) rfl trivial (fun _ _ => x_pick_f rfl g12 rfl) ?_
      refine JO_nil (JX_cut (false) (by rw [g12]; simp) ⟨rfl, rfl, rfl, rfl, rfl, rfl, rfl, trivial⟩ (fun _ h => h))
  rintro z11 rfl
  refine JO_read (vB ((((R26.valid R26.exBase R26.exAlt) && (decide (R26.exAlt.KeyLength = 5))) && (decide (R26.exAlt.Interval = 128))) && (decide ((R26.key R26.exAlt [48, 48, 55, 46, 46, 78, 89]).1 = ([78, 89] : Bytes))))) rfl trivial (fun _ _ => rfl) ?_
  refine JO_cut (X := Bool) 2 (fun z => z = (((((R26.valid R26.exBase R26.exAlt) && (decide (R26.exAlt.KeyLength = 5))) && (decide (R26.exAlt.Interval = 128))) && (decide ((R26.key R26.exAlt [48, 48, 55, 46, 46, 78, 89]).1 = ([78, 89] : Bytes)))) && ((R26.key R26.exAlt [48, 48, 55, 46, 46, 78, 89]).2))) (fun z => [(0, vB false), (5, vS ((R26.record R26.exAlt [78, 89] [48, 48, 55]).1)), (6, vI ((R26.record R26.exAlt [78, 89] [48, 48, 55]).2)), (7, Value.pointer (some ⟨b3, 0, none⟩)), (8, vI ((R26.span R26.exAlt [78, 89]).2)), (47, vB z)]) (fun _ => [Ent.blk b3 41 [vS (((R26.span R26.exAlt [78, 89]).1).Low), vS (((R26.span R26.exAlt [78, 89]).1).High), vB (((R26.span R26.exAlt [78, 89]).1).End)], Ent.blk b2 23 (DataSet.enc R26.exAlt), Ent.blk b1 23 (DataSet.enc R26.exBase)]) ?_ ?_
  · rcases Bool.eq_false_or_eq_true ((((R26.valid R26.exBase R26.exAlt) && (decide (R26.exAlt.KeyLength = 5))) && (decide (R26.exAlt.Interval = 128))) && (decide ((R26.key R26.exAlt [48, 48, 55, 46, 46, 78, 89]).1 = ([78, 89] : Bytes)))) with g17 | g17
    · have g17r := g17
      have ⟨g17r, h18⟩ := band_true g17r
      have ⟨g17r, h19⟩ := band_true g17r
      have ⟨g17r, h20⟩ := band_true g17r
      have hi21 := R26.valid_facts g17r
      have h20 := of_decide_eq_true h20
      have h19 := of_decide_eq_true h19
      have h18 := of_decide_eq_true h18
      refine JO_read (vB ((R26.key R26.exAlt [48, 48, 55, 46, 46, 78, 89]).2)) rfl ⟨_, rfl, g17⟩ (fun _ _ => rfl) ?_
      refine JO_read (vB ((R26.key R26.exAlt [48, 48, 55, 46, 46, 78, 89]).2)) rfl trivial (fun _ _ => x_pick_t rfl g17 rfl) ?_
      refine JO_nil (JX_cut ((R26.key R26.exAlt [48, 48, 55, 46, 46, 78, 89]).2) (by rw [g17]; simp) ⟨rfl, rfl, rfl, rfl, rfl, rfl, trivial⟩ (fun _ h => h))
    · have g17r := g17
      simp only [Bool.and_eq_true, Bool.or_eq_true, Bool.and_eq_false_iff, Bool.or_eq_false_iff, Bool.not_eq_true', Bool.not_eq_false', decide_eq_true_eq, decide_eq_false_iff_not] at g17r
      refine JO_shun rfl ⟨_, rfl, g17⟩ ?_
      refine JO_read (vB false) rfl trivial (fun _ _ => x_pick_f rfl g17 rfl) ?_
      refine JO_nil (JX_cut (false) (by rw [g17]; simp) ⟨rfl, rfl, rfl, rfl, rfl, rfl, trivial⟩ (fun _ h => h))
  rintro z16 rfl
  refine JO_read (vB (((((R26.valid R26.exBase R26.exAlt) && (decide (R26.exAlt.KeyLength = 5))) && (decide (R26.exAlt.Interval = 128))) && (decide ((R26.key R26.exAlt [48, 48, 55, 46, 46, 78, 89]).1 = ([78, 89] : Bytes)))) && ((R26.key R26.exAlt [48, 48, 55, 46, 46, 78, 89]).2))) rfl trivial (fun _ _ => rfl) ?_
  refine JO_cut (X := Bool) 3 (fun z => z = ((((((R26.valid R26.exBase R26.exAlt) && (decide (R26.exAlt.KeyLength = 5))) && (decide (R26.exAlt.Interval = 128))) && (decide ((R26.key R26.exAlt [48, 48, 55, 46, 46, 78, 89]).1 = ([78, 89] : Bytes)))) && ((R26.key R26.exAlt [48, 48, 55, 46, 46, 78, 89]).2)) && (decide ((R26.record R26.exAlt [78, 89] [48, 48, 55]).1 = ([78, 89, 48, 48, 55] : Bytes))))) (fun z => [(0, vB false), (6, vI ((R26.record R26.exAlt [78, 89] [48, 48, 55]).2)), (7, Value.pointer (some ⟨b3, 0, none⟩)), (8, vI ((R26.span R26.exAlt [78, 89]).2)), (51, vB z)]) (fun _ => [Ent.blk b3 41 [vS (((R26.span R26.exAlt [78, 89]).1).Low), vS (((R26.span R26.exAlt [78, 89]).1).High), vB (((R26.span R26.exAlt [78, 89]).1).End)], Ent.blk b2 23 (DataSet.enc R26.exAlt), Ent.blk b1 23 (DataSet.enc R26.exBase)]) ?_ ?_
  · rcases Bool.eq_false_or_eq_true (((((R26.valid R26.exBase R26.exAlt) && (decide (R26.exAlt.KeyLength = 5))) && (decide (R26.exAlt.Interval = 128))) && (decide ((R26.key R26.exAlt [48, 48, 55, 46, 46, 78, 89]).1 = ([78, 89] : Bytes)))) && ((R26.key R26.exAlt [48, 48, 55, 46, 46, 78, 89]).2)) with g23 | g23
    · have g23r := g23
      have ⟨g23r, h24⟩ := band_true g23r
      have ⟨g23r, h25⟩ := band_true g23r
      have ⟨g23r, h26⟩ := band_true g23r
      have ⟨g23r, h27⟩ := band_true g23r
      have hi28 := R26.valid_facts g23r
      have h27 := of_decide_eq_true h27
      have h26 := of_decide_eq_true h26
      have h25 := of_decide_eq_true h25
      have hi29 := R26.key_facts h24
      refine JO_read (vS ((R26.record R26.exAlt [78, 89] [48, 48, 55]).1)) rfl ⟨_, rfl, g23⟩ (fun _ _ => rfl) ?_
      refine JO_read (vB (decide ((R26.record R26.exAlt [78, 89] [48, 48, 55]).1 = ([78, 89, 48, 48, 55] : Bytes)))) rfl ⟨_, rfl, g23⟩ (fun _ _ => x_eql_s rfl rfl) ?_
      refine JO_read (vB (decide ((R26.record R26.exAlt [78, 89] [48, 48, 55]).1 = ([78, 89, 48, 48, 55] : Bytes)))) rfl trivial (fun _ _ => x_pick_t rfl g23 rfl) ?_
      refine JO_nil (JX_cut (decide ((R26.record R26.exAlt [78, 89] [48, 48, 55]).1 = ([78, 89, 48, 48, 55] : Bytes))) (by rw [g23]; simp) ⟨rfl, rfl, rfl, rfl, rfl, trivial⟩ (fun _ h => h))
    · have g23r := g23
      simp only [Bool.and_eq_true, Bool.or_eq_true, Bool.and_eq_false_iff, Bool.or_eq_false_iff, Bool.not_eq_true', Bool.not_eq_false', decide_eq_true_eq, decide_eq_false_iff_not] at g23r
      refine JO_shun rfl ⟨_, rfl, g23⟩ ?_
      refine JO_shun rfl ⟨_, rfl, g23⟩ ?_
      refine JO_read (vB false) rfl trivial (fun _ _ => x_pick_f rfl g23 rfl) ?_
      refine JO_nil (JX_cut (false) (by rw [g23]; simp) ⟨rfl, rfl, rfl, rfl, rfl, trivial⟩ (fun _ h => h))
  rintro z22 rfl
  refine JO_read (vB ((((((R26.valid R26.exBase R26.exAlt) && (decide (R26.exAlt.KeyLength = 5))) && (decide (R26.exAlt.Interval = 128))) && (decide ((R26.key R26.exAlt [48, 48, 55, 46, 46, 78, 89]).1 = ([78, 89] : Bytes)))) && ((R26.key R26.exAlt [48, 48, 55, 46, 46, 78, 89]).2)) && (decide ((R26.record R26.exAlt [78, 89] [48, 48, 55]).1 = ([78, 89, 48, 48, 55] : Bytes))))) rfl trivial (fun _ _ => rfl) ?_
  refine JO_cut (X := Bool) 3 (fun z => z = (((((((R26.valid R26.exBase R26.exAlt) && (decide (R26.exAlt.KeyLength = 5))) && (decide (R26.exAlt.Interval = 128))) && (decide ((R26.key R26.exAlt [48, 48, 55, 46, 46, 78, 89]).1 = ([78, 89] : Bytes)))) && ((R26.key R26.exAlt [48, 48, 55, 46, 46, 78, 89]).2)) && (decide ((R26.record R26.exAlt [78, 89] [48, 48, 55]).1 = ([78, 89, 48, 48, 55] : Bytes)))) && (decide ((R26.record R26.exAlt [78, 89] [48, 48, 55]).2 = 0)))) (fun z => [(0, vB false), (7, Value.pointer (some ⟨b3, 0, none⟩)), (8, vI ((R26.span R26.exAlt [78, 89]).2)), (55, vB z)]) (fun _ => [Ent.blk b3 41 [vS (((R26.span R26.exAlt [78, 89]).1).Low), vS (((R26.span R26.exAlt [78, 89]).1).High), vB (((R26.span R26.exAlt [78, 89]).1).End)], Ent.blk b2 23 (DataSet.enc R26.exAlt), Ent.blk b1 23 (DataSet.enc R26.exBase)]) ?_ ?_
  · rcases Bool.eq_false_or_eq_true ((((((R26.valid R26.exBase R26.exAlt) && (decide (R26.exAlt.KeyLength = 5))) && (decide (R26.exAlt.Interval = 128))) && (decide ((R26.key R26.exAlt [48, 48, 55, 46, 46, 78, 89]).1 = ([78, 89] : Bytes)))) && ((R26.key R26.exAlt [48, 48, 55, 46, 46, 78, 89]).2)) && (decide ((R26.record R26.exAlt [78, 89] [48, 48, 55]).1 = ([78, 89, 48, 48, 55] : Bytes)))) with g31 | g31
    · have g31r := g31
      have ⟨g31r, h32⟩ := band_true g31r
      have ⟨g31r, h33⟩ := band_true g31r
      have ⟨g31r, h34⟩ := band_true g31r
      have ⟨g31r, h35⟩ := band_true g31r
      have ⟨g31r, h36⟩ := band_true g31r
      have hi37 := R26.valid_facts g31r
      have h36 := of_decide_eq_true h36
      have h35 := of_decide_eq_true h35
      have h34 := of_decide_eq_true h34
      have hi38 := R26.key_facts h33
      have h32 := of_decide_eq_true h32
      refine JO_read (vI ((R26.record R26.exAlt [78, 89] [48, 48, 55]).2)) rfl ⟨_, rfl, g31⟩ (fun _ _ => rfl) ?_
      refine JO_read (vB (decide ((R26.record R26.exAlt [78, 89] [48, 48, 55]).2 = 0))) rfl ⟨_, rfl, g31⟩ (fun _ _ => x_eql_i rfl rfl) ?_
      refine JO_read (vB (decide ((R26.record R26.exAlt [78, 89] [48, 48, 55]).2 = 0))) rfl trivial (fun _ _ => x_pick_t rfl g31 rfl) ?_
      refine JO_nil (JX_cut (decide ((R26.record R26.exAlt [78, 89] [48, 48, 55]).2 = 0)) (by rw [g31]; simp) ⟨rfl, rfl, rfl, rfl, trivial⟩ (fun _ h => h))
    · have g31r := g31
      simp only [Bool.and_eq_true, Bool.or_eq_true, Bool.and_eq_false_iff, Bool.or_eq_false_iff, Bool.not_eq_true', Bool.not_eq_false', decide_eq_true_eq, decide_eq_false_iff_not] at g31r
      refine JO_shun rfl ⟨_, rfl, g31⟩ ?_
      refine JO_shun rfl ⟨_, rfl, g31⟩ ?_
      refine JO_read (vB false) rfl trivial (fun _ _ => x_pick_f rfl g31 rfl) ?_
      refine JO_nil (JX_cut (false) (by rw [g31]; simp) ⟨rfl, rfl, rfl, rfl, trivial⟩ (fun _ h => h))
  rintro z30 rfl
  refine JO_read (vB (((((((R26.valid R26.exBase R26.exAlt) && (decide (R26.exAlt.KeyLength = 5))) && (decide (R26.exAlt.Interval = 128))) && (decide ((R26.key R26.exAlt [48, 48, 55, 46, 46, 78, 89]).1 = ([78, 89] : Bytes)))) && ((R26.key R26.exAlt [48, 48, 55, 46, 46, 78, 89]).2)) && (decide ((R26.record R26.exAlt [78, 89] [48, 48, 55]).1 = ([78, 89, 48, 48, 55] : Bytes)))) && (decide ((R26.record R26.exAlt [78, 89] [48, 48, 55]).2 = 0)))) rfl trivial (fun _ _ => rfl) ?_
  refine JO_cut (X := Bool) 4 (fun z => z = ((((((((R26.valid R26.exBase R26.exAlt) && (decide (R26.exAlt.KeyLength = 5))) && (decide (R26.exAlt.Interval = 128))) && (decide ((R26.key R26.exAlt [48, 48, 55, 46, 46, 78, 89]).1 = ([78, 89] : Bytes)))) && ((R26.key R26.exAlt [48, 48, 55, 46, 46, 78, 89]).2)) && (decide ((R26.record R26.exAlt [78, 89] [48, 48, 55]).1 = ([78, 89, 48, 48, 55] : Bytes)))) && (decide ((R26.record R26.exAlt [78, 89] [48, 48, 55]).2 = 0))) && (decide ((((R26.span R26.exAlt [78, 89]).1) : Range) = (Range.mk [78, 89] [78, 89, 255, 255, 255] false))))) (fun z => [(0, vB false), (8, vI ((R26.span R26.exAlt [78, 89]).2)), (60, vB z)]) (fun _ => [Ent.blk b3 41 [vS (((R26.span R26.exAlt [78, 89]).1).Low), vS (((R26.span R26.exAlt [78, 89]).1).High), vB (((R26.span R26.exAlt [78, 89]).1).End)], Ent.blk b2 23 (DataSet.enc R26.exAlt), Ent.blk b1 23 (DataSet.enc R26.exBase)]) ?_ ?_
  · rcases Bool.eq_false_or_eq_true (((((((R26.valid R26.exBase R26.exAlt) && (decide (R26.exAlt.KeyLength = 5))) && (decide (R26.exAlt.Interval = 128))) && (decide ((R26.key R26.exAlt [48, 48, 55, 46, 46, 78, 89]).1 = ([78, 89] : Bytes)))) && ((R26.key R26.exAlt [48, 48, 55, 46, 46, 78, 89]).2)) && (decide ((R26.record R26.exAlt [78, 89] [48, 48, 55]).1 = ([78, 89, 48, 48, 55] : Bytes)))) && (decide ((R26.record R26.exAlt [78, 89] [48, 48, 55]).2 = 0))) with g40 | g40
    · have g40r := g40
      have ⟨g40r, h41⟩ := band_true g40r
      have ⟨g40r, h42⟩ := band_true g40r
      have ⟨g40r, h43⟩ := band_true g40r
      have ⟨g40r, h44⟩ := band_true g40r
      have ⟨g40r, h45⟩ := band_true g40r
      have ⟨g40r, h46⟩ := band_true g40r
      have hi47 := R26.valid_facts g40r
      have h46 := of_decide_eq_true h46
      have h45 := of_decide_eq_true h45
      have h44 := of_decide_eq_true h44
      have hi48 := R26.key_facts h43
      have h42 := of_decide_eq_true h42
      have h41 := of_decide_eq_true h41
      refine JO_read (Value.agg #[vS (((R26.span R26.exAlt [78, 89]).1).Low), vS (((R26.span R26.exAlt [78, 89]).1).High), vB (((R26.span R26.exAlt [78, 89]).1).End)]) rfl ⟨_, rfl, g40⟩ (x_loadN 0 [vS (((R26.span R26.exAlt [78, 89]).1).Low), vS (((R26.span R26.exAlt [78, 89]).1).High), vB (((R26.span R26.exAlt [78, 89]).1).End)] rfl rfl Ty.ag41 Ty.sz41 rfl) ?_
      refine JO_read (Value.agg #[vS [78, 89], vS [78, 89, 255, 255, 255], vB false]) rfl ⟨_, rfl, g40⟩ (fun _ _ => x_build (by kernel_rfl)) ?_
      refine JO_read (vB (decide ((((R26.span R26.exAlt [78, 89]).1) : Range) = (Range.mk [78, 89] [78, 89, 255, 255, 255] false)))) rfl ⟨_, rfl, g40⟩ (fun _ _ => x_eql_agg rfl rfl Ty.eg41 (Ty.eq41 9998 ((R26.span R26.exAlt [78, 89]).1) (Range.mk [78, 89] [78, 89, 255, 255, 255] false))) ?_
      refine JO_read (vB (decide ((((R26.span R26.exAlt [78, 89]).1) : Range) = (Range.mk [78, 89] [78, 89, 255, 255, 255] false)))) rfl trivial (fun _ _ => x_pick_t rfl g40 rfl) ?_
      refine JO_nil (JX_cut (decide ((((R26.span R26.exAlt [78, 89]).1) : Range) = (Range.mk [78, 89] [78, 89, 255, 255, 255] false))) (by rw [g40]; simp) ⟨rfl, rfl, rfl, trivial⟩ (fun _ h => h))
    · have g40r := g40
      simp only [Bool.and_eq_true, Bool.or_eq_true, Bool.and_eq_false_iff, Bool.or_eq_false_iff, Bool.not_eq_true', Bool.not_eq_false', decide_eq_true_eq, decide_eq_false_iff_not] at g40r
      refine JO_shun rfl ⟨_, rfl, g40⟩ ?_
      refine JO_shun rfl ⟨_, rfl, g40⟩ ?_
      refine JO_shun rfl ⟨_, rfl, g40⟩ ?_
      refine JO_read (vB false) rfl trivial (fun _ _ => x_pick_f rfl g40 rfl) ?_
      refine JO_nil (JX_cut (false) (by rw [g40]; simp) ⟨rfl, rfl, rfl, trivial⟩ (fun _ h => h))
  rintro z39 rfl
  refine JO_read (vB ((((((((R26.valid R26.exBase R26.exAlt) && (decide (R26.exAlt.KeyLength = 5))) && (decide (R26.exAlt.Interval = 128))) && (decide ((R26.key R26.exAlt [48, 48, 55, 46, 46, 78, 89]).1 = ([78, 89] : Bytes)))) && ((R26.key R26.exAlt [48, 48, 55, 46, 46, 78, 89]).2)) && (decide ((R26.record R26.exAlt [78, 89] [48, 48, 55]).1 = ([78, 89, 48, 48, 55] : Bytes)))) && (decide ((R26.record R26.exAlt [78, 89] [48, 48, 55]).2 = 0))) && (decide ((((R26.span R26.exAlt [78, 89]).1) : Range) = (Range.mk [78, 89] [78, 89, 255, 255, 255] false))))) rfl trivial (fun _ _ => rfl) ?_
  refine JO_cut (X := Bool) 3 (fun z => z = (((((((((R26.valid R26.exBase R26.exAlt) && (decide (R26.exAlt.KeyLength = 5))) && (decide (R26.exAlt.Interval = 128))) && (decide ((R26.key R26.exAlt [48, 48, 55, 46, 46, 78, 89]).1 = ([78, 89] : Bytes)))) && ((R26.key R26.exAlt [48, 48, 55, 46, 46, 78, 89]).2)) && (decide ((R26.record R26.exAlt [78, 89] [48, 48, 55]).1 = ([78, 89, 48, 48, 55] : Bytes)))) && (decide ((R26.record R26.exAlt [78, 89] [48, 48, 55]).2 = 0))) && (decide ((((R26.span R26.exAlt [78, 89]).1) : Range) = (Range.mk [78, 89] [78, 89, 255, 255, 255] false)))) && (decide ((R26.span R26.exAlt [78, 89]).2 = 0)))) (fun z => [(0, vB false), (64, vB z)]) (fun _ => [Ent.blk b3 41 [vS (((R26.span R26.exAlt [78, 89]).1).Low), vS (((R26.span R26.exAlt [78, 89]).1).High), vB (((R26.span R26.exAlt [78, 89]).1).End)], Ent.blk b2 23 (DataSet.enc R26.exAlt), Ent.blk b1 23 (DataSet.enc R26.exBase)]) ?_ ?_
  · rcases Bool.eq_false_or_eq_true ((((((((R26.valid R26.exBase R26.exAlt) && (decide (R26.exAlt.KeyLength = 5))) && (decide (R26.exAlt.Interval = 128))) && (decide ((R26.key R26.exAlt [48, 48, 55, 46, 46, 78, 89]).1 = ([78, 89] : Bytes)))) && ((R26.key R26.exAlt [48, 48, 55, 46, 46, 78, 89]).2)) && (decide ((R26.record R26.exAlt [78, 89] [48, 48, 55]).1 = ([78, 89, 48, 48, 55] : Bytes)))) && (decide ((R26.record R26.exAlt [78, 89] [48, 48, 55]).2 = 0))) && (decide ((((R26.span R26.exAlt [78, 89]).1) : Range) = (Range.mk [78, 89] [78, 89, 255, 255, 255] false)))) with g50 | g50
    · have g50r := g50
      have ⟨g50r, h51⟩ := band_true g50r
      have ⟨g50r, h52⟩ := band_true g50r
      have ⟨g50r, h53⟩ := band_true g50r
      have ⟨g50r, h54⟩ := band_true g50r
      have ⟨g50r, h55⟩ := band_true g50r
      have ⟨g50r, h56⟩ := band_true g50r
      have ⟨g50r, h57⟩ := band_true g50r
      have hi58 := R26.valid_facts g50r
      have h57 := of_decide_eq_true h57
      have h56 := of_decide_eq_true h56
      have h55 := of_decide_eq_true h55
      have hi59 := R26.key_facts h54
      have h53 := of_decide_eq_true h53
      have h52 := of_decide_eq_true h52
      have h51 := of_decide_eq_true h51
      refine JO_read (vI ((R26.span R26.exAlt [78, 89]).2)) rfl ⟨_, rfl, g50⟩ (fun _ _ => rfl) ?_
      refine JO_read (vB (decide ((R26.span R26.exAlt [78, 89]).2 = 0))) rfl ⟨_, rfl, g50⟩ (fun _ _ => x_eql_i rfl rfl) ?_
      refine JO_read (vB (decide ((R26.span R26.exAlt [78, 89]).2 = 0))) rfl trivial (fun _ _ => x_pick_t rfl g50 rfl) ?_
      refine JO_nil (JX_cut (decide ((R26.span R26.exAlt [78, 89]).2 = 0)) (by rw [g50]; simp) ⟨rfl, rfl, trivial⟩ (fun _ h => h))
    · have g50r := g50
      simp only [Bool.and_eq_true, Bool.or_eq_true, Bool.and_eq_false_iff, Bool.or_eq_false_iff, Bool.not_eq_true', Bool.not_eq_false', decide_eq_true_eq, decide_eq_false_iff_not] at g50r
      refine JO_shun rfl ⟨_, rfl, g50⟩ ?_
      refine JO_shun rfl ⟨_, rfl, g50⟩ ?_
      refine JO_read (vB false) rfl trivial (fun _ _ => x_pick_f rfl g50 rfl) ?_
      refine JO_nil (JX_cut (false) (by rw [g50]; simp) ⟨rfl, rfl, trivial⟩ (fun _ h => h))
  rintro z49 rfl
  refine JO_read (vB (((((((((R26.valid R26.exBase R26.exAlt) && (decide (R26.exAlt.KeyLength = 5))) && (decide (R26.exAlt.Interval = 128))) && (decide ((R26.key R26.exAlt [48, 48, 55, 46, 46, 78, 89]).1 = ([78, 89] : Bytes)))) && ((R26.key R26.exAlt [48, 48, 55, 46, 46, 78, 89]).2)) && (decide ((R26.record R26.exAlt [78, 89] [48, 48, 55]).1 = ([78, 89, 48, 48, 55] : Bytes)))) && (decide ((R26.record R26.exAlt [78, 89] [48, 48, 55]).2 = 0))) && (decide ((((R26.span R26.exAlt [78, 89]).1) : Range) = (Range.mk [78, 89] [78, 89, 255, 255, 255] false)))) && (decide ((R26.span R26.exAlt [78, 89]).2 = 0)))) rfl trivial (fun _ _ => rfl) ?_
  refine JO_nil ?_
  refine JX_then ?_
  refine J_ret ?_
  refine JX_rets [vB (((((((((R26.valid R26.exBase R26.exAlt) && (decide (R26.exAlt.KeyLength = 5))) && (decide (R26.exAlt.Interval = 128))) && (decide ((R26.key R26.exAlt [48, 48, 55, 46, 46, 78, 89]).1 = ([78, 89] : Bytes)))) && ((R26.key R26.exAlt [48, 48, 55, 46, 46, 78, 89]).2)) && (decide ((R26.record R26.exAlt [78, 89] [48, 48, 55]).1 = ([78, 89, 48, 48, 55] : Bytes)))) && (decide ((R26.record R26.exAlt [78, 89] [48, 48, 55]).2 = 0))) && (decide ((((R26.span R26.exAlt [78, 89]).1) : Range) = (Range.mk [78, 89] [78, 89, 255, 255, 255] false)))) && (decide ((R26.span R26.exAlt [78, 89]).2 = 0)))] (vB (((((((((R26.valid R26.exBase R26.exAlt) && (decide (R26.exAlt.KeyLength = 5))) && (decide (R26.exAlt.Interval = 128))) && (decide ((R26.key R26.exAlt [48, 48, 55, 46, 46, 78, 89]).1 = ([78, 89] : Bytes)))) && ((R26.key R26.exAlt [48, 48, 55, 46, 46, 78, 89]).2)) && (decide ((R26.record R26.exAlt [78, 89] [48, 48, 55]).1 = ([78, 89, 48, 48, 55] : Bytes)))) && (decide ((R26.record R26.exAlt [78, 89] [48, 48, 55]).2 = 0))) && (decide ((((R26.span R26.exAlt [78, 89]).1) : Range) = (Range.mk [78, 89] [78, 89, 255, 255, 255] false)))) && (decide ((R26.span R26.exAlt [78, 89]).2 = 0)))) Try.results10 (fun w h => ⟨rfl, trivial⟩) rfl [] (fun _ h => h.keep [false, false, false] rfl) ⟨?_, ?_⟩
  · have e_x0 : (((((((((R26.valid R26.exBase R26.exAlt) && (decide (R26.exAlt.KeyLength = 5))) && (decide (R26.exAlt.Interval = 128))) && (decide ((R26.key R26.exAlt [48, 48, 55, 46, 46, 78, 89]).1 = ([78, 89] : Bytes)))) && ((R26.key R26.exAlt [48, 48, 55, 46, 46, 78, 89]).2)) && (decide ((R26.record R26.exAlt [78, 89] [48, 48, 55]).1 = ([78, 89, 48, 48, 55] : Bytes)))) && (decide ((R26.record R26.exAlt [78, 89] [48, 48, 55]).2 = 0))) && (decide ((((R26.span R26.exAlt [78, 89]).1) : Range) = (Range.mk [78, 89] [78, 89, 255, 255, 255] false)))) && (decide ((R26.span R26.exAlt [78, 89]).2 = 0)) : Bool) = true := by
      kernel_rfl
    exact congrArg (fun (x0 : Bool) => vB x0) e_x0
  · rfl

end Go.Proofs.Ytimjfpioenkbjaa
