/- contracts L26a -/
import Derived.Test.YtimjfpioenkbjaaC26e
namespace Go.Proofs.Ytimjfpioenkbjaa
open Go.GV
set_option linter.unusedVariables false
set_option linter.unusedSimpArgs false

set_option maxRecDepth 20000 in
theorem f3_ok (base : DataSet) (alt : DataSet) (id : Int) (pos : Int) (len : Int) (u : Bool) (w : World) : Calls Try.prog 3 #[Value.agg ((DataSet.enc base)).toArray, Value.agg ((DataSet.enc alt)).toArray, vI id, vI pos, vI len, vB u] w (Gives [] w fun v L => v = vB true ∧ L = []) := by
  refine calls_J [] 54 Try.func3 rfl Try.ntmps3 [(0, Value.agg ((DataSet.enc base)).toArray), (1, Value.agg ((DataSet.enc alt)).toArray), (2, vI id), (3, vI pos), (4, vI len), (5, vB u)] rfl rfl (Give.nil w) ?_
  refine J_seq ?_
  refine J_region ?_
  refine JO_op rfl trivial (O_box rfl rfl fun b1 => ?_)
  refine JO_op rfl trivial (O_box rfl rfl fun b2 => ?_)
  refine JO_read (vB false) rfl trivial (fun _ _ => rfl) ?_
  refine JO_nil ?_
  refine JX_then ?_
  refine J_seq ?_
  refine J_seq ?_
  refine J_region ?_
  refine JO_call [] [] [Ent.blk b2 23 (DataSet.enc alt), Ent.blk b1 23 (DataSet.enc base)] rfl trivial (fun _ => x_call Ty.ca10 rfl) (fun _ h => h) (fun _ h => by cases h) (fun w hS => f10_ok w) ?_
  rintro _ _ ⟨rfl, rfl⟩
  refine JO_read (vB false) rfl trivial (fun _ _ => rfl) ?_
  refine JO_nil ?_
  refine JX_then ?_
  refine J_cond false rfl rfl (fun h => by cases h) (fun h => ?_)
  refine J_skip ?_
  refine JX_then ?_
  refine J_seq ?_
  refine J_region ?_
  refine JO_read (Value.agg ((DataSet.enc base)).toArray) rfl trivial (x_loadN 1 (DataSet.enc base) rfl rfl Ty.ag23 Ty.sz23 rfl) ?_
  refine JO_read (vI id) rfl trivial (fun _ _ => rfl) ?_
  refine JO_read (vI pos) rfl trivial (fun _ _ => rfl) ?_
  refine JO_read (vI len) rfl trivial (fun _ _ => rfl) ?_
  refine JO_read (vB u) rfl trivial (fun _ _ => rfl) ?_
  refine JO_call [] [] [Ent.blk b2 23 (DataSet.enc alt), Ent.blk b1 23 (DataSet.enc base)] rfl trivial (fun _ => x_call Ty.ca11 rfl) (fun _ h => h) (fun _ h => by cases h) (fun w hS => f11_ok base id pos len u w) ?_
  rintro _ _ ⟨rfl, rfl⟩
  refine JO_read (Value.tuple #[Value.agg ((DataSet.enc ((R26.describe base id pos len u).1))).toArray, vI ((R26.describe base id pos len u).2)]) rfl trivial (fun _ _ => rfl) ?_
  refine JO_read (Value.agg ((DataSet.enc ((R26.describe base id pos len u).1))).toArray) rfl trivial (fun _ _ => rfl) ?_
  refine JO_read (vI ((R26.describe base id pos len u).2)) rfl trivial (fun _ _ => rfl) ?_
  refine JO_op rfl trivial (O_alloc Ty.ze23 rfl fun b3 => ?_)
  refine JO_op rfl trivial (O_storeS (vs := (DataSet.enc ((R26.describe base id pos len u).1))) 0 (DataSet.enc ((R26.describe base id pos len u).1)) [Ent.blk b3 23 (DataSet.enc ((R26.describe base id pos len u).1)), Ent.blk b2 23 (DataSet.enc alt), Ent.blk b1 23 (DataSet.enc base)] rfl rfl rfl Ty.sz23 rfl (Nat.le_of_ble_eq_true rfl) rfl rfl rfl ?_)
  refine JO_read (vI ((R26.describe base id pos len u).2)) rfl trivial (fun _ _ => rfl) ?_
  refine JO_nil ?_
  refine JX_then ?_
  refine J_seq ?_
  refine J_region ?_
  refine JO_read (Value.agg ((DataSet.enc base)).toArray) rfl trivial (x_loadN 2 (DataSet.enc base) rfl rfl Ty.ag23 Ty.sz23 rfl) ?_
  refine JO_read (vI id) rfl trivial (fun _ _ => rfl) ?_
  refine JO_read (vI pos) rfl trivial (fun _ _ => rfl) ?_
  refine JO_read (vI len) rfl trivial (fun _ _ => rfl) ?_
  refine JO_read (vB u) rfl trivial (fun _ _ => rfl) ?_
  refine JO_call [] [] [Ent.blk b3 23 (DataSet.enc ((R26.describe base id pos len u).1)), Ent.blk b2 23 (DataSet.enc alt), Ent.blk b1 23 (DataSet.enc base)] rfl trivial (fun _ => x_call Ty.ca12 rfl) (fun _ h => h) (fun _ h => by cases h) (fun w hS => f12_ok base id pos len u w) ?_
  rintro _ _ ⟨rfl, rfl⟩
  refine JO_read (Value.tuple #[Value.agg ((DataSet.enc ((R26.describe base id pos len u).1))).toArray, vI ((R26.describe base id pos len u).2)]) rfl trivial (fun _ _ => rfl) ?_
  refine JO_read (Value.agg ((DataSet.enc ((R26.describe base id pos len u).1))).toArray) rfl trivial (fun _ _ => rfl) ?_
  refine JO_read (vI ((R26.describe base id pos len u).2)) rfl trivial (fun _ _ => rfl) ?_
  refine JO_op rfl trivial (O_alloc Ty.ze23 rfl fun b4 => ?_)
  refine JO_op rfl trivial (O_storeS (vs := (DataSet.enc ((R26.describe base id pos len u).1))) 0 (DataSet.enc ((R26.describe base id pos len u).1)) [Ent.blk b4 23 (DataSet.enc ((R26.describe base id pos len u).1)), Ent.blk b3 23 (DataSet.enc ((R26.describe base id pos len u).1)), Ent.blk b2 23 (DataSet.enc alt), Ent.blk b1 23 (DataSet.enc base)] rfl rfl rfl Ty.sz23 rfl (Nat.le_of_ble_eq_true rfl) rfl rfl rfl ?_)
  refine JO_read (vI ((R26.describe base id pos len u).2)) rfl trivial (fun _ _ => rfl) ?_
  refine JO_nil ?_
  refine JX_then ?_
  refine J_seq ?_
  refine J_draw [Ent.blk b4 23 (DataSet.enc ((R26.describe base id pos len u).1)), Ent.blk b3 23 (DataSet.enc ((R26.describe base id pos len u).1)), Ent.blk b2 23 (DataSet.enc alt), Ent.blk b1 23 (DataSet.enc base)] [] [Ent.blk b4 23 (DataSet.enc ((R26.describe base id pos len u).1)), Ent.blk b3 23 (DataSet.enc ((R26.describe base id pos len u).1)), Ent.blk b2 23 (DataSet.enc alt), Ent.blk b1 23 (DataSet.enc base)] 18 Ty.mixed rfl ?_
  refine JA_take 0 (Value.agg ((DataSet.enc ((R26.describe base id pos len u).1))).toArray) rfl (by kernel_rfl) (by kernel_rfl) (by kernel_rfl) rfl (fun _ _ _ h => h) rfl trivial (x_loadN 1 (DataSet.enc ((R26.describe base id pos len u).1)) rfl rfl Ty.ag23 Ty.sz23 rfl) ?_
  refine JA_take 1 (Value.agg ((DataSet.enc ((R26.describe base id pos len u).1))).toArray) rfl (by kernel_rfl) (by kernel_rfl) (by kernel_rfl) rfl (fun _ _ _ h => h) rfl trivial (x_loadN 0 (DataSet.enc ((R26.describe base id pos len u).1)) rfl rfl Ty.ag23 Ty.sz23 rfl) ?_
  refine JA_take 2 (vB (decide ((((R26.describe base id pos len u).1) : DataSet) = ((R26.describe base id pos len u).1)))) rfl (by kernel_rfl) (by kernel_rfl) (by kernel_rfl) rfl (fun _ _ _ h => h) rfl trivial (fun _ _ => x_eql_agg rfl rfl Ty.eg23 (Ty.eq23 9998 ((R26.describe base id pos len u).1) ((R26.describe base id pos len u).1))) ?_
  refine JA_take 3 (vB (decide ((((R26.describe base id pos len u).1) : DataSet) = ((R26.describe base id pos len u).1)))) rfl (by kernel_rfl) (by kernel_rfl) (by kernel_rfl) rfl (fun _ _ _ h => h) rfl trivial (fun _ _ => rfl) ?_
  refine JA_bool (decide ((((R26.describe base id pos len u).1) : DataSet) = ((R26.describe base id pos len u).1))) [(0, Value.agg ((DataSet.enc base)).toArray), (1, Value.agg ((DataSet.enc alt)).toArray), (2, vI id), (3, vI pos), (4, vI len), (5, vB u), (6, Value.pointer (some ⟨b1, 0, none⟩)), (7, Value.pointer (some ⟨b2, 0, none⟩)), (12, vB false), (17, vB true), (18, vB false), (20, Value.agg ((DataSet.enc base)).toArray), (21, vI id), (22, vI pos), (23, vI len), (24, vB u), (25, Value.tuple #[Value.agg ((DataSet.enc ((R26.describe base id pos len u).1))).toArray, vI ((R26.describe base id pos len u).2)]), (19, Value.tuple #[Value.agg ((DataSet.enc ((R26.describe base id pos len u).1))).toArray, vI ((R26.describe base id pos len u).2)]), (26, Value.agg ((DataSet.enc ((R26.describe base id pos len u).1))).toArray), (27, vI ((R26.describe base id pos len u).2)), (13, Value.pointer (some ⟨b3, 0, none⟩)), (14, vI ((R26.describe base id pos len u).2)), (29, Value.agg ((DataSet.enc base)).toArray), (30, vI id), (31, vI pos), (32, vI len), (33, vB u), (34, Value.tuple #[Value.agg ((DataSet.enc ((R26.describe base id pos len u).1))).toArray, vI ((R26.describe base id pos len u).2)]), (28, Value.tuple #[Value.agg ((DataSet.enc ((R26.describe base id pos len u).1))).toArray, vI ((R26.describe base id pos len u).2)]), (35, Value.agg ((DataSet.enc ((R26.describe base id pos len u).1))).toArray), (36, vI ((R26.describe base id pos len u).2)), (15, Value.pointer (some ⟨b4, 0, none⟩)), (16, vI ((R26.describe base id pos len u).2)), (37, Value.agg ((DataSet.enc ((R26.describe base id pos len u).1))).toArray), (38, Value.agg ((DataSet.enc ((R26.describe base id pos len u).1))).toArray), (39, vB (decide ((((R26.describe base id pos len u).1) : DataSet) = ((R26.describe base id pos len u).1)))), (40, vB true)] [(0, Value.agg ((DataSet.enc base)).toArray), (1, Value.agg ((DataSet.enc alt)).toArray), (2, vI id), (3, vI pos), (4, vI len), (5, vB u), (6, Value.pointer (some ⟨b1, 0, none⟩)), (7, Value.pointer (some ⟨b2, 0, none⟩)), (12, vB false), (17, vB true), (18, vB false), (20, Value.agg ((DataSet.enc base)).toArray), (21, vI id), (22, vI pos), (23, vI len), (24, vB u), (25, Value.tuple #[Value.agg ((DataSet.enc ((R26.describe base id pos len u).1))).toArray, vI ((R26.describe base id pos len u).2)]), (19, Value.tuple #[Value.agg ((DataSet.enc ((R26.describe base id pos len u).1))).toArray, vI ((R26.describe base id pos len u).2)]), (26, Value.agg ((DataSet.enc ((R26.describe base id pos len u).1))).toArray), (27, vI ((R26.describe base id pos len u).2)), (13, Value.pointer (some ⟨b3, 0, none⟩)), (14, vI ((R26.describe base id pos len u).2)), (29, Value.agg ((DataSet.enc base)).toArray), (30, vI id), (31, vI pos), (32, vI len), (33, vB u), (34, Value.tuple #[Value.agg ((DataSet.enc ((R26.describe base id pos len u).1))).toArray, vI ((R26.describe base id pos len u).2)]), (28, Value.tuple #[Value.agg ((DataSet.enc ((R26.describe base id pos len u).1))).toArray, vI ((R26.describe base id pos len u).2)]), (35, Value.agg ((DataSet.enc ((R26.describe base id pos len u).1))).toArray), (36, vI ((R26.describe base id pos len u).2)), (15, Value.pointer (some ⟨b4, 0, none⟩)), (16, vI ((R26.describe base id pos len u).2)), (37, Value.agg ((DataSet.enc ((R26.describe base id pos len u).1))).toArray), (38, Value.agg ((DataSet.enc ((R26.describe base id pos len u).1))).toArray), (39, vB (decide ((((R26.describe base id pos len u).1) : DataSet) = ((R26.describe base id pos len u).1)))), (40, vB false)] (fun hb => ⟨rfl, rfl, rfl, rfl, rfl, rfl, rfl, rfl, rfl, rfl, rfl, rfl, rfl, rfl, rfl, rfl, rfl, rfl, rfl, rfl, rfl, rfl, rfl, rfl, rfl, rfl, rfl, rfl, rfl, rfl, rfl, rfl, rfl, rfl, rfl, rfl, congrArg (fun b => some (vB b)) hb, trivial⟩) (fun hb => ⟨rfl, rfl, rfl, rfl, rfl, rfl, rfl, rfl, rfl, rfl, rfl, rfl, rfl, rfl, rfl, rfl, rfl, rfl, rfl, rfl, rfl, rfl, rfl, rfl, rfl, rfl, rfl, rfl, rfl, rfl, rfl, rfl, rfl, rfl, rfl, rfl, congrArg (fun b => some (vB b)) hb, trivial⟩) (fun h5 => ?_) (fun h5 => ?_)
  · have h5 := of_decide_eq_true h5
    refine JA_take 4 (vI ((R26.describe base id pos len u).2)) rfl (by kernel_rfl) (by kernel_rfl) (by kernel_rfl) rfl (fun _ _ _ h => h) rfl ⟨_, rfl, rfl⟩ (fun _ _ => rfl) ?_
    refine JA_take 5 (vI ((R26.describe base id pos len u).2)) rfl (by kernel_rfl) (by kernel_rfl) (by kernel_rfl) rfl (fun _ _ _ h => h) rfl ⟨_, rfl, rfl⟩ (fun _ _ => rfl) ?_
    refine JA_take 6 (vB (decide ((R26.describe base id pos len u).2 = (R26.describe base id pos len u).2))) rfl (by kernel_rfl) (by kernel_rfl) (by kernel_rfl) rfl (fun _ _ _ h => h) rfl ⟨_, rfl, rfl⟩ (fun _ _ => x_eql_i rfl rfl) ?_
    refine JA_take 7 (vB (decide ((R26.describe base id pos len u).2 = (R26.describe base id pos len u).2))) rfl (by kernel_rfl) (by kernel_rfl) (by kernel_rfl) rfl (fun _ _ _ h => h) rfl trivial (fun _ _ => rfl) ?_
    refine JA_take 8 (vB (decide ((R26.describe base id pos len u).2 = (R26.describe base id pos len u).2))) rfl (by kernel_rfl) (by kernel_rfl) (by kernel_rfl) rfl (fun _ _ _ h => h) rfl trivial (fun _ _ => rfl) ?_
    refine JA_bool (decide ((R26.describe base id pos len u).2 = (R26.describe base id pos len u).2)) [(0, Value.agg ((DataSet.enc base)).toArray), (1, Value.agg ((DataSet.enc alt)).toArray), (2, vI id), (3, vI pos), (4, vI len), (5, vB u), (6, Value.pointer (some ⟨b1, 0, none⟩)), (7, Value.pointer (some ⟨b2, 0, none⟩)), (12, vB false), (17, vB true), (18, vB false), (20, Value.agg ((DataSet.enc base)).toArray), (21, vI id), (22, vI pos), (23, vI len), (24, vB u), (25, Value.tuple #[Value.agg ((DataSet.enc ((R26.describe base id pos len u).1))).toArray, vI ((R26.describe base id pos len u).2)]), (19, Value.tuple #[Value.agg ((DataSet.enc ((R26.describe base id pos len u).1))).toArray, vI ((R26.describe base id pos len u).2)]), (26, Value.agg ((DataSet.enc ((R26.describe base id pos len u).1))).toArray), (27, vI ((R26.describe base id pos len u).2)), (13, Value.pointer (some ⟨b3, 0, none⟩)), (14, vI ((R26.describe base id pos len u).2)), (29, Value.agg ((DataSet.enc base)).toArray), (30, vI id), (31, vI pos), (32, vI len), (33, vB u), (34, Value.tuple #[Value.agg ((DataSet.enc ((R26.describe base id pos len u).1))).toArray, vI ((R26.describe base id pos len u).2)]), (28, Value.tuple #[Value.agg ((DataSet.enc ((R26.describe base id pos len u).1))).toArray, vI ((R26.describe base id pos len u).2)]), (35, Value.agg ((DataSet.enc ((R26.describe base id pos len u).1))).toArray), (36, vI ((R26.describe base id pos len u).2)), (15, Value.pointer (some ⟨b4, 0, none⟩)), (16, vI ((R26.describe base id pos len u).2)), (37, Value.agg ((DataSet.enc ((R26.describe base id pos len u).1))).toArray), (38, Value.agg ((DataSet.enc ((R26.describe base id pos len u).1))).toArray), (39, vB (decide ((((R26.describe base id pos len u).1) : DataSet) = ((R26.describe base id pos len u).1)))), (40, vB true), (41, vI ((R26.describe base id pos len u).2)), (42, vI ((R26.describe base id pos len u).2)), (43, vB (decide ((R26.describe base id pos len u).2 = (R26.describe base id pos len u).2))), (44, vB (decide ((R26.describe base id pos len u).2 = (R26.describe base id pos len u).2))), (45, vB true)] [(0, Value.agg ((DataSet.enc base)).toArray), (1, Value.agg ((DataSet.enc alt)).toArray), (2, vI id), (3, vI pos), (4, vI len), (5, vB u), (6, Value.pointer (some ⟨b1, 0, none⟩)), (7, Value.pointer (some ⟨b2, 0, none⟩)), (12, vB false), (17, vB true), (18, vB false), (20, Value.agg ((DataSet.enc base)).toArray), (21, vI id), (22, vI pos), (23, vI len), (24, vB u), (25, Value.tuple #[Value.agg ((DataSet.enc ((R26.describe base id pos len u).1))).toArray, vI ((R26.describe base id pos len u).2)]), (19, Value.tuple #[Value.agg ((DataSet.enc ((R26.describe base id pos len u).1))).toArray, vI ((R26.describe base id pos len u).2)]), (26, Value.agg ((DataSet.enc ((R26.describe base id pos len u).1))).toArray), (27, vI ((R26.describe base id pos len u).2)), (13, Value.pointer (some ⟨b3, 0, none⟩)), (14, vI ((R26.describe base id pos len u).2)), (29, Value.agg ((DataSet.enc base)).toArray), (30, vI id), (31, vI pos), (32, vI len), (33, vB u), (34, Value.tuple #[Value.agg ((DataSet.enc ((R26.describe base id pos len u).1))).toArray, vI ((R26.describe base id pos len u).2)]), (28, Value.tuple #[Value.agg ((DataSet.enc ((R26.describe base id pos len u).1))).toArray, vI ((R26.describe base id pos len u).2)]), (35, Value.agg ((DataSet.enc ((R26.describe base id pos len u).1))).toArray), (36, vI ((R26.describe base id pos len u).2)), (15, Value.pointer (some ⟨b4, 0, none⟩)), (16, vI ((R26.describe base id pos len u).2)), (37, Value.agg ((DataSet.enc ((R26.describe base id pos len u).1))).toArray), (38, Value.agg ((DataSet.enc ((R26.describe base id pos len u).1))).toArray), (39, vB (decide ((((R26.describe base id pos len u).1) : DataSet) = ((R26.describe base id pos len u).1)))), (40, vB true), (41, vI ((R26.describe base id pos len u).2)), (42, vI ((R26.describe base id pos len u).2)), (43, vB (decide ((R26.describe base id pos len u).2 = (R26.describe base id pos len u).2))), (44, vB (decide ((R26.describe base id pos len u).2 = (R26.describe base id pos len u).2))), (45, vB false)] (fun hb => ⟨rfl, rfl, rfl, rfl, rfl, rfl, rfl, rfl, rfl, rfl, rfl, rfl, rfl, rfl, rfl, rfl, rfl, rfl, rfl, rfl, rfl, rfl, rfl, rfl, rfl, rfl, rfl, rfl, rfl, rfl, rfl, rfl, rfl, rfl, rfl, rfl, rfl, rfl, rfl, rfl, rfl, congrArg (fun b => some (vB b)) hb, trivial⟩) (fun hb => ⟨rfl, rfl, rfl, rfl, rfl, rfl, rfl, rfl, rfl, rfl, rfl, rfl, rfl, rfl, rfl, rfl, rfl, rfl, rfl, rfl, rfl, rfl, rfl, rfl, rfl, rfl, rfl, rfl, rfl, rfl, rfl, rfl, rfl, rfl, rfl, rfl, rfl, rfl, rfl, rfl, rfl, congrArg (fun b => some (vB b)) hb, trivial⟩) (fun h6 => ?_) (fun h6 => ?_)
    · have h6 := of_decide_eq_true h6
      refine JA_take 9 (Value.agg ((DataSet.enc base)).toArray) rfl (by kernel_rfl) (by kernel_rfl) (by kernel_rfl) rfl (fun _ _ _ h => h) rfl ⟨_, rfl, rfl⟩ (x_loadN 3 (DataSet.enc base) rfl rfl Ty.ag23 Ty.sz23 rfl) ?_
      refine JA_take 10 (Value.agg ((DataSet.enc alt)).toArray) rfl (by kernel_rfl) (by kernel_rfl) (by kernel_rfl) rfl (fun _ _ _ h => h) rfl ⟨_, rfl, rfl⟩ (x_loadN 2 (DataSet.enc alt) rfl rfl Ty.ag23 Ty.sz23 rfl) ?_
      refine JA_take 12 (Value.agg ((DataSet.enc base)).toArray) rfl (by kernel_rfl) (by kernel_rfl) (by kernel_rfl) rfl (fun _ _ _ h => h) rfl ⟨_, rfl, rfl⟩ (x_loadN 3 (DataSet.enc base) rfl rfl Ty.ag23 Ty.sz23 rfl) ?_
      refine JA_take 13 (Value.agg ((DataSet.enc alt)).toArray) rfl (by kernel_rfl) (by kernel_rfl) (by kernel_rfl) rfl (fun _ _ _ h => h) rfl ⟨_, rfl, rfl⟩ (x_loadN 2 (DataSet.enc alt) rfl rfl Ty.ag23 Ty.sz23 rfl) ?_
      refine JA_one 11 (by kernel_rfl) (fun _ h => ⟨h, fun _ => h⟩) ?_
      refine JI_call [] [] [Ent.blk b4 23 (DataSet.enc ((R26.describe base id pos len u).1)), Ent.blk b3 23 (DataSet.enc ((R26.describe base id pos len u).1)), Ent.blk b2 23 (DataSet.enc alt), Ent.blk b1 23 (DataSet.enc base)] rfl rfl ⟨_, rfl, rfl⟩ (fun _ => x_call Ty.ca13 rfl) (fun _ h => h) (fun _ h => by cases h) (fun w hS => f13_ok base alt w) ?_
      rintro _ _ ⟨rfl, rfl⟩
      refine JA_one 14 (by kernel_rfl) (fun _ h => ⟨h, fun _ => h⟩) ?_
      refine JI_call [] [] [Ent.blk b4 23 (DataSet.enc ((R26.describe base id pos len u).1)), Ent.blk b3 23 (DataSet.enc ((R26.describe base id pos len u).1)), Ent.blk b2 23 (DataSet.enc alt), Ent.blk b1 23 (DataSet.enc base)] rfl rfl ⟨_, rfl, rfl⟩ (fun _ => x_call Ty.ca14 rfl) (fun _ h => h) (fun _ h => by cases h) (fun w hS => f14_ok base alt w) ?_
      rintro _ _ ⟨rfl, rfl⟩
      refine JA_take 15 (vB (decide ((R26.valid base alt) = (R26.valid base alt)))) rfl (by kernel_rfl) (by kernel_rfl) (by kernel_rfl) rfl (fun _ _ _ h => h) rfl ⟨_, rfl, rfl⟩ (fun _ _ => x_eql_b Try.underlying4 rfl rfl) ?_
      refine JA_take 16 (vB (decide ((R26.valid base alt) = (R26.valid base alt)))) rfl (by kernel_rfl) (by kernel_rfl) (by kernel_rfl) rfl (fun _ _ _ h => h) rfl trivial (fun _ _ => rfl) ?_
      refine JA_take 17 (vB (decide ((R26.valid base alt) = (R26.valid base alt)))) rfl (by kernel_rfl) (by kernel_rfl) (by kernel_rfl) rfl (fun _ _ _ h => h) rfl trivial (fun _ _ => rfl) ?_
      refine JA_done (by kernel_rfl) (fun _ h => ⟨h, fun _ => h⟩) ?_
      refine JX_then ?_
      refine J_ret ?_
      refine JX_rets [vB (decide ((R26.valid base alt) = (R26.valid base alt)))] (vB (decide ((R26.valid base alt) = (R26.valid base alt)))) Try.results3 (fun w h => ⟨rfl, trivial⟩) rfl [] (fun _ h => h.keep [false, false, false, false] rfl) ⟨?_, ?_⟩
      · have e_x0 : (decide ((R26.valid base alt) = (R26.valid base alt)) : Bool) = true := by
          first | rfl | exact absurd rfl (by assumption) | exact decide_eq_true rfl | (simp; done)
        exact congrArg (fun (x0 : Bool) => vB x0) e_x0
      · rfl
    · have h6 := of_decide_eq_false h6
      refine JA_shun 9 rfl (by kernel_rfl) (by kernel_rfl) (by kernel_rfl) rfl (fun _ _ _ h => h) rfl ⟨_, rfl, rfl⟩ ?_
      refine JA_shun 10 rfl (by kernel_rfl) (by kernel_rfl) (by kernel_rfl) rfl (fun _ _ _ h => h) rfl ⟨_, rfl, rfl⟩ ?_
      refine JA_shun 11 rfl (by kernel_rfl) (by kernel_rfl) (by kernel_rfl) rfl (fun _ _ _ h => h) rfl ⟨_, rfl, rfl⟩ ?_
      refine JA_shun 12 rfl (by kernel_rfl) (by kernel_rfl) (by kernel_rfl) rfl (fun _ _ _ h => h) rfl ⟨_, rfl, rfl⟩ ?_
      refine JA_shun 13 rfl (by kernel_rfl) (by kernel_rfl) (by kernel_rfl) rfl (fun _ _ _ h => h) rfl ⟨_, rfl, rfl⟩ ?_
      refine JA_shun 14 rfl (by kernel_rfl) (by kernel_rfl) (by kernel_rfl) rfl (fun _ _ _ h => h) rfl ⟨_, rfl, rfl⟩ ?_
      refine JA_shun 15 rfl (by kernel_rfl) (by kernel_rfl) (by kernel_rfl) rfl (fun _ _ _ h => h) rfl ⟨_, rfl, rfl⟩ ?_
      refine JA_take 16 (vB false) rfl (by kernel_rfl) (by kernel_rfl) (by kernel_rfl) rfl (fun _ _ _ h => h) rfl trivial (fun _ _ => rfl) ?_
      refine JA_take 17 (vB false) rfl (by kernel_rfl) (by kernel_rfl) (by kernel_rfl) rfl (fun _ _ _ h => h) rfl trivial (fun _ _ => rfl) ?_
      refine JA_done (by kernel_rfl) (fun _ h => ⟨h, fun _ => h⟩) ?_
      refine JX_then ?_
      refine J_ret ?_
      refine JX_rets [vB false] (vB false) Try.results3 (fun w h => ⟨rfl, trivial⟩) rfl [] (fun _ h => h.keep [false, false, false, false] rfl) ⟨?_, ?_⟩
      · have e_x0 : (false : Bool) = true := by
          first | rfl | exact absurd rfl (by assumption) | exact decide_eq_true rfl | (simp; done)
        exact congrArg (fun (x0 : Bool) => vB x0) e_x0
      · rfl
  · have h5 := of_decide_eq_false h5
    refine JA_shun 4 rfl (by kernel_rfl) (by kernel_rfl) (by kernel_rfl) rfl (fun _ _ _ h => h) rfl ⟨_, rfl, rfl⟩ ?_
    refine JA_shun 5 rfl (by kernel_rfl) (by kernel_rfl) (by kernel_rfl) rfl (fun _ _ _ h => h) rfl ⟨_, rfl, rfl⟩ ?_
    refine JA_shun 6 rfl (by kernel_rfl) (by kernel_rfl) (by kernel_rfl) rfl (fun _ _ _ h => h) rfl ⟨_, rfl, rfl⟩ ?_
    refine JA_take 7 (vB false) rfl (by kernel_rfl) (by kernel_rfl) (by kernel_rfl) rfl (fun _ _ _ h => h) rfl trivial (fun _ _ => rfl) ?_
    refine JA_take 8 (vB false) rfl (by kernel_rfl) (by kernel_rfl) (by kernel_rfl) rfl (fun _ _ _ h => h) rfl trivial (fun _ _ => rfl) ?_
    refine JA_shun 9 rfl (by kernel_rfl) (by kernel_rfl) (by kernel_rfl) rfl (fun _ _ _ h => h) rfl ⟨_, rfl, rfl⟩ ?_
    refine JA_shun 10 rfl (by kernel_rfl) (by kernel_rfl) (by kernel_rfl) rfl (fun _ _ _ h => h) rfl ⟨_, rfl, rfl⟩ ?_
    refine JA_shun 11 rfl (by kernel_rfl) (by kernel_rfl) (by kernel_rfl) rfl (fun _ _ _ h => h) rfl ⟨_, rfl, rfl⟩ ?_
    refine JA_shun 12 rfl (by kernel_rfl) (by kernel_rfl) (by kernel_rfl) rfl (fun _ _ _ h => h) rfl ⟨_, rfl, rfl⟩ ?_
    refine JA_shun 13 rfl (by kernel_rfl) (by kernel_rfl) (by kernel_rfl) rfl (fun _ _ _ h => h) rfl ⟨_, rfl, rfl⟩ ?_
    refine JA_shun 14 rfl (by kernel_rfl) (by kernel_rfl) (by kernel_rfl) rfl (fun _ _ _ h => h) rfl ⟨_, rfl, rfl⟩ ?_
    refine JA_shun 15 rfl (by kernel_rfl) (by kernel_rfl) (by kernel_rfl) rfl (fun _ _ _ h => h) rfl ⟨_, rfl, rfl⟩ ?_
    refine JA_take 16 (vB false) rfl (by kernel_rfl) (by kernel_rfl) (by kernel_rfl) rfl (fun _ _ _ h => h) rfl trivial (fun _ _ => rfl) ?_
    refine JA_take 17 (vB false) rfl (by kernel_rfl) (by kernel_rfl) (by kernel_rfl) rfl (fun _ _ _ h => h) rfl trivial (fun _ _ => rfl) ?_
    refine JA_done (by kernel_rfl) (fun _ h => ⟨h, fun _ => h⟩) ?_
    refine JX_then ?_
    refine J_ret ?_
    refine JX_rets [vB false] (vB false) Try.results3 (fun w h => ⟨rfl, trivial⟩) rfl [] (fun _ h => h.keep [false, false, false, false] rfl) ⟨?_, ?_⟩
    · have e_x0 : (false : Bool) = true := by
        first | rfl | exact absurd rfl (by assumption) | exact decide_eq_true rfl | (simp; done)
      exact congrArg (fun (x0 : Bool) => vB x0) e_x0
    · rfl

end Go.Proofs.Ytimjfpioenkbjaa
