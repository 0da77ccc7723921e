/- contracts L14a -/
import Derived.Test.YtodfebhimadaiaaC14o
namespace Go.Proofs.Ytodfebhimadaiaa
open Go.GV
set_option linter.unusedVariables false
set_option linter.unusedSimpArgs false
set_option maxRecDepth 20000 in
theorem f6_ok (s : Bytes) (w : World) : Calls Try.prog 6 #[vS s] w (Gives [] w fun v L => v = vB true ∧ L = []) := by
  refine calls_J [] 66 Try.func6 rfl Try.ntmps6 [(0, vS s)] rfl rfl (Give.nil w) ?_
  refine J_seq (J_region ?_)
  refine jr_ (vB false) ?_
  refine JO_nil (JX_then (J_seq (J_seq (J_region ?_))))
  refine JO_call [] [] [] rfl trivial (fun _ => x_call Ty.ca10 rfl) (fun _ h => h) (fun _ h => by cases h) (fun w hS => f10_ok w) ?_
  rintro _ _ ⟨rfl, rfl⟩
  refine jr_ (vB false) ?_
  refine jr_ (vB false) ?_
  refine JO_read (vS s) rfl ⟨_, rfl, rfl⟩ (fun _ _ => rfl) ?_
  refine JO_read (vI ((s.length : Nat) : Int)) rfl ⟨_, rfl, rfl⟩ (fun _ _ => x_len_s rfl Try.underlying9) ?_
  refine JO_read (vB (decide ((6000 : Int) < ((s.length : Nat) : Int)))) rfl ⟨_, rfl, rfl⟩ (fun _ _ => x_gtr_i rfl rfl) ?_
  refine jr_ (vB (decide ((6000 : Int) < ((s.length : Nat) : Int)))) ?_
  refine JO_nil (JX_then ?_)
  refine J_cond (decide ((6000 : Int) < ((s.length : Nat) : Int))) rfl rfl (fun h1 => ?_) (fun h1 => ?_)
  · have h1w := h1
    have h1 := of_decide_eq_true h1
    refine J_seq (J_region ?_)
    refine JO_call [] [] [] rfl trivial (fun _ => x_call Ty.ca10 rfl) (fun _ h => h) (fun _ h => by cases h) (fun w hS => f10_ok w) ?_
    rintro _ _ ⟨rfl, rfl⟩
    refine jr_ (vB true) ?_
    refine JO_nil (JX_then (J_ret (JX_then_ret ?_)))
    refine JX_rets [vB true] (vB true) Try.results6 (fun w h => ⟨rfl, trivial⟩) rfl [] (fun _ h => h) ⟨?_, ?_⟩
    · rfl
    · rfl
  · have h1w := h1
    have h1 := of_decide_eq_false h1
    refine J_skip (JX_then (J_seq (J_region ?_)))
    refine jr_ (vS s) ?_
    refine JO_call [] [] [] rfl trivial (fun _ => x_call Ty.ca26 rfl) (fun _ h => h) (fun _ h => by cases h) (fun w hS => f26_ok s w hy_) ?_
    rintro _ _ ⟨A2, c3, rfl, rfl⟩
    have ha4 := R14.dcP_len R02.updateN s
    refine jr_ (Value.tuple #[Value.agg ((DataSet.enc (R14.dcD R02.updateN s) ++ [vI (R14.dcN R02.updateN s), Value.slice A2 ((R14.dcP R02.updateN s).length) c3])).toArray, vI (R14.dcE R02.updateN s)]) ?_
    refine jr_ (Value.agg ((DataSet.enc (R14.dcD R02.updateN s) ++ [vI (R14.dcN R02.updateN s), Value.slice A2 ((R14.dcP R02.updateN s).length) c3])).toArray) ?_
    refine jr_ (vI (R14.dcE R02.updateN s)) ?_
    refine JO_op rfl trivial (O_alloc Ty.ze37 rfl fun b5 => ?_)
    refine JO_op rfl trivial (O_storeS (vs := (DataSet.enc (R14.dcD R02.updateN s) ++ [vI (R14.dcN R02.updateN s), Value.slice A2 ((R14.dcP R02.updateN s).length) c3])) 0 (DataSet.enc (R14.dcD R02.updateN s) ++ [vI (R14.dcN R02.updateN s), Value.slice A2 ((R14.dcP R02.updateN s).length) c3]) [Ent.blk b5 37 (DataSet.enc (R14.dcD R02.updateN s) ++ [vI (R14.dcN R02.updateN s), Value.slice A2 ((R14.dcP R02.updateN s).length) c3]), Ent.row (.slice A2 (R14.dcP R02.updateN s).length c3) 54 2 (R14.dcP R02.updateN s).length ((R14.dcP R02.updateN s).flatMap Pair.enc)] rfl rfl rfl Ty.sz37 rfl (Nat.le_of_ble_eq_true rfl) rfl (st_all rfl) rfl ?_)
    refine jr_ (vI (R14.dcE R02.updateN s)) ?_
    refine JO_nil (JX_then (J_seq (J_region ?_)))
    refine jr_ (vS s) ?_
    refine JO_call [] [] [Ent.blk b5 37 (DataSet.enc (R14.dcD R02.updateN s) ++ [vI (R14.dcN R02.updateN s), Value.slice A2 ((R14.dcP R02.updateN s).length) c3]), Ent.row (.slice A2 (R14.dcP R02.updateN s).length c3) 54 2 (R14.dcP R02.updateN s).length ((R14.dcP R02.updateN s).flatMap Pair.enc)] rfl trivial (fun _ => x_call Ty.ca27 rfl) (fun _ h => h) (fun _ h => by cases h) (fun w hS => f27_ok s w hy_) ?_
    rintro _ _ ⟨A6, c7, rfl, rfl⟩
    have ha8 := R14.dcP_len R02.update s
    refine jr_ (Value.tuple #[Value.agg ((DataSet.enc (R14.dcD R02.update s) ++ [vI (R14.dcN R02.update s), Value.slice A6 ((R14.dcP R02.update s).length) c7])).toArray, vI (R14.dcE R02.update s)]) ?_
    refine jr_ (Value.agg ((DataSet.enc (R14.dcD R02.update s) ++ [vI (R14.dcN R02.update s), Value.slice A6 ((R14.dcP R02.update s).length) c7])).toArray) ?_
    refine jr_ (vI (R14.dcE R02.update s)) ?_
    refine JO_op rfl trivial (O_alloc Ty.ze37 rfl fun b9 => ?_)
    refine JO_op rfl trivial (O_storeS (vs := (DataSet.enc (R14.dcD R02.update s) ++ [vI (R14.dcN R02.update s), Value.slice A6 ((R14.dcP R02.update s).length) c7])) 0 (DataSet.enc (R14.dcD R02.update s) ++ [vI (R14.dcN R02.update s), Value.slice A6 ((R14.dcP R02.update s).length) c7]) [Ent.blk b9 37 (DataSet.enc (R14.dcD R02.update s) ++ [vI (R14.dcN R02.update s), Value.slice A6 ((R14.dcP R02.update s).length) c7]), Ent.row (.slice A6 (R14.dcP R02.update s).length c7) 54 2 (R14.dcP R02.update s).length ((R14.dcP R02.update s).flatMap Pair.enc), Ent.blk b5 37 (DataSet.enc (R14.dcD R02.updateN s) ++ [vI (R14.dcN R02.updateN s), Value.slice A2 ((R14.dcP R02.updateN s).length) c3]), Ent.row (.slice A2 (R14.dcP R02.updateN s).length c3) 54 2 (R14.dcP R02.updateN s).length ((R14.dcP R02.updateN s).flatMap Pair.enc)] rfl rfl rfl Ty.sz37 rfl (Nat.le_of_ble_eq_true rfl) rfl (st_all rfl) rfl ?_)
    refine jr_ (vI (R14.dcE R02.update s)) ?_
    refine JO_nil (JX_then (J_seq (J_region ?_)))
    refine jr_ (vS s) ?_
    refine JO_call [] [] [Ent.blk b9 37 (DataSet.enc (R14.dcD R02.update s) ++ [vI (R14.dcN R02.update s), Value.slice A6 ((R14.dcP R02.update s).length) c7]), Ent.row (.slice A6 (R14.dcP R02.update s).length c7) 54 2 (R14.dcP R02.update s).length ((R14.dcP R02.update s).flatMap Pair.enc), Ent.blk b5 37 (DataSet.enc (R14.dcD R02.updateN s) ++ [vI (R14.dcN R02.updateN s), Value.slice A2 ((R14.dcP R02.updateN s).length) c3]), Ent.row (.slice A2 (R14.dcP R02.updateN s).length c3) 54 2 (R14.dcP R02.updateN s).length ((R14.dcP R02.updateN s).flatMap Pair.enc)] rfl trivial (fun _ => x_call Ty.ca28 rfl) (fun _ h => h) (fun _ h => by cases h) (fun w hS => f28_ok s w hy_) ?_
    rintro _ _ ⟨A10, c11, rfl, rfl⟩
    have ha12 := R14.svP_len R02.updateN s
    refine jr_ (Value.tuple #[Value.agg ((DataSet.enc (R14.svD R02.updateN s) ++ [vI (R14.svN R02.updateN s), Value.slice A10 ((R14.svP R02.updateN s).length) c11])).toArray, vI (R14.svM R02.updateN s), vI (R14.svE R02.updateN s)]) ?_
    refine jr_ (Value.agg ((DataSet.enc (R14.svD R02.updateN s) ++ [vI (R14.svN R02.updateN s), Value.slice A10 ((R14.svP R02.updateN s).length) c11])).toArray) ?_
    refine jr_ (vI (R14.svM R02.updateN s)) ?_
    refine jr_ (vI (R14.svE R02.updateN s)) ?_
    refine JO_op rfl trivial (O_alloc Ty.ze37 rfl fun b13 => ?_)
    refine JO_op rfl trivial (O_storeS (vs := (DataSet.enc (R14.svD R02.updateN s) ++ [vI (R14.svN R02.updateN s), Value.slice A10 ((R14.svP R02.updateN s).length) c11])) 0 (DataSet.enc (R14.svD R02.updateN s) ++ [vI (R14.svN R02.updateN s), Value.slice A10 ((R14.svP R02.updateN s).length) c11]) [Ent.blk b13 37 (DataSet.enc (R14.svD R02.updateN s) ++ [vI (R14.svN R02.updateN s), Value.slice A10 ((R14.svP R02.updateN s).length) c11]), Ent.row (.slice A10 (R14.svP R02.updateN s).length c11) 54 2 (R14.svP R02.updateN s).length ((R14.svP R02.updateN s).flatMap Pair.enc), Ent.blk b9 37 (DataSet.enc (R14.dcD R02.update s) ++ [vI (R14.dcN R02.update s), Value.slice A6 ((R14.dcP R02.update s).length) c7]), Ent.row (.slice A6 (R14.dcP R02.update s).length c7) 54 2 (R14.dcP R02.update s).length ((R14.dcP R02.update s).flatMap Pair.enc), Ent.blk b5 37 (DataSet.enc (R14.dcD R02.updateN s) ++ [vI (R14.dcN R02.updateN s), Value.slice A2 ((R14.dcP R02.updateN s).length) c3]), Ent.row (.slice A2 (R14.dcP R02.updateN s).length c3) 54 2 (R14.dcP R02.updateN s).length ((R14.dcP R02.updateN s).flatMap Pair.enc)] rfl rfl rfl Ty.sz37 rfl (Nat.le_of_ble_eq_true rfl) rfl (st_all rfl) rfl ?_)
    refine jr_ (vI (R14.svM R02.updateN s)) ?_
    refine jr_ (vI (R14.svE R02.updateN s)) ?_
    refine JO_nil (JX_then (J_seq (J_region ?_)))
    refine jr_ (vS s) ?_
    refine JO_call [] [] [Ent.blk b13 37 (DataSet.enc (R14.svD R02.updateN s) ++ [vI (R14.svN R02.updateN s), Value.slice A10 ((R14.svP R02.updateN s).length) c11]), Ent.row (.slice A10 (R14.svP R02.updateN s).length c11) 54 2 (R14.svP R02.updateN s).length ((R14.svP R02.updateN s).flatMap Pair.enc), Ent.blk b9 37 (DataSet.enc (R14.dcD R02.update s) ++ [vI (R14.dcN R02.update s), Value.slice A6 ((R14.dcP R02.update s).length) c7]), Ent.row (.slice A6 (R14.dcP R02.update s).length c7) 54 2 (R14.dcP R02.update s).length ((R14.dcP R02.update s).flatMap Pair.enc), Ent.blk b5 37 (DataSet.enc (R14.dcD R02.updateN s) ++ [vI (R14.dcN R02.updateN s), Value.slice A2 ((R14.dcP R02.updateN s).length) c3]), Ent.row (.slice A2 (R14.dcP R02.updateN s).length c3) 54 2 (R14.dcP R02.updateN s).length ((R14.dcP R02.updateN s).flatMap Pair.enc)] rfl trivial (fun _ => x_call Ty.ca29 rfl) (fun _ h => h) (fun _ h => by cases h) (fun w hS => f29_ok s w hy_) ?_
    rintro _ _ ⟨A14, c15, rfl, rfl⟩
    have ha16 := R14.svP_len R02.update s
    refine jr_ (Value.tuple #[Value.agg ((DataSet.enc (R14.svD R02.update s) ++ [vI (R14.svN R02.update s), Value.slice A14 ((R14.svP R02.update s).length) c15])).toArray, vI (R14.svM R02.update s), vI (R14.svE R02.update s)]) ?_
    refine jr_ (Value.agg ((DataSet.enc (R14.svD R02.update s) ++ [vI (R14.svN R02.update s), Value.slice A14 ((R14.svP R02.update s).length) c15])).toArray) ?_
    refine jr_ (vI (R14.svM R02.update s)) ?_
    refine jr_ (vI (R14.svE R02.update s)) ?_
    refine JO_op rfl trivial (O_alloc Ty.ze37 rfl fun b17 => ?_)
    refine JO_op rfl trivial (O_storeS (vs := (DataSet.enc (R14.svD R02.update s) ++ [vI (R14.svN R02.update s), Value.slice A14 ((R14.svP R02.update s).length) c15])) 0 (DataSet.enc (R14.svD R02.update s) ++ [vI (R14.svN R02.update s), Value.slice A14 ((R14.svP R02.update s).length) c15]) [Ent.blk b17 37 (DataSet.enc (R14.svD R02.update s) ++ [vI (R14.svN R02.update s), Value.slice A14 ((R14.svP R02.update s).length) c15]), Ent.row (.slice A14 (R14.svP R02.update s).length c15) 54 2 (R14.svP R02.update s).length ((R14.svP R02.update s).flatMap Pair.enc), Ent.blk b13 37 (DataSet.enc (R14.svD R02.updateN s) ++ [vI (R14.svN R02.updateN s), Value.slice A10 ((R14.svP R02.updateN s).length) c11]), Ent.row (.slice A10 (R14.svP R02.updateN s).length c11) 54 2 (R14.svP R02.updateN s).length ((R14.svP R02.updateN s).flatMap Pair.enc), Ent.blk b9 37 (DataSet.enc (R14.dcD R02.update s) ++ [vI (R14.dcN R02.update s), Value.slice A6 ((R14.dcP R02.update s).length) c7]), Ent.row (.slice A6 (R14.dcP R02.update s).length c7) 54 2 (R14.dcP R02.update s).length ((R14.dcP R02.update s).flatMap Pair.enc), Ent.blk b5 37 (DataSet.enc (R14.dcD R02.updateN s) ++ [vI (R14.dcN R02.updateN s), Value.slice A2 ((R14.dcP R02.updateN s).length) c3]), Ent.row (.slice A2 (R14.dcP R02.updateN s).length c3) 54 2 (R14.dcP R02.updateN s).length ((R14.dcP R02.updateN s).flatMap Pair.enc)] rfl rfl rfl Ty.sz37 rfl (Nat.le_of_ble_eq_true rfl) rfl (st_all rfl) rfl ?_)
    refine jr_ (vI (R14.svM R02.update s)) ?_
    refine jr_ (vI (R14.svE R02.update s)) ?_
    refine JO_nil (JX_then (J_seq (J_region ?_)))
    refine jr_ (vI (R14.dcE R02.updateN s)) ?_
    refine jr_ (vI (R14.dcE R02.update s)) ?_
    refine JO_read (vB (decide (R14.dcE R02.updateN s = R14.dcE R02.update s))) rfl trivial (fun _ _ => x_eql_i rfl rfl) ?_
    refine jr_ (vB (decide (R14.dcE R02.updateN s = R14.dcE R02.update s))) ?_
    refine JO_cut (X := Bool) 4 (fun z => z = ((decide (R14.dcE R02.updateN s = R14.dcE R02.update s)) && (R14.same (R14.dcD R02.updateN s) (R14.dcN R02.updateN s) (R14.dcP R02.updateN s) (R14.dcD R02.update s) (R14.dcN R02.update s) (R14.dcP R02.update s)))) (fun z => [(2, vB false), (7, Value.pointer (some ⟨b13, 0, none⟩)), (8, vI (R14.svM R02.updateN s)), (9, vI (R14.svE R02.updateN s)), (10, Value.pointer (some ⟨b17, 0, none⟩)), (11, vI (R14.svM R02.update s)), (12, vI (R14.svE R02.update s)), (50, vB z)]) (fun _ => [Ent.blk b17 37 (DataSet.enc (R14.svD R02.update s) ++ [vI (R14.svN R02.update s), Value.slice A14 ((R14.svP R02.update s).length) c15]), Ent.row (.slice A14 (R14.svP R02.update s).length c15) 54 2 (R14.svP R02.update s).length ((R14.svP R02.update s).flatMap Pair.enc), Ent.blk b13 37 (DataSet.enc (R14.svD R02.updateN s) ++ [vI (R14.svN R02.updateN s), Value.slice A10 ((R14.svP R02.updateN s).length) c11]), Ent.row (.slice A10 (R14.svP R02.updateN s).length c11) 54 2 (R14.svP R02.updateN s).length ((R14.svP R02.updateN s).flatMap Pair.enc), Ent.blk b9 37 (DataSet.enc (R14.dcD R02.update s) ++ [vI (R14.dcN R02.update s), Value.slice A6 ((R14.dcP R02.update s).length) c7]), Ent.row (.slice A6 (R14.dcP R02.update s).length c7) 54 2 (R14.dcP R02.update s).length ((R14.dcP R02.update s).flatMap Pair.enc), Ent.blk b5 37 (DataSet.enc (R14.dcD R02.updateN s) ++ [vI (R14.dcN R02.updateN s), Value.slice A2 ((R14.dcP R02.updateN s).length) c3]), Ent.row (.slice A2 (R14.dcP R02.updateN s).length c3) 54 2 (R14.dcP R02.updateN s).length ((R14.dcP R02.updateN s).flatMap Pair.enc)]) ?_ ?_
    · rcases Bool.eq_false_or_eq_true (decide (R14.dcE R02.updateN s = R14.dcE R02.update s)) with g19 | g19
      · have g19r := g19
        have g19r := of_decide_eq_true g19r
        refine JO_read (Value.agg ((DataSet.enc (R14.dcD R02.updateN s) ++ [vI (R14.dcN R02.updateN s), Value.slice A2 ((R14.dcP R02.updateN s).length) c3])).toArray) rfl ⟨_, rfl, g19⟩ (x_loadN 6 (DataSet.enc (R14.dcD R02.updateN s) ++ [vI (R14.dcN R02.updateN s), Value.slice A2 ((R14.dcP R02.updateN s).length) c3]) rfl rfl Ty.ag37 Ty.sz37 rfl) ?_
        refine JO_read (Value.agg ((DataSet.enc (R14.dcD R02.update s) ++ [vI (R14.dcN R02.update s), Value.slice A6 ((R14.dcP R02.update s).length) c7])).toArray) rfl ⟨_, rfl, g19⟩ (x_loadN 4 (DataSet.enc (R14.dcD R02.update s) ++ [vI (R14.dcN R02.update s), Value.slice A6 ((R14.dcP R02.update s).length) c7]) rfl rfl Ty.ag37 Ty.sz37 rfl) ?_
        refine JO_call [] [] [Ent.blk b17 37 (DataSet.enc (R14.svD R02.update s) ++ [vI (R14.svN R02.update s), Value.slice A14 ((R14.svP R02.update s).length) c15]), Ent.row (.slice A14 (R14.svP R02.update s).length c15) 54 2 (R14.svP R02.update s).length ((R14.svP R02.update s).flatMap Pair.enc), Ent.blk b13 37 (DataSet.enc (R14.svD R02.updateN s) ++ [vI (R14.svN R02.updateN s), Value.slice A10 ((R14.svP R02.updateN s).length) c11]), Ent.row (.slice A10 (R14.svP R02.updateN s).length c11) 54 2 (R14.svP R02.updateN s).length ((R14.svP R02.updateN s).flatMap Pair.enc), Ent.blk b9 37 (DataSet.enc (R14.dcD R02.update s) ++ [vI (R14.dcN R02.update s), Value.slice A6 ((R14.dcP R02.update s).length) c7]), Ent.row (.slice A6 (R14.dcP R02.update s).length c7) 54 2 (R14.dcP R02.update s).length ((R14.dcP R02.update s).flatMap Pair.enc), Ent.blk b5 37 (DataSet.enc (R14.dcD R02.updateN s) ++ [vI (R14.dcN R02.updateN s), Value.slice A2 ((R14.dcP R02.updateN s).length) c3]), Ent.row (.slice A2 (R14.dcP R02.updateN s).length c3) 54 2 (R14.dcP R02.updateN s).length ((R14.dcP R02.updateN s).flatMap Pair.enc)] rfl ⟨_, rfl, g19⟩ (fun _ => x_call Ty.ca23 rfl) (fun _ h => h) (fun _ h => by cases h) (fun w hS => f23_ok (R14.dcD R02.updateN s) (R14.dcN R02.updateN s) (R14.dcP R02.updateN s) A2 c3 (R14.dcD R02.update s) (R14.dcN R02.update s) (R14.dcP R02.update s) A6 c7 w (RO.of_row hS 7 rfl) (RO.of_row hS 5 rfl) hy_ hy_) ?_
        rintro _ _ ⟨rfl, rfl⟩
        refine JO_read (vB (R14.same (R14.dcD R02.updateN s) (R14.dcN R02.updateN s) (R14.dcP R02.updateN s) (R14.dcD R02.update s) (R14.dcN R02.update s) (R14.dcP R02.update s))) rfl trivial (fun _ _ => x_pick_t rfl g19 rfl) ?_
        refine JO_nil (JX_cut (R14.same (R14.dcD R02.updateN s) (R14.dcN R02.updateN s) (R14.dcP R02.updateN s) (R14.dcD R02.update s) (R14.dcN R02.update s) (R14.dcP R02.update s)) (by rw [g19]; simp) ⟨rfl, rfl, rfl, rfl, rfl, rfl, rfl, rfl, trivial⟩ (fun _ h => h))
      · have g19r := g19
        have g19r := of_decide_eq_false g19r
        refine JO_shun rfl ⟨_, rfl, g19⟩ ?_
        refine JO_shun rfl ⟨_, rfl, g19⟩ ?_
        refine JO_shun rfl ⟨_, rfl, g19⟩ ?_
        refine JO_read (vB false) rfl trivial (fun _ _ => x_pick_f rfl g19 rfl) ?_
        refine JO_nil (JX_cut (false) (by rw [g19]; simp) ⟨rfl, rfl, rfl, rfl, rfl, rfl, rfl, rfl, trivial⟩ (fun _ h => h))
    rintro z18 rfl
    refine jr_ (vB ((decide (R14.dcE R02.updateN s = R14.dcE R02.update s)) && (R14.same (R14.dcD R02.updateN s) (R14.dcN R02.updateN s) (R14.dcP R02.updateN s) (R14.dcD R02.update s) (R14.dcN R02.update s) (R14.dcP R02.update s)))) ?_
    refine JO_cut (X := Bool) 4 (fun z => z = (((decide (R14.dcE R02.updateN s = R14.dcE R02.update s)) && (R14.same (R14.dcD R02.updateN s) (R14.dcN R02.updateN s) (R14.dcP R02.updateN s) (R14.dcD R02.update s) (R14.dcN R02.update s) (R14.dcP R02.update s))) && (decide (R14.svM R02.updateN s = R14.svM R02.update s)))) (fun z => [(2, vB false), (7, Value.pointer (some ⟨b13, 0, none⟩)), (9, vI (R14.svE R02.updateN s)), (10, Value.pointer (some ⟨b17, 0, none⟩)), (12, vI (R14.svE R02.update s)), (55, vB z)]) (fun _ => [Ent.blk b17 37 (DataSet.enc (R14.svD R02.update s) ++ [vI (R14.svN R02.update s), Value.slice A14 ((R14.svP R02.update s).length) c15]), Ent.row (.slice A14 (R14.svP R02.update s).length c15) 54 2 (R14.svP R02.update s).length ((R14.svP R02.update s).flatMap Pair.enc), Ent.blk b13 37 (DataSet.enc (R14.svD R02.updateN s) ++ [vI (R14.svN R02.updateN s), Value.slice A10 ((R14.svP R02.updateN s).length) c11]), Ent.row (.slice A10 (R14.svP R02.updateN s).length c11) 54 2 (R14.svP R02.updateN s).length ((R14.svP R02.updateN s).flatMap Pair.enc), Ent.blk b9 37 (DataSet.enc (R14.dcD R02.update s) ++ [vI (R14.dcN R02.update s), Value.slice A6 ((R14.dcP R02.update s).length) c7]), Ent.row (.slice A6 (R14.dcP R02.update s).length c7) 54 2 (R14.dcP R02.update s).length ((R14.dcP R02.update s).flatMap Pair.enc), Ent.blk b5 37 (DataSet.enc (R14.dcD R02.updateN s) ++ [vI (R14.dcN R02.updateN s), Value.slice A2 ((R14.dcP R02.updateN s).length) c3]), Ent.row (.slice A2 (R14.dcP R02.updateN s).length c3) 54 2 (R14.dcP R02.updateN s).length ((R14.dcP R02.updateN s).flatMap Pair.enc)]) ?_ ?_
    · rcases Bool.eq_false_or_eq_true ((decide (R14.dcE R02.updateN s = R14.dcE R02.update s)) && (R14.same (R14.dcD R02.updateN s) (R14.dcN R02.updateN s) (R14.dcP R02.updateN s) (R14.dcD R02.update s) (R14.dcN R02.update s) (R14.dcP R02.update s))) with g21 | g21
      · have g21r := g21
        have ⟨g21r, h22⟩ := band_true g21r
        have g21r := of_decide_eq_true g21r
        refine JO_read (vI (R14.svM R02.updateN s)) rfl ⟨_, rfl, g21⟩ (fun _ _ => rfl) ?_
        refine JO_read (vI (R14.svM R02.update s)) rfl ⟨_, rfl, g21⟩ (fun _ _ => rfl) ?_
        refine JO_read (vB (decide (R14.svM R02.updateN s = R14.svM R02.update s))) rfl ⟨_, rfl, g21⟩ (fun _ _ => x_eql_i rfl rfl) ?_
        refine JO_read (vB (decide (R14.svM R02.updateN s = R14.svM R02.update s))) rfl trivial (fun _ _ => x_pick_t rfl g21 rfl) ?_
        refine JO_nil (JX_cut (decide (R14.svM R02.updateN s = R14.svM R02.update s)) (by rw [g21]; simp) ⟨rfl, rfl, rfl, rfl, rfl, rfl, trivial⟩ (fun _ h => h))
      · have g21r := g21
        simp only [Bool.and_eq_true, Bool.or_eq_true, Bool.and_eq_false_iff, Bool.or_eq_false_iff, Bool.not_eq_true', Bool.not_eq_false', decide_eq_true_eq, decide_eq_false_iff_not] at g21r
        refine JO_shun rfl ⟨_, rfl, g21⟩ ?_
        refine JO_shun rfl ⟨_, rfl, g21⟩ ?_
        refine JO_shun rfl ⟨_, rfl, g21⟩ ?_
        refine JO_read (vB false) rfl trivial (fun _ _ => x_pick_f rfl g21 rfl) ?_
        refine JO_nil (JX_cut (false) (by rw [g21]; simp) ⟨rfl, rfl, rfl, rfl, rfl, rfl, trivial⟩ (fun _ h => h))
    rintro z20 rfl
    refine jr_ (vB (((decide (R14.dcE R02.updateN s = R14.dcE R02.update s)) && (R14.same (R14.dcD R02.updateN s) (R14.dcN R02.updateN s) (R14.dcP R02.updateN s) (R14.dcD R02.update s) (R14.dcN R02.update s) (R14.dcP R02.update s))) && (decide (R14.svM R02.updateN s = R14.svM R02.update s)))) ?_
    refine JO_cut (X := Bool) 4 (fun z => z = ((((decide (R14.dcE R02.updateN s = R14.dcE R02.update s)) && (R14.same (R14.dcD R02.updateN s) (R14.dcN R02.updateN s) (R14.dcP R02.updateN s) (R14.dcD R02.update s) (R14.dcN R02.update s) (R14.dcP R02.update s))) && (decide (R14.svM R02.updateN s = R14.svM R02.update s))) && (decide (R14.svE R02.updateN s = R14.svE R02.update s)))) (fun z => [(2, vB false), (7, Value.pointer (some ⟨b13, 0, none⟩)), (10, Value.pointer (some ⟨b17, 0, none⟩)), (60, vB z)]) (fun _ => [Ent.blk b17 37 (DataSet.enc (R14.svD R02.update s) ++ [vI (R14.svN R02.update s), Value.slice A14 ((R14.svP R02.update s).length) c15]), Ent.row (.slice A14 (R14.svP R02.update s).length c15) 54 2 (R14.svP R02.update s).length ((R14.svP R02.update s).flatMap Pair.enc), Ent.blk b13 37 (DataSet.enc (R14.svD R02.updateN s) ++ [vI (R14.svN R02.updateN s), Value.slice A10 ((R14.svP R02.updateN s).length) c11]), Ent.row (.slice A10 (R14.svP R02.updateN s).length c11) 54 2 (R14.svP R02.updateN s).length ((R14.svP R02.updateN s).flatMap Pair.enc), Ent.blk b9 37 (DataSet.enc (R14.dcD R02.update s) ++ [vI (R14.dcN R02.update s), Value.slice A6 ((R14.dcP R02.update s).length) c7]), Ent.row (.slice A6 (R14.dcP R02.update s).length c7) 54 2 (R14.dcP R02.update s).length ((R14.dcP R02.update s).flatMap Pair.enc), Ent.blk b5 37 (DataSet.enc (R14.dcD R02.updateN s) ++ [vI (R14.dcN R02.updateN s), Value.slice A2 ((R14.dcP R02.updateN s).length) c3]), Ent.row (.slice A2 (R14.dcP R02.updateN s).length c3) 54 2 (R14.dcP R02.updateN s).length ((R14.dcP R02.updateN s).flatMap Pair.enc)]) ?_ ?_
    · rcases Bool.eq_false_or_eq_true (((decide (R14.dcE R02.updateN s = R14.dcE R02.update s)) && (R14.same (R14.dcD R02.updateN s) (R14.dcN R02.updateN s) (R14.dcP R02.updateN s) (R14.dcD R02.update s) (R14.dcN R02.update s) (R14.dcP R02.update s))) && (decide (R14.svM R02.updateN s = R14.svM R02.update s))) with g24 | g24
      · have g24r := g24
        have ⟨g24r, h25⟩ := band_true g24r
        have ⟨g24r, h26⟩ := band_true g24r
        have g24r := of_decide_eq_true g24r
        have h25 := of_decide_eq_true h25
        refine JO_read (vI (R14.svE R02.updateN s)) rfl ⟨_, rfl, g24⟩ (fun _ _ => rfl) ?_
        refine JO_read (vI (R14.svE R02.update s)) rfl ⟨_, rfl, g24⟩ (fun _ _ => rfl) ?_
        refine JO_read (vB (decide (R14.svE R02.updateN s = R14.svE R02.update s))) rfl ⟨_, rfl, g24⟩ (fun _ _ => x_eql_i rfl rfl) ?_
        refine JO_read (vB (decide (R14.svE R02.updateN s = R14.svE R02.update s))) rfl trivial (fun _ _ => x_pick_t rfl g24 rfl) ?_
        refine JO_nil (JX_cut (decide (R14.svE R02.updateN s = R14.svE R02.update s)) (by rw [g24]; simp) ⟨rfl, rfl, rfl, rfl, trivial⟩ (fun _ h => h))
      · have g24r := g24
        simp only [Bool.and_eq_true, Bool.or_eq_true, Bool.and_eq_false_iff, Bool.or_eq_false_iff, Bool.not_eq_true', Bool.not_eq_false', decide_eq_true_eq, decide_eq_false_iff_not] at g24r
        refine JO_shun rfl ⟨_, rfl, g24⟩ ?_
        refine JO_shun rfl ⟨_, rfl, g24⟩ ?_
        refine JO_shun rfl ⟨_, rfl, g24⟩ ?_
        refine JO_read (vB false) rfl trivial (fun _ _ => x_pick_f rfl g24 rfl) ?_
        refine JO_nil (JX_cut (false) (by rw [g24]; simp) ⟨rfl, rfl, rfl, rfl, trivial⟩ (fun _ h => h))
    rintro z23 rfl
    refine jr_ (vB ((((decide (R14.dcE R02.updateN s = R14.dcE R02.update s)) && (R14.same (R14.dcD R02.updateN s) (R14.dcN R02.updateN s) (R14.dcP R02.updateN s) (R14.dcD R02.update s) (R14.dcN R02.update s) (R14.dcP R02.update s))) && (decide (R14.svM R02.updateN s = R14.svM R02.update s))) && (decide (R14.svE R02.updateN s = R14.svE R02.update s)))) ?_
    refine JO_cut (X := Bool) 4 (fun z => z = (((((decide (R14.dcE R02.updateN s = R14.dcE R02.update s)) && (R14.same (R14.dcD R02.updateN s) (R14.dcN R02.updateN s) (R14.dcP R02.updateN s) (R14.dcD R02.update s) (R14.dcN R02.update s) (R14.dcP R02.update s))) && (decide (R14.svM R02.updateN s = R14.svM R02.update s))) && (decide (R14.svE R02.updateN s = R14.svE R02.update s))) && (R14.same (R14.svD R02.updateN s) (R14.svN R02.updateN s) (R14.svP R02.updateN s) (R14.svD R02.update s) (R14.svN R02.update s) (R14.svP R02.update s)))) (fun z => [(2, vB false), (65, vB z)]) (fun _ => [Ent.blk b17 37 (DataSet.enc (R14.svD R02.update s) ++ [vI (R14.svN R02.update s), Value.slice A14 ((R14.svP R02.update s).length) c15]), Ent.row (.slice A14 (R14.svP R02.update s).length c15) 54 2 (R14.svP R02.update s).length ((R14.svP R02.update s).flatMap Pair.enc), Ent.blk b13 37 (DataSet.enc (R14.svD R02.updateN s) ++ [vI (R14.svN R02.updateN s), Value.slice A10 ((R14.svP R02.updateN s).length) c11]), Ent.row (.slice A10 (R14.svP R02.updateN s).length c11) 54 2 (R14.svP R02.updateN s).length ((R14.svP R02.updateN s).flatMap Pair.enc), Ent.blk b9 37 (DataSet.enc (R14.dcD R02.update s) ++ [vI (R14.dcN R02.update s), Value.slice A6 ((R14.dcP R02.update s).length) c7]), Ent.row (.slice A6 (R14.dcP R02.update s).length c7) 54 2 (R14.dcP R02.update s).length ((R14.dcP R02.update s).flatMap Pair.enc), Ent.blk b5 37 (DataSet.enc (R14.dcD R02.updateN s) ++ [vI (R14.dcN R02.updateN s), Value.slice A2 ((R14.dcP R02.updateN s).length) c3]), Ent.row (.slice A2 (R14.dcP R02.updateN s).length c3) 54 2 (R14.dcP R02.updateN s).length ((R14.dcP R02.updateN s).flatMap Pair.enc)]) ?_ ?_
    · rcases Bool.eq_false_or_eq_true ((((decide (R14.dcE R02.updateN s = R14.dcE R02.update s)) && (R14.same (R14.dcD R02.updateN s) (R14.dcN R02.updateN s) (R14.dcP R02.updateN s) (R14.dcD R02.update s) (R14.dcN R02.update s) (R14.dcP R02.update s))) && (decide (R14.svM R02.updateN s = R14.svM R02.update s))) && (decide (R14.svE R02.updateN s = R14.svE R02.update s))) with g28 | g28
      · have g28r := g28
        have ⟨g28r, h29⟩ := band_true g28r
        have ⟨g28r, h30⟩ := band_true g28r
        have ⟨g28r, h31⟩ := band_true g28r
        have g28r := of_decide_eq_true g28r
        have h30 := of_decide_eq_true h30
        have h29 := of_decide_eq_true h29
        refine JO_read (Value.agg ((DataSet.enc (R14.svD R02.updateN s) ++ [vI (R14.svN R02.updateN s), Value.slice A10 ((R14.svP R02.updateN s).length) c11])).toArray) rfl ⟨_, rfl, g28⟩ (x_loadN 2 (DataSet.enc (R14.svD R02.updateN s) ++ [vI (R14.svN R02.updateN s), Value.slice A10 ((R14.svP R02.updateN s).length) c11]) rfl rfl Ty.ag37 Ty.sz37 rfl) ?_
        refine JO_read (Value.agg ((DataSet.enc (R14.svD R02.update s) ++ [vI (R14.svN R02.update s), Value.slice A14 ((R14.svP R02.update s).length) c15])).toArray) rfl ⟨_, rfl, g28⟩ (x_loadN 0 (DataSet.enc (R14.svD R02.update s) ++ [vI (R14.svN R02.update s), Value.slice A14 ((R14.svP R02.update s).length) c15]) rfl rfl Ty.ag37 Ty.sz37 rfl) ?_
        refine JO_call [] [] [Ent.blk b17 37 (DataSet.enc (R14.svD R02.update s) ++ [vI (R14.svN R02.update s), Value.slice A14 ((R14.svP R02.update s).length) c15]), Ent.row (.slice A14 (R14.svP R02.update s).length c15) 54 2 (R14.svP R02.update s).length ((R14.svP R02.update s).flatMap Pair.enc), Ent.blk b13 37 (DataSet.enc (R14.svD R02.updateN s) ++ [vI (R14.svN R02.updateN s), Value.slice A10 ((R14.svP R02.updateN s).length) c11]), Ent.row (.slice A10 (R14.svP R02.updateN s).length c11) 54 2 (R14.svP R02.updateN s).length ((R14.svP R02.updateN s).flatMap Pair.enc), Ent.blk b9 37 (DataSet.enc (R14.dcD R02.update s) ++ [vI (R14.dcN R02.update s), Value.slice A6 ((R14.dcP R02.update s).length) c7]), Ent.row (.slice A6 (R14.dcP R02.update s).length c7) 54 2 (R14.dcP R02.update s).length ((R14.dcP R02.update s).flatMap Pair.enc), Ent.blk b5 37 (DataSet.enc (R14.dcD R02.updateN s) ++ [vI (R14.dcN R02.updateN s), Value.slice A2 ((R14.dcP R02.updateN s).length) c3]), Ent.row (.slice A2 (R14.dcP R02.updateN s).length c3) 54 2 (R14.dcP R02.updateN s).length ((R14.dcP R02.updateN s).flatMap Pair.enc)] rfl ⟨_, rfl, g28⟩ (fun _ => x_call Ty.ca23 rfl) (fun _ h => h) (fun _ h => by cases h) (fun w hS => f23_ok (R14.svD R02.updateN s) (R14.svN R02.updateN s) (R14.svP R02.updateN s) A10 c11 (R14.svD R02.update s) (R14.svN R02.update s) (R14.svP R02.update s) A14 c15 w (RO.of_row hS 3 rfl) (RO.of_row hS 1 rfl) hy_ hy_) ?_
        rintro _ _ ⟨rfl, rfl⟩
        refine JO_read (vB (R14.same (R14.svD R02.updateN s) (R14.svN R02.updateN s) (R14.svP R02.updateN s) (R14.svD R02.update s) (R14.svN R02.update s) (R14.svP R02.update s))) rfl trivial (fun _ _ => x_pick_t rfl g28 rfl) ?_
        refine JO_nil (JX_cut (R14.same (R14.svD R02.updateN s) (R14.svN R02.updateN s) (R14.svP R02.updateN s) (R14.svD R02.update s) (R14.svN R02.update s) (R14.svP R02.update s)) (by rw [g28]; simp) ⟨rfl, rfl, trivial⟩ (fun _ h => h))
      · have g28r := g28
        simp only [Bool.and_eq_true, Bool.or_eq_true, Bool.and_eq_false_iff, Bool.or_eq_false_iff, Bool.not_eq_true', Bool.not_eq_false', decide_eq_true_eq, decide_eq_false_iff_not] at g28r
        refine JO_shun rfl ⟨_, rfl, g28⟩ ?_
        refine JO_shun rfl ⟨_, rfl, g28⟩ ?_
        refine JO_shun rfl ⟨_, rfl, g28⟩ ?_
        refine JO_read (vB false) rfl trivial (fun _ _ => x_pick_f rfl g28 rfl) ?_
        refine JO_nil (JX_cut (false) (by rw [g28]; simp) ⟨rfl, rfl, trivial⟩ (fun _ h => h))
    rintro z27 rfl
    refine jr_ (vB (((((decide (R14.dcE R02.updateN s = R14.dcE R02.update s)) && (R14.same (R14.dcD R02.updateN s) (R14.dcN R02.updateN s) (R14.dcP R02.updateN s) (R14.dcD R02.update s) (R14.dcN R02.update s) (R14.dcP R02.update s))) && (decide (R14.svM R02.updateN s = R14.svM R02.update s))) && (decide (R14.svE R02.updateN s = R14.svE R02.update s))) && (R14.same (R14.svD R02.updateN s) (R14.svN R02.updateN s) (R14.svP R02.updateN s) (R14.svD R02.update s) (R14.svN R02.update s) (R14.svP R02.update s)))) ?_
    refine JO_nil (JX_then (J_ret ?_))
    refine JX_rets [vB (((((decide (R14.dcE R02.updateN s = R14.dcE R02.update s)) && (R14.same (R14.dcD R02.updateN s) (R14.dcN R02.updateN s) (R14.dcP R02.updateN s) (R14.dcD R02.update s) (R14.dcN R02.update s) (R14.dcP R02.update s))) && (decide (R14.svM R02.updateN s = R14.svM R02.update s))) && (decide (R14.svE R02.updateN s = R14.svE R02.update s))) && (R14.same (R14.svD R02.updateN s) (R14.svN R02.updateN s) (R14.svP R02.updateN s) (R14.svD R02.update s) (R14.svN R02.update s) (R14.svP R02.update s)))] (vB (((((decide (R14.dcE R02.updateN s = R14.dcE R02.update s)) && (R14.same (R14.dcD R02.updateN s) (R14.dcN R02.updateN s) (R14.dcP R02.updateN s) (R14.dcD R02.update s) (R14.dcN R02.update s) (R14.dcP R02.update s))) && (decide (R14.svM R02.updateN s = R14.svM R02.update s))) && (decide (R14.svE R02.updateN s = R14.svE R02.update s))) && (R14.same (R14.svD R02.updateN s) (R14.svN R02.updateN s) (R14.svP R02.updateN s) (R14.svD R02.update s) (R14.svN R02.update s) (R14.svP R02.update s)))) Try.results6 (fun w h => ⟨rfl, trivial⟩) rfl [] (fun _ h => h.keep [false, false, false, false, false, false, false, false] rfl) ⟨?_, ?_⟩
    · have e_x0 : (((((decide (R14.dcE R02.updateN s = R14.dcE R02.update s)) && (R14.same (R14.dcD R02.updateN s) (R14.dcN R02.updateN s) (R14.dcP R02.updateN s) (R14.dcD R02.update s) (R14.dcN R02.update s) (R14.dcP R02.update s))) && (decide (R14.svM R02.updateN s = R14.svM R02.update s))) && (decide (R14.svE R02.updateN s = R14.svE R02.update s))) && (R14.same (R14.svD R02.updateN s) (R14.svN R02.updateN s) (R14.svP R02.updateN s) (R14.svD R02.update s) (R14.svN R02.update s) (R14.svP R02.update s)) : Bool) = true := by first | rfl | (rw [R02.updateN_eq]; simp [R14.same]; done) | (exfalso; simp_all [R02.updateN_eq, R14.same]; done)
      exact congrArg (fun (x0 : Bool) => vB x0) e_x0
    · rfl
end Go.Proofs.Ytodfebhimadaiaa
