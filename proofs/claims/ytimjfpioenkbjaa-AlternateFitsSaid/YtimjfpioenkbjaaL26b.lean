/- contracts L26b -/
import Derived.Test.YtimjfpioenkbjaaC26e
namespace Go.Proofs.Ytimjfpioenkbjaa
open Go.GV
set_option linter.unusedVariables false
set_option linter.unusedSimpArgs false

set_option maxRecDepth 20000 in
theorem f4_ok (base : DataSet) (id : Int) (pos : Int) (len : Int) (u : Bool) (w : World) : Calls Try.prog 4 #[Value.agg ((DataSet.enc base)).toArray, vI id, vI pos, vI len, vB u] w (Gives [] w fun v L => v = vB true ∧ L = []) := by
  refine calls_J [] 101 Try.func4 rfl Try.ntmps4 [(0, Value.agg ((DataSet.enc base)).toArray), (1, vI id), (2, vI pos), (3, vI len), (4, vB u)] rfl rfl (Give.nil w) ?_
  refine J_seq ?_
  refine J_region ?_
  refine JO_op rfl trivial (O_box rfl rfl fun b1 => ?_)
  refine JO_read (vB false) rfl trivial (fun _ _ => rfl) ?_
  refine JO_nil ?_
  refine JX_then ?_
  refine J_seq ?_
  refine J_seq ?_
  refine J_region ?_
  refine JO_call [] [] [Ent.blk b1 23 (DataSet.enc base)] rfl trivial (fun _ => x_call Ty.ca10 rfl) (fun _ h => h) (fun _ h => by cases h) (fun w hS => f10_ok w) ?_
  rintro _ _ ⟨rfl, rfl⟩
  refine JO_read (vB false) rfl trivial (fun _ _ => rfl) ?_
  refine JO_nil ?_
  refine JX_then ?_
  refine J_cond false rfl rfl (fun h => by cases h) (fun h => ?_)
  refine J_skip ?_
  refine JX_then ?_
  refine J_seq ?_
  refine J_region ?_
  refine JO_read (Value.agg ((DataSet.enc base)).toArray) rfl trivial (x_loadN 0 (DataSet.enc base) rfl rfl Ty.ag23 Ty.sz23 rfl) ?_
  refine JO_read (vI id) rfl trivial (fun _ _ => rfl) ?_
  refine JO_read (vI pos) rfl trivial (fun _ _ => rfl) ?_
  refine JO_read (vI len) rfl trivial (fun _ _ => rfl) ?_
  refine JO_read (vB u) rfl trivial (fun _ _ => rfl) ?_
  refine JO_call [] [] [Ent.blk b1 23 (DataSet.enc base)] rfl trivial (fun _ => x_call Ty.ca11 rfl) (fun _ h => h) (fun _ h => by cases h) (fun w hS => f11_ok base id pos len u w) ?_
  rintro _ _ ⟨rfl, rfl⟩
  refine JO_read (Value.tuple #[Value.agg ((DataSet.enc ((R26.describe base id pos len u).1))).toArray, vI ((R26.describe base id pos len u).2)]) rfl trivial (fun _ _ => rfl) ?_
  refine JO_read (Value.agg ((DataSet.enc ((R26.describe base id pos len u).1))).toArray) rfl trivial (fun _ _ => rfl) ?_
  refine JO_read (vI ((R26.describe base id pos len u).2)) rfl trivial (fun _ _ => rfl) ?_
  refine JO_op rfl trivial (O_alloc Ty.ze23 rfl fun b2 => ?_)
  refine JO_op rfl trivial (O_storeS (vs := (DataSet.enc ((R26.describe base id pos len u).1))) 0 (DataSet.enc ((R26.describe base id pos len u).1)) [Ent.blk b2 23 (DataSet.enc ((R26.describe base id pos len u).1)), Ent.blk b1 23 (DataSet.enc base)] rfl rfl rfl Ty.sz23 rfl (Nat.le_of_ble_eq_true rfl) rfl rfl rfl ?_)
  refine JO_read (vI ((R26.describe base id pos len u).2)) rfl trivial (fun _ _ => rfl) ?_
  refine JO_nil ?_
  refine JX_then ?_
  refine J_seq ?_
  refine J_seq ?_
  refine J_region ?_
  refine JO_read (vI ((R26.describe base id pos len u).2)) rfl trivial (fun _ _ => rfl) ?_
  refine JO_read (vB (decide ((R26.describe base id pos len u).2 ≠ 0))) rfl trivial (fun _ _ => x_neq_i rfl rfl) ?_
  refine JO_nil ?_
  refine JX_then ?_
  refine J_cond (decide ((R26.describe base id pos len u).2 ≠ 0)) rfl rfl (fun h3 => ?_) (fun h3 => ?_)
  · have h3 := of_decide_eq_true h3
    refine J_seq ?_
    refine J_region ?_
    refine JO_read (Value.agg ((DataSet.enc ((R26.describe base id pos len u).1))).toArray) rfl trivial (x_loadN 0 (DataSet.enc ((R26.describe base id pos len u).1)) rfl rfl Ty.ag23 Ty.sz23 rfl) ?_
    refine JO_read (Value.agg #[vI 0, vI 0, vI 0, vI 0, vI 0, vI 0, vI 0, vI 0, vI 0, vI 0, vI 0, vI 0, vI 0, vI 0, vB false, vI 0, vS [], vS [], vI 0, vI 0, vB false]) rfl trivial (fun _ _ => x_build (by kernel_rfl)) ?_
    refine JO_read (vB (decide ((((R26.describe base id pos len u).1) : DataSet) = (DataSet.mk 0 0 0 0 0 0 0 0 0 0 0 0 0 0 false 0 [] [] 0 0 false)))) rfl trivial (fun _ _ => x_eql_agg rfl rfl Ty.eg23 (Ty.eq23 9998 ((R26.describe base id pos len u).1) (DataSet.mk 0 0 0 0 0 0 0 0 0 0 0 0 0 0 false 0 [] [] 0 0 false))) ?_
    refine JO_read (vB (decide ((((R26.describe base id pos len u).1) : DataSet) = (DataSet.mk 0 0 0 0 0 0 0 0 0 0 0 0 0 0 false 0 [] [] 0 0 false)))) rfl trivial (fun _ _ => rfl) ?_
    refine JO_cut (X := Bool) 7 (fun z => z = ((decide ((((R26.describe base id pos len u).1) : DataSet) = (DataSet.mk 0 0 0 0 0 0 0 0 0 0 0 0 0 0 false 0 [] [] 0 0 false))) && ((decide ((R26.describe base id pos len u).2 = 1)) || (decide ((R26.describe base id pos len u).2 = 8))))) (fun z => [(1, vI id), (2, vI pos), (3, vI len), (4, vB u), (5, Value.pointer (some ⟨b1, 0, none⟩)), (10, vB false), (11, Value.pointer (some ⟨b2, 0, none⟩)), (37, vB z)]) (fun _ => [Ent.blk b2 23 (DataSet.enc ((R26.describe base id pos len u).1)), Ent.blk b1 23 (DataSet.enc base)]) ?_ ?_
    · rcases Bool.eq_false_or_eq_true (decide ((((R26.describe base id pos len u).1) : DataSet) = (DataSet.mk 0 0 0 0 0 0 0 0 0 0 0 0 0 0 false 0 [] [] 0 0 false))) with g5 | g5
      · have g5r := g5
        have g5r := of_decide_eq_true g5r
        refine JO_read (vI ((R26.describe base id pos len u).2)) rfl ⟨_, rfl, g5⟩ (fun _ _ => rfl) ?_
        refine JO_read (vB (decide ((R26.describe base id pos len u).2 = 1))) rfl ⟨_, rfl, g5⟩ (fun _ _ => x_eql_i rfl rfl) ?_
        refine JO_read (vB (decide ((R26.describe base id pos len u).2 = 1))) rfl ⟨_, rfl, g5⟩ (fun _ _ => rfl) ?_
        refine JO_cut (X := Bool) 3 (fun z => z = ((decide ((R26.describe base id pos len u).2 = 1)) || (decide ((R26.describe base id pos len u).2 = 8)))) (fun z => [(1, vI id), (2, vI pos), (3, vI len), (4, vB u), (5, Value.pointer (some ⟨b1, 0, none⟩)), (10, vB false), (11, Value.pointer (some ⟨b2, 0, none⟩)), (30, vB (decide ((((R26.describe base id pos len u).1) : DataSet) = (DataSet.mk 0 0 0 0 0 0 0 0 0 0 0 0 0 0 false 0 [] [] 0 0 false)))), (36, vB z)]) (fun _ => [Ent.blk b2 23 (DataSet.enc ((R26.describe base id pos len u).1)), Ent.blk b1 23 (DataSet.enc base)]) ?_ ?_
        · rcases Bool.eq_false_or_eq_true (decide ((R26.describe base id pos len u).2 = 1)) with g7 | g7
          · have g7r := g7
            have g7r := of_decide_eq_true g7r
            refine JO_shun rfl ⟨_, rfl, g7⟩ ?_
            refine JO_shun rfl ⟨_, rfl, g7⟩ ?_
            refine JO_read (vB true) rfl ⟨_, rfl, g5⟩ (fun _ _ => x_pick_t rfl g7 rfl) ?_
            refine JO_nil (JX_cut (true) (by rw [g7]; simp) ⟨rfl, rfl, rfl, rfl, rfl, rfl, rfl, rfl, rfl, trivial⟩ (fun _ h => h))
          · have g7r := g7
            have g7r := of_decide_eq_false g7r
            refine JO_read (vI ((R26.describe base id pos len u).2)) rfl ⟨_, rfl, g7⟩ (fun _ _ => rfl) ?_
            refine JO_read (vB (decide ((R26.describe base id pos len u).2 = 8))) rfl ⟨_, rfl, g7⟩ (fun _ _ => x_eql_i rfl rfl) ?_
            refine JO_read (vB (decide ((R26.describe base id pos len u).2 = 8))) rfl ⟨_, rfl, g5⟩ (fun _ _ => x_pick_f rfl g7 rfl) ?_
            refine JO_nil (JX_cut (decide ((R26.describe base id pos len u).2 = 8)) (by rw [g7]; simp) ⟨rfl, rfl, rfl, rfl, rfl, rfl, rfl, rfl, rfl, trivial⟩ (fun _ h => h))
        rintro z6 rfl
        refine JO_read (vB ((decide ((R26.describe base id pos len u).2 = 1)) || (decide ((R26.describe base id pos len u).2 = 8)))) rfl trivial (fun _ _ => x_pick_t rfl g5 rfl) ?_
        refine JO_nil (JX_cut ((decide ((R26.describe base id pos len u).2 = 1)) || (decide ((R26.describe base id pos len u).2 = 8))) (by rw [g5]; simp) ⟨rfl, rfl, rfl, rfl, rfl, rfl, rfl, rfl, trivial⟩ (fun _ h => h))
      · have g5r := g5
        have g5r := of_decide_eq_false g5r
        refine JO_shun rfl ⟨_, rfl, g5⟩ ?_
        refine JO_shun rfl ⟨_, rfl, g5⟩ ?_
        refine JO_shun rfl ⟨_, rfl, g5⟩ ?_
        refine JO_shunU rfl ⟨_, rfl, rfl⟩ ?_
        refine JO_shunU rfl ⟨_, rfl, rfl⟩ ?_
        refine JO_shun rfl ⟨_, rfl, g5⟩ ?_
        refine JO_read (vB false) rfl trivial (fun _ _ => x_pick_f rfl g5 rfl) ?_
        refine JO_nil (JX_cut (false) (by rw [g5]; simp) ⟨rfl, rfl, rfl, rfl, rfl, rfl, rfl, rfl, trivial⟩ (fun _ h => h))
    rintro z4 rfl
    refine JO_read (vB ((decide ((((R26.describe base id pos len u).1) : DataSet) = (DataSet.mk 0 0 0 0 0 0 0 0 0 0 0 0 0 0 false 0 [] [] 0 0 false))) && ((decide ((R26.describe base id pos len u).2 = 1)) || (decide ((R26.describe base id pos len u).2 = 8))))) rfl trivial (fun _ _ => rfl) ?_
    refine JO_nil ?_
    refine JX_then ?_
    refine J_ret ?_
    refine JX_then_ret ?_
    refine JX_rets [vB ((decide ((((R26.describe base id pos len u).1) : DataSet) = (DataSet.mk 0 0 0 0 0 0 0 0 0 0 0 0 0 0 false 0 [] [] 0 0 false))) && ((decide ((R26.describe base id pos len u).2 = 1)) || (decide ((R26.describe base id pos len u).2 = 8))))] (vB ((decide ((((R26.describe base id pos len u).1) : DataSet) = (DataSet.mk 0 0 0 0 0 0 0 0 0 0 0 0 0 0 false 0 [] [] 0 0 false))) && ((decide ((R26.describe base id pos len u).2 = 1)) || (decide ((R26.describe base id pos len u).2 = 8))))) Try.results4 (fun w h => ⟨rfl, trivial⟩) rfl [] (fun _ h => h.keep [false, false] rfl) ⟨?_, ?_⟩
    · have e_x0 : ((decide ((((R26.describe base id pos len u).1) : DataSet) = (DataSet.mk 0 0 0 0 0 0 0 0 0 0 0 0 0 0 false 0 [] [] 0 0 false))) && ((decide ((R26.describe base id pos len u).2 = 1)) || (decide ((R26.describe base id pos len u).2 = 8))) : Bool) = true := by
        first
          | rfl
          | exact R26.describe_err (by assumption)
          | exact R26.fits_end (by assumption)
          | (exfalso; obtain ⟨f1, f2, f3, f4, f5, f6, f7, f8, f9⟩ := R26.describe_fit (base := base) (id := id) (pos := pos) (len := len) (u := u) (by assumption); simp only [f1, f2, f3, f4, f5, f6, f7, Bool.true_eq_false, ne_eq, not_true_eq_false, false_or] at *; omega)
      exact congrArg (fun (x0 : Bool) => vB x0) e_x0
    · rfl
  · have h3 := of_decide_eq_false h3
    refine J_skip ?_
    refine JX_then ?_
    refine J_seq ?_
    refine J_seq ?_
    refine J_region ?_
    refine JO_read (Value.agg ((DataSet.enc base)).toArray) rfl trivial (x_loadN 1 (DataSet.enc base) rfl rfl Ty.ag23 Ty.sz23 rfl) ?_
    refine JO_read (Value.agg ((DataSet.enc ((R26.describe base id pos len u).1))).toArray) rfl trivial (x_loadN 0 (DataSet.enc ((R26.describe base id pos len u).1)) rfl rfl Ty.ag23 Ty.sz23 rfl) ?_
    refine JO_call [] [] [Ent.blk b2 23 (DataSet.enc ((R26.describe base id pos len u).1)), Ent.blk b1 23 (DataSet.enc base)] rfl trivial (fun _ => x_call Ty.ca13 rfl) (fun _ h => h) (fun _ h => by cases h) (fun w hS => f13_ok base ((R26.describe base id pos len u).1) w) ?_
    rintro _ _ ⟨rfl, rfl⟩
    refine JO_read (vB (!(R26.valid base ((R26.describe base id pos len u).1)))) rfl trivial (fun _ _ => x_not rfl) ?_
    refine JO_read (vB (!(R26.valid base ((R26.describe base id pos len u).1)))) rfl trivial (fun _ _ => rfl) ?_
    refine JO_cut (X := Bool) 4 (fun z => z = ((!(R26.valid base ((R26.describe base id pos len u).1))) || (!(R16.valid ((R26.describe base id pos len u).1))))) (fun z => [(1, vI id), (2, vI pos), (3, vI len), (4, vB u), (5, Value.pointer (some ⟨b1, 0, none⟩)), (10, vB false), (11, Value.pointer (some ⟨b2, 0, none⟩)), (46, vB z)]) (fun _ => [Ent.blk b2 23 (DataSet.enc ((R26.describe base id pos len u).1)), Ent.blk b1 23 (DataSet.enc base)]) ?_ ?_
    · rcases Bool.eq_false_or_eq_true (!(R26.valid base ((R26.describe base id pos len u).1))) with g9 | g9
      · have g9r := g9
        have g9r : (R26.valid base ((R26.describe base id pos len u).1)) = false := bnot_true g9r
        refine JO_shun rfl ⟨_, rfl, g9⟩ ?_
        refine JO_shun rfl ⟨_, rfl, g9⟩ ?_
        refine JO_shun rfl ⟨_, rfl, g9⟩ ?_
        refine JO_read (vB true) rfl trivial (fun _ _ => x_pick_t rfl g9 rfl) ?_
        refine JO_nil (JX_cut (true) (by rw [g9]; simp) ⟨rfl, rfl, rfl, rfl, rfl, rfl, rfl, rfl, trivial⟩ (fun _ h => h))
      · have g9r := g9
        have g9r : (R26.valid base ((R26.describe base id pos len u).1)) = true := bnot_false g9r
        have hi10 := R26.valid_facts g9r
        refine JO_read (Value.agg ((DataSet.enc ((R26.describe base id pos len u).1))).toArray) rfl ⟨_, rfl, g9⟩ (x_loadN 0 (DataSet.enc ((R26.describe base id pos len u).1)) rfl rfl Ty.ag23 Ty.sz23 rfl) ?_
        refine JO_call [] [] [Ent.blk b2 23 (DataSet.enc ((R26.describe base id pos len u).1)), Ent.blk b1 23 (DataSet.enc base)] rfl ⟨_, rfl, g9⟩ (fun _ => x_call Ty.ca15 rfl) (fun _ h => h) (fun _ h => by cases h) (fun w hS => f15_ok ((R26.describe base id pos len u).1) w) ?_
        rintro _ _ ⟨rfl, rfl⟩
        refine JO_read (vB (!(R16.valid ((R26.describe base id pos len u).1)))) rfl ⟨_, rfl, g9⟩ (fun _ _ => x_not rfl) ?_
        refine JO_read (vB (!(R16.valid ((R26.describe base id pos len u).1)))) rfl trivial (fun _ _ => x_pick_f rfl g9 rfl) ?_
        refine JO_nil (JX_cut (!(R16.valid ((R26.describe base id pos len u).1))) (by rw [g9]; simp) ⟨rfl, rfl, rfl, rfl, rfl, rfl, rfl, rfl, trivial⟩ (fun _ h => h))
    rintro z8 rfl
    refine JO_read (vB ((!(R26.valid base ((R26.describe base id pos len u).1))) || (!(R16.valid ((R26.describe base id pos len u).1))))) rfl trivial (fun _ _ => rfl) ?_
    refine JO_cut (X := Bool) 5 (fun z => z = (((!(R26.valid base ((R26.describe base id pos len u).1))) || (!(R16.valid ((R26.describe base id pos len u).1)))) || (decide (((R26.describe base id pos len u).1).Id ≠ id)))) (fun z => [(2, vI pos), (3, vI len), (4, vB u), (5, Value.pointer (some ⟨b1, 0, none⟩)), (10, vB false), (11, Value.pointer (some ⟨b2, 0, none⟩)), (52, vB z)]) (fun _ => [Ent.blk b2 23 (DataSet.enc ((R26.describe base id pos len u).1)), Ent.blk b1 23 (DataSet.enc base)]) ?_ ?_
    · rcases Bool.eq_false_or_eq_true ((!(R26.valid base ((R26.describe base id pos len u).1))) || (!(R16.valid ((R26.describe base id pos len u).1)))) with g12 | g12
      · have g12r := g12
        simp only [Bool.and_eq_true, Bool.or_eq_true, Bool.and_eq_false_iff, Bool.or_eq_false_iff, Bool.not_eq_true', Bool.not_eq_false', decide_eq_true_eq, decide_eq_false_iff_not] at g12r
        refine JO_shun rfl ⟨_, rfl, g12⟩ ?_
        refine JO_shun rfl ⟨_, rfl, g12⟩ ?_
        refine JO_shun rfl ⟨_, rfl, g12⟩ ?_
        refine JO_shun rfl ⟨_, rfl, g12⟩ ?_
        refine JO_read (vB true) rfl trivial (fun _ _ => x_pick_t rfl g12 rfl) ?_
        refine JO_nil (JX_cut (true) (by rw [g12]; simp) ⟨rfl, rfl, rfl, rfl, rfl, rfl, rfl, trivial⟩ (fun _ h => h))
      · have g12r := g12
        have ⟨g12r, h13⟩ := bor_false g12r
        have g12r : (R26.valid base ((R26.describe base id pos len u).1)) = true := bnot_false g12r
        have hi14 := R26.valid_facts g12r
        have h13 : (R16.valid ((R26.describe base id pos len u).1)) = true := bnot_false h13
        have hi15 := R16.valid_facts h13
        refine JO_read (Value.pointer (some ⟨b2, 0, none⟩)) rfl ⟨_, rfl, g12⟩ (fun _ _ => x_fieldAddr Ty.fi23_0 rfl rfl) ?_
        refine JO_read (vI (((R26.describe base id pos len u).1).Id)) rfl ⟨_, rfl, g12⟩ (x_load 0 rfl rfl Ty.sc3 rfl) ?_
        refine JO_read (vI id) rfl ⟨_, rfl, g12⟩ (fun _ _ => rfl) ?_
        refine JO_read (vB (decide (((R26.describe base id pos len u).1).Id ≠ id))) rfl ⟨_, rfl, g12⟩ (fun _ _ => x_neq_i rfl rfl) ?_
        refine JO_read (vB (decide (((R26.describe base id pos len u).1).Id ≠ id))) rfl trivial (fun _ _ => x_pick_f rfl g12 rfl) ?_
        refine JO_nil (JX_cut (decide (((R26.describe base id pos len u).1).Id ≠ id)) (by rw [g12]; simp) ⟨rfl, rfl, rfl, rfl, rfl, rfl, rfl, trivial⟩ (fun _ h => h))
    rintro z11 rfl
    refine JO_read (vB (((!(R26.valid base ((R26.describe base id pos len u).1))) || (!(R16.valid ((R26.describe base id pos len u).1)))) || (decide (((R26.describe base id pos len u).1).Id ≠ id)))) rfl trivial (fun _ _ => rfl) ?_
    refine JO_cut (X := Bool) 5 (fun z => z = ((((!(R26.valid base ((R26.describe base id pos len u).1))) || (!(R16.valid ((R26.describe base id pos len u).1)))) || (decide (((R26.describe base id pos len u).1).Id ≠ id))) || (decide (((R26.describe base id pos len u).1).AltAt ≠ pos)))) (fun z => [(3, vI len), (4, vB u), (5, Value.pointer (some ⟨b1, 0, none⟩)), (10, vB false), (11, Value.pointer (some ⟨b2, 0, none⟩)), (58, vB z)]) (fun _ => [Ent.blk b2 23 (DataSet.enc ((R26.describe base id pos len u).1)), Ent.blk b1 23 (DataSet.enc base)]) ?_ ?_
    · rcases Bool.eq_false_or_eq_true (((!(R26.valid base ((R26.describe base id pos len u).1))) || (!(R16.valid ((R26.describe base id pos len u).1)))) || (decide (((R26.describe base id pos len u).1).Id ≠ id))) with g17 | g17
      · have g17r := g17
        simp only [Bool.and_eq_true, Bool.or_eq_true, Bool.and_eq_false_iff, Bool.or_eq_false_iff, Bool.not_eq_true', Bool.not_eq_false', decide_eq_true_eq, decide_eq_false_iff_not] at g17r
        refine JO_shun rfl ⟨_, rfl, g17⟩ ?_
        refine JO_shun rfl ⟨_, rfl, g17⟩ ?_
        refine JO_shun rfl ⟨_, rfl, g17⟩ ?_
        refine JO_shun rfl ⟨_, rfl, g17⟩ ?_
        refine JO_read (vB true) rfl trivial (fun _ _ => x_pick_t rfl g17 rfl) ?_
        refine JO_nil (JX_cut (true) (by rw [g17]; simp) ⟨rfl, rfl, rfl, rfl, rfl, rfl, trivial⟩ (fun _ h => h))
      · have g17r := g17
        have ⟨g17r, h18⟩ := bor_false g17r
        have ⟨g17r, h19⟩ := bor_false g17r
        have g17r : (R26.valid base ((R26.describe base id pos len u).1)) = true := bnot_false g17r
        have hi20 := R26.valid_facts g17r
        have h19 : (R16.valid ((R26.describe base id pos len u).1)) = true := bnot_false h19
        have hi21 := R16.valid_facts h19
        have h18 := of_decide_eq_false h18
        refine JO_read (Value.pointer (some ⟨b2, 12, none⟩)) rfl ⟨_, rfl, g17⟩ (fun _ _ => x_fieldAddr Ty.fi23_12 rfl rfl) ?_
        refine JO_read (vI (((R26.describe base id pos len u).1).AltAt)) rfl ⟨_, rfl, g17⟩ (x_load 0 rfl rfl Ty.sc3 rfl) ?_
        refine JO_read (vI pos) rfl ⟨_, rfl, g17⟩ (fun _ _ => rfl) ?_
        refine JO_read (vB (decide (((R26.describe base id pos len u).1).AltAt ≠ pos))) rfl ⟨_, rfl, g17⟩ (fun _ _ => x_neq_i rfl rfl) ?_
        refine JO_read (vB (decide (((R26.describe base id pos len u).1).AltAt ≠ pos))) rfl trivial (fun _ _ => x_pick_f rfl g17 rfl) ?_
        refine JO_nil (JX_cut (decide (((R26.describe base id pos len u).1).AltAt ≠ pos)) (by rw [g17]; simp) ⟨rfl, rfl, rfl, rfl, rfl, rfl, trivial⟩ (fun _ h => h))
    rintro z16 rfl
    refine JO_read (vB ((((!(R26.valid base ((R26.describe base id pos len u).1))) || (!(R16.valid ((R26.describe base id pos len u).1)))) || (decide (((R26.describe base id pos len u).1).Id ≠ id))) || (decide (((R26.describe base id pos len u).1).AltAt ≠ pos)))) rfl trivial (fun _ _ => rfl) ?_
    refine JO_cut (X := Bool) 5 (fun z => z = (((((!(R26.valid base ((R26.describe base id pos len u).1))) || (!(R16.valid ((R26.describe base id pos len u).1)))) || (decide (((R26.describe base id pos len u).1).Id ≠ id))) || (decide (((R26.describe base id pos len u).1).AltAt ≠ pos))) || (decide (((R26.describe base id pos len u).1).AltLength ≠ len)))) (fun z => [(4, vB u), (5, Value.pointer (some ⟨b1, 0, none⟩)), (10, vB false), (11, Value.pointer (some ⟨b2, 0, none⟩)), (64, vB z)]) (fun _ => [Ent.blk b2 23 (DataSet.enc ((R26.describe base id pos len u).1)), Ent.blk b1 23 (DataSet.enc base)]) ?_ ?_
    · rcases Bool.eq_false_or_eq_true ((((!(R26.valid base ((R26.describe base id pos len u).1))) || (!(R16.valid ((R26.describe base id pos len u).1)))) || (decide (((R26.describe base id pos len u).1).Id ≠ id))) || (decide (((R26.describe base id pos len u).1).AltAt ≠ pos))) with g23 | g23
      · have g23r := g23
        simp only [Bool.and_eq_true, Bool.or_eq_true, Bool.and_eq_false_iff, Bool.or_eq_false_iff, Bool.not_eq_true', Bool.not_eq_false', decide_eq_true_eq, decide_eq_false_iff_not] at g23r
        refine JO_shun rfl ⟨_, rfl, g23⟩ ?_
        refine JO_shun rfl ⟨_, rfl, g23⟩ ?_
        refine JO_shun rfl ⟨_, rfl, g23⟩ ?_
        refine JO_shun rfl ⟨_, rfl, g23⟩ ?_
        refine JO_read (vB true) rfl trivial (fun _ _ => x_pick_t rfl g23 rfl) ?_
        refine JO_nil (JX_cut (true) (by rw [g23]; simp) ⟨rfl, rfl, rfl, rfl, rfl, trivial⟩ (fun _ h => h))
      · have g23r := g23
        have ⟨g23r, h24⟩ := bor_false g23r
        have ⟨g23r, h25⟩ := bor_false g23r
        have ⟨g23r, h26⟩ := bor_false g23r
        have g23r : (R26.valid base ((R26.describe base id pos len u).1)) = true := bnot_false g23r
        have hi27 := R26.valid_facts g23r
        have h26 : (R16.valid ((R26.describe base id pos len u).1)) = true := bnot_false h26
        have hi28 := R16.valid_facts h26
        have h25 := of_decide_eq_false h25
        have h24 := of_decide_eq_false h24
        refine JO_read (Value.pointer (some ⟨b2, 13, none⟩)) rfl ⟨_, rfl, g23⟩ (fun _ _ => x_fieldAddr Ty.fi23_13 rfl rfl) ?_
        refine JO_read (vI (((R26.describe base id pos len u).1).AltLength)) rfl ⟨_, rfl, g23⟩ (x_load 0 rfl rfl Ty.sc3 rfl) ?_
        refine JO_read (vI len) rfl ⟨_, rfl, g23⟩ (fun _ _ => rfl) ?_
        refine JO_read (vB (decide (((R26.describe base id pos len u).1).AltLength ≠ len))) rfl ⟨_, rfl, g23⟩ (fun _ _ => x_neq_i rfl rfl) ?_
        refine JO_read (vB (decide (((R26.describe base id pos len u).1).AltLength ≠ len))) rfl trivial (fun _ _ => x_pick_f rfl g23 rfl) ?_
        refine JO_nil (JX_cut (decide (((R26.describe base id pos len u).1).AltLength ≠ len)) (by rw [g23]; simp) ⟨rfl, rfl, rfl, rfl, rfl, trivial⟩ (fun _ h => h))
    rintro z22 rfl
    refine JO_read (vB (((((!(R26.valid base ((R26.describe base id pos len u).1))) || (!(R16.valid ((R26.describe base id pos len u).1)))) || (decide (((R26.describe base id pos len u).1).Id ≠ id))) || (decide (((R26.describe base id pos len u).1).AltAt ≠ pos))) || (decide (((R26.describe base id pos len u).1).AltLength ≠ len)))) rfl trivial (fun _ _ => rfl) ?_
    refine JO_cut (X := Bool) 5 (fun z => z = ((((((!(R26.valid base ((R26.describe base id pos len u).1))) || (!(R16.valid ((R26.describe base id pos len u).1)))) || (decide (((R26.describe base id pos len u).1).Id ≠ id))) || (decide (((R26.describe base id pos len u).1).AltAt ≠ pos))) || (decide (((R26.describe base id pos len u).1).AltLength ≠ len))) || (decide ((((R26.describe base id pos len u).1).Unique) ≠ (u))))) (fun z => [(5, Value.pointer (some ⟨b1, 0, none⟩)), (10, vB false), (11, Value.pointer (some ⟨b2, 0, none⟩)), (70, vB z)]) (fun _ => [Ent.blk b2 23 (DataSet.enc ((R26.describe base id pos len u).1)), Ent.blk b1 23 (DataSet.enc base)]) ?_ ?_
    · rcases Bool.eq_false_or_eq_true (((((!(R26.valid base ((R26.describe base id pos len u).1))) || (!(R16.valid ((R26.describe base id pos len u).1)))) || (decide (((R26.describe base id pos len u).1).Id ≠ id))) || (decide (((R26.describe base id pos len u).1).AltAt ≠ pos))) || (decide (((R26.describe base id pos len u).1).AltLength ≠ len))) with g30 | g30
      · have g30r := g30
        simp only [Bool.and_eq_true, Bool.or_eq_true, Bool.and_eq_false_iff, Bool.or_eq_false_iff, Bool.not_eq_true', Bool.not_eq_false', decide_eq_true_eq, decide_eq_false_iff_not] at g30r
        refine JO_shun rfl ⟨_, rfl, g30⟩ ?_
        refine JO_shun rfl ⟨_, rfl, g30⟩ ?_
        refine JO_shun rfl ⟨_, rfl, g30⟩ ?_
        refine JO_shun rfl ⟨_, rfl, g30⟩ ?_
        refine JO_read (vB true) rfl trivial (fun _ _ => x_pick_t rfl g30 rfl) ?_
        refine JO_nil (JX_cut (true) (by rw [g30]; simp) ⟨rfl, rfl, rfl, rfl, trivial⟩ (fun _ h => h))
      · have g30r := g30
        have ⟨g30r, h31⟩ := bor_false g30r
        have ⟨g30r, h32⟩ := bor_false g30r
        have ⟨g30r, h33⟩ := bor_false g30r
        have ⟨g30r, h34⟩ := bor_false g30r
        have g30r : (R26.valid base ((R26.describe base id pos len u).1)) = true := bnot_false g30r
        have hi35 := R26.valid_facts g30r
        have h34 : (R16.valid ((R26.describe base id pos len u).1)) = true := bnot_false h34
        have hi36 := R16.valid_facts h34
        have h33 := of_decide_eq_false h33
        have h32 := of_decide_eq_false h32
        have h31 := of_decide_eq_false h31
        refine JO_read (Value.pointer (some ⟨b2, 14, none⟩)) rfl ⟨_, rfl, g30⟩ (fun _ _ => x_fieldAddr Ty.fi23_14 rfl rfl) ?_
        refine JO_read (vB (((R26.describe base id pos len u).1).Unique)) rfl ⟨_, rfl, g30⟩ (x_load 0 rfl rfl Ty.sc4 rfl) ?_
        refine JO_read (vB u) rfl ⟨_, rfl, g30⟩ (fun _ _ => rfl) ?_
        refine JO_read (vB (decide ((((R26.describe base id pos len u).1).Unique) ≠ (u)))) rfl ⟨_, rfl, g30⟩ (fun _ _ => x_neq_b Try.underlying4 rfl rfl) ?_
        refine JO_read (vB (decide ((((R26.describe base id pos len u).1).Unique) ≠ (u)))) rfl trivial (fun _ _ => x_pick_f rfl g30 rfl) ?_
        refine JO_nil (JX_cut (decide ((((R26.describe base id pos len u).1).Unique) ≠ (u))) (by rw [g30]; simp) ⟨rfl, rfl, rfl, rfl, trivial⟩ (fun _ h => h))
    rintro z29 rfl
    refine JO_read (vB ((((((!(R26.valid base ((R26.describe base id pos len u).1))) || (!(R16.valid ((R26.describe base id pos len u).1)))) || (decide (((R26.describe base id pos len u).1).Id ≠ id))) || (decide (((R26.describe base id pos len u).1).AltAt ≠ pos))) || (decide (((R26.describe base id pos len u).1).AltLength ≠ len))) || (decide ((((R26.describe base id pos len u).1).Unique) ≠ (u))))) rfl trivial (fun _ _ => rfl) ?_
    refine JO_cut (X := Bool) 6 (fun z => z = (((((((!(R26.valid base ((R26.describe base id pos len u).1))) || (!(R16.valid ((R26.describe base id pos len u).1)))) || (decide (((R26.describe base id pos len u).1).Id ≠ id))) || (decide (((R26.describe base id pos len u).1).AltAt ≠ pos))) || (decide (((R26.describe base id pos len u).1).AltLength ≠ len))) || (decide ((((R26.describe base id pos len u).1).Unique) ≠ (u)))) || (decide (((R26.describe base id pos len u).1).Base ≠ base.Id)))) (fun z => [(5, Value.pointer (some ⟨b1, 0, none⟩)), (10, vB false), (11, Value.pointer (some ⟨b2, 0, none⟩)), (77, vB z)]) (fun _ => [Ent.blk b2 23 (DataSet.enc ((R26.describe base id pos len u).1)), Ent.blk b1 23 (DataSet.enc base)]) ?_ ?_
    · rcases Bool.eq_false_or_eq_true ((((((!(R26.valid base ((R26.describe base id pos len u).1))) || (!(R16.valid ((R26.describe base id pos len u).1)))) || (decide (((R26.describe base id pos len u).1).Id ≠ id))) || (decide (((R26.describe base id pos len u).1).AltAt ≠ pos))) || (decide (((R26.describe base id pos len u).1).AltLength ≠ len))) || (decide ((((R26.describe base id pos len u).1).Unique) ≠ (u)))) with g38 | g38
      · have g38r := g38
        simp only [Bool.and_eq_true, Bool.or_eq_true, Bool.and_eq_false_iff, Bool.or_eq_false_iff, Bool.not_eq_true', Bool.not_eq_false', decide_eq_true_eq, decide_eq_false_iff_not] at g38r
        refine JO_shun rfl ⟨_, rfl, g38⟩ ?_
        refine JO_shun rfl ⟨_, rfl, g38⟩ ?_
        refine JO_shun rfl ⟨_, rfl, g38⟩ ?_
        refine JO_shun rfl ⟨_, rfl, g38⟩ ?_
        refine JO_shun rfl ⟨_, rfl, g38⟩ ?_
        refine JO_read (vB true) rfl trivial (fun _ _ => x_pick_t rfl g38 rfl) ?_
        refine JO_nil (JX_cut (true) (by rw [g38]; simp) ⟨rfl, rfl, rfl, rfl, trivial⟩ (fun _ h => h))
      · have g38r := g38
        have ⟨g38r, h39⟩ := bor_false g38r
        have ⟨g38r, h40⟩ := bor_false g38r
        have ⟨g38r, h41⟩ := bor_false g38r
        have ⟨g38r, h42⟩ := bor_false g38r
        have ⟨g38r, h43⟩ := bor_false g38r
        have g38r : (R26.valid base ((R26.describe base id pos len u).1)) = true := bnot_false g38r
        have hi44 := R26.valid_facts g38r
        have h43 : (R16.valid ((R26.describe base id pos len u).1)) = true := bnot_false h43
        have hi45 := R16.valid_facts h43
        have h42 := of_decide_eq_false h42
        have h41 := of_decide_eq_false h41
        have h40 := of_decide_eq_false h40
        have h39 := of_decide_eq_false h39
        refine JO_read (Value.pointer (some ⟨b2, 11, none⟩)) rfl ⟨_, rfl, g38⟩ (fun _ _ => x_fieldAddr Ty.fi23_11 rfl rfl) ?_
        refine JO_read (vI (((R26.describe base id pos len u).1).Base)) rfl ⟨_, rfl, g38⟩ (x_load 0 rfl rfl Ty.sc3 rfl) ?_
        refine JO_read (Value.pointer (some ⟨b1, 0, none⟩)) rfl ⟨_, rfl, g38⟩ (fun _ _ => x_fieldAddr Ty.fi23_0 rfl rfl) ?_
        refine JO_read (vI base.Id) rfl ⟨_, rfl, g38⟩ (x_load 1 rfl rfl Ty.sc3 rfl) ?_
        refine JO_read (vB (decide (((R26.describe base id pos len u).1).Base ≠ base.Id))) rfl ⟨_, rfl, g38⟩ (fun _ _ => x_neq_i rfl rfl) ?_
        refine JO_read (vB (decide (((R26.describe base id pos len u).1).Base ≠ base.Id))) rfl trivial (fun _ _ => x_pick_f rfl g38 rfl) ?_
        refine JO_nil (JX_cut (decide (((R26.describe base id pos len u).1).Base ≠ base.Id)) (by rw [g38]; simp) ⟨rfl, rfl, rfl, rfl, trivial⟩ (fun _ h => h))
    rintro z37 rfl
    refine JO_read (vB (((((((!(R26.valid base ((R26.describe base id pos len u).1))) || (!(R16.valid ((R26.describe base id pos len u).1)))) || (decide (((R26.describe base id pos len u).1).Id ≠ id))) || (decide (((R26.describe base id pos len u).1).AltAt ≠ pos))) || (decide (((R26.describe base id pos len u).1).AltLength ≠ len))) || (decide ((((R26.describe base id pos len u).1).Unique) ≠ (u)))) || (decide (((R26.describe base id pos len u).1).Base ≠ base.Id)))) rfl trivial (fun _ _ => rfl) ?_
    refine JO_cut (X := Bool) 6 (fun z => z = ((((((((!(R26.valid base ((R26.describe base id pos len u).1))) || (!(R16.valid ((R26.describe base id pos len u).1)))) || (decide (((R26.describe base id pos len u).1).Id ≠ id))) || (decide (((R26.describe base id pos len u).1).AltAt ≠ pos))) || (decide (((R26.describe base id pos len u).1).AltLength ≠ len))) || (decide ((((R26.describe base id pos len u).1).Unique) ≠ (u)))) || (decide (((R26.describe base id pos len u).1).Base ≠ base.Id))) || (decide (((R26.describe base id pos len u).1).Interval < base.Interval)))) (fun z => [(5, Value.pointer (some ⟨b1, 0, none⟩)), (10, vB false), (11, Value.pointer (some ⟨b2, 0, none⟩)), (84, vB z)]) (fun _ => [Ent.blk b2 23 (DataSet.enc ((R26.describe base id pos len u).1)), Ent.blk b1 23 (DataSet.enc base)]) ?_ ?_
    · rcases Bool.eq_false_or_eq_true (((((((!(R26.valid base ((R26.describe base id pos len u).1))) || (!(R16.valid ((R26.describe base id pos len u).1)))) || (decide (((R26.describe base id pos len u).1).Id ≠ id))) || (decide (((R26.describe base id pos len u).1).AltAt ≠ pos))) || (decide (((R26.describe base id pos len u).1).AltLength ≠ len))) || (decide ((((R26.describe base id pos len u).1).Unique) ≠ (u)))) || (decide (((R26.describe base id pos len u).1).Base ≠ base.Id))) with g47 | g47
      · have g47r := g47
        simp only [Bool.and_eq_true, Bool.or_eq_true, Bool.and_eq_false_iff, Bool.or_eq_false_iff, Bool.not_eq_true', Bool.not_eq_false', decide_eq_true_eq, decide_eq_false_iff_not] at g47r
        refine JO_shun rfl ⟨_, rfl, g47⟩ ?_
        refine JO_shun rfl ⟨_, rfl, g47⟩ ?_
        refine JO_shun rfl ⟨_, rfl, g47⟩ ?_
        refine JO_shun rfl ⟨_, rfl, g47⟩ ?_
        refine JO_shun rfl ⟨_, rfl, g47⟩ ?_
        refine JO_read (vB true) rfl trivial (fun _ _ => x_pick_t rfl g47 rfl) ?_
        refine JO_nil (JX_cut (true) (by rw [g47]; simp) ⟨rfl, rfl, rfl, rfl, trivial⟩ (fun _ h => h))
      · have g47r := g47
        have ⟨g47r, h48⟩ := bor_false g47r
        have ⟨g47r, h49⟩ := bor_false g47r
        have ⟨g47r, h50⟩ := bor_false g47r
        have ⟨g47r, h51⟩ := bor_false g47r
        have ⟨g47r, h52⟩ := bor_false g47r
        have ⟨g47r, h53⟩ := bor_false g47r
        have g47r : (R26.valid base ((R26.describe base id pos len u).1)) = true := bnot_false g47r
        have hi54 := R26.valid_facts g47r
        have h53 : (R16.valid ((R26.describe base id pos len u).1)) = true := bnot_false h53
        have hi55 := R16.valid_facts h53
        have h52 := of_decide_eq_false h52
        have h51 := of_decide_eq_false h51
        have h50 := of_decide_eq_false h50
        have h49 := of_decide_eq_false h49
        have h48 := of_decide_eq_false h48
        refine JO_read (Value.pointer (some ⟨b2, 7, none⟩)) rfl ⟨_, rfl, g47⟩ (fun _ _ => x_fieldAddr Ty.fi23_7 rfl rfl) ?_
        refine JO_read (vI (((R26.describe base id pos len u).1).Interval)) rfl ⟨_, rfl, g47⟩ (x_load 0 rfl rfl Ty.sc3 rfl) ?_
        refine JO_read (Value.pointer (some ⟨b1, 7, none⟩)) rfl ⟨_, rfl, g47⟩ (fun _ _ => x_fieldAddr Ty.fi23_7 rfl rfl) ?_
        refine JO_read (vI base.Interval) rfl ⟨_, rfl, g47⟩ (x_load 1 rfl rfl Ty.sc3 rfl) ?_
        refine JO_read (vB (decide (((R26.describe base id pos len u).1).Interval < base.Interval))) rfl ⟨_, rfl, g47⟩ (fun _ _ => x_lss_i rfl rfl) ?_
        refine JO_read (vB (decide (((R26.describe base id pos len u).1).Interval < base.Interval))) rfl trivial (fun _ _ => x_pick_f rfl g47 rfl) ?_
        refine JO_nil (JX_cut (decide (((R26.describe base id pos len u).1).Interval < base.Interval)) (by rw [g47]; simp) ⟨rfl, rfl, rfl, rfl, trivial⟩ (fun _ h => h))
    rintro z46 rfl
    refine JO_nil ?_
    refine JX_then ?_
    refine J_cond ((((((((!(R26.valid base ((R26.describe base id pos len u).1))) || (!(R16.valid ((R26.describe base id pos len u).1)))) || (decide (((R26.describe base id pos len u).1).Id ≠ id))) || (decide (((R26.describe base id pos len u).1).AltAt ≠ pos))) || (decide (((R26.describe base id pos len u).1).AltLength ≠ len))) || (decide ((((R26.describe base id pos len u).1).Unique) ≠ (u)))) || (decide (((R26.describe base id pos len u).1).Base ≠ base.Id))) || (decide (((R26.describe base id pos len u).1).Interval < base.Interval))) rfl rfl (fun h56 => ?_) (fun h56 => ?_)
    · simp only [Bool.and_eq_true, Bool.or_eq_true, Bool.and_eq_false_iff, Bool.or_eq_false_iff, Bool.not_eq_true', Bool.not_eq_false', decide_eq_true_eq, decide_eq_false_iff_not] at h56
      refine J_seq ?_
      refine J_region ?_
      refine JO_read (vB false) rfl trivial (fun _ _ => rfl) ?_
      refine JO_nil ?_
      refine JX_then ?_
      refine J_ret ?_
      refine JX_then_ret ?_
      refine JX_rets [vB false] (vB false) Try.results4 (fun w h => ⟨rfl, trivial⟩) rfl [] (fun _ h => h.keep [false, false] rfl) ⟨?_, ?_⟩
      · have e_x0 : (false : Bool) = true := by
          first
            | rfl
            | exact R26.describe_err (by assumption)
            | exact R26.fits_end (by assumption)
            | (exfalso; obtain ⟨f1, f2, f3, f4, f5, f6, f7, f8, f9⟩ := R26.describe_fit (base := base) (id := id) (pos := pos) (len := len) (u := u) (by assumption); simp only [f1, f2, f3, f4, f5, f6, f7, Bool.true_eq_false, ne_eq, not_true_eq_false, false_or] at *; omega)
        exact congrArg (fun (x0 : Bool) => vB x0) e_x0
      · rfl
    · have ⟨h56, h57⟩ := bor_false h56
      have ⟨h56, h58⟩ := bor_false h56
      have ⟨h56, h59⟩ := bor_false h56
      have ⟨h56, h60⟩ := bor_false h56
      have ⟨h56, h61⟩ := bor_false h56
      have ⟨h56, h62⟩ := bor_false h56
      have ⟨h56, h63⟩ := bor_false h56
      have h56 : (R26.valid base ((R26.describe base id pos len u).1)) = true := bnot_false h56
      have hi64 := R26.valid_facts h56
      have h63 : (R16.valid ((R26.describe base id pos len u).1)) = true := bnot_false h63
      have hi65 := R16.valid_facts h63
      have h62 := of_decide_eq_false h62
      have h61 := of_decide_eq_false h61
      have h60 := of_decide_eq_false h60
      have h59 := of_decide_eq_false h59
      have h58 := of_decide_eq_false h58
      have h57 := of_decide_eq_false h57
      refine J_skip ?_
      refine JX_then ?_
      refine J_seq ?_
      refine J_region ?_
      refine JO_read (Value.agg ((DataSet.enc ((R26.describe base id pos len u).1))).toArray) rfl trivial (x_loadN 0 (DataSet.enc ((R26.describe base id pos len u).1)) rfl rfl Ty.ag23 Ty.sz23 rfl) ?_
      refine JO_op rfl trivial (O_alloc Ty.ze23 rfl fun b66 => ?_)
      refine JO_op rfl trivial (O_storeS (vs := (DataSet.enc ((R26.describe base id pos len u).1))) 0 (DataSet.enc ((R26.describe base id pos len u).1)) [Ent.blk b66 23 (DataSet.enc ((R26.describe base id pos len u).1)), Ent.blk b2 23 (DataSet.enc ((R26.describe base id pos len u).1)), Ent.blk b1 23 (DataSet.enc base)] rfl rfl rfl Ty.sz23 rfl (Nat.le_of_ble_eq_true rfl) rfl rfl rfl ?_)
      refine JO_nil ?_
      refine JX_then ?_
      refine J_seq ?_
      refine J_region ?_
      refine JO_read (Value.pointer (some ⟨b2, 7, none⟩)) rfl trivial (fun _ _ => x_fieldAddr Ty.fi23_7 rfl rfl) ?_
      refine JO_read (vI (((R26.describe base id pos len u).1).Interval)) rfl trivial (x_load 1 rfl rfl Ty.sc3 rfl) ?_
      refine JO_read (vI ((((R26.describe base id pos len u).1).Interval) / 2)) rfl trivial (fun _ _ => x_quo_i (a := ((R26.describe base id pos len u).1).Interval) (b := 2) rfl rfl (by omega) (by omega) (by omega)) ?_
      refine JO_read (Value.pointer (some ⟨b66, 7, none⟩)) rfl trivial (fun _ _ => x_fieldAddr Ty.fi23_7 rfl rfl) ?_
      refine JO_op rfl trivial (O_store 0 [vI (((R26.describe base id pos len u).1).Id), vI (((R26.describe base id pos len u).1).Org), vI (((R26.describe base id pos len u).1).Format), vI (((R26.describe base id pos len u).1).Length), vI (((R26.describe base id pos len u).1).Block), vI (((R26.describe base id pos len u).1).KeyAt), vI (((R26.describe base id pos len u).1).KeyLength), vI ((((R26.describe base id pos len u).1).Interval) / 2), vI (((R26.describe base id pos len u).1).Area), vI (((R26.describe base id pos len u).1).FreeInterval), vI (((R26.describe base id pos len u).1).FreeArea), vI (((R26.describe base id pos len u).1).Base), vI (((R26.describe base id pos len u).1).AltAt), vI (((R26.describe base id pos len u).1).AltLength), vB (((R26.describe base id pos len u).1).Unique), vI (((R26.describe base id pos len u).1).Class), vS (((R26.describe base id pos len u).1).Volume), vS (((R26.describe base id pos len u).1).Owner), vI (((R26.describe base id pos len u).1).Created), vI (((R26.describe base id pos len u).1).Expires), vB (((R26.describe base id pos len u).1).Archived)] [Ent.blk b66 23 [vI (((R26.describe base id pos len u).1).Id), vI (((R26.describe base id pos len u).1).Org), vI (((R26.describe base id pos len u).1).Format), vI (((R26.describe base id pos len u).1).Length), vI (((R26.describe base id pos len u).1).Block), vI (((R26.describe base id pos len u).1).KeyAt), vI (((R26.describe base id pos len u).1).KeyLength), vI ((((R26.describe base id pos len u).1).Interval) / 2), vI (((R26.describe base id pos len u).1).Area), vI (((R26.describe base id pos len u).1).FreeInterval), vI (((R26.describe base id pos len u).1).FreeArea), vI (((R26.describe base id pos len u).1).Base), vI (((R26.describe base id pos len u).1).AltAt), vI (((R26.describe base id pos len u).1).AltLength), vB (((R26.describe base id pos len u).1).Unique), vI (((R26.describe base id pos len u).1).Class), vS (((R26.describe base id pos len u).1).Volume), vS (((R26.describe base id pos len u).1).Owner), vI (((R26.describe base id pos len u).1).Created), vI (((R26.describe base id pos len u).1).Expires), vB (((R26.describe base id pos len u).1).Archived)], Ent.blk b2 23 (DataSet.enc ((R26.describe base id pos len u).1)), Ent.blk b1 23 (DataSet.enc base)] rfl rfl rfl Ty.sz3 rfl (Nat.le_of_ble_eq_true rfl) rfl rfl rfl ?_)
      refine JO_nil ?_
      refine JX_then ?_
      refine J_seq ?_
      refine J_region ?_
      refine JO_read (Value.pointer (some ⟨b2, 7, none⟩)) rfl trivial (fun _ _ => x_fieldAddr Ty.fi23_7 rfl rfl) ?_
      refine JO_read (vI (((R26.describe base id pos len u).1).Interval)) rfl trivial (x_load 1 rfl rfl Ty.sc3 rfl) ?_
      refine JO_read (Value.pointer (some ⟨b1, 7, none⟩)) rfl trivial (fun _ _ => x_fieldAddr Ty.fi23_7 rfl rfl) ?_
      refine JO_read (vI base.Interval) rfl trivial (x_load 2 rfl rfl Ty.sc3 rfl) ?_
      refine JO_read (vB (decide (((R26.describe base id pos len u).1).Interval = base.Interval))) rfl trivial (fun _ _ => x_eql_i rfl rfl) ?_
      refine JO_read (vB (decide (((R26.describe base id pos len u).1).Interval = base.Interval))) rfl trivial (fun _ _ => rfl) ?_
      refine JO_cut (X := Bool) 5 (fun z => z = ((decide (((R26.describe base id pos len u).1).Interval = base.Interval)) || (!(R26.valid base (DataSet.mk (((R26.describe base id pos len u).1).Id) (((R26.describe base id pos len u).1).Org) (((R26.describe base id pos len u).1).Format) (((R26.describe base id pos len u).1).Length) (((R26.describe base id pos len u).1).Block) (((R26.describe base id pos len u).1).KeyAt) (((R26.describe base id pos len u).1).KeyLength) ((((R26.describe base id pos len u).1).Interval) / 2) (((R26.describe base id pos len u).1).Area) (((R26.describe base id pos len u).1).FreeInterval) (((R26.describe base id pos len u).1).FreeArea) (((R26.describe base id pos len u).1).Base) (((R26.describe base id pos len u).1).AltAt) (((R26.describe base id pos len u).1).AltLength) (((R26.describe base id pos len u).1).Unique) (((R26.describe base id pos len u).1).Class) (((R26.describe base id pos len u).1).Volume) (((R26.describe base id pos len u).1).Owner) (((R26.describe base id pos len u).1).Created) (((R26.describe base id pos len u).1).Expires) (((R26.describe base id pos len u).1).Archived)))))) (fun z => [(10, vB false), (100, vB z)]) (fun _ => [Ent.blk b66 23 [vI (((R26.describe base id pos len u).1).Id), vI (((R26.describe base id pos len u).1).Org), vI (((R26.describe base id pos len u).1).Format), vI (((R26.describe base id pos len u).1).Length), vI (((R26.describe base id pos len u).1).Block), vI (((R26.describe base id pos len u).1).KeyAt), vI (((R26.describe base id pos len u).1).KeyLength), vI ((((R26.describe base id pos len u).1).Interval) / 2), vI (((R26.describe base id pos len u).1).Area), vI (((R26.describe base id pos len u).1).FreeInterval), vI (((R26.describe base id pos len u).1).FreeArea), vI (((R26.describe base id pos len u).1).Base), vI (((R26.describe base id pos len u).1).AltAt), vI (((R26.describe base id pos len u).1).AltLength), vB (((R26.describe base id pos len u).1).Unique), vI (((R26.describe base id pos len u).1).Class), vS (((R26.describe base id pos len u).1).Volume), vS (((R26.describe base id pos len u).1).Owner), vI (((R26.describe base id pos len u).1).Created), vI (((R26.describe base id pos len u).1).Expires), vB (((R26.describe base id pos len u).1).Archived)], Ent.blk b2 23 (DataSet.enc ((R26.describe base id pos len u).1)), Ent.blk b1 23 (DataSet.enc base)]) ?_ ?_
      · rcases Bool.eq_false_or_eq_true (decide (((R26.describe base id pos len u).1).Interval = base.Interval)) with g68 | g68
        · have g68r := g68
          have g68r := of_decide_eq_true g68r
          refine JO_shun rfl ⟨_, rfl, g68⟩ ?_
          refine JO_shun rfl ⟨_, rfl, g68⟩ ?_
          refine JO_shun rfl ⟨_, rfl, g68⟩ ?_
          refine JO_shun rfl ⟨_, rfl, g68⟩ ?_
          refine JO_read (vB true) rfl trivial (fun _ _ => x_pick_t rfl g68 rfl) ?_
          refine JO_nil (JX_cut (true) (by rw [g68]; simp) ⟨rfl, rfl, trivial⟩ (fun _ h => h))
        · have g68r := g68
          have g68r := of_decide_eq_false g68r
          refine JO_read (Value.agg ((DataSet.enc base)).toArray) rfl ⟨_, rfl, g68⟩ (x_loadN 2 (DataSet.enc base) rfl rfl Ty.ag23 Ty.sz23 rfl) ?_
          refine JO_read (Value.agg #[vI (((R26.describe base id pos len u).1).Id), vI (((R26.describe base id pos len u).1).Org), vI (((R26.describe base id pos len u).1).Format), vI (((R26.describe base id pos len u).1).Length), vI (((R26.describe base id pos len u).1).Block), vI (((R26.describe base id pos len u).1).KeyAt), vI (((R26.describe base id pos len u).1).KeyLength), vI ((((R26.describe base id pos len u).1).Interval) / 2), vI (((R26.describe base id pos len u).1).Area), vI (((R26.describe base id pos len u).1).FreeInterval), vI (((R26.describe base id pos len u).1).FreeArea), vI (((R26.describe base id pos len u).1).Base), vI (((R26.describe base id pos len u).1).AltAt), vI (((R26.describe base id pos len u).1).AltLength), vB (((R26.describe base id pos len u).1).Unique), vI (((R26.describe base id pos len u).1).Class), vS (((R26.describe base id pos len u).1).Volume), vS (((R26.describe base id pos len u).1).Owner), vI (((R26.describe base id pos len u).1).Created), vI (((R26.describe base id pos len u).1).Expires), vB (((R26.describe base id pos len u).1).Archived)]) rfl ⟨_, rfl, g68⟩ (x_loadN 0 [vI (((R26.describe base id pos len u).1).Id), vI (((R26.describe base id pos len u).1).Org), vI (((R26.describe base id pos len u).1).Format), vI (((R26.describe base id pos len u).1).Length), vI (((R26.describe base id pos len u).1).Block), vI (((R26.describe base id pos len u).1).KeyAt), vI (((R26.describe base id pos len u).1).KeyLength), vI ((((R26.describe base id pos len u).1).Interval) / 2), vI (((R26.describe base id pos len u).1).Area), vI (((R26.describe base id pos len u).1).FreeInterval), vI (((R26.describe base id pos len u).1).FreeArea), vI (((R26.describe base id pos len u).1).Base), vI (((R26.describe base id pos len u).1).AltAt), vI (((R26.describe base id pos len u).1).AltLength), vB (((R26.describe base id pos len u).1).Unique), vI (((R26.describe base id pos len u).1).Class), vS (((R26.describe base id pos len u).1).Volume), vS (((R26.describe base id pos len u).1).Owner), vI (((R26.describe base id pos len u).1).Created), vI (((R26.describe base id pos len u).1).Expires), vB (((R26.describe base id pos len u).1).Archived)] rfl rfl Ty.ag23 Ty.sz23 rfl) ?_
          refine JO_call [] [] [Ent.blk b66 23 [vI (((R26.describe base id pos len u).1).Id), vI (((R26.describe base id pos len u).1).Org), vI (((R26.describe base id pos len u).1).Format), vI (((R26.describe base id pos len u).1).Length), vI (((R26.describe base id pos len u).1).Block), vI (((R26.describe base id pos len u).1).KeyAt), vI (((R26.describe base id pos len u).1).KeyLength), vI ((((R26.describe base id pos len u).1).Interval) / 2), vI (((R26.describe base id pos len u).1).Area), vI (((R26.describe base id pos len u).1).FreeInterval), vI (((R26.describe base id pos len u).1).FreeArea), vI (((R26.describe base id pos len u).1).Base), vI (((R26.describe base id pos len u).1).AltAt), vI (((R26.describe base id pos len u).1).AltLength), vB (((R26.describe base id pos len u).1).Unique), vI (((R26.describe base id pos len u).1).Class), vS (((R26.describe base id pos len u).1).Volume), vS (((R26.describe base id pos len u).1).Owner), vI (((R26.describe base id pos len u).1).Created), vI (((R26.describe base id pos len u).1).Expires), vB (((R26.describe base id pos len u).1).Archived)], Ent.blk b2 23 (DataSet.enc ((R26.describe base id pos len u).1)), Ent.blk b1 23 (DataSet.enc base)] rfl ⟨_, rfl, g68⟩ (fun _ => x_call Ty.ca13 rfl) (fun _ h => h) (fun _ h => by cases h) (fun w hS => f13_ok base (DataSet.mk (((R26.describe base id pos len u).1).Id) (((R26.describe base id pos len u).1).Org) (((R26.describe base id pos len u).1).Format) (((R26.describe base id pos len u).1).Length) (((R26.describe base id pos len u).1).Block) (((R26.describe base id pos len u).1).KeyAt) (((R26.describe base id pos len u).1).KeyLength) ((((R26.describe base id pos len u).1).Interval) / 2) (((R26.describe base id pos len u).1).Area) (((R26.describe base id pos len u).1).FreeInterval) (((R26.describe base id pos len u).1).FreeArea) (((R26.describe base id pos len u).1).Base) (((R26.describe base id pos len u).1).AltAt) (((R26.describe base id pos len u).1).AltLength) (((R26.describe base id pos len u).1).Unique) (((R26.describe base id pos len u).1).Class) (((R26.describe base id pos len u).1).Volume) (((R26.describe base id pos len u).1).Owner) (((R26.describe base id pos len u).1).Created) (((R26.describe base id pos len u).1).Expires) (((R26.describe base id pos len u).1).Archived)) w) ?_
          rintro _ _ ⟨rfl, rfl⟩
          refine JO_read (vB (!(R26.valid base (DataSet.mk (((R26.describe base id pos len u).1).Id) (((R26.describe base id pos len u).1).Org) (((R26.describe base id pos len u).1).Format) (((R26.describe base id pos len u).1).Length) (((R26.describe base id pos len u).1).Block) (((R26.describe base id pos len u).1).KeyAt) (((R26.describe base id pos len u).1).KeyLength) ((((R26.describe base id pos len u).1).Interval) / 2) (((R26.describe base id pos len u).1).Area) (((R26.describe base id pos len u).1).FreeInterval) (((R26.describe base id pos len u).1).FreeArea) (((R26.describe base id pos len u).1).Base) (((R26.describe base id pos len u).1).AltAt) (((R26.describe base id pos len u).1).AltLength) (((R26.describe base id pos len u).1).Unique) (((R26.describe base id pos len u).1).Class) (((R26.describe base id pos len u).1).Volume) (((R26.describe base id pos len u).1).Owner) (((R26.describe base id pos len u).1).Created) (((R26.describe base id pos len u).1).Expires) (((R26.describe base id pos len u).1).Archived))))) rfl ⟨_, rfl, g68⟩ (fun _ _ => x_not rfl) ?_
          refine JO_read (vB (!(R26.valid base (DataSet.mk (((R26.describe base id pos len u).1).Id) (((R26.describe base id pos len u).1).Org) (((R26.describe base id pos len u).1).Format) (((R26.describe base id pos len u).1).Length) (((R26.describe base id pos len u).1).Block) (((R26.describe base id pos len u).1).KeyAt) (((R26.describe base id pos len u).1).KeyLength) ((((R26.describe base id pos len u).1).Interval) / 2) (((R26.describe base id pos len u).1).Area) (((R26.describe base id pos len u).1).FreeInterval) (((R26.describe base id pos len u).1).FreeArea) (((R26.describe base id pos len u).1).Base) (((R26.describe base id pos len u).1).AltAt) (((R26.describe base id pos len u).1).AltLength) (((R26.describe base id pos len u).1).Unique) (((R26.describe base id pos len u).1).Class) (((R26.describe base id pos len u).1).Volume) (((R26.describe base id pos len u).1).Owner) (((R26.describe base id pos len u).1).Created) (((R26.describe base id pos len u).1).Expires) (((R26.describe base id pos len u).1).Archived))))) rfl trivial (fun _ _ => x_pick_f rfl g68 rfl) ?_
          refine JO_nil (JX_cut (!(R26.valid base (DataSet.mk (((R26.describe base id pos len u).1).Id) (((R26.describe base id pos len u).1).Org) (((R26.describe base id pos len u).1).Format) (((R26.describe base id pos len u).1).Length) (((R26.describe base id pos len u).1).Block) (((R26.describe base id pos len u).1).KeyAt) (((R26.describe base id pos len u).1).KeyLength) ((((R26.describe base id pos len u).1).Interval) / 2) (((R26.describe base id pos len u).1).Area) (((R26.describe base id pos len u).1).FreeInterval) (((R26.describe base id pos len u).1).FreeArea) (((R26.describe base id pos len u).1).Base) (((R26.describe base id pos len u).1).AltAt) (((R26.describe base id pos len u).1).AltLength) (((R26.describe base id pos len u).1).Unique) (((R26.describe base id pos len u).1).Class) (((R26.describe base id pos len u).1).Volume) (((R26.describe base id pos len u).1).Owner) (((R26.describe base id pos len u).1).Created) (((R26.describe base id pos len u).1).Expires) (((R26.describe base id pos len u).1).Archived)))) (by rw [g68]; simp) ⟨rfl, rfl, trivial⟩ (fun _ h => h))
      rintro z67 rfl
      refine JO_read (vB ((decide (((R26.describe base id pos len u).1).Interval = base.Interval)) || (!(R26.valid base (DataSet.mk (((R26.describe base id pos len u).1).Id) (((R26.describe base id pos len u).1).Org) (((R26.describe base id pos len u).1).Format) (((R26.describe base id pos len u).1).Length) (((R26.describe base id pos len u).1).Block) (((R26.describe base id pos len u).1).KeyAt) (((R26.describe base id pos len u).1).KeyLength) ((((R26.describe base id pos len u).1).Interval) / 2) (((R26.describe base id pos len u).1).Area) (((R26.describe base id pos len u).1).FreeInterval) (((R26.describe base id pos len u).1).FreeArea) (((R26.describe base id pos len u).1).Base) (((R26.describe base id pos len u).1).AltAt) (((R26.describe base id pos len u).1).AltLength) (((R26.describe base id pos len u).1).Unique) (((R26.describe base id pos len u).1).Class) (((R26.describe base id pos len u).1).Volume) (((R26.describe base id pos len u).1).Owner) (((R26.describe base id pos len u).1).Created) (((R26.describe base id pos len u).1).Expires) (((R26.describe base id pos len u).1).Archived)))))) rfl trivial (fun _ _ => rfl) ?_
      refine JO_nil ?_
      refine JX_then ?_
      refine J_ret ?_
      refine JX_rets [vB ((decide (((R26.describe base id pos len u).1).Interval = base.Interval)) || (!(R26.valid base (DataSet.mk (((R26.describe base id pos len u).1).Id) (((R26.describe base id pos len u).1).Org) (((R26.describe base id pos len u).1).Format) (((R26.describe base id pos len u).1).Length) (((R26.describe base id pos len u).1).Block) (((R26.describe base id pos len u).1).KeyAt) (((R26.describe base id pos len u).1).KeyLength) ((((R26.describe base id pos len u).1).Interval) / 2) (((R26.describe base id pos len u).1).Area) (((R26.describe base id pos len u).1).FreeInterval) (((R26.describe base id pos len u).1).FreeArea) (((R26.describe base id pos len u).1).Base) (((R26.describe base id pos len u).1).AltAt) (((R26.describe base id pos len u).1).AltLength) (((R26.describe base id pos len u).1).Unique) (((R26.describe base id pos len u).1).Class) (((R26.describe base id pos len u).1).Volume) (((R26.describe base id pos len u).1).Owner) (((R26.describe base id pos len u).1).Created) (((R26.describe base id pos len u).1).Expires) (((R26.describe base id pos len u).1).Archived)))))] (vB ((decide (((R26.describe base id pos len u).1).Interval = base.Interval)) || (!(R26.valid base (DataSet.mk (((R26.describe base id pos len u).1).Id) (((R26.describe base id pos len u).1).Org) (((R26.describe base id pos len u).1).Format) (((R26.describe base id pos len u).1).Length) (((R26.describe base id pos len u).1).Block) (((R26.describe base id pos len u).1).KeyAt) (((R26.describe base id pos len u).1).KeyLength) ((((R26.describe base id pos len u).1).Interval) / 2) (((R26.describe base id pos len u).1).Area) (((R26.describe base id pos len u).1).FreeInterval) (((R26.describe base id pos len u).1).FreeArea) (((R26.describe base id pos len u).1).Base) (((R26.describe base id pos len u).1).AltAt) (((R26.describe base id pos len u).1).AltLength) (((R26.describe base id pos len u).1).Unique) (((R26.describe base id pos len u).1).Class) (((R26.describe base id pos len u).1).Volume) (((R26.describe base id pos len u).1).Owner) (((R26.describe base id pos len u).1).Created) (((R26.describe base id pos len u).1).Expires) (((R26.describe base id pos len u).1).Archived)))))) Try.results4 (fun w h => ⟨rfl, trivial⟩) rfl [] (fun _ h => h.keep [false, false, false] rfl) ⟨?_, ?_⟩
      · have e_x0 : ((decide (((R26.describe base id pos len u).1).Interval = base.Interval)) || (!(R26.valid base (DataSet.mk (((R26.describe base id pos len u).1).Id) (((R26.describe base id pos len u).1).Org) (((R26.describe base id pos len u).1).Format) (((R26.describe base id pos len u).1).Length) (((R26.describe base id pos len u).1).Block) (((R26.describe base id pos len u).1).KeyAt) (((R26.describe base id pos len u).1).KeyLength) ((((R26.describe base id pos len u).1).Interval) / 2) (((R26.describe base id pos len u).1).Area) (((R26.describe base id pos len u).1).FreeInterval) (((R26.describe base id pos len u).1).FreeArea) (((R26.describe base id pos len u).1).Base) (((R26.describe base id pos len u).1).AltAt) (((R26.describe base id pos len u).1).AltLength) (((R26.describe base id pos len u).1).Unique) (((R26.describe base id pos len u).1).Class) (((R26.describe base id pos len u).1).Volume) (((R26.describe base id pos len u).1).Owner) (((R26.describe base id pos len u).1).Created) (((R26.describe base id pos len u).1).Expires) (((R26.describe base id pos len u).1).Archived)))) : Bool) = true := by
          first
            | rfl
            | exact R26.describe_err (by assumption)
            | exact R26.fits_end (by assumption)
            | (exfalso; obtain ⟨f1, f2, f3, f4, f5, f6, f7, f8, f9⟩ := R26.describe_fit (base := base) (id := id) (pos := pos) (len := len) (u := u) (by assumption); simp only [f1, f2, f3, f4, f5, f6, f7, Bool.true_eq_false, ne_eq, not_true_eq_false, false_or] at *; omega)
        exact congrArg (fun (x0 : Bool) => vB x0) e_x0
      · rfl

end Go.Proofs.Ytimjfpioenkbjaa
