/- contracts C47c -/
import Derived.Test.YtknibpmmjhmjeaaDoorC47b
namespace Go.Proofs.YtknibpmmjhmjeaaDoor
open Go.GV
set_option linter.unusedVariables false
set_option linter.unusedSimpArgs false

set_option maxRecDepth 20000 in
theorem f11_ok (c : Change) (w : World) (q0 : c.Volume.length ≤ 9223372036854775807) : Calls Tryd.prog 11 #[Value.agg ((Change.enc c)).toArray] w (Gives [] w fun v L => v = vB (R47.valid c) ∧ L = []) := by
  refine calls_J [] 48 Tryd.func11 rfl Tryd.ntmps11 [(0, Value.agg ((Change.enc c)).toArray)] rfl rfl (Give.nil w) ?_
  refine J_seq ?_
  refine J_region ?_
  refine JO_op rfl trivial (O_box rfl rfl fun b1 => ?_)
  refine JO_read (vB false) rfl trivial (fun _ _ => rfl) ?_
  refine JO_nil ?_
  refine JX_then ?_
  refine J_seq ?_
  refine J_draw [] [8] [Ent.blk b1 23 (Change.enc c)] 10 Ty.mixed rfl ?_
  refine JA_take 1 (Value.pointer (some ⟨b1, 0, none⟩)) rfl (by kernel_rfl) (by kernel_rfl) (by kernel_rfl) rfl (fun _ _ _ h => h) rfl trivial (fun _ _ => x_fieldAddr Ty.fi23_0 rfl rfl) ?_
  refine JA_early 2 (vI c.Kind) rfl (by kernel_rfl) (by kernel_rfl) (by kernel_rfl) rfl (by kernel_rfl) (fun _ _ _ h => h) rfl trivial (x_load 0 rfl rfl Ty.sc3 rfl) ?_
  refine JA_finX (X := Nat × Nat) (fun ⟨b5, B3⟩ => [(1, Value.pointer (some ⟨b1, 0, none⟩)), (2, vB false), (3, Value.pointer (some ⟨b5, 0, none⟩)), (4, vB (R47.isKind c.Kind))]) (fun ⟨b5, B3⟩ => [Ent.blk b5 61 (Form.enc (R47.form B3 c.Kind)), Ent.blk B3 26 [Value.func (.func 53) #[] #[]], Ent.blk b1 23 (Change.enc c)]) ?_ (fun key2 => ?_)
  · rintro ⟨b5, B3⟩
    show JX _ _ _ _ _ [(1, Value.pointer (some ⟨b1, 0, none⟩)), (2, vB false), (3, Value.pointer (some ⟨b5, 0, none⟩)), (4, vB (R47.isKind c.Kind))] [Ent.blk b5 61 (Form.enc (R47.form B3 c.Kind)), Ent.blk B3 26 [Value.func (.func 53) #[] #[]], Ent.blk b1 23 (Change.enc c)]
    refine JX_then ?_
    refine J_seq ?_
    refine J_seq ?_
    refine J_region ?_
    refine JO_read (vB (R47.isKind c.Kind)) rfl trivial (fun _ _ => rfl) ?_
    refine JO_read (vB (!(R47.isKind c.Kind))) rfl trivial (fun _ _ => x_not rfl) ?_
    refine JO_read (vB (!(R47.isKind c.Kind))) rfl trivial (fun _ _ => rfl) ?_
    refine JO_cut (X := Bool) 4 (fun z => z = ((!(R47.isKind c.Kind)) || (decide (c.Id < 1)))) (fun z => [(1, Value.pointer (some ⟨b1, 0, none⟩)), (2, vB false), (3, Value.pointer (some ⟨b5, 0, none⟩)), (18, vB z)]) (fun _ => [Ent.blk b5 61 (Form.enc (R47.form B3 c.Kind)), Ent.blk B3 26 [Value.func (.func 53) #[] #[]], Ent.blk b1 23 (Change.enc c)]) ?_ ?_
    · rcases Bool.eq_false_or_eq_true (!(R47.isKind c.Kind)) with g4 | g4
      · have g4r := g4
        have g4r : (R47.isKind c.Kind) = false := bnot_true g4r
        refine JO_shun rfl ⟨_, rfl, g4⟩ ?_
        refine JO_shun rfl ⟨_, rfl, g4⟩ ?_
        refine JO_shun rfl ⟨_, rfl, g4⟩ ?_
        refine JO_read (vB true) rfl trivial (fun _ _ => x_pick_t rfl g4 rfl) ?_
        refine JO_nil (JX_cut (true) (by rw [g4]; simp) ⟨rfl, rfl, rfl, rfl, trivial⟩ (fun _ h => h))
      · have g4r := g4
        have g4r : (R47.isKind c.Kind) = true := bnot_false g4r
        refine JO_read (Value.pointer (some ⟨b1, 1, none⟩)) rfl ⟨_, rfl, g4⟩ (fun _ _ => x_fieldAddr Ty.fi23_1 rfl rfl) ?_
        refine JO_read (vI c.Id) rfl ⟨_, rfl, g4⟩ (x_load 2 rfl rfl Ty.sc3 rfl) ?_
        refine JO_read (vB (decide (c.Id < 1))) rfl ⟨_, rfl, g4⟩ (fun _ _ => x_lss_i rfl rfl) ?_
        refine JO_read (vB (decide (c.Id < 1))) rfl trivial (fun _ _ => x_pick_f rfl g4 rfl) ?_
        refine JO_nil (JX_cut (decide (c.Id < 1)) (by rw [g4]; simp) ⟨rfl, rfl, rfl, rfl, trivial⟩ (fun _ h => h))
    rintro z3 rfl
    refine JO_read (vB ((!(R47.isKind c.Kind)) || (decide (c.Id < 1)))) rfl trivial (fun _ _ => rfl) ?_
    refine JO_cut (X := Bool) 4 (fun z => z = (((!(R47.isKind c.Kind)) || (decide (c.Id < 1))) || (decide ((1099511627776 : Int) < c.Id)))) (fun z => [(1, Value.pointer (some ⟨b1, 0, none⟩)), (2, vB false), (3, Value.pointer (some ⟨b5, 0, none⟩)), (23, vB z)]) (fun _ => [Ent.blk b5 61 (Form.enc (R47.form B3 c.Kind)), Ent.blk B3 26 [Value.func (.func 53) #[] #[]], Ent.blk b1 23 (Change.enc c)]) ?_ ?_
    · rcases Bool.eq_false_or_eq_true ((!(R47.isKind c.Kind)) || (decide (c.Id < 1))) with g6 | g6
      · have g6r := g6
        simp only [Bool.and_eq_true, Bool.or_eq_true, Bool.and_eq_false_iff, Bool.or_eq_false_iff, Bool.not_eq_true', Bool.not_eq_false', decide_eq_true_eq, decide_eq_false_iff_not] at g6r
        refine JO_shun rfl ⟨_, rfl, g6⟩ ?_
        refine JO_shun rfl ⟨_, rfl, g6⟩ ?_
        refine JO_shun rfl ⟨_, rfl, g6⟩ ?_
        refine JO_read (vB true) rfl trivial (fun _ _ => x_pick_t rfl g6 rfl) ?_
        refine JO_nil (JX_cut (true) (by rw [g6]; simp) ⟨rfl, rfl, rfl, rfl, trivial⟩ (fun _ h => h))
      · have g6r := g6
        have ⟨g6r, h7⟩ := bor_false g6r
        have g6r : (R47.isKind c.Kind) = true := bnot_false g6r
        have h7 := of_decide_eq_false h7
        refine JO_read (Value.pointer (some ⟨b1, 1, none⟩)) rfl ⟨_, rfl, g6⟩ (fun _ _ => x_fieldAddr Ty.fi23_1 rfl rfl) ?_
        refine JO_read (vI c.Id) rfl ⟨_, rfl, g6⟩ (x_load 2 rfl rfl Ty.sc3 rfl) ?_
        refine JO_read (vB (decide ((1099511627776 : Int) < c.Id))) rfl ⟨_, rfl, g6⟩ (fun _ _ => x_gtr_i rfl rfl) ?_
        refine JO_read (vB (decide ((1099511627776 : Int) < c.Id))) rfl trivial (fun _ _ => x_pick_f rfl g6 rfl) ?_
        refine JO_nil (JX_cut (decide ((1099511627776 : Int) < c.Id)) (by rw [g6]; simp) ⟨rfl, rfl, rfl, rfl, trivial⟩ (fun _ h => h))
    rintro z5 rfl
    refine JO_read (vB (((!(R47.isKind c.Kind)) || (decide (c.Id < 1))) || (decide ((1099511627776 : Int) < c.Id)))) rfl trivial (fun _ _ => rfl) ?_
    refine JO_cut (X := Bool) 7 (fun z => z = ((((!(R47.isKind c.Kind)) || (decide (c.Id < 1))) || (decide ((1099511627776 : Int) < c.Id))) || (!((decide (((R47.form B3 c.Kind).klo) ≤ c.Key.length)) && (decide ((c.Key.length : Int) ≤ ((R47.form B3 c.Kind).khi))))))) (fun z => [(1, Value.pointer (some ⟨b1, 0, none⟩)), (2, vB false), (3, Value.pointer (some ⟨b5, 0, none⟩)), (31, vB z)]) (fun _ => [Ent.blk b5 61 (Form.enc (R47.form B3 c.Kind)), Ent.blk B3 26 [Value.func (.func 53) #[] #[]], Ent.blk b1 23 (Change.enc c)]) ?_ ?_
    · rcases Bool.eq_false_or_eq_true (((!(R47.isKind c.Kind)) || (decide (c.Id < 1))) || (decide ((1099511627776 : Int) < c.Id))) with g9 | g9
      · have g9r := g9
        simp only [Bool.and_eq_true, Bool.or_eq_true, Bool.and_eq_false_iff, Bool.or_eq_false_iff, Bool.not_eq_true', Bool.not_eq_false', decide_eq_true_eq, decide_eq_false_iff_not] at g9r
        refine JO_shun rfl ⟨_, rfl, g9⟩ ?_
        refine JO_shun rfl ⟨_, rfl, g9⟩ ?_
        refine JO_shun rfl ⟨_, rfl, g9⟩ ?_
        refine JO_shun rfl ⟨_, rfl, g9⟩ ?_
        refine JO_shun rfl ⟨_, rfl, g9⟩ ?_
        refine JO_shun rfl ⟨_, rfl, g9⟩ ?_
        refine JO_read (vB true) rfl trivial (fun _ _ => x_pick_t rfl g9 rfl) ?_
        refine JO_nil (JX_cut (true) (by rw [g9]; simp) ⟨rfl, rfl, rfl, rfl, trivial⟩ (fun _ h => h))
      · have g9r := g9
        have ⟨g9r, h10⟩ := bor_false g9r
        have ⟨g9r, h11⟩ := bor_false g9r
        have g9r : (R47.isKind c.Kind) = true := bnot_false g9r
        have h11 := of_decide_eq_false h11
        have h10 := of_decide_eq_false h10
        refine JO_read (Value.pointer (some ⟨b5, 1, none⟩)) rfl ⟨_, rfl, g9⟩ (fun _ _ => x_fieldAddr Ty.fi61_1 rfl rfl) ?_
        refine JO_read (Value.agg #[vI ((R47.form B3 c.Kind).klo), vI ((R47.form B3 c.Kind).khi)]) rfl ⟨_, rfl, g9⟩ (x_loadN 0 [vI ((R47.form B3 c.Kind).klo), vI ((R47.form B3 c.Kind).khi)] rfl rfl Ty.ag59 Ty.sz59 rfl) ?_
        refine JO_read (Value.pointer (some ⟨b1, 2, none⟩)) rfl ⟨_, rfl, g9⟩ (fun _ _ => x_fieldAddr Ty.fi23_2 rfl rfl) ?_
        refine JO_read (vS c.Key) rfl ⟨_, rfl, g9⟩ (x_load 2 rfl rfl Ty.sc9 rfl) ?_
        refine JO_call [] [] [Ent.blk b5 61 (Form.enc (R47.form B3 c.Kind)), Ent.blk B3 26 [Value.func (.func 53) #[] #[]], Ent.blk b1 23 (Change.enc c)] rfl ⟨_, rfl, g9⟩ (fun _ => x_call Ty.ca35 rfl) (fun _ h => h) (fun _ h => by cases h) (fun w hS => f35_ok ((R47.form B3 c.Kind).klo) ((R47.form B3 c.Kind).khi) c.Key w) ?_
        rintro _ _ ⟨rfl, rfl⟩
        refine JO_read (vB (!((decide (((R47.form B3 c.Kind).klo) ≤ c.Key.length)) && (decide ((c.Key.length : Int) ≤ ((R47.form B3 c.Kind).khi)))))) rfl ⟨_, rfl, g9⟩ (fun _ _ => x_not rfl) ?_
        refine JO_read (vB (!((decide (((R47.form B3 c.Kind).klo) ≤ c.Key.length)) && (decide ((c.Key.length : Int) ≤ ((R47.form B3 c.Kind).khi)))))) rfl trivial (fun _ _ => x_pick_f rfl g9 rfl) ?_
        refine JO_nil (JX_cut (!((decide (((R47.form B3 c.Kind).klo) ≤ c.Key.length)) && (decide ((c.Key.length : Int) ≤ ((R47.form B3 c.Kind).khi))))) (by rw [g9]; simp) ⟨rfl, rfl, rfl, rfl, trivial⟩ (fun _ h => h))
    rintro z8 rfl
    refine JO_read (vB ((((!(R47.isKind c.Kind)) || (decide (c.Id < 1))) || (decide ((1099511627776 : Int) < c.Id))) || (!((decide (((R47.form B3 c.Kind).klo) ≤ c.Key.length)) && (decide ((c.Key.length : Int) ≤ ((R47.form B3 c.Kind).khi))))))) rfl trivial (fun _ _ => rfl) ?_
    refine JO_cut (X := Bool) 7 (fun z => z = (((((!(R47.isKind c.Kind)) || (decide (c.Id < 1))) || (decide ((1099511627776 : Int) < c.Id))) || (!((decide (((R47.form B3 c.Kind).klo) ≤ c.Key.length)) && (decide ((c.Key.length : Int) ≤ ((R47.form B3 c.Kind).khi)))))) || (!((decide (((R47.form B3 c.Kind).rlo) ≤ c.Record.length)) && (decide ((c.Record.length : Int) ≤ ((R47.form B3 c.Kind).rhi))))))) (fun z => [(1, Value.pointer (some ⟨b1, 0, none⟩)), (2, vB false), (3, Value.pointer (some ⟨b5, 0, none⟩)), (39, vB z)]) (fun _ => [Ent.blk b5 61 (Form.enc (R47.form B3 c.Kind)), Ent.blk B3 26 [Value.func (.func 53) #[] #[]], Ent.blk b1 23 (Change.enc c)]) ?_ ?_
    · rcases Bool.eq_false_or_eq_true ((((!(R47.isKind c.Kind)) || (decide (c.Id < 1))) || (decide ((1099511627776 : Int) < c.Id))) || (!((decide (((R47.form B3 c.Kind).klo) ≤ c.Key.length)) && (decide ((c.Key.length : Int) ≤ ((R47.form B3 c.Kind).khi)))))) with g13 | g13
      · have g13r := g13
        simp only [Bool.and_eq_true, Bool.or_eq_true, Bool.and_eq_false_iff, Bool.or_eq_false_iff, Bool.not_eq_true', Bool.not_eq_false', decide_eq_true_eq, decide_eq_false_iff_not] at g13r
        refine JO_shun rfl ⟨_, rfl, g13⟩ ?_
        refine JO_shun rfl ⟨_, rfl, g13⟩ ?_
        refine JO_shun rfl ⟨_, rfl, g13⟩ ?_
        refine JO_shun rfl ⟨_, rfl, g13⟩ ?_
        refine JO_shun rfl ⟨_, rfl, g13⟩ ?_
        refine JO_shun rfl ⟨_, rfl, g13⟩ ?_
        refine JO_read (vB true) rfl trivial (fun _ _ => x_pick_t rfl g13 rfl) ?_
        refine JO_nil (JX_cut (true) (by rw [g13]; simp) ⟨rfl, rfl, rfl, rfl, trivial⟩ (fun _ h => h))
      · have g13r := g13
        have ⟨g13r, h14⟩ := bor_false g13r
        have ⟨g13r, h15⟩ := bor_false g13r
        have ⟨g13r, h16⟩ := bor_false g13r
        have g13r : (R47.isKind c.Kind) = true := bnot_false g13r
        have h16 := of_decide_eq_false h16
        have h15 := of_decide_eq_false h15
        have h14 : ((decide (((R47.form B3 c.Kind).klo) ≤ c.Key.length)) && (decide ((c.Key.length : Int) ≤ ((R47.form B3 c.Kind).khi)))) = true := bnot_false h14
        have ⟨h14, h17⟩ := band_true h14
        have h14 := of_decide_eq_true h14
        have h17 := of_decide_eq_true h17
        refine JO_read (Value.pointer (some ⟨b5, 3, none⟩)) rfl ⟨_, rfl, g13⟩ (fun _ _ => x_fieldAddr Ty.fi61_2 rfl rfl) ?_
        refine JO_read (Value.agg #[vI ((R47.form B3 c.Kind).rlo), vI ((R47.form B3 c.Kind).rhi)]) rfl ⟨_, rfl, g13⟩ (x_loadN 0 [vI ((R47.form B3 c.Kind).rlo), vI ((R47.form B3 c.Kind).rhi)] rfl rfl Ty.ag59 Ty.sz59 rfl) ?_
        refine JO_read (Value.pointer (some ⟨b1, 3, none⟩)) rfl ⟨_, rfl, g13⟩ (fun _ _ => x_fieldAddr Ty.fi23_3 rfl rfl) ?_
        refine JO_read (vS c.Record) rfl ⟨_, rfl, g13⟩ (x_load 2 rfl rfl Ty.sc9 rfl) ?_
        refine JO_call [] [] [Ent.blk b5 61 (Form.enc (R47.form B3 c.Kind)), Ent.blk B3 26 [Value.func (.func 53) #[] #[]], Ent.blk b1 23 (Change.enc c)] rfl ⟨_, rfl, g13⟩ (fun _ => x_call Ty.ca35 rfl) (fun _ h => h) (fun _ h => by cases h) (fun w hS => f35_ok ((R47.form B3 c.Kind).rlo) ((R47.form B3 c.Kind).rhi) c.Record w) ?_
        rintro _ _ ⟨rfl, rfl⟩
        refine JO_read (vB (!((decide (((R47.form B3 c.Kind).rlo) ≤ c.Record.length)) && (decide ((c.Record.length : Int) ≤ ((R47.form B3 c.Kind).rhi)))))) rfl ⟨_, rfl, g13⟩ (fun _ _ => x_not rfl) ?_
        refine JO_read (vB (!((decide (((R47.form B3 c.Kind).rlo) ≤ c.Record.length)) && (decide ((c.Record.length : Int) ≤ ((R47.form B3 c.Kind).rhi)))))) rfl trivial (fun _ _ => x_pick_f rfl g13 rfl) ?_
        refine JO_nil (JX_cut (!((decide (((R47.form B3 c.Kind).rlo) ≤ c.Record.length)) && (decide ((c.Record.length : Int) ≤ ((R47.form B3 c.Kind).rhi))))) (by rw [g13]; simp) ⟨rfl, rfl, rfl, rfl, trivial⟩ (fun _ h => h))
    rintro z12 rfl
    refine JO_nil ?_
    refine JX_then ?_
    refine J_cond (((((!(R47.isKind c.Kind)) || (decide (c.Id < 1))) || (decide ((1099511627776 : Int) < c.Id))) || (!((decide (((R47.form B3 c.Kind).klo) ≤ c.Key.length)) && (decide ((c.Key.length : Int) ≤ ((R47.form B3 c.Kind).khi)))))) || (!((decide (((R47.form B3 c.Kind).rlo) ≤ c.Record.length)) && (decide ((c.Record.length : Int) ≤ ((R47.form B3 c.Kind).rhi)))))) rfl rfl (fun h18 => ?_) (fun h18 => ?_)
    · have h18w := h18
      simp only [Bool.and_eq_true, Bool.or_eq_true, Bool.and_eq_false_iff, Bool.or_eq_false_iff, Bool.not_eq_true', Bool.not_eq_false', decide_eq_true_eq, decide_eq_false_iff_not] at h18
      refine J_seq ?_
      refine J_region ?_
      refine JO_read (vB false) rfl trivial (fun _ _ => rfl) ?_
      refine JO_nil ?_
      refine JX_then ?_
      refine J_ret ?_
      refine JX_then_ret ?_
      refine JX_rets [vB false] (vB false) Tryd.results11 (fun w h => ⟨rfl, trivial⟩) rfl [] (fun _ h => h.keep [false, false, false] rfl) ⟨?_, ?_⟩
      · have e_x0 : (false : Bool) = (R47.valid c) := by
          first
            | exact (R47.valid_no (by assumption)).symm
            | exact (R47.valid_vol (by assumption) (by assumption)).symm
            | exact (R47.valid_bare (by assumption) (by assumption)).symm
        exact congrArg (fun (x0 : Bool) => vB x0) e_x0
      · rfl
    · have h18w := h18
      have ⟨h18, h19⟩ := bor_false h18
      have ⟨h18, h20⟩ := bor_false h18
      have ⟨h18, h21⟩ := bor_false h18
      have ⟨h18, h22⟩ := bor_false h18
      have h18 : (R47.isKind c.Kind) = true := bnot_false h18
      have h22 := of_decide_eq_false h22
      have h21 := of_decide_eq_false h21
      have h20 : ((decide (((R47.form B3 c.Kind).klo) ≤ c.Key.length)) && (decide ((c.Key.length : Int) ≤ ((R47.form B3 c.Kind).khi)))) = true := bnot_false h20
      have ⟨h20, h23⟩ := band_true h20
      have h20 := of_decide_eq_true h20
      have h23 := of_decide_eq_true h23
      have h19 : ((decide (((R47.form B3 c.Kind).rlo) ≤ c.Record.length)) && (decide ((c.Record.length : Int) ≤ ((R47.form B3 c.Kind).rhi)))) = true := bnot_false h19
      have ⟨h19, h24⟩ := band_true h19
      have h19 := of_decide_eq_true h19
      have h24 := of_decide_eq_true h24
      refine J_skip ?_
      refine JX_then ?_
      refine J_seq ?_
      refine J_seq ?_
      refine J_region ?_
      refine JO_read (Value.pointer (some ⟨b5, 5, none⟩)) rfl trivial (fun _ _ => x_fieldAddr Ty.fi61_3 rfl rfl) ?_
      refine JO_read (vB ((R47.form B3 c.Kind).vol)) rfl trivial (x_load 0 rfl rfl Ty.sc4 rfl) ?_
      refine JO_nil ?_
      refine JX_then ?_
      refine J_cond ((R47.form B3 c.Kind).vol) rfl rfl (fun h25 => ?_) (fun h25 => ?_)
      · have h25w := h25
        refine J_seq ?_
        refine J_region ?_
        refine JO_read (Value.pointer (some ⟨b1, 4, none⟩)) rfl trivial (fun _ _ => x_fieldAddr Ty.fi23_4 rfl rfl) ?_
        refine JO_read (vS c.Volume) rfl trivial (x_load 2 rfl rfl Ty.sc9 rfl) ?_
        refine JO_call [] [] [Ent.blk b5 61 (Form.enc (R47.form B3 c.Kind)), Ent.blk B3 26 [Value.func (.func 53) #[] #[]], Ent.blk b1 23 (Change.enc c)] rfl trivial (fun _ => x_call Ty.ca36 rfl) (fun _ h => h) (fun _ h => by cases h) (fun w hS => f36_ok c.Volume w hy_) ?_
        rintro _ _ ⟨rfl, rfl⟩
        refine JO_read (vB (R47.volName c.Volume)) rfl trivial (fun _ _ => rfl) ?_
        refine JO_nil ?_
        refine JX_then ?_
        refine J_ret ?_
        refine JX_then_ret ?_
        refine JX_rets [vB (R47.volName c.Volume)] (vB (R47.volName c.Volume)) Tryd.results11 (fun w h => ⟨rfl, trivial⟩) rfl [] (fun _ h => h.keep [false, false, false] rfl) ⟨?_, ?_⟩
        · have e_x0 : (R47.volName c.Volume : Bool) = (R47.valid c) := by
            first
              | exact (R47.valid_no (by assumption)).symm
              | exact (R47.valid_vol (by assumption) (by assumption)).symm
              | exact (R47.valid_bare (by assumption) (by assumption)).symm
          exact congrArg (fun (x0 : Bool) => vB x0) e_x0
        · rfl
      · have h25w := h25
        refine J_skip ?_
        refine JX_then ?_
        refine J_seq ?_
        refine J_region ?_
        refine JO_read (Value.pointer (some ⟨b1, 4, none⟩)) rfl trivial (fun _ _ => x_fieldAddr Ty.fi23_4 rfl rfl) ?_
        refine JO_read (vS c.Volume) rfl trivial (x_load 2 rfl rfl Ty.sc9 rfl) ?_
        refine JO_read (vB (decide (c.Volume = ([] : Bytes)))) rfl trivial (fun _ _ => x_eql_s rfl rfl) ?_
        refine JO_read (vB (decide (c.Volume = ([] : Bytes)))) rfl trivial (fun _ _ => rfl) ?_
        refine JO_nil ?_
        refine JX_then ?_
        refine J_ret ?_
        refine JX_rets [vB (decide (c.Volume = ([] : Bytes)))] (vB (decide (c.Volume = ([] : Bytes)))) Tryd.results11 (fun w h => ⟨rfl, trivial⟩) rfl [] (fun _ h => h.keep [false, false, false] rfl) ⟨?_, ?_⟩
        · have e_x0 : (decide (c.Volume = ([] : Bytes)) : Bool) = (R47.valid c) := by
            first
              | exact (R47.valid_no (by assumption)).symm
              | exact (R47.valid_vol (by assumption) (by assumption)).symm
              | exact (R47.valid_bare (by assumption) (by assumption)).symm
          exact congrArg (fun (x0 : Bool) => vB x0) e_x0
        · rfl
  · refine JA_ready (rs := [0, 7]) (by kernel_rfl) (by decide) (fun _ h => ⟨h.keep [false] rfl, fun _ => h⟩) (List.forall_mem_cons.2 ⟨?_, (List.forall_mem_cons.2 ⟨?_, all_nil⟩)⟩)
    · refine JI_call [] [] [Ent.blk b1 23 (Change.enc c)] rfl rfl trivial (fun _ => x_call Ty.ca34 rfl) (fun _ h => h) (fun _ h => by cases h) (fun w hS => f34_ok w) ?_
      rintro _ _ ⟨M26, B27, rfl, rfl⟩
      refine JA_ready (rs := [3, 7]) (by kernel_rfl) (by decide) (fun _ h => ⟨h.keep [false, false, false] rfl, fun _ => h.keep [false, false, true] rfl⟩) (List.forall_mem_cons.2 ⟨?_, (List.forall_mem_cons.2 ⟨?_, all_nil⟩)⟩)
      · refine JI_read (Value.tuple #[Value.agg ((Form.enc (R47.form B27 c.Kind))).toArray, vB (R47.isKind c.Kind)]) rfl rfl trivial (x_lookup_okv 0 (f := vI) (k := c.Kind) rfl rfl rfl Tryd.underlying63 (mapK_i Tryd.underlying3) Ty.ze61 (R47.look B27 c.Kind) (R47.look_v B27 c.Kind) (R47.look_o B27 c.Kind)) ?_
        refine JA_take 4 (Value.tuple #[Value.agg ((Form.enc (R47.form B27 c.Kind))).toArray, vB (R47.isKind c.Kind)]) rfl (by kernel_rfl) (by kernel_rfl) (by kernel_rfl) rfl (fun _ _ _ h => h) rfl trivial (fun _ _ => rfl) ?_
        refine JA_take 5 (Value.agg ((Form.enc (R47.form B27 c.Kind))).toArray) rfl (by kernel_rfl) (by kernel_rfl) (by kernel_rfl) rfl (fun _ _ _ h => h) rfl trivial (fun _ _ => rfl) ?_
        refine JA_take 6 (vB (R47.isKind c.Kind)) rfl (by kernel_rfl) (by kernel_rfl) (by kernel_rfl) rfl (fun _ _ _ h => h) rfl trivial (fun _ _ => rfl) ?_
        refine JA_one 7 (by kernel_rfl) (fun _ h => ⟨h.keep [false, false, false] rfl, fun _ => h.keep [false, false, true] rfl⟩) ?_
        refine JI_op rfl rfl trivial (O_alloc Ty.ze61 rfl fun b29 => ?_)
        refine JA_one 8 (by kernel_rfl) (fun _ h => ⟨h.keep [false, false, false, false] rfl, fun _ => h.keep [false, false, false, true] rfl⟩) ?_
        refine JI_op rfl rfl trivial (O_storeS (vs := (Form.enc (R47.form B27 c.Kind))) 0 (Form.enc (R47.form B27 c.Kind)) [Ent.blk b29 61 (Form.enc (R47.form B27 c.Kind)), Ent.mp vI M26 (R47.entries B27), Ent.blk B27 26 [Value.func (.func 53) #[] #[]], Ent.blk b1 23 (Change.enc c)] rfl rfl rfl Ty.sz61 rfl (Nat.le_of_ble_eq_true rfl) (R47.form_one _ _) rfl rfl ?_)
        refine JA_take 9 (vB (R47.isKind c.Kind)) rfl (by kernel_rfl) (by kernel_rfl) (by kernel_rfl) rfl (fun _ _ _ h => h) rfl trivial (fun _ _ => rfl) ?_
        exact JA_done (by kernel_rfl) (fun _ h => ⟨h.keep [false, false, false, false] rfl, fun hh => Bool.noConfusion (show false = true from hh)⟩) (JX_weaken (E' := [(1, Value.pointer (some ⟨b1, 0, none⟩)), (2, vB false), (3, Value.pointer (some ⟨b29, 0, none⟩)), (4, vB (R47.isKind c.Kind))]) (L' := [Ent.blk b29 61 (Form.enc (R47.form B27 c.Kind)), Ent.blk B27 26 [Value.func (.func 53) #[] #[]], Ent.blk b1 23 (Change.enc c)]) ⟨rfl, rfl, rfl, rfl, trivial⟩ (fun _ h => h.keep [true, false, true, true] rfl) (key2 (b29, B27)))
      · refine JI_op rfl rfl trivial (O_alloc Ty.ze61 rfl fun b30 => ?_)
        refine JA_one 3 (by kernel_rfl) (fun _ h => ⟨h.keep [false, false, false, false] rfl, fun _ => h.keep [false, false, false, true] rfl⟩) ?_
        refine JI_read (Value.tuple #[Value.agg ((Form.enc (R47.form B27 c.Kind))).toArray, vB (R47.isKind c.Kind)]) rfl rfl trivial (x_lookup_okv 1 (f := vI) (k := c.Kind) rfl rfl rfl Tryd.underlying63 (mapK_i Tryd.underlying3) Ty.ze61 (R47.look B27 c.Kind) (R47.look_v B27 c.Kind) (R47.look_o B27 c.Kind)) ?_
        refine JA_take 4 (Value.tuple #[Value.agg ((Form.enc (R47.form B27 c.Kind))).toArray, vB (R47.isKind c.Kind)]) rfl (by kernel_rfl) (by kernel_rfl) (by kernel_rfl) rfl (fun _ _ _ h => h) rfl trivial (fun _ _ => rfl) ?_
        refine JA_take 5 (Value.agg ((Form.enc (R47.form B27 c.Kind))).toArray) rfl (by kernel_rfl) (by kernel_rfl) (by kernel_rfl) rfl (fun _ _ _ h => h) rfl trivial (fun _ _ => rfl) ?_
        refine JA_take 6 (vB (R47.isKind c.Kind)) rfl (by kernel_rfl) (by kernel_rfl) (by kernel_rfl) rfl (fun _ _ _ h => h) rfl trivial (fun _ _ => rfl) ?_
        refine JA_one 8 (by kernel_rfl) (fun _ h => ⟨h.keep [false, false, false, false] rfl, fun _ => h.keep [false, false, false, true] rfl⟩) ?_
        refine JI_op rfl rfl trivial (O_storeS (vs := (Form.enc (R47.form B27 c.Kind))) 0 (Form.enc (R47.form B27 c.Kind)) [Ent.blk b30 61 (Form.enc (R47.form B27 c.Kind)), Ent.mp vI M26 (R47.entries B27), Ent.blk B27 26 [Value.func (.func 53) #[] #[]], Ent.blk b1 23 (Change.enc c)] rfl rfl rfl Ty.sz61 rfl (Nat.le_of_ble_eq_true rfl) (R47.form_one _ _) rfl rfl ?_)
        refine JA_take 9 (vB (R47.isKind c.Kind)) rfl (by kernel_rfl) (by kernel_rfl) (by kernel_rfl) rfl (fun _ _ _ h => h) rfl trivial (fun _ _ => rfl) ?_
        exact JA_done (by kernel_rfl) (fun _ h => ⟨h.keep [false, false, false, false] rfl, fun hh => Bool.noConfusion (show false = true from hh)⟩) (JX_weaken (E' := [(1, Value.pointer (some ⟨b1, 0, none⟩)), (2, vB false), (3, Value.pointer (some ⟨b30, 0, none⟩)), (4, vB (R47.isKind c.Kind))]) (L' := [Ent.blk b30 61 (Form.enc (R47.form B27 c.Kind)), Ent.blk B27 26 [Value.func (.func 53) #[] #[]], Ent.blk b1 23 (Change.enc c)]) ⟨rfl, rfl, rfl, rfl, trivial⟩ (fun _ h => h.keep [true, false, true, true] rfl) (key2 (b30, B27)))
    · refine JI_op rfl rfl trivial (O_alloc Ty.ze61 rfl fun b31 => ?_)
      refine JA_one 0 (by kernel_rfl) (fun _ h => ⟨h.keep [false, false] rfl, fun _ => h.keep [false, true] rfl⟩) ?_
      refine JI_call [] [] [Ent.blk b31 61 [vS [], vI 0, vI 0, vI 0, vI 0, vB false, Value.nilFunc], Ent.blk b1 23 (Change.enc c)] rfl rfl trivial (fun _ => x_call Ty.ca34 rfl) (fun _ h => h) (fun _ h => by cases h) (fun w hS => f34_ok w) ?_
      rintro _ _ ⟨M32, B33, rfl, rfl⟩
      refine JA_one 3 (by kernel_rfl) (fun _ h => ⟨h.keep [false, false, false, false] rfl, fun _ => h.keep [false, false, false, true] rfl⟩) ?_
      refine JI_read (Value.tuple #[Value.agg ((Form.enc (R47.form B33 c.Kind))).toArray, vB (R47.isKind c.Kind)]) rfl rfl trivial (x_lookup_okv 0 (f := vI) (k := c.Kind) rfl rfl rfl Tryd.underlying63 (mapK_i Tryd.underlying3) Ty.ze61 (R47.look B33 c.Kind) (R47.look_v B33 c.Kind) (R47.look_o B33 c.Kind)) ?_
      refine JA_take 4 (Value.tuple #[Value.agg ((Form.enc (R47.form B33 c.Kind))).toArray, vB (R47.isKind c.Kind)]) rfl (by kernel_rfl) (by kernel_rfl) (by kernel_rfl) rfl (fun _ _ _ h => h) rfl trivial (fun _ _ => rfl) ?_
      refine JA_take 5 (Value.agg ((Form.enc (R47.form B33 c.Kind))).toArray) rfl (by kernel_rfl) (by kernel_rfl) (by kernel_rfl) rfl (fun _ _ _ h => h) rfl trivial (fun _ _ => rfl) ?_
      refine JA_take 6 (vB (R47.isKind c.Kind)) rfl (by kernel_rfl) (by kernel_rfl) (by kernel_rfl) rfl (fun _ _ _ h => h) rfl trivial (fun _ _ => rfl) ?_
      refine JA_one 8 (by kernel_rfl) (fun _ h => ⟨h.keep [false, false, false, false] rfl, fun _ => h.keep [false, false, false, true] rfl⟩) ?_
      refine JI_op rfl rfl trivial (O_storeS (vs := (Form.enc (R47.form B33 c.Kind))) 2 (Form.enc (R47.form B33 c.Kind)) [Ent.mp vI M32 (R47.entries B33), Ent.blk B33 26 [Value.func (.func 53) #[] #[]], Ent.blk b31 61 (Form.enc (R47.form B33 c.Kind)), Ent.blk b1 23 (Change.enc c)] rfl rfl rfl Ty.sz61 rfl (Nat.le_of_ble_eq_true rfl) (R47.form_one _ _) rfl rfl ?_)
      refine JA_take 9 (vB (R47.isKind c.Kind)) rfl (by kernel_rfl) (by kernel_rfl) (by kernel_rfl) rfl (fun _ _ _ h => h) rfl trivial (fun _ _ => rfl) ?_
      exact JA_done (by kernel_rfl) (fun _ h => ⟨h.keep [false, false, false, false] rfl, fun hh => Bool.noConfusion (show false = true from hh)⟩) (JX_weaken (E' := [(1, Value.pointer (some ⟨b1, 0, none⟩)), (2, vB false), (3, Value.pointer (some ⟨b31, 0, none⟩)), (4, vB (R47.isKind c.Kind))]) (L' := [Ent.blk b31 61 (Form.enc (R47.form B33 c.Kind)), Ent.blk B33 26 [Value.func (.func 53) #[] #[]], Ent.blk b1 23 (Change.enc c)]) ⟨rfl, rfl, rfl, rfl, trivial⟩ (fun _ h => (((h.front 3 _ rfl).front 2 _ rfl).front 3 _ rfl).keep [true, true, true, false] rfl) (key2 (b31, B33)))

set_option maxRecDepth 20000 in
theorem f12_ok (c : Change) (w : World) (q0 : c.Volume.length ≤ 9223372036854775807) : Calls Tryd.prog 12 #[Value.agg ((Change.enc c)).toArray] w (Gives [] w fun v L => v = vB (R47.valid c) ∧ L = []) := by
  refine calls_J [] 113 Tryd.func12 rfl Tryd.ntmps12 [(0, Value.agg ((Change.enc c)).toArray)] rfl rfl (Give.nil w) ?_
  refine J_seq ?_
  refine J_region ?_
  refine JO_op rfl trivial (O_box rfl rfl fun b1 => ?_)
  refine JO_read (vB false) rfl trivial (fun _ _ => rfl) ?_
  refine JO_nil ?_
  refine JX_then ?_
  refine J_seq ?_
  refine J_seq ?_
  refine J_region ?_
  refine JO_read (Value.pointer (some ⟨b1, 1, none⟩)) rfl trivial (fun _ _ => x_fieldAddr Ty.fi23_1 rfl rfl) ?_
  refine JO_read (vI c.Id) rfl trivial (x_load 0 rfl rfl Ty.sc3 rfl) ?_
  refine JO_read (vB (decide (c.Id < 1))) rfl trivial (fun _ _ => x_lss_i rfl rfl) ?_
  refine JO_read (vB (decide (c.Id < 1))) rfl trivial (fun _ _ => rfl) ?_
  refine JO_cut (X := Bool) 4 (fun z => z = ((decide (c.Id < 1)) || (decide ((1099511627776 : Int) < c.Id)))) (fun z => [(1, Value.pointer (some ⟨b1, 0, none⟩)), (2, vB false), (12, vB z)]) (fun _ => [Ent.blk b1 23 (Change.enc c)]) ?_ ?_
  · rcases Bool.eq_false_or_eq_true (decide (c.Id < 1)) with g3 | g3
    · have g3r := g3
      have g3r := of_decide_eq_true g3r
      refine JO_shun rfl ⟨_, rfl, g3⟩ ?_
      refine JO_shun rfl ⟨_, rfl, g3⟩ ?_
      refine JO_shun rfl ⟨_, rfl, g3⟩ ?_
      refine JO_read (vB true) rfl trivial (fun _ _ => x_pick_t rfl g3 rfl) ?_
      refine JO_nil (JX_cut (true) (by rw [g3]; simp) ⟨rfl, rfl, rfl, trivial⟩ (fun _ h => h))
    · have g3r := g3
      have g3r := of_decide_eq_false g3r
      refine JO_read (Value.pointer (some ⟨b1, 1, none⟩)) rfl ⟨_, rfl, g3⟩ (fun _ _ => x_fieldAddr Ty.fi23_1 rfl rfl) ?_
      refine JO_read (vI c.Id) rfl ⟨_, rfl, g3⟩ (x_load 0 rfl rfl Ty.sc3 rfl) ?_
      refine JO_read (vB (decide ((1099511627776 : Int) < c.Id))) rfl ⟨_, rfl, g3⟩ (fun _ _ => x_gtr_i rfl rfl) ?_
      refine JO_read (vB (decide ((1099511627776 : Int) < c.Id))) rfl trivial (fun _ _ => x_pick_f rfl g3 rfl) ?_
      refine JO_nil (JX_cut (decide ((1099511627776 : Int) < c.Id)) (by rw [g3]; simp) ⟨rfl, rfl, rfl, trivial⟩ (fun _ h => h))
  rintro z2 rfl
  refine JO_nil ?_
  refine JX_then ?_
  refine J_cond ((decide (c.Id < 1)) || (decide ((1099511627776 : Int) < c.Id))) rfl rfl (fun h4 => ?_) (fun h4 => ?_)
  · simp only [Bool.and_eq_true, Bool.or_eq_true, Bool.and_eq_false_iff, Bool.or_eq_false_iff, Bool.not_eq_true', Bool.not_eq_false', decide_eq_true_eq, decide_eq_false_iff_not] at h4
    refine J_seq ?_
    refine J_region ?_
    refine JO_read (vB false) rfl trivial (fun _ _ => rfl) ?_
    refine JO_nil ?_
    refine JX_then ?_
    refine J_ret ?_
    refine JX_then_ret ?_
    refine JX_rets [vB false] (vB false) Tryd.results12 (fun w h => ⟨rfl, trivial⟩) rfl [] (fun _ h => h.keep [false] rfl) ⟨?_, ?_⟩
    · have e_x0 : (false : Bool) = (R47.valid c) := by
        first | exact R47.ref_valid0 (by omega) (by omega) (by omega) | exact R47.ref_valid1 (by omega) (by omega) (by omega) | exact R47.ref_valid2 (by omega) (by omega) (by omega) | exact R47.ref_valid3 (by omega) (by omega) (by omega) | exact R47.ref_valid467 (by omega) (by omega) (by omega) | exact R47.ref_valid5 (by omega) (by omega) (by omega) | exact (R47.ref_no (by omega)).symm
      exact congrArg (fun (x0 : Bool) => vB x0) e_x0
    · rfl
  · have ⟨h4, h5⟩ := bor_false h4
    have h4 := of_decide_eq_false h4
    have h5 := of_decide_eq_false h5
    refine J_skip ?_
    refine JX_then ?_
    refine J_seq ?_
    refine J_draw [Ent.blk b1 23 (Change.enc c)] [] [Ent.blk b1 23 (Change.enc c)] 8 Ty.mixed rfl ?_
    refine JA_take 0 (Value.pointer (some ⟨b1, 2, none⟩)) rfl (by kernel_rfl) (by kernel_rfl) (by kernel_rfl) rfl (fun _ _ _ h => h) rfl trivial (fun _ _ => x_fieldAddr Ty.fi23_2 rfl rfl) ?_
    refine JA_take 1 (vS c.Key) rfl (by kernel_rfl) (by kernel_rfl) (by kernel_rfl) rfl (fun _ _ _ h => h) rfl trivial (x_load 0 rfl rfl Ty.sc9 rfl) ?_
    refine JA_take 2 (vI ((c.Key.length : Nat) : Int)) rfl (by kernel_rfl) (by kernel_rfl) (by kernel_rfl) rfl (fun _ _ _ h => h) rfl trivial (fun _ _ => x_len_s rfl Tryd.underlying9) ?_
    refine JA_take 3 (Value.pointer (some ⟨b1, 3, none⟩)) rfl (by kernel_rfl) (by kernel_rfl) (by kernel_rfl) rfl (fun _ _ _ h => h) rfl trivial (fun _ _ => x_fieldAddr Ty.fi23_3 rfl rfl) ?_
    refine JA_take 4 (vS c.Record) rfl (by kernel_rfl) (by kernel_rfl) (by kernel_rfl) rfl (fun _ _ _ h => h) rfl trivial (x_load 0 rfl rfl Ty.sc9 rfl) ?_
    refine JA_take 5 (vI ((c.Record.length : Nat) : Int)) rfl (by kernel_rfl) (by kernel_rfl) (by kernel_rfl) rfl (fun _ _ _ h => h) rfl trivial (fun _ _ => x_len_s rfl Tryd.underlying9) ?_
    refine JA_take 6 (vI ((c.Key.length : Nat) : Int)) rfl (by kernel_rfl) (by kernel_rfl) (by kernel_rfl) rfl (fun _ _ _ h => h) rfl trivial (fun _ _ => rfl) ?_
    refine JA_take 7 (vI ((c.Record.length : Nat) : Int)) rfl (by kernel_rfl) (by kernel_rfl) (by kernel_rfl) rfl (fun _ _ _ h => h) rfl trivial (fun _ _ => rfl) ?_
    refine JA_done (by kernel_rfl) (fun _ h => ⟨h, fun _ => h⟩) ?_
    refine JX_then ?_
    refine J_seq ?_
    refine J_seq ?_
    refine J_region ?_
    refine JO_read (Value.pointer (some ⟨b1, 0, none⟩)) rfl trivial (fun _ _ => x_fieldAddr Ty.fi23_0 rfl rfl) ?_
    refine JO_read (vI c.Kind) rfl trivial (x_load 0 rfl rfl Ty.sc3 rfl) ?_
    refine JO_nil ?_
    refine JX_then ?_
    refine J_block ?_
    refine J_seq ?_
    refine J_region ?_
    refine JO_read (vB (decide (c.Kind = 0))) rfl trivial (fun _ _ => x_eql_i rfl rfl) ?_
    refine JO_read (vB (decide (c.Kind = 0))) rfl trivial (fun _ _ => rfl) ?_
    refine JO_nil ?_
    refine JX_then ?_
    refine J_cond (decide (c.Kind = 0)) rfl rfl (fun h6 => ?_) (fun h6 => ?_)
    · have h6 := of_decide_eq_true h6
      refine J_seq ?_
      refine J_region ?_
      refine JO_read (vI ((c.Key.length : Nat) : Int)) rfl trivial (fun _ _ => rfl) ?_
      refine JO_read (vB (decide ((1 : Int) ≤ ((c.Key.length : Nat) : Int)))) rfl trivial (fun _ _ => x_geq_i rfl rfl) ?_
      refine JO_read (vB (decide ((1 : Int) ≤ ((c.Key.length : Nat) : Int)))) rfl trivial (fun _ _ => rfl) ?_
      refine JO_cut (X := Bool) 3 (fun z => z = ((decide ((1 : Int) ≤ ((c.Key.length : Nat) : Int))) && (decide (((c.Key.length : Nat) : Int) ≤ 32)))) (fun z => [(1, Value.pointer (some ⟨b1, 0, none⟩)), (2, vB false), (4, vI ((c.Record.length : Nat) : Int)), (28, vB z)]) (fun _ => [Ent.blk b1 23 (Change.enc c)]) ?_ ?_
      · rcases Bool.eq_false_or_eq_true (decide ((1 : Int) ≤ ((c.Key.length : Nat) : Int))) with g8 | g8
        · have g8r := g8
          have g8r := of_decide_eq_true g8r
          refine JO_read (vI ((c.Key.length : Nat) : Int)) rfl ⟨_, rfl, g8⟩ (fun _ _ => rfl) ?_
          refine JO_read (vB (decide (((c.Key.length : Nat) : Int) ≤ 32))) rfl ⟨_, rfl, g8⟩ (fun _ _ => x_leq_i rfl rfl) ?_
          refine JO_read (vB (decide (((c.Key.length : Nat) : Int) ≤ 32))) rfl trivial (fun _ _ => x_pick_t rfl g8 rfl) ?_
          refine JO_nil (JX_cut (decide (((c.Key.length : Nat) : Int) ≤ 32)) (by rw [g8]; simp) ⟨rfl, rfl, rfl, rfl, trivial⟩ (fun _ h => h))
        · have g8r := g8
          have g8r := of_decide_eq_false g8r
          refine JO_shun rfl ⟨_, rfl, g8⟩ ?_
          refine JO_shun rfl ⟨_, rfl, g8⟩ ?_
          refine JO_read (vB false) rfl trivial (fun _ _ => x_pick_f rfl g8 rfl) ?_
          refine JO_nil (JX_cut (false) (by rw [g8]; simp) ⟨rfl, rfl, rfl, rfl, trivial⟩ (fun _ h => h))
      rintro z7 rfl
      refine JO_read (vB ((decide ((1 : Int) ≤ ((c.Key.length : Nat) : Int))) && (decide (((c.Key.length : Nat) : Int) ≤ 32)))) rfl trivial (fun _ _ => rfl) ?_
      refine JO_cut (X := Bool) 3 (fun z => z = (((decide ((1 : Int) ≤ ((c.Key.length : Nat) : Int))) && (decide (((c.Key.length : Nat) : Int) ≤ 32))) && (decide ((1 : Int) ≤ ((c.Record.length : Nat) : Int))))) (fun z => [(1, Value.pointer (some ⟨b1, 0, none⟩)), (2, vB false), (4, vI ((c.Record.length : Nat) : Int)), (32, vB z)]) (fun _ => [Ent.blk b1 23 (Change.enc c)]) ?_ ?_
      · rcases Bool.eq_false_or_eq_true ((decide ((1 : Int) ≤ ((c.Key.length : Nat) : Int))) && (decide (((c.Key.length : Nat) : Int) ≤ 32))) with g10 | g10
        · have g10r := g10
          have ⟨g10r, h11⟩ := band_true g10r
          have g10r := of_decide_eq_true g10r
          have h11 := of_decide_eq_true h11
          refine JO_read (vI ((c.Record.length : Nat) : Int)) rfl ⟨_, rfl, g10⟩ (fun _ _ => rfl) ?_
          refine JO_read (vB (decide ((1 : Int) ≤ ((c.Record.length : Nat) : Int)))) rfl ⟨_, rfl, g10⟩ (fun _ _ => x_geq_i rfl rfl) ?_
          refine JO_read (vB (decide ((1 : Int) ≤ ((c.Record.length : Nat) : Int)))) rfl trivial (fun _ _ => x_pick_t rfl g10 rfl) ?_
          refine JO_nil (JX_cut (decide ((1 : Int) ≤ ((c.Record.length : Nat) : Int))) (by rw [g10]; simp) ⟨rfl, rfl, rfl, rfl, trivial⟩ (fun _ h => h))
        · have g10r := g10
          simp only [Bool.and_eq_true, Bool.or_eq_true, Bool.and_eq_false_iff, Bool.or_eq_false_iff, Bool.not_eq_true', Bool.not_eq_false', decide_eq_true_eq, decide_eq_false_iff_not] at g10r
          refine JO_shun rfl ⟨_, rfl, g10⟩ ?_
          refine JO_shun rfl ⟨_, rfl, g10⟩ ?_
          refine JO_read (vB false) rfl trivial (fun _ _ => x_pick_f rfl g10 rfl) ?_
          refine JO_nil (JX_cut (false) (by rw [g10]; simp) ⟨rfl, rfl, rfl, rfl, trivial⟩ (fun _ h => h))
      rintro z9 rfl
      refine JO_read (vB (((decide ((1 : Int) ≤ ((c.Key.length : Nat) : Int))) && (decide (((c.Key.length : Nat) : Int) ≤ 32))) && (decide ((1 : Int) ≤ ((c.Record.length : Nat) : Int))))) rfl trivial (fun _ _ => rfl) ?_
      refine JO_cut (X := Bool) 3 (fun z => z = ((((decide ((1 : Int) ≤ ((c.Key.length : Nat) : Int))) && (decide (((c.Key.length : Nat) : Int) ≤ 32))) && (decide ((1 : Int) ≤ ((c.Record.length : Nat) : Int)))) && (decide (((c.Record.length : Nat) : Int) ≤ 200)))) (fun z => [(1, Value.pointer (some ⟨b1, 0, none⟩)), (2, vB false), (36, vB z)]) (fun _ => [Ent.blk b1 23 (Change.enc c)]) ?_ ?_
      · rcases Bool.eq_false_or_eq_true (((decide ((1 : Int) ≤ ((c.Key.length : Nat) : Int))) && (decide (((c.Key.length : Nat) : Int) ≤ 32))) && (decide ((1 : Int) ≤ ((c.Record.length : Nat) : Int)))) with g13 | g13
        · have g13r := g13
          have ⟨g13r, h14⟩ := band_true g13r
          have ⟨g13r, h15⟩ := band_true g13r
          have g13r := of_decide_eq_true g13r
          have h15 := of_decide_eq_true h15
          have h14 := of_decide_eq_true h14
          refine JO_read (vI ((c.Record.length : Nat) : Int)) rfl ⟨_, rfl, g13⟩ (fun _ _ => rfl) ?_
          refine JO_read (vB (decide (((c.Record.length : Nat) : Int) ≤ 200))) rfl ⟨_, rfl, g13⟩ (fun _ _ => x_leq_i rfl rfl) ?_
          refine JO_read (vB (decide (((c.Record.length : Nat) : Int) ≤ 200))) rfl trivial (fun _ _ => x_pick_t rfl g13 rfl) ?_
          refine JO_nil (JX_cut (decide (((c.Record.length : Nat) : Int) ≤ 200)) (by rw [g13]; simp) ⟨rfl, rfl, rfl, trivial⟩ (fun _ h => h))
        · have g13r := g13
          simp only [Bool.and_eq_true, Bool.or_eq_true, Bool.and_eq_false_iff, Bool.or_eq_false_iff, Bool.not_eq_true', Bool.not_eq_false', decide_eq_true_eq, decide_eq_false_iff_not] at g13r
          refine JO_shun rfl ⟨_, rfl, g13⟩ ?_
          refine JO_shun rfl ⟨_, rfl, g13⟩ ?_
          refine JO_read (vB false) rfl trivial (fun _ _ => x_pick_f rfl g13 rfl) ?_
          refine JO_nil (JX_cut (false) (by rw [g13]; simp) ⟨rfl, rfl, rfl, trivial⟩ (fun _ h => h))
      rintro z12 rfl
      refine JO_read (vB ((((decide ((1 : Int) ≤ ((c.Key.length : Nat) : Int))) && (decide (((c.Key.length : Nat) : Int) ≤ 32))) && (decide ((1 : Int) ≤ ((c.Record.length : Nat) : Int)))) && (decide (((c.Record.length : Nat) : Int) ≤ 200)))) rfl trivial (fun _ _ => rfl) ?_
      refine JO_cut (X := Bool) 4 (fun z => z = (((((decide ((1 : Int) ≤ ((c.Key.length : Nat) : Int))) && (decide (((c.Key.length : Nat) : Int) ≤ 32))) && (decide ((1 : Int) ≤ ((c.Record.length : Nat) : Int)))) && (decide (((c.Record.length : Nat) : Int) ≤ 200))) && (decide (c.Volume = ([] : Bytes))))) (fun z => [(2, vB false), (41, vB z)]) (fun _ => [Ent.blk b1 23 (Change.enc c)]) ?_ ?_
      · rcases Bool.eq_false_or_eq_true ((((decide ((1 : Int) ≤ ((c.Key.length : Nat) : Int))) && (decide (((c.Key.length : Nat) : Int) ≤ 32))) && (decide ((1 : Int) ≤ ((c.Record.length : Nat) : Int)))) && (decide (((c.Record.length : Nat) : Int) ≤ 200))) with g17 | g17
        · have g17r := g17
          have ⟨g17r, h18⟩ := band_true g17r
          have ⟨g17r, h19⟩ := band_true g17r
          have ⟨g17r, h20⟩ := band_true g17r
          have g17r := of_decide_eq_true g17r
          have h20 := of_decide_eq_true h20
          have h19 := of_decide_eq_true h19
          have h18 := of_decide_eq_true h18
          refine JO_read (Value.pointer (some ⟨b1, 4, none⟩)) rfl ⟨_, rfl, g17⟩ (fun _ _ => x_fieldAddr Ty.fi23_4 rfl rfl) ?_
          refine JO_read (vS c.Volume) rfl ⟨_, rfl, g17⟩ (x_load 0 rfl rfl Ty.sc9 rfl) ?_
          refine JO_read (vB (decide (c.Volume = ([] : Bytes)))) rfl ⟨_, rfl, g17⟩ (fun _ _ => x_eql_s rfl rfl) ?_
          refine JO_read (vB (decide (c.Volume = ([] : Bytes)))) rfl trivial (fun _ _ => x_pick_t rfl g17 rfl) ?_
          refine JO_nil (JX_cut (decide (c.Volume = ([] : Bytes))) (by rw [g17]; simp) ⟨rfl, rfl, trivial⟩ (fun _ h => h))
        · have g17r := g17
          simp only [Bool.and_eq_true, Bool.or_eq_true, Bool.and_eq_false_iff, Bool.or_eq_false_iff, Bool.not_eq_true', Bool.not_eq_false', decide_eq_true_eq, decide_eq_false_iff_not] at g17r
          refine JO_shun rfl ⟨_, rfl, g17⟩ ?_
          refine JO_shun rfl ⟨_, rfl, g17⟩ ?_
          refine JO_shun rfl ⟨_, rfl, g17⟩ ?_
          refine JO_read (vB false) rfl trivial (fun _ _ => x_pick_f rfl g17 rfl) ?_
          refine JO_nil (JX_cut (false) (by rw [g17]; simp) ⟨rfl, rfl, trivial⟩ (fun _ h => h))
      rintro z16 rfl
      refine JO_read (vB (((((decide ((1 : Int) ≤ ((c.Key.length : Nat) : Int))) && (decide (((c.Key.length : Nat) : Int) ≤ 32))) && (decide ((1 : Int) ≤ ((c.Record.length : Nat) : Int)))) && (decide (((c.Record.length : Nat) : Int) ≤ 200))) && (decide (c.Volume = ([] : Bytes))))) rfl trivial (fun _ _ => rfl) ?_
      refine JO_nil ?_
      refine JX_then ?_
      refine J_ret ?_
      refine JX_block_ret ?_
      refine JX_then_ret ?_
      refine JX_rets [vB (((((decide ((1 : Int) ≤ ((c.Key.length : Nat) : Int))) && (decide (((c.Key.length : Nat) : Int) ≤ 32))) && (decide ((1 : Int) ≤ ((c.Record.length : Nat) : Int)))) && (decide (((c.Record.length : Nat) : Int) ≤ 200))) && (decide (c.Volume = ([] : Bytes))))] (vB (((((decide ((1 : Int) ≤ ((c.Key.length : Nat) : Int))) && (decide (((c.Key.length : Nat) : Int) ≤ 32))) && (decide ((1 : Int) ≤ ((c.Record.length : Nat) : Int)))) && (decide (((c.Record.length : Nat) : Int) ≤ 200))) && (decide (c.Volume = ([] : Bytes))))) Tryd.results12 (fun w h => ⟨rfl, trivial⟩) rfl [] (fun _ h => h.keep [false] rfl) ⟨?_, ?_⟩
      · have e_x0 : (((((decide ((1 : Int) ≤ ((c.Key.length : Nat) : Int))) && (decide (((c.Key.length : Nat) : Int) ≤ 32))) && (decide ((1 : Int) ≤ ((c.Record.length : Nat) : Int)))) && (decide (((c.Record.length : Nat) : Int) ≤ 200))) && (decide (c.Volume = ([] : Bytes))) : Bool) = (R47.valid c) := by
          first | exact R47.ref_valid0 (by omega) (by omega) (by omega) | exact R47.ref_valid1 (by omega) (by omega) (by omega) | exact R47.ref_valid2 (by omega) (by omega) (by omega) | exact R47.ref_valid3 (by omega) (by omega) (by omega) | exact R47.ref_valid467 (by omega) (by omega) (by omega) | exact R47.ref_valid5 (by omega) (by omega) (by omega) | exact (R47.ref_no (by omega)).symm
        exact congrArg (fun (x0 : Bool) => vB x0) e_x0
      · rfl
    · have h6 := of_decide_eq_false h6
      refine J_seq ?_
      refine J_region ?_
      refine JO_read (vB (decide (c.Kind = 1))) rfl trivial (fun _ _ => x_eql_i rfl rfl) ?_
      refine JO_read (vB (decide (c.Kind = 1))) rfl trivial (fun _ _ => rfl) ?_
      refine JO_nil ?_
      refine JX_then ?_
      refine J_cond (decide (c.Kind = 1)) rfl rfl (fun h21 => ?_) (fun h21 => ?_)
      · have h21 := of_decide_eq_true h21
        refine J_seq ?_
        refine J_region ?_
        refine JO_read (vI ((c.Key.length : Nat) : Int)) rfl trivial (fun _ _ => rfl) ?_
        refine JO_read (vB (decide ((1 : Int) ≤ ((c.Key.length : Nat) : Int)))) rfl trivial (fun _ _ => x_geq_i rfl rfl) ?_
        refine JO_read (vB (decide ((1 : Int) ≤ ((c.Key.length : Nat) : Int)))) rfl trivial (fun _ _ => rfl) ?_
        refine JO_cut (X := Bool) 3 (fun z => z = ((decide ((1 : Int) ≤ ((c.Key.length : Nat) : Int))) && (decide (((c.Key.length : Nat) : Int) ≤ 32)))) (fun z => [(1, Value.pointer (some ⟨b1, 0, none⟩)), (2, vB false), (4, vI ((c.Record.length : Nat) : Int)), (49, vB z)]) (fun _ => [Ent.blk b1 23 (Change.enc c)]) ?_ ?_
        · rcases Bool.eq_false_or_eq_true (decide ((1 : Int) ≤ ((c.Key.length : Nat) : Int))) with g23 | g23
          · have g23r := g23
            have g23r := of_decide_eq_true g23r
            refine JO_read (vI ((c.Key.length : Nat) : Int)) rfl ⟨_, rfl, g23⟩ (fun _ _ => rfl) ?_
            refine JO_read (vB (decide (((c.Key.length : Nat) : Int) ≤ 32))) rfl ⟨_, rfl, g23⟩ (fun _ _ => x_leq_i rfl rfl) ?_
            refine JO_read (vB (decide (((c.Key.length : Nat) : Int) ≤ 32))) rfl trivial (fun _ _ => x_pick_t rfl g23 rfl) ?_
            refine JO_nil (JX_cut (decide (((c.Key.length : Nat) : Int) ≤ 32)) (by rw [g23]; simp) ⟨rfl, rfl, rfl, rfl, trivial⟩ (fun _ h => h))
          · have g23r := g23
            have g23r := of_decide_eq_false g23r
            refine JO_shun rfl ⟨_, rfl, g23⟩ ?_
            refine JO_shun rfl ⟨_, rfl, g23⟩ ?_
            refine JO_read (vB false) rfl trivial (fun _ _ => x_pick_f rfl g23 rfl) ?_
            refine JO_nil (JX_cut (false) (by rw [g23]; simp) ⟨rfl, rfl, rfl, rfl, trivial⟩ (fun _ h => h))
        rintro z22 rfl
        refine JO_read (vB ((decide ((1 : Int) ≤ ((c.Key.length : Nat) : Int))) && (decide (((c.Key.length : Nat) : Int) ≤ 32)))) rfl trivial (fun _ _ => rfl) ?_
        refine JO_cut (X := Bool) 3 (fun z => z = (((decide ((1 : Int) ≤ ((c.Key.length : Nat) : Int))) && (decide (((c.Key.length : Nat) : Int) ≤ 32))) && (decide (((c.Record.length : Nat) : Int) = 0)))) (fun z => [(1, Value.pointer (some ⟨b1, 0, none⟩)), (2, vB false), (53, vB z)]) (fun _ => [Ent.blk b1 23 (Change.enc c)]) ?_ ?_
        · rcases Bool.eq_false_or_eq_true ((decide ((1 : Int) ≤ ((c.Key.length : Nat) : Int))) && (decide (((c.Key.length : Nat) : Int) ≤ 32))) with g25 | g25
          · have g25r := g25
            have ⟨g25r, h26⟩ := band_true g25r
            have g25r := of_decide_eq_true g25r
            have h26 := of_decide_eq_true h26
            refine JO_read (vI ((c.Record.length : Nat) : Int)) rfl ⟨_, rfl, g25⟩ (fun _ _ => rfl) ?_
            refine JO_read (vB (decide (((c.Record.length : Nat) : Int) = 0))) rfl ⟨_, rfl, g25⟩ (fun _ _ => x_eql_i rfl rfl) ?_
            refine JO_read (vB (decide (((c.Record.length : Nat) : Int) = 0))) rfl trivial (fun _ _ => x_pick_t rfl g25 rfl) ?_
            refine JO_nil (JX_cut (decide (((c.Record.length : Nat) : Int) = 0)) (by rw [g25]; simp) ⟨rfl, rfl, rfl, trivial⟩ (fun _ h => h))
          · have g25r := g25
            simp only [Bool.and_eq_true, Bool.or_eq_true, Bool.and_eq_false_iff, Bool.or_eq_false_iff, Bool.not_eq_true', Bool.not_eq_false', decide_eq_true_eq, decide_eq_false_iff_not] at g25r
            refine JO_shun rfl ⟨_, rfl, g25⟩ ?_
            refine JO_shun rfl ⟨_, rfl, g25⟩ ?_
            refine JO_read (vB false) rfl trivial (fun _ _ => x_pick_f rfl g25 rfl) ?_
            refine JO_nil (JX_cut (false) (by rw [g25]; simp) ⟨rfl, rfl, rfl, trivial⟩ (fun _ h => h))
        rintro z24 rfl
        refine JO_read (vB (((decide ((1 : Int) ≤ ((c.Key.length : Nat) : Int))) && (decide (((c.Key.length : Nat) : Int) ≤ 32))) && (decide (((c.Record.length : Nat) : Int) = 0)))) rfl trivial (fun _ _ => rfl) ?_
        refine JO_cut (X := Bool) 4 (fun z => z = ((((decide ((1 : Int) ≤ ((c.Key.length : Nat) : Int))) && (decide (((c.Key.length : Nat) : Int) ≤ 32))) && (decide (((c.Record.length : Nat) : Int) = 0))) && (decide (c.Volume = ([] : Bytes))))) (fun z => [(2, vB false), (58, vB z)]) (fun _ => [Ent.blk b1 23 (Change.enc c)]) ?_ ?_
        · rcases Bool.eq_false_or_eq_true (((decide ((1 : Int) ≤ ((c.Key.length : Nat) : Int))) && (decide (((c.Key.length : Nat) : Int) ≤ 32))) && (decide (((c.Record.length : Nat) : Int) = 0))) with g28 | g28
          · have g28r := g28
            have ⟨g28r, h29⟩ := band_true g28r
            have ⟨g28r, h30⟩ := band_true g28r
            have g28r := of_decide_eq_true g28r
            have h30 := of_decide_eq_true h30
            have h29 := of_decide_eq_true h29
            refine JO_read (Value.pointer (some ⟨b1, 4, none⟩)) rfl ⟨_, rfl, g28⟩ (fun _ _ => x_fieldAddr Ty.fi23_4 rfl rfl) ?_
            refine JO_read (vS c.Volume) rfl ⟨_, rfl, g28⟩ (x_load 0 rfl rfl Ty.sc9 rfl) ?_
            refine JO_read (vB (decide (c.Volume = ([] : Bytes)))) rfl ⟨_, rfl, g28⟩ (fun _ _ => x_eql_s rfl rfl) ?_
            refine JO_read (vB (decide (c.Volume = ([] : Bytes)))) rfl trivial (fun _ _ => x_pick_t rfl g28 rfl) ?_
            refine JO_nil (JX_cut (decide (c.Volume = ([] : Bytes))) (by rw [g28]; simp) ⟨rfl, rfl, trivial⟩ (fun _ h => h))
          · have g28r := g28
            simp only [Bool.and_eq_true, Bool.or_eq_true, Bool.and_eq_false_iff, Bool.or_eq_false_iff, Bool.not_eq_true', Bool.not_eq_false', decide_eq_true_eq, decide_eq_false_iff_not] at g28r
            refine JO_shun rfl ⟨_, rfl, g28⟩ ?_
            refine JO_shun rfl ⟨_, rfl, g28⟩ ?_
            refine JO_shun rfl ⟨_, rfl, g28⟩ ?_
            refine JO_read (vB false) rfl trivial (fun _ _ => x_pick_f rfl g28 rfl) ?_
            refine JO_nil (JX_cut (false) (by rw [g28]; simp) ⟨rfl, rfl, trivial⟩ (fun _ h => h))
        rintro z27 rfl
        refine JO_read (vB ((((decide ((1 : Int) ≤ ((c.Key.length : Nat) : Int))) && (decide (((c.Key.length : Nat) : Int) ≤ 32))) && (decide (((c.Record.length : Nat) : Int) = 0))) && (decide (c.Volume = ([] : Bytes))))) rfl trivial (fun _ _ => rfl) ?_
        refine JO_nil ?_
        refine JX_then ?_
        refine J_ret ?_
        refine JX_block_ret ?_
        refine JX_then_ret ?_
        refine JX_rets [vB ((((decide ((1 : Int) ≤ ((c.Key.length : Nat) : Int))) && (decide (((c.Key.length : Nat) : Int) ≤ 32))) && (decide (((c.Record.length : Nat) : Int) = 0))) && (decide (c.Volume = ([] : Bytes))))] (vB ((((decide ((1 : Int) ≤ ((c.Key.length : Nat) : Int))) && (decide (((c.Key.length : Nat) : Int) ≤ 32))) && (decide (((c.Record.length : Nat) : Int) = 0))) && (decide (c.Volume = ([] : Bytes))))) Tryd.results12 (fun w h => ⟨rfl, trivial⟩) rfl [] (fun _ h => h.keep [false] rfl) ⟨?_, ?_⟩
        · have e_x0 : ((((decide ((1 : Int) ≤ ((c.Key.length : Nat) : Int))) && (decide (((c.Key.length : Nat) : Int) ≤ 32))) && (decide (((c.Record.length : Nat) : Int) = 0))) && (decide (c.Volume = ([] : Bytes))) : Bool) = (R47.valid c) := by
            first | exact R47.ref_valid0 (by omega) (by omega) (by omega) | exact R47.ref_valid1 (by omega) (by omega) (by omega) | exact R47.ref_valid2 (by omega) (by omega) (by omega) | exact R47.ref_valid3 (by omega) (by omega) (by omega) | exact R47.ref_valid467 (by omega) (by omega) (by omega) | exact R47.ref_valid5 (by omega) (by omega) (by omega) | exact (R47.ref_no (by omega)).symm
          exact congrArg (fun (x0 : Bool) => vB x0) e_x0
        · rfl
      · have h21 := of_decide_eq_false h21
        refine J_seq ?_
        refine J_region ?_
        refine JO_read (vB (decide (c.Kind = 2))) rfl trivial (fun _ _ => x_eql_i rfl rfl) ?_
        refine JO_read (vB (decide (c.Kind = 2))) rfl trivial (fun _ _ => rfl) ?_
        refine JO_nil ?_
        refine JX_then ?_
        refine J_cond (decide (c.Kind = 2)) rfl rfl (fun h31 => ?_) (fun h31 => ?_)
        · have h31 := of_decide_eq_true h31
          refine J_seq ?_
          refine J_region ?_
          refine JO_read (vI ((c.Key.length : Nat) : Int)) rfl trivial (fun _ _ => rfl) ?_
          refine JO_read (vB (decide (((c.Key.length : Nat) : Int) = 0))) rfl trivial (fun _ _ => x_eql_i rfl rfl) ?_
          refine JO_read (vB (decide (((c.Key.length : Nat) : Int) = 0))) rfl trivial (fun _ _ => rfl) ?_
          refine JO_cut (X := Bool) 3 (fun z => z = ((decide (((c.Key.length : Nat) : Int) = 0)) && (decide (((c.Record.length : Nat) : Int) ≤ 1000)))) (fun z => [(1, Value.pointer (some ⟨b1, 0, none⟩)), (2, vB false), (66, vB z)]) (fun _ => [Ent.blk b1 23 (Change.enc c)]) ?_ ?_
          · rcases Bool.eq_false_or_eq_true (decide (((c.Key.length : Nat) : Int) = 0)) with g33 | g33
            · have g33r := g33
              have g33r := of_decide_eq_true g33r
              refine JO_read (vI ((c.Record.length : Nat) : Int)) rfl ⟨_, rfl, g33⟩ (fun _ _ => rfl) ?_
              refine JO_read (vB (decide (((c.Record.length : Nat) : Int) ≤ 1000))) rfl ⟨_, rfl, g33⟩ (fun _ _ => x_leq_i rfl rfl) ?_
              refine JO_read (vB (decide (((c.Record.length : Nat) : Int) ≤ 1000))) rfl trivial (fun _ _ => x_pick_t rfl g33 rfl) ?_
              refine JO_nil (JX_cut (decide (((c.Record.length : Nat) : Int) ≤ 1000)) (by rw [g33]; simp) ⟨rfl, rfl, rfl, trivial⟩ (fun _ h => h))
            · have g33r := g33
              have g33r := of_decide_eq_false g33r
              refine JO_shun rfl ⟨_, rfl, g33⟩ ?_
              refine JO_shun rfl ⟨_, rfl, g33⟩ ?_
              refine JO_read (vB false) rfl trivial (fun _ _ => x_pick_f rfl g33 rfl) ?_
              refine JO_nil (JX_cut (false) (by rw [g33]; simp) ⟨rfl, rfl, rfl, trivial⟩ (fun _ h => h))
          rintro z32 rfl
          refine JO_read (vB ((decide (((c.Key.length : Nat) : Int) = 0)) && (decide (((c.Record.length : Nat) : Int) ≤ 1000)))) rfl trivial (fun _ _ => rfl) ?_
          refine JO_cut (X := Bool) 4 (fun z => z = (((decide (((c.Key.length : Nat) : Int) = 0)) && (decide (((c.Record.length : Nat) : Int) ≤ 1000))) && (decide (c.Volume = ([] : Bytes))))) (fun z => [(2, vB false), (71, vB z)]) (fun _ => [Ent.blk b1 23 (Change.enc c)]) ?_ ?_
          · rcases Bool.eq_false_or_eq_true ((decide (((c.Key.length : Nat) : Int) = 0)) && (decide (((c.Record.length : Nat) : Int) ≤ 1000))) with g35 | g35
            · have g35r := g35
              have ⟨g35r, h36⟩ := band_true g35r
              have g35r := of_decide_eq_true g35r
              have h36 := of_decide_eq_true h36
              refine JO_read (Value.pointer (some ⟨b1, 4, none⟩)) rfl ⟨_, rfl, g35⟩ (fun _ _ => x_fieldAddr Ty.fi23_4 rfl rfl) ?_
              refine JO_read (vS c.Volume) rfl ⟨_, rfl, g35⟩ (x_load 0 rfl rfl Ty.sc9 rfl) ?_
              refine JO_read (vB (decide (c.Volume = ([] : Bytes)))) rfl ⟨_, rfl, g35⟩ (fun _ _ => x_eql_s rfl rfl) ?_
              refine JO_read (vB (decide (c.Volume = ([] : Bytes)))) rfl trivial (fun _ _ => x_pick_t rfl g35 rfl) ?_
              refine JO_nil (JX_cut (decide (c.Volume = ([] : Bytes))) (by rw [g35]; simp) ⟨rfl, rfl, trivial⟩ (fun _ h => h))
            · have g35r := g35
              simp only [Bool.and_eq_true, Bool.or_eq_true, Bool.and_eq_false_iff, Bool.or_eq_false_iff, Bool.not_eq_true', Bool.not_eq_false', decide_eq_true_eq, decide_eq_false_iff_not] at g35r
              refine JO_shun rfl ⟨_, rfl, g35⟩ ?_
              refine JO_shun rfl ⟨_, rfl, g35⟩ ?_
              refine JO_shun rfl ⟨_, rfl, g35⟩ ?_
              refine JO_read (vB false) rfl trivial (fun _ _ => x_pick_f rfl g35 rfl) ?_
              refine JO_nil (JX_cut (false) (by rw [g35]; simp) ⟨rfl, rfl, trivial⟩ (fun _ h => h))
          rintro z34 rfl
          refine JO_read (vB (((decide (((c.Key.length : Nat) : Int) = 0)) && (decide (((c.Record.length : Nat) : Int) ≤ 1000))) && (decide (c.Volume = ([] : Bytes))))) rfl trivial (fun _ _ => rfl) ?_
          refine JO_nil ?_
          refine JX_then ?_
          refine J_ret ?_
          refine JX_block_ret ?_
          refine JX_then_ret ?_
          refine JX_rets [vB (((decide (((c.Key.length : Nat) : Int) = 0)) && (decide (((c.Record.length : Nat) : Int) ≤ 1000))) && (decide (c.Volume = ([] : Bytes))))] (vB (((decide (((c.Key.length : Nat) : Int) = 0)) && (decide (((c.Record.length : Nat) : Int) ≤ 1000))) && (decide (c.Volume = ([] : Bytes))))) Tryd.results12 (fun w h => ⟨rfl, trivial⟩) rfl [] (fun _ h => h.keep [false] rfl) ⟨?_, ?_⟩
          · have e_x0 : (((decide (((c.Key.length : Nat) : Int) = 0)) && (decide (((c.Record.length : Nat) : Int) ≤ 1000))) && (decide (c.Volume = ([] : Bytes))) : Bool) = (R47.valid c) := by
              first | exact R47.ref_valid0 (by omega) (by omega) (by omega) | exact R47.ref_valid1 (by omega) (by omega) (by omega) | exact R47.ref_valid2 (by omega) (by omega) (by omega) | exact R47.ref_valid3 (by omega) (by omega) (by omega) | exact R47.ref_valid467 (by omega) (by omega) (by omega) | exact R47.ref_valid5 (by omega) (by omega) (by omega) | exact (R47.ref_no (by omega)).symm
            exact congrArg (fun (x0 : Bool) => vB x0) e_x0
          · rfl
        · have h31 := of_decide_eq_false h31
          refine J_seq ?_
          refine J_region ?_
          refine JO_read (vB (decide (c.Kind = 3))) rfl trivial (fun _ _ => x_eql_i rfl rfl) ?_
          refine JO_read (vB (decide (c.Kind = 3))) rfl trivial (fun _ _ => rfl) ?_
          refine JO_nil ?_
          refine JX_then ?_
          refine J_cond (decide (c.Kind = 3)) rfl rfl (fun h37 => ?_) (fun h37 => ?_)
          · have h37 := of_decide_eq_true h37
            refine J_seq ?_
            refine J_region ?_
            refine JO_read (vI ((c.Key.length : Nat) : Int)) rfl trivial (fun _ _ => rfl) ?_
            refine JO_read (vB (decide (((c.Key.length : Nat) : Int) = 0))) rfl trivial (fun _ _ => x_eql_i rfl rfl) ?_
            refine JO_read (vB (decide (((c.Key.length : Nat) : Int) = 0))) rfl trivial (fun _ _ => rfl) ?_
            refine JO_cut (X := Bool) 3 (fun z => z = ((decide (((c.Key.length : Nat) : Int) = 0)) && (decide (((c.Record.length : Nat) : Int) = 0)))) (fun z => [(1, Value.pointer (some ⟨b1, 0, none⟩)), (2, vB false), (79, vB z)]) (fun _ => [Ent.blk b1 23 (Change.enc c)]) ?_ ?_
            · rcases Bool.eq_false_or_eq_true (decide (((c.Key.length : Nat) : Int) = 0)) with g39 | g39
              · have g39r := g39
                have g39r := of_decide_eq_true g39r
                refine JO_read (vI ((c.Record.length : Nat) : Int)) rfl ⟨_, rfl, g39⟩ (fun _ _ => rfl) ?_
                refine JO_read (vB (decide (((c.Record.length : Nat) : Int) = 0))) rfl ⟨_, rfl, g39⟩ (fun _ _ => x_eql_i rfl rfl) ?_
                refine JO_read (vB (decide (((c.Record.length : Nat) : Int) = 0))) rfl trivial (fun _ _ => x_pick_t rfl g39 rfl) ?_
                refine JO_nil (JX_cut (decide (((c.Record.length : Nat) : Int) = 0)) (by rw [g39]; simp) ⟨rfl, rfl, rfl, trivial⟩ (fun _ h => h))
              · have g39r := g39
                have g39r := of_decide_eq_false g39r
                refine JO_shun rfl ⟨_, rfl, g39⟩ ?_
                refine JO_shun rfl ⟨_, rfl, g39⟩ ?_
                refine JO_read (vB false) rfl trivial (fun _ _ => x_pick_f rfl g39 rfl) ?_
                refine JO_nil (JX_cut (false) (by rw [g39]; simp) ⟨rfl, rfl, rfl, trivial⟩ (fun _ h => h))
            rintro z38 rfl
            refine JO_read (vB ((decide (((c.Key.length : Nat) : Int) = 0)) && (decide (((c.Record.length : Nat) : Int) = 0)))) rfl trivial (fun _ _ => rfl) ?_
            refine JO_cut (X := Bool) 4 (fun z => z = (((decide (((c.Key.length : Nat) : Int) = 0)) && (decide (((c.Record.length : Nat) : Int) = 0))) && (decide (c.Volume = ([] : Bytes))))) (fun z => [(2, vB false), (84, vB z)]) (fun _ => [Ent.blk b1 23 (Change.enc c)]) ?_ ?_
            · rcases Bool.eq_false_or_eq_true ((decide (((c.Key.length : Nat) : Int) = 0)) && (decide (((c.Record.length : Nat) : Int) = 0))) with g41 | g41
              · have g41r := g41
                have ⟨g41r, h42⟩ := band_true g41r
                have g41r := of_decide_eq_true g41r
                have h42 := of_decide_eq_true h42
                refine JO_read (Value.pointer (some ⟨b1, 4, none⟩)) rfl ⟨_, rfl, g41⟩ (fun _ _ => x_fieldAddr Ty.fi23_4 rfl rfl) ?_
                refine JO_read (vS c.Volume) rfl ⟨_, rfl, g41⟩ (x_load 0 rfl rfl Ty.sc9 rfl) ?_
                refine JO_read (vB (decide (c.Volume = ([] : Bytes)))) rfl ⟨_, rfl, g41⟩ (fun _ _ => x_eql_s rfl rfl) ?_
                refine JO_read (vB (decide (c.Volume = ([] : Bytes)))) rfl trivial (fun _ _ => x_pick_t rfl g41 rfl) ?_
                refine JO_nil (JX_cut (decide (c.Volume = ([] : Bytes))) (by rw [g41]; simp) ⟨rfl, rfl, trivial⟩ (fun _ h => h))
              · have g41r := g41
                simp only [Bool.and_eq_true, Bool.or_eq_true, Bool.and_eq_false_iff, Bool.or_eq_false_iff, Bool.not_eq_true', Bool.not_eq_false', decide_eq_true_eq, decide_eq_false_iff_not] at g41r
                refine JO_shun rfl ⟨_, rfl, g41⟩ ?_
                refine JO_shun rfl ⟨_, rfl, g41⟩ ?_
                refine JO_shun rfl ⟨_, rfl, g41⟩ ?_
                refine JO_read (vB false) rfl trivial (fun _ _ => x_pick_f rfl g41 rfl) ?_
                refine JO_nil (JX_cut (false) (by rw [g41]; simp) ⟨rfl, rfl, trivial⟩ (fun _ h => h))
            rintro z40 rfl
            refine JO_read (vB (((decide (((c.Key.length : Nat) : Int) = 0)) && (decide (((c.Record.length : Nat) : Int) = 0))) && (decide (c.Volume = ([] : Bytes))))) rfl trivial (fun _ _ => rfl) ?_
            refine JO_nil ?_
            refine JX_then ?_
            refine J_ret ?_
            refine JX_block_ret ?_
            refine JX_then_ret ?_
            refine JX_rets [vB (((decide (((c.Key.length : Nat) : Int) = 0)) && (decide (((c.Record.length : Nat) : Int) = 0))) && (decide (c.Volume = ([] : Bytes))))] (vB (((decide (((c.Key.length : Nat) : Int) = 0)) && (decide (((c.Record.length : Nat) : Int) = 0))) && (decide (c.Volume = ([] : Bytes))))) Tryd.results12 (fun w h => ⟨rfl, trivial⟩) rfl [] (fun _ h => h.keep [false] rfl) ⟨?_, ?_⟩
            · have e_x0 : (((decide (((c.Key.length : Nat) : Int) = 0)) && (decide (((c.Record.length : Nat) : Int) = 0))) && (decide (c.Volume = ([] : Bytes))) : Bool) = (R47.valid c) := by
                first | exact R47.ref_valid0 (by omega) (by omega) (by omega) | exact R47.ref_valid1 (by omega) (by omega) (by omega) | exact R47.ref_valid2 (by omega) (by omega) (by omega) | exact R47.ref_valid3 (by omega) (by omega) (by omega) | exact R47.ref_valid467 (by omega) (by omega) (by omega) | exact R47.ref_valid5 (by omega) (by omega) (by omega) | exact (R47.ref_no (by omega)).symm
              exact congrArg (fun (x0 : Bool) => vB x0) e_x0
            · rfl
          · have h37 := of_decide_eq_false h37
            refine J_seq ?_
            refine J_seq ?_
            refine J_region ?_
            refine JO_read (vB (decide (c.Kind = 4))) rfl trivial (fun _ _ => x_eql_i rfl rfl) ?_
            refine JO_read (vB (decide (c.Kind = 4))) rfl trivial (fun _ _ => rfl) ?_
            refine JO_nil ?_
            refine JX_then ?_
            refine J_cond (decide (c.Kind = 4)) rfl rfl (fun h43 => ?_) (fun h43 => ?_)
            · have h43 := of_decide_eq_true h43
              refine J_skip ?_
              refine JX_then ?_
              refine J_cond (decide (c.Kind = 4)) rfl rfl (fun h44 => ?_) (fun h44 => ?_)
              · have h44 := of_decide_eq_true h44
                refine J_seq ?_
                refine J_region ?_
                refine JO_read (vI ((c.Key.length : Nat) : Int)) rfl trivial (fun _ _ => rfl) ?_
                refine JO_read (vB (decide (((c.Key.length : Nat) : Int) = 0))) rfl trivial (fun _ _ => x_eql_i rfl rfl) ?_
                refine JO_read (vB (decide (((c.Key.length : Nat) : Int) = 0))) rfl trivial (fun _ _ => rfl) ?_
                refine JO_cut (X := Bool) 3 (fun z => z = ((decide (((c.Key.length : Nat) : Int) = 0)) && (decide (((c.Record.length : Nat) : Int) ≤ 400)))) (fun z => [(1, Value.pointer (some ⟨b1, 0, none⟩)), (2, vB false), (94, vB z)]) (fun _ => [Ent.blk b1 23 (Change.enc c)]) ?_ ?_
                · rcases Bool.eq_false_or_eq_true (decide (((c.Key.length : Nat) : Int) = 0)) with g46 | g46
                  · have g46r := g46
                    have g46r := of_decide_eq_true g46r
                    refine JO_read (vI ((c.Record.length : Nat) : Int)) rfl ⟨_, rfl, g46⟩ (fun _ _ => rfl) ?_
                    refine JO_read (vB (decide (((c.Record.length : Nat) : Int) ≤ 400))) rfl ⟨_, rfl, g46⟩ (fun _ _ => x_leq_i rfl rfl) ?_
                    refine JO_read (vB (decide (((c.Record.length : Nat) : Int) ≤ 400))) rfl trivial (fun _ _ => x_pick_t rfl g46 rfl) ?_
                    refine JO_nil (JX_cut (decide (((c.Record.length : Nat) : Int) ≤ 400)) (by rw [g46]; simp) ⟨rfl, rfl, rfl, trivial⟩ (fun _ h => h))
                  · have g46r := g46
                    have g46r := of_decide_eq_false g46r
                    refine JO_shun rfl ⟨_, rfl, g46⟩ ?_
                    refine JO_shun rfl ⟨_, rfl, g46⟩ ?_
                    refine JO_read (vB false) rfl trivial (fun _ _ => x_pick_f rfl g46 rfl) ?_
                    refine JO_nil (JX_cut (false) (by rw [g46]; simp) ⟨rfl, rfl, rfl, trivial⟩ (fun _ h => h))
                rintro z45 rfl
                refine JO_read (vB ((decide (((c.Key.length : Nat) : Int) = 0)) && (decide (((c.Record.length : Nat) : Int) ≤ 400)))) rfl trivial (fun _ _ => rfl) ?_
                refine JO_cut (X := Bool) 4 (fun z => z = (((decide (((c.Key.length : Nat) : Int) = 0)) && (decide (((c.Record.length : Nat) : Int) ≤ 400))) && (R47.volName c.Volume))) (fun z => [(2, vB false), (99, vB z)]) (fun _ => [Ent.blk b1 23 (Change.enc c)]) ?_ ?_
                · rcases Bool.eq_false_or_eq_true ((decide (((c.Key.length : Nat) : Int) = 0)) && (decide (((c.Record.length : Nat) : Int) ≤ 400))) with g48 | g48
                  · have g48r := g48
                    have ⟨g48r, h49⟩ := band_true g48r
                    have g48r := of_decide_eq_true g48r
                    have h49 := of_decide_eq_true h49
                    refine JO_read (Value.pointer (some ⟨b1, 4, none⟩)) rfl ⟨_, rfl, g48⟩ (fun _ _ => x_fieldAddr Ty.fi23_4 rfl rfl) ?_
                    refine JO_read (vS c.Volume) rfl ⟨_, rfl, g48⟩ (x_load 0 rfl rfl Ty.sc9 rfl) ?_
                    refine JO_call [] [] [Ent.blk b1 23 (Change.enc c)] rfl ⟨_, rfl, g48⟩ (fun _ => x_call Ty.ca37 rfl) (fun _ h => h) (fun _ h => by cases h) (fun w hS => f37_ok c.Volume w hy_) ?_
                    rintro _ _ ⟨rfl, rfl⟩
                    refine JO_read (vB (R47.volName c.Volume)) rfl trivial (fun _ _ => x_pick_t rfl g48 rfl) ?_
                    refine JO_nil (JX_cut (R47.volName c.Volume) (by rw [g48]; simp) ⟨rfl, rfl, trivial⟩ (fun _ h => h))
                  · have g48r := g48
                    simp only [Bool.and_eq_true, Bool.or_eq_true, Bool.and_eq_false_iff, Bool.or_eq_false_iff, Bool.not_eq_true', Bool.not_eq_false', decide_eq_true_eq, decide_eq_false_iff_not] at g48r
                    refine JO_shun rfl ⟨_, rfl, g48⟩ ?_
                    refine JO_shun rfl ⟨_, rfl, g48⟩ ?_
                    refine JO_shun rfl ⟨_, rfl, g48⟩ ?_
                    refine JO_read (vB false) rfl trivial (fun _ _ => x_pick_f rfl g48 rfl) ?_
                    refine JO_nil (JX_cut (false) (by rw [g48]; simp) ⟨rfl, rfl, trivial⟩ (fun _ h => h))
                rintro z47 rfl
                refine JO_read (vB (((decide (((c.Key.length : Nat) : Int) = 0)) && (decide (((c.Record.length : Nat) : Int) ≤ 400))) && (R47.volName c.Volume))) rfl trivial (fun _ _ => rfl) ?_
                refine JO_nil ?_
                refine JX_then ?_
                refine J_ret ?_
                refine JX_block_ret ?_
                refine JX_then_ret ?_
                refine JX_rets [vB (((decide (((c.Key.length : Nat) : Int) = 0)) && (decide (((c.Record.length : Nat) : Int) ≤ 400))) && (R47.volName c.Volume))] (vB (((decide (((c.Key.length : Nat) : Int) = 0)) && (decide (((c.Record.length : Nat) : Int) ≤ 400))) && (R47.volName c.Volume))) Tryd.results12 (fun w h => ⟨rfl, trivial⟩) rfl [] (fun _ h => h.keep [false] rfl) ⟨?_, ?_⟩
                · have e_x0 : (((decide (((c.Key.length : Nat) : Int) = 0)) && (decide (((c.Record.length : Nat) : Int) ≤ 400))) && (R47.volName c.Volume) : Bool) = (R47.valid c) := by
                    first | exact R47.ref_valid0 (by omega) (by omega) (by omega) | exact R47.ref_valid1 (by omega) (by omega) (by omega) | exact R47.ref_valid2 (by omega) (by omega) (by omega) | exact R47.ref_valid3 (by omega) (by omega) (by omega) | exact R47.ref_valid467 (by omega) (by omega) (by omega) | exact R47.ref_valid5 (by omega) (by omega) (by omega) | exact (R47.ref_no (by omega)).symm
                  exact congrArg (fun (x0 : Bool) => vB x0) e_x0
                · rfl
              · have h44 := of_decide_eq_false h44
                refine J_seq ?_
                refine J_region ?_
                refine JO_read (vB (decide (c.Kind = 5))) rfl trivial (fun _ _ => x_eql_i rfl rfl) ?_
                refine JO_read (vB (decide (c.Kind = 5))) rfl trivial (fun _ _ => rfl) ?_
                refine JO_nil ?_
                refine JX_then ?_
                refine J_cond (decide (c.Kind = 5)) rfl rfl (fun h50 => ?_) (fun h50 => ?_)
                · have h50 := of_decide_eq_true h50
                  refine J_seq ?_
                  refine J_region ?_
                  refine JO_read (vI ((c.Key.length : Nat) : Int)) rfl trivial (fun _ _ => rfl) ?_
                  refine JO_read (vB (decide (((c.Key.length : Nat) : Int) = 0))) rfl trivial (fun _ _ => x_eql_i rfl rfl) ?_
                  refine JO_read (vB (decide (((c.Key.length : Nat) : Int) = 0))) rfl trivial (fun _ _ => rfl) ?_
                  refine JO_cut (X := Bool) 3 (fun z => z = ((decide (((c.Key.length : Nat) : Int) = 0)) && (decide (((c.Record.length : Nat) : Int) = 0)))) (fun z => [(1, Value.pointer (some ⟨b1, 0, none⟩)), (2, vB false), (107, vB z)]) (fun _ => [Ent.blk b1 23 (Change.enc c)]) ?_ ?_
                  · rcases Bool.eq_false_or_eq_true (decide (((c.Key.length : Nat) : Int) = 0)) with g52 | g52
                    · have g52r := g52
                      have g52r := of_decide_eq_true g52r
                      refine JO_read (vI ((c.Record.length : Nat) : Int)) rfl ⟨_, rfl, g52⟩ (fun _ _ => rfl) ?_
                      refine JO_read (vB (decide (((c.Record.length : Nat) : Int) = 0))) rfl ⟨_, rfl, g52⟩ (fun _ _ => x_eql_i rfl rfl) ?_
                      refine JO_read (vB (decide (((c.Record.length : Nat) : Int) = 0))) rfl trivial (fun _ _ => x_pick_t rfl g52 rfl) ?_
                      refine JO_nil (JX_cut (decide (((c.Record.length : Nat) : Int) = 0)) (by rw [g52]; simp) ⟨rfl, rfl, rfl, trivial⟩ (fun _ h => h))
                    · have g52r := g52
                      have g52r := of_decide_eq_false g52r
                      refine JO_shun rfl ⟨_, rfl, g52⟩ ?_
                      refine JO_shun rfl ⟨_, rfl, g52⟩ ?_
                      refine JO_read (vB false) rfl trivial (fun _ _ => x_pick_f rfl g52 rfl) ?_
                      refine JO_nil (JX_cut (false) (by rw [g52]; simp) ⟨rfl, rfl, rfl, trivial⟩ (fun _ h => h))
                  rintro z51 rfl
                  refine JO_read (vB ((decide (((c.Key.length : Nat) : Int) = 0)) && (decide (((c.Record.length : Nat) : Int) = 0)))) rfl trivial (fun _ _ => rfl) ?_
                  refine JO_cut (X := Bool) 4 (fun z => z = (((decide (((c.Key.length : Nat) : Int) = 0)) && (decide (((c.Record.length : Nat) : Int) = 0))) && (R47.volName c.Volume))) (fun z => [(2, vB false), (112, vB z)]) (fun _ => [Ent.blk b1 23 (Change.enc c)]) ?_ ?_
                  · rcases Bool.eq_false_or_eq_true ((decide (((c.Key.length : Nat) : Int) = 0)) && (decide (((c.Record.length : Nat) : Int) = 0))) with g54 | g54
                    · have g54r := g54
                      have ⟨g54r, h55⟩ := band_true g54r
                      have g54r := of_decide_eq_true g54r
                      have h55 := of_decide_eq_true h55
                      refine JO_read (Value.pointer (some ⟨b1, 4, none⟩)) rfl ⟨_, rfl, g54⟩ (fun _ _ => x_fieldAddr Ty.fi23_4 rfl rfl) ?_
                      refine JO_read (vS c.Volume) rfl ⟨_, rfl, g54⟩ (x_load 0 rfl rfl Ty.sc9 rfl) ?_
                      refine JO_call [] [] [Ent.blk b1 23 (Change.enc c)] rfl ⟨_, rfl, g54⟩ (fun _ => x_call Ty.ca37 rfl) (fun _ h => h) (fun _ h => by cases h) (fun w hS => f37_ok c.Volume w hy_) ?_
                      rintro _ _ ⟨rfl, rfl⟩
                      refine JO_read (vB (R47.volName c.Volume)) rfl trivial (fun _ _ => x_pick_t rfl g54 rfl) ?_
                      refine JO_nil (JX_cut (R47.volName c.Volume) (by rw [g54]; simp) ⟨rfl, rfl, trivial⟩ (fun _ h => h))
                    · have g54r := g54
                      simp only [Bool.and_eq_true, Bool.or_eq_true, Bool.and_eq_false_iff, Bool.or_eq_false_iff, Bool.not_eq_true', Bool.not_eq_false', decide_eq_true_eq, decide_eq_false_iff_not] at g54r
                      refine JO_shun rfl ⟨_, rfl, g54⟩ ?_
                      refine JO_shun rfl ⟨_, rfl, g54⟩ ?_
                      refine JO_shun rfl ⟨_, rfl, g54⟩ ?_
                      refine JO_read (vB false) rfl trivial (fun _ _ => x_pick_f rfl g54 rfl) ?_
                      refine JO_nil (JX_cut (false) (by rw [g54]; simp) ⟨rfl, rfl, trivial⟩ (fun _ h => h))
                  rintro z53 rfl
                  refine JO_read (vB (((decide (((c.Key.length : Nat) : Int) = 0)) && (decide (((c.Record.length : Nat) : Int) = 0))) && (R47.volName c.Volume))) rfl trivial (fun _ _ => rfl) ?_
                  refine JO_nil ?_
                  refine JX_then ?_
                  refine J_ret ?_
                  refine JX_block_ret ?_
                  refine JX_then_ret ?_
                  refine JX_rets [vB (((decide (((c.Key.length : Nat) : Int) = 0)) && (decide (((c.Record.length : Nat) : Int) = 0))) && (R47.volName c.Volume))] (vB (((decide (((c.Key.length : Nat) : Int) = 0)) && (decide (((c.Record.length : Nat) : Int) = 0))) && (R47.volName c.Volume))) Tryd.results12 (fun w h => ⟨rfl, trivial⟩) rfl [] (fun _ h => h.keep [false] rfl) ⟨?_, ?_⟩
                  · have e_x0 : (((decide (((c.Key.length : Nat) : Int) = 0)) && (decide (((c.Record.length : Nat) : Int) = 0))) && (R47.volName c.Volume) : Bool) = (R47.valid c) := by
                      first | exact R47.ref_valid0 (by omega) (by omega) (by omega) | exact R47.ref_valid1 (by omega) (by omega) (by omega) | exact R47.ref_valid2 (by omega) (by omega) (by omega) | exact R47.ref_valid3 (by omega) (by omega) (by omega) | exact R47.ref_valid467 (by omega) (by omega) (by omega) | exact R47.ref_valid5 (by omega) (by omega) (by omega) | exact (R47.ref_no (by omega)).symm
                    exact congrArg (fun (x0 : Bool) => vB x0) e_x0
                  · rfl
                · have h50 := of_decide_eq_false h50
                  refine J_skip ?_
                  refine JX_block ?_
                  refine JX_then ?_
                  refine J_seq ?_
                  refine J_region ?_
                  refine JO_read (vB false) rfl trivial (fun _ _ => rfl) ?_
                  refine JO_nil ?_
                  refine JX_then ?_
                  refine J_ret ?_
                  refine JX_rets [vB false] (vB false) Tryd.results12 (fun w h => ⟨rfl, trivial⟩) rfl [] (fun _ h => h.keep [false] rfl) ⟨?_, ?_⟩
                  · have e_x0 : (false : Bool) = (R47.valid c) := by
                      first | exact R47.ref_valid0 (by omega) (by omega) (by omega) | exact R47.ref_valid1 (by omega) (by omega) (by omega) | exact R47.ref_valid2 (by omega) (by omega) (by omega) | exact R47.ref_valid3 (by omega) (by omega) (by omega) | exact R47.ref_valid467 (by omega) (by omega) (by omega) | exact R47.ref_valid5 (by omega) (by omega) (by omega) | exact (R47.ref_no (by omega)).symm
                    exact congrArg (fun (x0 : Bool) => vB x0) e_x0
                  · rfl
            · have h43 := of_decide_eq_false h43
              refine J_seq ?_
              refine J_region ?_
              refine JO_read (vB (decide (c.Kind = 6))) rfl trivial (fun _ _ => x_eql_i rfl rfl) ?_
              refine JO_read (vB (decide (c.Kind = 6))) rfl trivial (fun _ _ => rfl) ?_
              refine JO_nil ?_
              refine JX_then ?_
              refine J_cond (decide (c.Kind = 6)) rfl rfl (fun h56 => ?_) (fun h56 => ?_)
              · have h56 := of_decide_eq_true h56
                refine J_skip ?_
                refine JX_then ?_
                refine J_cond (decide (c.Kind = 6)) rfl rfl (fun h57 => ?_) (fun h57 => ?_)
                · have h57 := of_decide_eq_true h57
                  refine J_seq ?_
                  refine J_region ?_
                  refine JO_read (vI ((c.Key.length : Nat) : Int)) rfl trivial (fun _ _ => rfl) ?_
                  refine JO_read (vB (decide (((c.Key.length : Nat) : Int) = 0))) rfl trivial (fun _ _ => x_eql_i rfl rfl) ?_
                  refine JO_read (vB (decide (((c.Key.length : Nat) : Int) = 0))) rfl trivial (fun _ _ => rfl) ?_
                  refine JO_cut (X := Bool) 3 (fun z => z = ((decide (((c.Key.length : Nat) : Int) = 0)) && (decide (((c.Record.length : Nat) : Int) ≤ 400)))) (fun z => [(1, Value.pointer (some ⟨b1, 0, none⟩)), (2, vB false), (94, vB z)]) (fun _ => [Ent.blk b1 23 (Change.enc c)]) ?_ ?_
                  · rcases Bool.eq_false_or_eq_true (decide (((c.Key.length : Nat) : Int) = 0)) with g59 | g59
                    · have g59r := g59
                      have g59r := of_decide_eq_true g59r
                      refine JO_read (vI ((c.Record.length : Nat) : Int)) rfl ⟨_, rfl, g59⟩ (fun _ _ => rfl) ?_
                      refine JO_read (vB (decide (((c.Record.length : Nat) : Int) ≤ 400))) rfl ⟨_, rfl, g59⟩ (fun _ _ => x_leq_i rfl rfl) ?_
                      refine JO_read (vB (decide (((c.Record.length : Nat) : Int) ≤ 400))) rfl trivial (fun _ _ => x_pick_t rfl g59 rfl) ?_
                      refine JO_nil (JX_cut (decide (((c.Record.length : Nat) : Int) ≤ 400)) (by rw [g59]; simp) ⟨rfl, rfl, rfl, trivial⟩ (fun _ h => h))
                    · have g59r := g59
                      have g59r := of_decide_eq_false g59r
                      refine JO_shun rfl ⟨_, rfl, g59⟩ ?_
                      refine JO_shun rfl ⟨_, rfl, g59⟩ ?_
                      refine JO_read (vB false) rfl trivial (fun _ _ => x_pick_f rfl g59 rfl) ?_
                      refine JO_nil (JX_cut (false) (by rw [g59]; simp) ⟨rfl, rfl, rfl, trivial⟩ (fun _ h => h))
                  rintro z58 rfl
                  refine JO_read (vB ((decide (((c.Key.length : Nat) : Int) = 0)) && (decide (((c.Record.length : Nat) : Int) ≤ 400)))) rfl trivial (fun _ _ => rfl) ?_
                  refine JO_cut (X := Bool) 4 (fun z => z = (((decide (((c.Key.length : Nat) : Int) = 0)) && (decide (((c.Record.length : Nat) : Int) ≤ 400))) && (R47.volName c.Volume))) (fun z => [(2, vB false), (99, vB z)]) (fun _ => [Ent.blk b1 23 (Change.enc c)]) ?_ ?_
                  · rcases Bool.eq_false_or_eq_true ((decide (((c.Key.length : Nat) : Int) = 0)) && (decide (((c.Record.length : Nat) : Int) ≤ 400))) with g61 | g61
                    · have g61r := g61
                      have ⟨g61r, h62⟩ := band_true g61r
                      have g61r := of_decide_eq_true g61r
                      have h62 := of_decide_eq_true h62
                      refine JO_read (Value.pointer (some ⟨b1, 4, none⟩)) rfl ⟨_, rfl, g61⟩ (fun _ _ => x_fieldAddr Ty.fi23_4 rfl rfl) ?_
                      refine JO_read (vS c.Volume) rfl ⟨_, rfl, g61⟩ (x_load 0 rfl rfl Ty.sc9 rfl) ?_
                      refine JO_call [] [] [Ent.blk b1 23 (Change.enc c)] rfl ⟨_, rfl, g61⟩ (fun _ => x_call Ty.ca37 rfl) (fun _ h => h) (fun _ h => by cases h) (fun w hS => f37_ok c.Volume w hy_) ?_
                      rintro _ _ ⟨rfl, rfl⟩
                      refine JO_read (vB (R47.volName c.Volume)) rfl trivial (fun _ _ => x_pick_t rfl g61 rfl) ?_
                      refine JO_nil (JX_cut (R47.volName c.Volume) (by rw [g61]; simp) ⟨rfl, rfl, trivial⟩ (fun _ h => h))
                    · have g61r := g61
                      simp only [Bool.and_eq_true, Bool.or_eq_true, Bool.and_eq_false_iff, Bool.or_eq_false_iff, Bool.not_eq_true', Bool.not_eq_false', decide_eq_true_eq, decide_eq_false_iff_not] at g61r
                      refine JO_shun rfl ⟨_, rfl, g61⟩ ?_
                      refine JO_shun rfl ⟨_, rfl, g61⟩ ?_
                      refine JO_shun rfl ⟨_, rfl, g61⟩ ?_
                      refine JO_read (vB false) rfl trivial (fun _ _ => x_pick_f rfl g61 rfl) ?_
                      refine JO_nil (JX_cut (false) (by rw [g61]; simp) ⟨rfl, rfl, trivial⟩ (fun _ h => h))
                  rintro z60 rfl
                  refine JO_read (vB (((decide (((c.Key.length : Nat) : Int) = 0)) && (decide (((c.Record.length : Nat) : Int) ≤ 400))) && (R47.volName c.Volume))) rfl trivial (fun _ _ => rfl) ?_
                  refine JO_nil ?_
                  refine JX_then ?_
                  refine J_ret ?_
                  refine JX_block_ret ?_
                  refine JX_then_ret ?_
                  refine JX_rets [vB (((decide (((c.Key.length : Nat) : Int) = 0)) && (decide (((c.Record.length : Nat) : Int) ≤ 400))) && (R47.volName c.Volume))] (vB (((decide (((c.Key.length : Nat) : Int) = 0)) && (decide (((c.Record.length : Nat) : Int) ≤ 400))) && (R47.volName c.Volume))) Tryd.results12 (fun w h => ⟨rfl, trivial⟩) rfl [] (fun _ h => h.keep [false] rfl) ⟨?_, ?_⟩
                  · have e_x0 : (((decide (((c.Key.length : Nat) : Int) = 0)) && (decide (((c.Record.length : Nat) : Int) ≤ 400))) && (R47.volName c.Volume) : Bool) = (R47.valid c) := by
                      first | exact R47.ref_valid0 (by omega) (by omega) (by omega) | exact R47.ref_valid1 (by omega) (by omega) (by omega) | exact R47.ref_valid2 (by omega) (by omega) (by omega) | exact R47.ref_valid3 (by omega) (by omega) (by omega) | exact R47.ref_valid467 (by omega) (by omega) (by omega) | exact R47.ref_valid5 (by omega) (by omega) (by omega) | exact (R47.ref_no (by omega)).symm
                    exact congrArg (fun (x0 : Bool) => vB x0) e_x0
                  · rfl
                · have h57 := of_decide_eq_false h57
                  refine J_seq ?_
                  refine J_region ?_
                  refine JO_read (vB (decide (c.Kind = 5))) rfl trivial (fun _ _ => x_eql_i rfl rfl) ?_
                  refine JO_read (vB (decide (c.Kind = 5))) rfl trivial (fun _ _ => rfl) ?_
                  refine JO_nil ?_
                  refine JX_then ?_
                  refine J_cond (decide (c.Kind = 5)) rfl rfl (fun h63 => ?_) (fun h63 => ?_)
                  · have h63 := of_decide_eq_true h63
                    refine J_seq ?_
                    refine J_region ?_
                    refine JO_read (vI ((c.Key.length : Nat) : Int)) rfl trivial (fun _ _ => rfl) ?_
                    refine JO_read (vB (decide (((c.Key.length : Nat) : Int) = 0))) rfl trivial (fun _ _ => x_eql_i rfl rfl) ?_
                    refine JO_read (vB (decide (((c.Key.length : Nat) : Int) = 0))) rfl trivial (fun _ _ => rfl) ?_
                    refine JO_cut (X := Bool) 3 (fun z => z = ((decide (((c.Key.length : Nat) : Int) = 0)) && (decide (((c.Record.length : Nat) : Int) = 0)))) (fun z => [(1, Value.pointer (some ⟨b1, 0, none⟩)), (2, vB false), (107, vB z)]) (fun _ => [Ent.blk b1 23 (Change.enc c)]) ?_ ?_
                    · rcases Bool.eq_false_or_eq_true (decide (((c.Key.length : Nat) : Int) = 0)) with g65 | g65
                      · have g65r := g65
                        have g65r := of_decide_eq_true g65r
                        refine JO_read (vI ((c.Record.length : Nat) : Int)) rfl ⟨_, rfl, g65⟩ (fun _ _ => rfl) ?_
                        refine JO_read (vB (decide (((c.Record.length : Nat) : Int) = 0))) rfl ⟨_, rfl, g65⟩ (fun _ _ => x_eql_i rfl rfl) ?_
                        refine JO_read (vB (decide (((c.Record.length : Nat) : Int) = 0))) rfl trivial (fun _ _ => x_pick_t rfl g65 rfl) ?_
                        refine JO_nil (JX_cut (decide (((c.Record.length : Nat) : Int) = 0)) (by rw [g65]; simp) ⟨rfl, rfl, rfl, trivial⟩ (fun _ h => h))
                      · have g65r := g65
                        have g65r := of_decide_eq_false g65r
                        refine JO_shun rfl ⟨_, rfl, g65⟩ ?_
                        refine JO_shun rfl ⟨_, rfl, g65⟩ ?_
                        refine JO_read (vB false) rfl trivial (fun _ _ => x_pick_f rfl g65 rfl) ?_
                        refine JO_nil (JX_cut (false) (by rw [g65]; simp) ⟨rfl, rfl, rfl, trivial⟩ (fun _ h => h))
                    rintro z64 rfl
                    refine JO_read (vB ((decide (((c.Key.length : Nat) : Int) = 0)) && (decide (((c.Record.length : Nat) : Int) = 0)))) rfl trivial (fun _ _ => rfl) ?_
                    refine JO_cut (X := Bool) 4 (fun z => z = (((decide (((c.Key.length : Nat) : Int) = 0)) && (decide (((c.Record.length : Nat) : Int) = 0))) && (R47.volName c.Volume))) (fun z => [(2, vB false), (112, vB z)]) (fun _ => [Ent.blk b1 23 (Change.enc c)]) ?_ ?_
                    · rcases Bool.eq_false_or_eq_true ((decide (((c.Key.length : Nat) : Int) = 0)) && (decide (((c.Record.length : Nat) : Int) = 0))) with g67 | g67
                      · have g67r := g67
                        have ⟨g67r, h68⟩ := band_true g67r
                        have g67r := of_decide_eq_true g67r
                        have h68 := of_decide_eq_true h68
                        refine JO_read (Value.pointer (some ⟨b1, 4, none⟩)) rfl ⟨_, rfl, g67⟩ (fun _ _ => x_fieldAddr Ty.fi23_4 rfl rfl) ?_
                        refine JO_read (vS c.Volume) rfl ⟨_, rfl, g67⟩ (x_load 0 rfl rfl Ty.sc9 rfl) ?_
                        refine JO_call [] [] [Ent.blk b1 23 (Change.enc c)] rfl ⟨_, rfl, g67⟩ (fun _ => x_call Ty.ca37 rfl) (fun _ h => h) (fun _ h => by cases h) (fun w hS => f37_ok c.Volume w hy_) ?_
                        rintro _ _ ⟨rfl, rfl⟩
                        refine JO_read (vB (R47.volName c.Volume)) rfl trivial (fun _ _ => x_pick_t rfl g67 rfl) ?_
                        refine JO_nil (JX_cut (R47.volName c.Volume) (by rw [g67]; simp) ⟨rfl, rfl, trivial⟩ (fun _ h => h))
                      · have g67r := g67
                        simp only [Bool.and_eq_true, Bool.or_eq_true, Bool.and_eq_false_iff, Bool.or_eq_false_iff, Bool.not_eq_true', Bool.not_eq_false', decide_eq_true_eq, decide_eq_false_iff_not] at g67r
                        refine JO_shun rfl ⟨_, rfl, g67⟩ ?_
                        refine JO_shun rfl ⟨_, rfl, g67⟩ ?_
                        refine JO_shun rfl ⟨_, rfl, g67⟩ ?_
                        refine JO_read (vB false) rfl trivial (fun _ _ => x_pick_f rfl g67 rfl) ?_
                        refine JO_nil (JX_cut (false) (by rw [g67]; simp) ⟨rfl, rfl, trivial⟩ (fun _ h => h))
                    rintro z66 rfl
                    refine JO_read (vB (((decide (((c.Key.length : Nat) : Int) = 0)) && (decide (((c.Record.length : Nat) : Int) = 0))) && (R47.volName c.Volume))) rfl trivial (fun _ _ => rfl) ?_
                    refine JO_nil ?_
                    refine JX_then ?_
                    refine J_ret ?_
                    refine JX_block_ret ?_
                    refine JX_then_ret ?_
                    refine JX_rets [vB (((decide (((c.Key.length : Nat) : Int) = 0)) && (decide (((c.Record.length : Nat) : Int) = 0))) && (R47.volName c.Volume))] (vB (((decide (((c.Key.length : Nat) : Int) = 0)) && (decide (((c.Record.length : Nat) : Int) = 0))) && (R47.volName c.Volume))) Tryd.results12 (fun w h => ⟨rfl, trivial⟩) rfl [] (fun _ h => h.keep [false] rfl) ⟨?_, ?_⟩
                    · have e_x0 : (((decide (((c.Key.length : Nat) : Int) = 0)) && (decide (((c.Record.length : Nat) : Int) = 0))) && (R47.volName c.Volume) : Bool) = (R47.valid c) := by
                        first | exact R47.ref_valid0 (by omega) (by omega) (by omega) | exact R47.ref_valid1 (by omega) (by omega) (by omega) | exact R47.ref_valid2 (by omega) (by omega) (by omega) | exact R47.ref_valid3 (by omega) (by omega) (by omega) | exact R47.ref_valid467 (by omega) (by omega) (by omega) | exact R47.ref_valid5 (by omega) (by omega) (by omega) | exact (R47.ref_no (by omega)).symm
                      exact congrArg (fun (x0 : Bool) => vB x0) e_x0
                    · rfl
                  · have h63 := of_decide_eq_false h63
                    refine J_skip ?_
                    refine JX_block ?_
                    refine JX_then ?_
                    refine J_seq ?_
                    refine J_region ?_
                    refine JO_read (vB false) rfl trivial (fun _ _ => rfl) ?_
                    refine JO_nil ?_
                    refine JX_then ?_
                    refine J_ret ?_
                    refine JX_rets [vB false] (vB false) Tryd.results12 (fun w h => ⟨rfl, trivial⟩) rfl [] (fun _ h => h.keep [false] rfl) ⟨?_, ?_⟩
                    · have e_x0 : (false : Bool) = (R47.valid c) := by
                        first | exact R47.ref_valid0 (by omega) (by omega) (by omega) | exact R47.ref_valid1 (by omega) (by omega) (by omega) | exact R47.ref_valid2 (by omega) (by omega) (by omega) | exact R47.ref_valid3 (by omega) (by omega) (by omega) | exact R47.ref_valid467 (by omega) (by omega) (by omega) | exact R47.ref_valid5 (by omega) (by omega) (by omega) | exact (R47.ref_no (by omega)).symm
                      exact congrArg (fun (x0 : Bool) => vB x0) e_x0
                    · rfl
              · have h56 := of_decide_eq_false h56
                refine J_region ?_
                refine JO_read (vB (decide (c.Kind = 7))) rfl trivial (fun _ _ => x_eql_i rfl rfl) ?_
                refine JO_read (vB (decide (c.Kind = 7))) rfl trivial (fun _ _ => rfl) ?_
                refine JO_nil ?_
                refine JX_then ?_
                refine J_cond (decide (c.Kind = 7)) rfl rfl (fun h69 => ?_) (fun h69 => ?_)
                · have h69 := of_decide_eq_true h69
                  refine J_seq ?_
                  refine J_region ?_
                  refine JO_read (vI ((c.Key.length : Nat) : Int)) rfl trivial (fun _ _ => rfl) ?_
                  refine JO_read (vB (decide (((c.Key.length : Nat) : Int) = 0))) rfl trivial (fun _ _ => x_eql_i rfl rfl) ?_
                  refine JO_read (vB (decide (((c.Key.length : Nat) : Int) = 0))) rfl trivial (fun _ _ => rfl) ?_
                  refine JO_cut (X := Bool) 3 (fun z => z = ((decide (((c.Key.length : Nat) : Int) = 0)) && (decide (((c.Record.length : Nat) : Int) ≤ 400)))) (fun z => [(1, Value.pointer (some ⟨b1, 0, none⟩)), (2, vB false), (94, vB z)]) (fun _ => [Ent.blk b1 23 (Change.enc c)]) ?_ ?_
                  · rcases Bool.eq_false_or_eq_true (decide (((c.Key.length : Nat) : Int) = 0)) with g71 | g71
                    · have g71r := g71
                      have g71r := of_decide_eq_true g71r
                      refine JO_read (vI ((c.Record.length : Nat) : Int)) rfl ⟨_, rfl, g71⟩ (fun _ _ => rfl) ?_
                      refine JO_read (vB (decide (((c.Record.length : Nat) : Int) ≤ 400))) rfl ⟨_, rfl, g71⟩ (fun _ _ => x_leq_i rfl rfl) ?_
                      refine JO_read (vB (decide (((c.Record.length : Nat) : Int) ≤ 400))) rfl trivial (fun _ _ => x_pick_t rfl g71 rfl) ?_
                      refine JO_nil (JX_cut (decide (((c.Record.length : Nat) : Int) ≤ 400)) (by rw [g71]; simp) ⟨rfl, rfl, rfl, trivial⟩ (fun _ h => h))
                    · have g71r := g71
                      have g71r := of_decide_eq_false g71r
                      refine JO_shun rfl ⟨_, rfl, g71⟩ ?_
                      refine JO_shun rfl ⟨_, rfl, g71⟩ ?_
                      refine JO_read (vB false) rfl trivial (fun _ _ => x_pick_f rfl g71 rfl) ?_
                      refine JO_nil (JX_cut (false) (by rw [g71]; simp) ⟨rfl, rfl, rfl, trivial⟩ (fun _ h => h))
                  rintro z70 rfl
                  refine JO_read (vB ((decide (((c.Key.length : Nat) : Int) = 0)) && (decide (((c.Record.length : Nat) : Int) ≤ 400)))) rfl trivial (fun _ _ => rfl) ?_
                  refine JO_cut (X := Bool) 4 (fun z => z = (((decide (((c.Key.length : Nat) : Int) = 0)) && (decide (((c.Record.length : Nat) : Int) ≤ 400))) && (R47.volName c.Volume))) (fun z => [(2, vB false), (99, vB z)]) (fun _ => [Ent.blk b1 23 (Change.enc c)]) ?_ ?_
                  · rcases Bool.eq_false_or_eq_true ((decide (((c.Key.length : Nat) : Int) = 0)) && (decide (((c.Record.length : Nat) : Int) ≤ 400))) with g73 | g73
                    · have g73r := g73
                      have ⟨g73r, h74⟩ := band_true g73r
                      have g73r := of_decide_eq_true g73r
                      have h74 := of_decide_eq_true h74
                      refine JO_read (Value.pointer (some ⟨b1, 4, none⟩)) rfl ⟨_, rfl, g73⟩ (fun _ _ => x_fieldAddr Ty.fi23_4 rfl rfl) ?_
                      refine JO_read (vS c.Volume) rfl ⟨_, rfl, g73⟩ (x_load 0 rfl rfl Ty.sc9 rfl) ?_
                      refine JO_call [] [] [Ent.blk b1 23 (Change.enc c)] rfl ⟨_, rfl, g73⟩ (fun _ => x_call Ty.ca37 rfl) (fun _ h => h) (fun _ h => by cases h) (fun w hS => f37_ok c.Volume w hy_) ?_
                      rintro _ _ ⟨rfl, rfl⟩
                      refine JO_read (vB (R47.volName c.Volume)) rfl trivial (fun _ _ => x_pick_t rfl g73 rfl) ?_
                      refine JO_nil (JX_cut (R47.volName c.Volume) (by rw [g73]; simp) ⟨rfl, rfl, trivial⟩ (fun _ h => h))
                    · have g73r := g73
                      simp only [Bool.and_eq_true, Bool.or_eq_true, Bool.and_eq_false_iff, Bool.or_eq_false_iff, Bool.not_eq_true', Bool.not_eq_false', decide_eq_true_eq, decide_eq_false_iff_not] at g73r
                      refine JO_shun rfl ⟨_, rfl, g73⟩ ?_
                      refine JO_shun rfl ⟨_, rfl, g73⟩ ?_
                      refine JO_shun rfl ⟨_, rfl, g73⟩ ?_
                      refine JO_read (vB false) rfl trivial (fun _ _ => x_pick_f rfl g73 rfl) ?_
                      refine JO_nil (JX_cut (false) (by rw [g73]; simp) ⟨rfl, rfl, trivial⟩ (fun _ h => h))
                  rintro z72 rfl
                  refine JO_read (vB (((decide (((c.Key.length : Nat) : Int) = 0)) && (decide (((c.Record.length : Nat) : Int) ≤ 400))) && (R47.volName c.Volume))) rfl trivial (fun _ _ => rfl) ?_
                  refine JO_nil ?_
                  refine JX_then ?_
                  refine J_ret ?_
                  refine JX_block_ret ?_
                  refine JX_then_ret ?_
                  refine JX_rets [vB (((decide (((c.Key.length : Nat) : Int) = 0)) && (decide (((c.Record.length : Nat) : Int) ≤ 400))) && (R47.volName c.Volume))] (vB (((decide (((c.Key.length : Nat) : Int) = 0)) && (decide (((c.Record.length : Nat) : Int) ≤ 400))) && (R47.volName c.Volume))) Tryd.results12 (fun w h => ⟨rfl, trivial⟩) rfl [] (fun _ h => h.keep [false] rfl) ⟨?_, ?_⟩
                  · have e_x0 : (((decide (((c.Key.length : Nat) : Int) = 0)) && (decide (((c.Record.length : Nat) : Int) ≤ 400))) && (R47.volName c.Volume) : Bool) = (R47.valid c) := by
                      first | exact R47.ref_valid0 (by omega) (by omega) (by omega) | exact R47.ref_valid1 (by omega) (by omega) (by omega) | exact R47.ref_valid2 (by omega) (by omega) (by omega) | exact R47.ref_valid3 (by omega) (by omega) (by omega) | exact R47.ref_valid467 (by omega) (by omega) (by omega) | exact R47.ref_valid5 (by omega) (by omega) (by omega) | exact (R47.ref_no (by omega)).symm
                    exact congrArg (fun (x0 : Bool) => vB x0) e_x0
                  · rfl
                · have h69 := of_decide_eq_false h69
                  refine J_seq ?_
                  refine J_region ?_
                  refine JO_read (vB (decide (c.Kind = 5))) rfl trivial (fun _ _ => x_eql_i rfl rfl) ?_
                  refine JO_read (vB (decide (c.Kind = 5))) rfl trivial (fun _ _ => rfl) ?_
                  refine JO_nil ?_
                  refine JX_then ?_
                  refine J_cond (decide (c.Kind = 5)) rfl rfl (fun h75 => ?_) (fun h75 => ?_)
                  · have h75 := of_decide_eq_true h75
                    refine J_seq ?_
                    refine J_region ?_
                    refine JO_read (vI ((c.Key.length : Nat) : Int)) rfl trivial (fun _ _ => rfl) ?_
                    refine JO_read (vB (decide (((c.Key.length : Nat) : Int) = 0))) rfl trivial (fun _ _ => x_eql_i rfl rfl) ?_
                    refine JO_read (vB (decide (((c.Key.length : Nat) : Int) = 0))) rfl trivial (fun _ _ => rfl) ?_
                    refine JO_cut (X := Bool) 3 (fun z => z = ((decide (((c.Key.length : Nat) : Int) = 0)) && (decide (((c.Record.length : Nat) : Int) = 0)))) (fun z => [(1, Value.pointer (some ⟨b1, 0, none⟩)), (2, vB false), (107, vB z)]) (fun _ => [Ent.blk b1 23 (Change.enc c)]) ?_ ?_
                    · rcases Bool.eq_false_or_eq_true (decide (((c.Key.length : Nat) : Int) = 0)) with g77 | g77
                      · have g77r := g77
                        have g77r := of_decide_eq_true g77r
                        refine JO_read (vI ((c.Record.length : Nat) : Int)) rfl ⟨_, rfl, g77⟩ (fun _ _ => rfl) ?_
                        refine JO_read (vB (decide (((c.Record.length : Nat) : Int) = 0))) rfl ⟨_, rfl, g77⟩ (fun _ _ => x_eql_i rfl rfl) ?_
                        refine JO_read (vB (decide (((c.Record.length : Nat) : Int) = 0))) rfl trivial (fun _ _ => x_pick_t rfl g77 rfl) ?_
                        refine JO_nil (JX_cut (decide (((c.Record.length : Nat) : Int) = 0)) (by rw [g77]; simp) ⟨rfl, rfl, rfl, trivial⟩ (fun _ h => h))
                      · have g77r := g77
                        have g77r := of_decide_eq_false g77r
                        refine JO_shun rfl ⟨_, rfl, g77⟩ ?_
                        refine JO_shun rfl ⟨_, rfl, g77⟩ ?_
                        refine JO_read (vB false) rfl trivial (fun _ _ => x_pick_f rfl g77 rfl) ?_
                        refine JO_nil (JX_cut (false) (by rw [g77]; simp) ⟨rfl, rfl, rfl, trivial⟩ (fun _ h => h))
                    rintro z76 rfl
                    refine JO_read (vB ((decide (((c.Key.length : Nat) : Int) = 0)) && (decide (((c.Record.length : Nat) : Int) = 0)))) rfl trivial (fun _ _ => rfl) ?_
                    refine JO_cut (X := Bool) 4 (fun z => z = (((decide (((c.Key.length : Nat) : Int) = 0)) && (decide (((c.Record.length : Nat) : Int) = 0))) && (R47.volName c.Volume))) (fun z => [(2, vB false), (112, vB z)]) (fun _ => [Ent.blk b1 23 (Change.enc c)]) ?_ ?_
                    · rcases Bool.eq_false_or_eq_true ((decide (((c.Key.length : Nat) : Int) = 0)) && (decide (((c.Record.length : Nat) : Int) = 0))) with g79 | g79
                      · have g79r := g79
                        have ⟨g79r, h80⟩ := band_true g79r
                        have g79r := of_decide_eq_true g79r
                        have h80 := of_decide_eq_true h80
                        refine JO_read (Value.pointer (some ⟨b1, 4, none⟩)) rfl ⟨_, rfl, g79⟩ (fun _ _ => x_fieldAddr Ty.fi23_4 rfl rfl) ?_
                        refine JO_read (vS c.Volume) rfl ⟨_, rfl, g79⟩ (x_load 0 rfl rfl Ty.sc9 rfl) ?_
                        refine JO_call [] [] [Ent.blk b1 23 (Change.enc c)] rfl ⟨_, rfl, g79⟩ (fun _ => x_call Ty.ca37 rfl) (fun _ h => h) (fun _ h => by cases h) (fun w hS => f37_ok c.Volume w hy_) ?_
                        rintro _ _ ⟨rfl, rfl⟩
                        refine JO_read (vB (R47.volName c.Volume)) rfl trivial (fun _ _ => x_pick_t rfl g79 rfl) ?_
                        refine JO_nil (JX_cut (R47.volName c.Volume) (by rw [g79]; simp) ⟨rfl, rfl, trivial⟩ (fun _ h => h))
                      · have g79r := g79
                        simp only [Bool.and_eq_true, Bool.or_eq_true, Bool.and_eq_false_iff, Bool.or_eq_false_iff, Bool.not_eq_true', Bool.not_eq_false', decide_eq_true_eq, decide_eq_false_iff_not] at g79r
                        refine JO_shun rfl ⟨_, rfl, g79⟩ ?_
                        refine JO_shun rfl ⟨_, rfl, g79⟩ ?_
                        refine JO_shun rfl ⟨_, rfl, g79⟩ ?_
                        refine JO_read (vB false) rfl trivial (fun _ _ => x_pick_f rfl g79 rfl) ?_
                        refine JO_nil (JX_cut (false) (by rw [g79]; simp) ⟨rfl, rfl, trivial⟩ (fun _ h => h))
                    rintro z78 rfl
                    refine JO_read (vB (((decide (((c.Key.length : Nat) : Int) = 0)) && (decide (((c.Record.length : Nat) : Int) = 0))) && (R47.volName c.Volume))) rfl trivial (fun _ _ => rfl) ?_
                    refine JO_nil ?_
                    refine JX_then ?_
                    refine J_ret ?_
                    refine JX_block_ret ?_
                    refine JX_then_ret ?_
                    refine JX_rets [vB (((decide (((c.Key.length : Nat) : Int) = 0)) && (decide (((c.Record.length : Nat) : Int) = 0))) && (R47.volName c.Volume))] (vB (((decide (((c.Key.length : Nat) : Int) = 0)) && (decide (((c.Record.length : Nat) : Int) = 0))) && (R47.volName c.Volume))) Tryd.results12 (fun w h => ⟨rfl, trivial⟩) rfl [] (fun _ h => h.keep [false] rfl) ⟨?_, ?_⟩
                    · have e_x0 : (((decide (((c.Key.length : Nat) : Int) = 0)) && (decide (((c.Record.length : Nat) : Int) = 0))) && (R47.volName c.Volume) : Bool) = (R47.valid c) := by
                        first | exact R47.ref_valid0 (by omega) (by omega) (by omega) | exact R47.ref_valid1 (by omega) (by omega) (by omega) | exact R47.ref_valid2 (by omega) (by omega) (by omega) | exact R47.ref_valid3 (by omega) (by omega) (by omega) | exact R47.ref_valid467 (by omega) (by omega) (by omega) | exact R47.ref_valid5 (by omega) (by omega) (by omega) | exact (R47.ref_no (by omega)).symm
                      exact congrArg (fun (x0 : Bool) => vB x0) e_x0
                    · rfl
                  · have h75 := of_decide_eq_false h75
                    refine J_skip ?_
                    refine JX_block ?_
                    refine JX_then ?_
                    refine J_seq ?_
                    refine J_region ?_
                    refine JO_read (vB false) rfl trivial (fun _ _ => rfl) ?_
                    refine JO_nil ?_
                    refine JX_then ?_
                    refine J_ret ?_
                    refine JX_rets [vB false] (vB false) Tryd.results12 (fun w h => ⟨rfl, trivial⟩) rfl [] (fun _ h => h.keep [false] rfl) ⟨?_, ?_⟩
                    · have e_x0 : (false : Bool) = (R47.valid c) := by
                        first | exact R47.ref_valid0 (by omega) (by omega) (by omega) | exact R47.ref_valid1 (by omega) (by omega) (by omega) | exact R47.ref_valid2 (by omega) (by omega) (by omega) | exact R47.ref_valid3 (by omega) (by omega) (by omega) | exact R47.ref_valid467 (by omega) (by omega) (by omega) | exact R47.ref_valid5 (by omega) (by omega) (by omega) | exact (R47.ref_no (by omega)).symm
                      exact congrArg (fun (x0 : Bool) => vB x0) e_x0
                    · rfl

end Go.Proofs.YtknibpmmjhmjeaaDoor
