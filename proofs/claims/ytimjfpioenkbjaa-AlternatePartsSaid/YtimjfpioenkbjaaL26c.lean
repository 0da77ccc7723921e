/- contracts L26c -/
import Derived.Test.YtimjfpioenkbjaaC26e
namespace Go.Proofs.Ytimjfpioenkbjaa
open Go.GV
set_option linter.unusedVariables false
set_option linter.unusedSimpArgs false

set_option maxRecDepth 20000 in
theorem f5_ok (a : DataSet) (r : Bytes) (k : Bytes) (b : Bytes) (w : World) : Calls Try.prog 5 #[Value.agg ((DataSet.enc a)).toArray, vS r, vS k, vS b] w (Gives [] w fun v L => v = vB true ∧ L = []) := by
  refine calls_J [] 130 Try.func5 rfl Try.ntmps5 [(0, Value.agg ((DataSet.enc a)).toArray), (1, vS r), (2, vS k), (3, vS b)] rfl rfl (Give.nil w) ?_
  refine J_seq ?_
  refine J_region ?_
  refine JO_op rfl trivial (O_box rfl rfl fun b1 => ?_)
  refine JO_read (vB false) rfl trivial (fun _ _ => rfl) ?_
  refine JO_nil ?_
  refine JX_then ?_
  refine J_seq ?_
  refine J_seq ?_
  refine J_region ?_
  refine JO_call [] [] [Ent.blk b1 23 (DataSet.enc a)] rfl trivial (fun _ => x_call Ty.ca10 rfl) (fun _ h => h) (fun _ h => by cases h) (fun w hS => f10_ok w) ?_
  rintro _ _ ⟨rfl, rfl⟩
  refine JO_read (vB false) rfl trivial (fun _ _ => rfl) ?_
  refine JO_nil ?_
  refine JX_then ?_
  refine J_cond false rfl rfl (fun h => by cases h) (fun h => ?_)
  refine J_skip ?_
  refine JX_then ?_
  refine J_seq ?_
  refine J_seq ?_
  refine J_region ?_
  refine JO_read (vS r) rfl trivial (fun _ _ => rfl) ?_
  refine JO_read (vS k) rfl trivial (fun _ _ => rfl) ?_
  refine JO_read (vS b) rfl trivial (fun _ _ => rfl) ?_
  refine JO_op rfl trivial (O_buildSlice (cs := [vS r, vS k, vS b]) Try.underlying33 Ty.sz9 Ty.ze9 (by decide) (by decide) (by kernel_rfl) fun b2 => ?_)
  refine JO_call [] [] [Ent.blk b2 9 [vS r, vS k, vS b], Ent.blk b1 23 (DataSet.enc a)] rfl trivial (fun _ => x_call Ty.ca16 rfl) (fun _ h => h) (fun _ h => by cases h) (fun w hS => f16_ok [r, k, b] (some ⟨b2, 0, none⟩) 3 3 300 w (RO.of_blk hS 0 (off := 0) (m := 3) rfl rfl) (by first | omega | assumption | (simp only [List.length_append, List.length_cons, List.length_nil]; omega) | (simp only [sub, List.length_drop, List.length_take]; omega) | (simp; omega) | (simp_all; done) | (simp_all; omega) | decide)) ?_
  rintro _ _ ⟨rfl, rfl⟩
  refine JO_read (vB (!(R16.short [r, k, b] 3 300))) rfl trivial (fun _ _ => x_not rfl) ?_
  refine JO_nil ?_
  refine JX_then ?_
  refine J_cond (!(R16.short [r, k, b] 3 300)) rfl rfl (fun h3 => ?_) (fun h3 => ?_)
  · have h3 : (R16.short [r, k, b] 3 300) = false := bnot_true h3
    refine J_seq ?_
    refine J_region ?_
    refine JO_read (vB true) rfl trivial (fun _ _ => rfl) ?_
    refine JO_nil ?_
    refine JX_then ?_
    refine J_ret ?_
    refine JX_then_ret ?_
    refine JX_rets [vB true] (vB true) Try.results5 (fun w h => ⟨rfl, trivial⟩) rfl [] (fun _ h => h.keep [false, false] rfl) ⟨?_, ?_⟩
    · rfl
    · rfl
  · have h3 : (R16.short [r, k, b] 3 300) = true := bnot_false h3
    refine J_skip ?_
    refine JX_then ?_
    refine J_seq ?_
    refine J_region ?_
    refine JO_read (Value.agg ((DataSet.enc a)).toArray) rfl trivial (x_loadN 1 (DataSet.enc a) rfl rfl Ty.ag23 Ty.sz23 rfl) ?_
    refine JO_read (vS r) rfl trivial (fun _ _ => rfl) ?_
    refine JO_call [] [] [Ent.blk b2 9 [vS r, vS k, vS b], Ent.blk b1 23 (DataSet.enc a)] rfl trivial (fun _ => x_call Ty.ca17 rfl) (fun _ h => h) (fun _ h => by cases h) (fun w hS => f17_ok a r w) ?_
    rintro _ _ ⟨rfl, rfl⟩
    refine JO_read (Value.tuple #[vS ((R26.key a r).1), vB ((R26.key a r).2)]) rfl trivial (fun _ _ => rfl) ?_
    refine JO_read (vS ((R26.key a r).1)) rfl trivial (fun _ _ => rfl) ?_
    refine JO_read (vB ((R26.key a r).2)) rfl trivial (fun _ _ => rfl) ?_
    refine JO_read (vS ((R26.key a r).1)) rfl trivial (fun _ _ => rfl) ?_
    refine JO_read (vB ((R26.key a r).2)) rfl trivial (fun _ _ => rfl) ?_
    refine JO_nil ?_
    refine JX_then ?_
    refine J_seq ?_
    refine J_region ?_
    refine JO_read (Value.agg ((DataSet.enc a)).toArray) rfl trivial (x_loadN 1 (DataSet.enc a) rfl rfl Ty.ag23 Ty.sz23 rfl) ?_
    refine JO_read (vS r) rfl trivial (fun _ _ => rfl) ?_
    refine JO_call [] [] [Ent.blk b2 9 [vS r, vS k, vS b], Ent.blk b1 23 (DataSet.enc a)] rfl trivial (fun _ => x_call Ty.ca18 rfl) (fun _ h => h) (fun _ h => by cases h) (fun w hS => f18_ok a r w) ?_
    rintro _ _ ⟨rfl, rfl⟩
    refine JO_read (Value.tuple #[vS ((R26.key a r).1), vB ((R26.key a r).2)]) rfl trivial (fun _ _ => rfl) ?_
    refine JO_read (vS ((R26.key a r).1)) rfl trivial (fun _ _ => rfl) ?_
    refine JO_read (vB ((R26.key a r).2)) rfl trivial (fun _ _ => rfl) ?_
    refine JO_read (vS ((R26.key a r).1)) rfl trivial (fun _ _ => rfl) ?_
    refine JO_read (vB ((R26.key a r).2)) rfl trivial (fun _ _ => rfl) ?_
    refine JO_nil ?_
    refine JX_then ?_
    refine J_seq ?_
    refine J_region ?_
    refine JO_read (Value.agg ((DataSet.enc a)).toArray) rfl trivial (x_loadN 1 (DataSet.enc a) rfl rfl Ty.ag23 Ty.sz23 rfl) ?_
    refine JO_read (vS k) rfl trivial (fun _ _ => rfl) ?_
    refine JO_read (vS b) rfl trivial (fun _ _ => rfl) ?_
    refine JO_call [] [] [Ent.blk b2 9 [vS r, vS k, vS b], Ent.blk b1 23 (DataSet.enc a)] rfl trivial (fun _ => x_call Ty.ca19 rfl) (fun _ h => h) (fun _ h => by cases h) (fun w hS => f19_ok a k b w) ?_
    rintro _ _ ⟨rfl, rfl⟩
    refine JO_read (Value.tuple #[vS ((R26.record a k b).1), vI ((R26.record a k b).2)]) rfl trivial (fun _ _ => rfl) ?_
    refine JO_read (vS ((R26.record a k b).1)) rfl trivial (fun _ _ => rfl) ?_
    refine JO_read (vI ((R26.record a k b).2)) rfl trivial (fun _ _ => rfl) ?_
    refine JO_read (vS ((R26.record a k b).1)) rfl trivial (fun _ _ => rfl) ?_
    refine JO_read (vI ((R26.record a k b).2)) rfl trivial (fun _ _ => rfl) ?_
    refine JO_nil ?_
    refine JX_then ?_
    refine J_seq ?_
    refine J_region ?_
    refine JO_read (Value.agg ((DataSet.enc a)).toArray) rfl trivial (x_loadN 1 (DataSet.enc a) rfl rfl Ty.ag23 Ty.sz23 rfl) ?_
    refine JO_read (vS k) rfl trivial (fun _ _ => rfl) ?_
    refine JO_read (vS b) rfl trivial (fun _ _ => rfl) ?_
    refine JO_call [] [] [Ent.blk b2 9 [vS r, vS k, vS b], Ent.blk b1 23 (DataSet.enc a)] rfl trivial (fun _ => x_call Ty.ca20 rfl) (fun _ h => h) (fun _ h => by cases h) (fun w hS => f20_ok a k b w) ?_
    rintro _ _ ⟨rfl, rfl⟩
    refine JO_read (Value.tuple #[vS ((R26.record a k b).1), vI ((R26.record a k b).2)]) rfl trivial (fun _ _ => rfl) ?_
    refine JO_read (vS ((R26.record a k b).1)) rfl trivial (fun _ _ => rfl) ?_
    refine JO_read (vI ((R26.record a k b).2)) rfl trivial (fun _ _ => rfl) ?_
    refine JO_read (vS ((R26.record a k b).1)) rfl trivial (fun _ _ => rfl) ?_
    refine JO_read (vI ((R26.record a k b).2)) rfl trivial (fun _ _ => rfl) ?_
    refine JO_nil ?_
    refine JX_then ?_
    refine J_seq ?_
    refine J_region ?_
    refine JO_read (Value.agg ((DataSet.enc a)).toArray) rfl trivial (x_loadN 1 (DataSet.enc a) rfl rfl Ty.ag23 Ty.sz23 rfl) ?_
    refine JO_read (vS r) rfl trivial (fun _ _ => rfl) ?_
    refine JO_call [] [] [Ent.blk b2 9 [vS r, vS k, vS b], Ent.blk b1 23 (DataSet.enc a)] rfl trivial (fun _ => x_call Ty.ca21 rfl) (fun _ h => h) (fun _ h => by cases h) (fun w hS => f21_ok a r w) ?_
    rintro _ _ ⟨rfl, rfl⟩
    refine JO_read (Value.tuple #[vS ((R26.parts a r).1), vS ((R26.parts a r).2.1), vI ((R26.parts a r).2.2)]) rfl trivial (fun _ _ => rfl) ?_
    refine JO_read (vS ((R26.parts a r).1)) rfl trivial (fun _ _ => rfl) ?_
    refine JO_read (vS ((R26.parts a r).2.1)) rfl trivial (fun _ _ => rfl) ?_
    refine JO_read (vI ((R26.parts a r).2.2)) rfl trivial (fun _ _ => rfl) ?_
    refine JO_read (vS ((R26.parts a r).1)) rfl trivial (fun _ _ => rfl) ?_
    refine JO_read (vS ((R26.parts a r).2.1)) rfl trivial (fun _ _ => rfl) ?_
    refine JO_read (vI ((R26.parts a r).2.2)) rfl trivial (fun _ _ => rfl) ?_
    refine JO_nil ?_
    refine JX_then ?_
    refine J_seq ?_
    refine J_region ?_
    refine JO_read (Value.agg ((DataSet.enc a)).toArray) rfl trivial (x_loadN 1 (DataSet.enc a) rfl rfl Ty.ag23 Ty.sz23 rfl) ?_
    refine JO_read (vS r) rfl trivial (fun _ _ => rfl) ?_
    refine JO_call [] [] [Ent.blk b2 9 [vS r, vS k, vS b], Ent.blk b1 23 (DataSet.enc a)] rfl trivial (fun _ => x_call Ty.ca22 rfl) (fun _ h => h) (fun _ h => by cases h) (fun w hS => f22_ok a r w) ?_
    rintro _ _ ⟨rfl, rfl⟩
    refine JO_read (Value.tuple #[vS ((R26.parts a r).1), vS ((R26.parts a r).2.1), vI ((R26.parts a r).2.2)]) rfl trivial (fun _ _ => rfl) ?_
    refine JO_read (vS ((R26.parts a r).1)) rfl trivial (fun _ _ => rfl) ?_
    refine JO_read (vS ((R26.parts a r).2.1)) rfl trivial (fun _ _ => rfl) ?_
    refine JO_read (vI ((R26.parts a r).2.2)) rfl trivial (fun _ _ => rfl) ?_
    refine JO_read (vS ((R26.parts a r).1)) rfl trivial (fun _ _ => rfl) ?_
    refine JO_read (vS ((R26.parts a r).2.1)) rfl trivial (fun _ _ => rfl) ?_
    refine JO_read (vI ((R26.parts a r).2.2)) rfl trivial (fun _ _ => rfl) ?_
    refine JO_nil ?_
    refine JX_then ?_
    refine J_seq ?_
    refine J_region ?_
    refine JO_read (Value.agg ((DataSet.enc a)).toArray) rfl trivial (x_loadN 1 (DataSet.enc a) rfl rfl Ty.ag23 Ty.sz23 rfl) ?_
    refine JO_read (vS k) rfl trivial (fun _ _ => rfl) ?_
    refine JO_call [] [] [Ent.blk b2 9 [vS r, vS k, vS b], Ent.blk b1 23 (DataSet.enc a)] rfl trivial (fun _ => x_call Ty.ca23 rfl) (fun _ h => h) (fun _ h => by cases h) (fun w hS => f23_ok a k w) ?_
    rintro _ _ ⟨rfl, rfl⟩
    refine JO_read (Value.tuple #[Value.agg #[vS (((R26.span a k).1).Low), vS (((R26.span a k).1).High), vB (((R26.span a k).1).End)], vI ((R26.span a k).2)]) rfl trivial (fun _ _ => rfl) ?_
    refine JO_read (Value.agg #[vS (((R26.span a k).1).Low), vS (((R26.span a k).1).High), vB (((R26.span a k).1).End)]) rfl trivial (fun _ _ => rfl) ?_
    refine JO_read (vI ((R26.span a k).2)) rfl trivial (fun _ _ => rfl) ?_
    refine JO_op rfl trivial (O_alloc Ty.ze41 rfl fun b4 => ?_)
    refine JO_op rfl trivial (O_store 0 [vS (((R26.span a k).1).Low), vS (((R26.span a k).1).High), vB (((R26.span a k).1).End)] [Ent.blk b4 41 [vS (((R26.span a k).1).Low), vS (((R26.span a k).1).High), vB (((R26.span a k).1).End)], Ent.blk b2 9 [vS r, vS k, vS b], Ent.blk b1 23 (DataSet.enc a)] rfl rfl rfl Ty.sz41 rfl (Nat.le_of_ble_eq_true rfl) rfl rfl rfl ?_)
    refine JO_read (vI ((R26.span a k).2)) rfl trivial (fun _ _ => rfl) ?_
    refine JO_nil ?_
    refine JX_then ?_
    refine J_seq ?_
    refine J_region ?_
    refine JO_read (Value.agg ((DataSet.enc a)).toArray) rfl trivial (x_loadN 2 (DataSet.enc a) rfl rfl Ty.ag23 Ty.sz23 rfl) ?_
    refine JO_read (vS k) rfl trivial (fun _ _ => rfl) ?_
    refine JO_call [] [] [Ent.blk b4 41 [vS (((R26.span a k).1).Low), vS (((R26.span a k).1).High), vB (((R26.span a k).1).End)], Ent.blk b2 9 [vS r, vS k, vS b], Ent.blk b1 23 (DataSet.enc a)] rfl trivial (fun _ => x_call Ty.ca24 rfl) (fun _ h => h) (fun _ h => by cases h) (fun w hS => f24_ok a k w) ?_
    rintro _ _ ⟨rfl, rfl⟩
    refine JO_read (Value.tuple #[Value.agg #[vS (((R26.span a k).1).Low), vS (((R26.span a k).1).High), vB (((R26.span a k).1).End)], vI ((R26.span a k).2)]) rfl trivial (fun _ _ => rfl) ?_
    refine JO_read (Value.agg #[vS (((R26.span a k).1).Low), vS (((R26.span a k).1).High), vB (((R26.span a k).1).End)]) rfl trivial (fun _ _ => rfl) ?_
    refine JO_read (vI ((R26.span a k).2)) rfl trivial (fun _ _ => rfl) ?_
    refine JO_op rfl trivial (O_alloc Ty.ze41 rfl fun b5 => ?_)
    refine JO_op rfl trivial (O_store 0 [vS (((R26.span a k).1).Low), vS (((R26.span a k).1).High), vB (((R26.span a k).1).End)] [Ent.blk b5 41 [vS (((R26.span a k).1).Low), vS (((R26.span a k).1).High), vB (((R26.span a k).1).End)], Ent.blk b4 41 [vS (((R26.span a k).1).Low), vS (((R26.span a k).1).High), vB (((R26.span a k).1).End)], Ent.blk b2 9 [vS r, vS k, vS b], Ent.blk b1 23 (DataSet.enc a)] rfl rfl rfl Ty.sz41 rfl (Nat.le_of_ble_eq_true rfl) rfl rfl rfl ?_)
    refine JO_read (vI ((R26.span a k).2)) rfl trivial (fun _ _ => rfl) ?_
    refine JO_nil ?_
    refine JX_then ?_
    refine J_seq ?_
    refine J_region ?_
    refine JO_read (vS ((R26.key a r).1)) rfl trivial (fun _ _ => rfl) ?_
    refine JO_read (vS ((R26.key a r).1)) rfl trivial (fun _ _ => rfl) ?_
    refine JO_read (vB (decide ((R26.key a r).1 = (R26.key a r).1))) rfl trivial (fun _ _ => x_eql_s rfl rfl) ?_
    refine JO_read (vB (decide ((R26.key a r).1 = (R26.key a r).1))) rfl trivial (fun _ _ => rfl) ?_
    refine JO_cut (X := Bool) 4 (fun z => z = ((decide ((R26.key a r).1 = (R26.key a r).1)) && (decide (((R26.key a r).2) = ((R26.key a r).2))))) (fun z => [(8, vB false), (13, vS ((R26.record a k b).1)), (14, vI ((R26.record a k b).2)), (15, vS ((R26.record a k b).1)), (16, vI ((R26.record a k b).2)), (17, vS ((R26.parts a r).1)), (18, vS ((R26.parts a r).2.1)), (19, vI ((R26.parts a r).2.2)), (20, vS ((R26.parts a r).1)), (21, vS ((R26.parts a r).2.1)), (22, vI ((R26.parts a r).2.2)), (23, Value.pointer (some ⟨b4, 0, none⟩)), (24, vI ((R26.span a k).2)), (25, Value.pointer (some ⟨b5, 0, none⟩)), (26, vI ((R26.span a k).2)), (94, vB z)]) (fun _ => [Ent.blk b5 41 [vS (((R26.span a k).1).Low), vS (((R26.span a k).1).High), vB (((R26.span a k).1).End)], Ent.blk b4 41 [vS (((R26.span a k).1).Low), vS (((R26.span a k).1).High), vB (((R26.span a k).1).End)], Ent.blk b2 9 [vS r, vS k, vS b], Ent.blk b1 23 (DataSet.enc a)]) ?_ ?_
    · rcases Bool.eq_false_or_eq_true (decide ((R26.key a r).1 = (R26.key a r).1)) with g7 | g7
      · have g7r := g7
        have g7r := of_decide_eq_true g7r
        refine JO_read (vB ((R26.key a r).2)) rfl ⟨_, rfl, g7⟩ (fun _ _ => rfl) ?_
        refine JO_read (vB ((R26.key a r).2)) rfl ⟨_, rfl, g7⟩ (fun _ _ => rfl) ?_
        refine JO_read (vB (decide (((R26.key a r).2) = ((R26.key a r).2)))) rfl ⟨_, rfl, g7⟩ (fun _ _ => x_eql_b Try.underlying4 rfl rfl) ?_
        refine JO_read (vB (decide (((R26.key a r).2) = ((R26.key a r).2)))) rfl trivial (fun _ _ => x_pick_t rfl g7 rfl) ?_
        refine JO_nil (JX_cut (decide (((R26.key a r).2) = ((R26.key a r).2))) (by rw [g7]; simp) ⟨rfl, rfl, rfl, rfl, rfl, rfl, rfl, rfl, rfl, rfl, rfl, rfl, rfl, rfl, rfl, rfl, trivial⟩ (fun _ h => h))
      · have g7r := g7
        have g7r := of_decide_eq_false g7r
        refine JO_shun rfl ⟨_, rfl, g7⟩ ?_
        refine JO_shun rfl ⟨_, rfl, g7⟩ ?_
        refine JO_shun rfl ⟨_, rfl, g7⟩ ?_
        refine JO_read (vB false) rfl trivial (fun _ _ => x_pick_f rfl g7 rfl) ?_
        refine JO_nil (JX_cut (false) (by rw [g7]; simp) ⟨rfl, rfl, rfl, rfl, rfl, rfl, rfl, rfl, rfl, rfl, rfl, rfl, rfl, rfl, rfl, rfl, trivial⟩ (fun _ h => h))
    rintro z6 rfl
    refine JO_read (vB ((decide ((R26.key a r).1 = (R26.key a r).1)) && (decide (((R26.key a r).2) = ((R26.key a r).2))))) rfl trivial (fun _ _ => rfl) ?_
    refine JO_cut (X := Bool) 4 (fun z => z = (((decide ((R26.key a r).1 = (R26.key a r).1)) && (decide (((R26.key a r).2) = ((R26.key a r).2)))) && (decide ((R26.record a k b).1 = (R26.record a k b).1)))) (fun z => [(8, vB false), (14, vI ((R26.record a k b).2)), (16, vI ((R26.record a k b).2)), (17, vS ((R26.parts a r).1)), (18, vS ((R26.parts a r).2.1)), (19, vI ((R26.parts a r).2.2)), (20, vS ((R26.parts a r).1)), (21, vS ((R26.parts a r).2.1)), (22, vI ((R26.parts a r).2.2)), (23, Value.pointer (some ⟨b4, 0, none⟩)), (24, vI ((R26.span a k).2)), (25, Value.pointer (some ⟨b5, 0, none⟩)), (26, vI ((R26.span a k).2)), (99, vB z)]) (fun _ => [Ent.blk b5 41 [vS (((R26.span a k).1).Low), vS (((R26.span a k).1).High), vB (((R26.span a k).1).End)], Ent.blk b4 41 [vS (((R26.span a k).1).Low), vS (((R26.span a k).1).High), vB (((R26.span a k).1).End)], Ent.blk b2 9 [vS r, vS k, vS b], Ent.blk b1 23 (DataSet.enc a)]) ?_ ?_
    · rcases Bool.eq_false_or_eq_true ((decide ((R26.key a r).1 = (R26.key a r).1)) && (decide (((R26.key a r).2) = ((R26.key a r).2)))) with g9 | g9
      · have g9r := g9
        have ⟨g9r, h10⟩ := band_true g9r
        have g9r := of_decide_eq_true g9r
        have h10 := of_decide_eq_true h10
        refine JO_read (vS ((R26.record a k b).1)) rfl ⟨_, rfl, g9⟩ (fun _ _ => rfl) ?_
        refine JO_read (vS ((R26.record a k b).1)) rfl ⟨_, rfl, g9⟩ (fun _ _ => rfl) ?_
        refine JO_read (vB (decide ((R26.record a k b).1 = (R26.record a k b).1))) rfl ⟨_, rfl, g9⟩ (fun _ _ => x_eql_s rfl rfl) ?_
        refine JO_read (vB (decide ((R26.record a k b).1 = (R26.record a k b).1))) rfl trivial (fun _ _ => x_pick_t rfl g9 rfl) ?_
        refine JO_nil (JX_cut (decide ((R26.record a k b).1 = (R26.record a k b).1)) (by rw [g9]; simp) ⟨rfl, rfl, rfl, rfl, rfl, rfl, rfl, rfl, rfl, rfl, rfl, rfl, rfl, rfl, trivial⟩ (fun _ h => h))
      · have g9r := g9
        simp only [Bool.and_eq_true, Bool.or_eq_true, Bool.and_eq_false_iff, Bool.or_eq_false_iff, Bool.not_eq_true', Bool.not_eq_false', decide_eq_true_eq, decide_eq_false_iff_not] at g9r
        refine JO_shun rfl ⟨_, rfl, g9⟩ ?_
        refine JO_shun rfl ⟨_, rfl, g9⟩ ?_
        refine JO_shun rfl ⟨_, rfl, g9⟩ ?_
        refine JO_read (vB false) rfl trivial (fun _ _ => x_pick_f rfl g9 rfl) ?_
        refine JO_nil (JX_cut (false) (by rw [g9]; simp) ⟨rfl, rfl, rfl, rfl, rfl, rfl, rfl, rfl, rfl, rfl, rfl, rfl, rfl, rfl, trivial⟩ (fun _ h => h))
    rintro z8 rfl
    refine JO_read (vB (((decide ((R26.key a r).1 = (R26.key a r).1)) && (decide (((R26.key a r).2) = ((R26.key a r).2)))) && (decide ((R26.record a k b).1 = (R26.record a k b).1)))) rfl trivial (fun _ _ => rfl) ?_
    refine JO_cut (X := Bool) 4 (fun z => z = ((((decide ((R26.key a r).1 = (R26.key a r).1)) && (decide (((R26.key a r).2) = ((R26.key a r).2)))) && (decide ((R26.record a k b).1 = (R26.record a k b).1))) && (decide ((R26.record a k b).2 = (R26.record a k b).2)))) (fun z => [(8, vB false), (17, vS ((R26.parts a r).1)), (18, vS ((R26.parts a r).2.1)), (19, vI ((R26.parts a r).2.2)), (20, vS ((R26.parts a r).1)), (21, vS ((R26.parts a r).2.1)), (22, vI ((R26.parts a r).2.2)), (23, Value.pointer (some ⟨b4, 0, none⟩)), (24, vI ((R26.span a k).2)), (25, Value.pointer (some ⟨b5, 0, none⟩)), (26, vI ((R26.span a k).2)), (104, vB z)]) (fun _ => [Ent.blk b5 41 [vS (((R26.span a k).1).Low), vS (((R26.span a k).1).High), vB (((R26.span a k).1).End)], Ent.blk b4 41 [vS (((R26.span a k).1).Low), vS (((R26.span a k).1).High), vB (((R26.span a k).1).End)], Ent.blk b2 9 [vS r, vS k, vS b], Ent.blk b1 23 (DataSet.enc a)]) ?_ ?_
    · rcases Bool.eq_false_or_eq_true (((decide ((R26.key a r).1 = (R26.key a r).1)) && (decide (((R26.key a r).2) = ((R26.key a r).2)))) && (decide ((R26.record a k b).1 = (R26.record a k b).1))) with g12 | g12
      · have g12r := g12
        have ⟨g12r, h13⟩ := band_true g12r
        have ⟨g12r, h14⟩ := band_true g12r
        have g12r := of_decide_eq_true g12r
        have h14 := of_decide_eq_true h14
        have h13 := of_decide_eq_true h13
        refine JO_read (vI ((R26.record a k b).2)) rfl ⟨_, rfl, g12⟩ (fun _ _ => rfl) ?_
        refine JO_read (vI ((R26.record a k b).2)) rfl ⟨_, rfl, g12⟩ (fun _ _ => rfl) ?_
        refine JO_read (vB (decide ((R26.record a k b).2 = (R26.record a k b).2))) rfl ⟨_, rfl, g12⟩ (fun _ _ => x_eql_i rfl rfl) ?_
        refine JO_read (vB (decide ((R26.record a k b).2 = (R26.record a k b).2))) rfl trivial (fun _ _ => x_pick_t rfl g12 rfl) ?_
        refine JO_nil (JX_cut (decide ((R26.record a k b).2 = (R26.record a k b).2)) (by rw [g12]; simp) ⟨rfl, rfl, rfl, rfl, rfl, rfl, rfl, rfl, rfl, rfl, rfl, rfl, trivial⟩ (fun _ h => h))
      · have g12r := g12
        simp only [Bool.and_eq_true, Bool.or_eq_true, Bool.and_eq_false_iff, Bool.or_eq_false_iff, Bool.not_eq_true', Bool.not_eq_false', decide_eq_true_eq, decide_eq_false_iff_not] at g12r
        refine JO_shun rfl ⟨_, rfl, g12⟩ ?_
        refine JO_shun rfl ⟨_, rfl, g12⟩ ?_
        refine JO_shun rfl ⟨_, rfl, g12⟩ ?_
        refine JO_read (vB false) rfl trivial (fun _ _ => x_pick_f rfl g12 rfl) ?_
        refine JO_nil (JX_cut (false) (by rw [g12]; simp) ⟨rfl, rfl, rfl, rfl, rfl, rfl, rfl, rfl, rfl, rfl, rfl, rfl, trivial⟩ (fun _ h => h))
    rintro z11 rfl
    refine JO_read (vB ((((decide ((R26.key a r).1 = (R26.key a r).1)) && (decide (((R26.key a r).2) = ((R26.key a r).2)))) && (decide ((R26.record a k b).1 = (R26.record a k b).1))) && (decide ((R26.record a k b).2 = (R26.record a k b).2)))) rfl trivial (fun _ _ => rfl) ?_
    refine JO_cut (X := Bool) 4 (fun z => z = (((((decide ((R26.key a r).1 = (R26.key a r).1)) && (decide (((R26.key a r).2) = ((R26.key a r).2)))) && (decide ((R26.record a k b).1 = (R26.record a k b).1))) && (decide ((R26.record a k b).2 = (R26.record a k b).2))) && (decide ((R26.parts a r).1 = (R26.parts a r).1)))) (fun z => [(8, vB false), (18, vS ((R26.parts a r).2.1)), (19, vI ((R26.parts a r).2.2)), (21, vS ((R26.parts a r).2.1)), (22, vI ((R26.parts a r).2.2)), (23, Value.pointer (some ⟨b4, 0, none⟩)), (24, vI ((R26.span a k).2)), (25, Value.pointer (some ⟨b5, 0, none⟩)), (26, vI ((R26.span a k).2)), (109, vB z)]) (fun _ => [Ent.blk b5 41 [vS (((R26.span a k).1).Low), vS (((R26.span a k).1).High), vB (((R26.span a k).1).End)], Ent.blk b4 41 [vS (((R26.span a k).1).Low), vS (((R26.span a k).1).High), vB (((R26.span a k).1).End)], Ent.blk b2 9 [vS r, vS k, vS b], Ent.blk b1 23 (DataSet.enc a)]) ?_ ?_
    · rcases Bool.eq_false_or_eq_true ((((decide ((R26.key a r).1 = (R26.key a r).1)) && (decide (((R26.key a r).2) = ((R26.key a r).2)))) && (decide ((R26.record a k b).1 = (R26.record a k b).1))) && (decide ((R26.record a k b).2 = (R26.record a k b).2))) with g16 | g16
      · have g16r := g16
        have ⟨g16r, h17⟩ := band_true g16r
        have ⟨g16r, h18⟩ := band_true g16r
        have ⟨g16r, h19⟩ := band_true g16r
        have g16r := of_decide_eq_true g16r
        have h19 := of_decide_eq_true h19
        have h18 := of_decide_eq_true h18
        have h17 := of_decide_eq_true h17
        refine JO_read (vS ((R26.parts a r).1)) rfl ⟨_, rfl, g16⟩ (fun _ _ => rfl) ?_
        refine JO_read (vS ((R26.parts a r).1)) rfl ⟨_, rfl, g16⟩ (fun _ _ => rfl) ?_
        refine JO_read (vB (decide ((R26.parts a r).1 = (R26.parts a r).1))) rfl ⟨_, rfl, g16⟩ (fun _ _ => x_eql_s rfl rfl) ?_
        refine JO_read (vB (decide ((R26.parts a r).1 = (R26.parts a r).1))) rfl trivial (fun _ _ => x_pick_t rfl g16 rfl) ?_
        refine JO_nil (JX_cut (decide ((R26.parts a r).1 = (R26.parts a r).1)) (by rw [g16]; simp) ⟨rfl, rfl, rfl, rfl, rfl, rfl, rfl, rfl, rfl, rfl, trivial⟩ (fun _ h => h))
      · have g16r := g16
        simp only [Bool.and_eq_true, Bool.or_eq_true, Bool.and_eq_false_iff, Bool.or_eq_false_iff, Bool.not_eq_true', Bool.not_eq_false', decide_eq_true_eq, decide_eq_false_iff_not] at g16r
        refine JO_shun rfl ⟨_, rfl, g16⟩ ?_
        refine JO_shun rfl ⟨_, rfl, g16⟩ ?_
        refine JO_shun rfl ⟨_, rfl, g16⟩ ?_
        refine JO_read (vB false) rfl trivial (fun _ _ => x_pick_f rfl g16 rfl) ?_
        refine JO_nil (JX_cut (false) (by rw [g16]; simp) ⟨rfl, rfl, rfl, rfl, rfl, rfl, rfl, rfl, rfl, rfl, trivial⟩ (fun _ h => h))
    rintro z15 rfl
    refine JO_read (vB (((((decide ((R26.key a r).1 = (R26.key a r).1)) && (decide (((R26.key a r).2) = ((R26.key a r).2)))) && (decide ((R26.record a k b).1 = (R26.record a k b).1))) && (decide ((R26.record a k b).2 = (R26.record a k b).2))) && (decide ((R26.parts a r).1 = (R26.parts a r).1)))) rfl trivial (fun _ _ => rfl) ?_
    refine JO_cut (X := Bool) 4 (fun z => z = ((((((decide ((R26.key a r).1 = (R26.key a r).1)) && (decide (((R26.key a r).2) = ((R26.key a r).2)))) && (decide ((R26.record a k b).1 = (R26.record a k b).1))) && (decide ((R26.record a k b).2 = (R26.record a k b).2))) && (decide ((R26.parts a r).1 = (R26.parts a r).1))) && (decide ((R26.parts a r).2.1 = (R26.parts a r).2.1)))) (fun z => [(8, vB false), (19, vI ((R26.parts a r).2.2)), (22, vI ((R26.parts a r).2.2)), (23, Value.pointer (some ⟨b4, 0, none⟩)), (24, vI ((R26.span a k).2)), (25, Value.pointer (some ⟨b5, 0, none⟩)), (26, vI ((R26.span a k).2)), (114, vB z)]) (fun _ => [Ent.blk b5 41 [vS (((R26.span a k).1).Low), vS (((R26.span a k).1).High), vB (((R26.span a k).1).End)], Ent.blk b4 41 [vS (((R26.span a k).1).Low), vS (((R26.span a k).1).High), vB (((R26.span a k).1).End)], Ent.blk b2 9 [vS r, vS k, vS b], Ent.blk b1 23 (DataSet.enc a)]) ?_ ?_
    · rcases Bool.eq_false_or_eq_true (((((decide ((R26.key a r).1 = (R26.key a r).1)) && (decide (((R26.key a r).2) = ((R26.key a r).2)))) && (decide ((R26.record a k b).1 = (R26.record a k b).1))) && (decide ((R26.record a k b).2 = (R26.record a k b).2))) && (decide ((R26.parts a r).1 = (R26.parts a r).1))) with g21 | g21
      · have g21r := g21
        have ⟨g21r, h22⟩ := band_true g21r
        have ⟨g21r, h23⟩ := band_true g21r
        have ⟨g21r, h24⟩ := band_true g21r
        have ⟨g21r, h25⟩ := band_true g21r
        have g21r := of_decide_eq_true g21r
        have h25 := of_decide_eq_true h25
        have h24 := of_decide_eq_true h24
        have h23 := of_decide_eq_true h23
        have h22 := of_decide_eq_true h22
        refine JO_read (vS ((R26.parts a r).2.1)) rfl ⟨_, rfl, g21⟩ (fun _ _ => rfl) ?_
        refine JO_read (vS ((R26.parts a r).2.1)) rfl ⟨_, rfl, g21⟩ (fun _ _ => rfl) ?_
        refine JO_read (vB (decide ((R26.parts a r).2.1 = (R26.parts a r).2.1))) rfl ⟨_, rfl, g21⟩ (fun _ _ => x_eql_s rfl rfl) ?_
        refine JO_read (vB (decide ((R26.parts a r).2.1 = (R26.parts a r).2.1))) rfl trivial (fun _ _ => x_pick_t rfl g21 rfl) ?_
        refine JO_nil (JX_cut (decide ((R26.parts a r).2.1 = (R26.parts a r).2.1)) (by rw [g21]; simp) ⟨rfl, rfl, rfl, rfl, rfl, rfl, rfl, rfl, trivial⟩ (fun _ h => h))
      · have g21r := g21
        simp only [Bool.and_eq_true, Bool.or_eq_true, Bool.and_eq_false_iff, Bool.or_eq_false_iff, Bool.not_eq_true', Bool.not_eq_false', decide_eq_true_eq, decide_eq_false_iff_not] at g21r
        refine JO_shun rfl ⟨_, rfl, g21⟩ ?_
        refine JO_shun rfl ⟨_, rfl, g21⟩ ?_
        refine JO_shun rfl ⟨_, rfl, g21⟩ ?_
        refine JO_read (vB false) rfl trivial (fun _ _ => x_pick_f rfl g21 rfl) ?_
        refine JO_nil (JX_cut (false) (by rw [g21]; simp) ⟨rfl, rfl, rfl, rfl, rfl, rfl, rfl, rfl, trivial⟩ (fun _ h => h))
    rintro z20 rfl
    refine JO_read (vB ((((((decide ((R26.key a r).1 = (R26.key a r).1)) && (decide (((R26.key a r).2) = ((R26.key a r).2)))) && (decide ((R26.record a k b).1 = (R26.record a k b).1))) && (decide ((R26.record a k b).2 = (R26.record a k b).2))) && (decide ((R26.parts a r).1 = (R26.parts a r).1))) && (decide ((R26.parts a r).2.1 = (R26.parts a r).2.1)))) rfl trivial (fun _ _ => rfl) ?_
    refine JO_cut (X := Bool) 4 (fun z => z = (((((((decide ((R26.key a r).1 = (R26.key a r).1)) && (decide (((R26.key a r).2) = ((R26.key a r).2)))) && (decide ((R26.record a k b).1 = (R26.record a k b).1))) && (decide ((R26.record a k b).2 = (R26.record a k b).2))) && (decide ((R26.parts a r).1 = (R26.parts a r).1))) && (decide ((R26.parts a r).2.1 = (R26.parts a r).2.1))) && (decide ((R26.parts a r).2.2 = (R26.parts a r).2.2)))) (fun z => [(8, vB false), (23, Value.pointer (some ⟨b4, 0, none⟩)), (24, vI ((R26.span a k).2)), (25, Value.pointer (some ⟨b5, 0, none⟩)), (26, vI ((R26.span a k).2)), (119, vB z)]) (fun _ => [Ent.blk b5 41 [vS (((R26.span a k).1).Low), vS (((R26.span a k).1).High), vB (((R26.span a k).1).End)], Ent.blk b4 41 [vS (((R26.span a k).1).Low), vS (((R26.span a k).1).High), vB (((R26.span a k).1).End)], Ent.blk b2 9 [vS r, vS k, vS b], Ent.blk b1 23 (DataSet.enc a)]) ?_ ?_
    · rcases Bool.eq_false_or_eq_true ((((((decide ((R26.key a r).1 = (R26.key a r).1)) && (decide (((R26.key a r).2) = ((R26.key a r).2)))) && (decide ((R26.record a k b).1 = (R26.record a k b).1))) && (decide ((R26.record a k b).2 = (R26.record a k b).2))) && (decide ((R26.parts a r).1 = (R26.parts a r).1))) && (decide ((R26.parts a r).2.1 = (R26.parts a r).2.1))) with g27 | g27
      · have g27r := g27
        have ⟨g27r, h28⟩ := band_true g27r
        have ⟨g27r, h29⟩ := band_true g27r
        have ⟨g27r, h30⟩ := band_true g27r
        have ⟨g27r, h31⟩ := band_true g27r
        have ⟨g27r, h32⟩ := band_true g27r
        have g27r := of_decide_eq_true g27r
        have h32 := of_decide_eq_true h32
        have h31 := of_decide_eq_true h31
        have h30 := of_decide_eq_true h30
        have h29 := of_decide_eq_true h29
        have h28 := of_decide_eq_true h28
        refine JO_read (vI ((R26.parts a r).2.2)) rfl ⟨_, rfl, g27⟩ (fun _ _ => rfl) ?_
        refine JO_read (vI ((R26.parts a r).2.2)) rfl ⟨_, rfl, g27⟩ (fun _ _ => rfl) ?_
        refine JO_read (vB (decide ((R26.parts a r).2.2 = (R26.parts a r).2.2))) rfl ⟨_, rfl, g27⟩ (fun _ _ => x_eql_i rfl rfl) ?_
        refine JO_read (vB (decide ((R26.parts a r).2.2 = (R26.parts a r).2.2))) rfl trivial (fun _ _ => x_pick_t rfl g27 rfl) ?_
        refine JO_nil (JX_cut (decide ((R26.parts a r).2.2 = (R26.parts a r).2.2)) (by rw [g27]; simp) ⟨rfl, rfl, rfl, rfl, rfl, rfl, trivial⟩ (fun _ h => h))
      · have g27r := g27
        simp only [Bool.and_eq_true, Bool.or_eq_true, Bool.and_eq_false_iff, Bool.or_eq_false_iff, Bool.not_eq_true', Bool.not_eq_false', decide_eq_true_eq, decide_eq_false_iff_not] at g27r
        refine JO_shun rfl ⟨_, rfl, g27⟩ ?_
        refine JO_shun rfl ⟨_, rfl, g27⟩ ?_
        refine JO_shun rfl ⟨_, rfl, g27⟩ ?_
        refine JO_read (vB false) rfl trivial (fun _ _ => x_pick_f rfl g27 rfl) ?_
        refine JO_nil (JX_cut (false) (by rw [g27]; simp) ⟨rfl, rfl, rfl, rfl, rfl, rfl, trivial⟩ (fun _ h => h))
    rintro z26 rfl
    refine JO_read (vB (((((((decide ((R26.key a r).1 = (R26.key a r).1)) && (decide (((R26.key a r).2) = ((R26.key a r).2)))) && (decide ((R26.record a k b).1 = (R26.record a k b).1))) && (decide ((R26.record a k b).2 = (R26.record a k b).2))) && (decide ((R26.parts a r).1 = (R26.parts a r).1))) && (decide ((R26.parts a r).2.1 = (R26.parts a r).2.1))) && (decide ((R26.parts a r).2.2 = (R26.parts a r).2.2)))) rfl trivial (fun _ _ => rfl) ?_
    refine JO_cut (X := Bool) 4 (fun z => z = ((((((((decide ((R26.key a r).1 = (R26.key a r).1)) && (decide (((R26.key a r).2) = ((R26.key a r).2)))) && (decide ((R26.record a k b).1 = (R26.record a k b).1))) && (decide ((R26.record a k b).2 = (R26.record a k b).2))) && (decide ((R26.parts a r).1 = (R26.parts a r).1))) && (decide ((R26.parts a r).2.1 = (R26.parts a r).2.1))) && (decide ((R26.parts a r).2.2 = (R26.parts a r).2.2))) && (decide ((((R26.span a k).1) : Range) = ((R26.span a k).1))))) (fun z => [(8, vB false), (24, vI ((R26.span a k).2)), (26, vI ((R26.span a k).2)), (124, vB z)]) (fun _ => [Ent.blk b5 41 [vS (((R26.span a k).1).Low), vS (((R26.span a k).1).High), vB (((R26.span a k).1).End)], Ent.blk b4 41 [vS (((R26.span a k).1).Low), vS (((R26.span a k).1).High), vB (((R26.span a k).1).End)], Ent.blk b2 9 [vS r, vS k, vS b], Ent.blk b1 23 (DataSet.enc a)]) ?_ ?_
    · rcases Bool.eq_false_or_eq_true (((((((decide ((R26.key a r).1 = (R26.key a r).1)) && (decide (((R26.key a r).2) = ((R26.key a r).2)))) && (decide ((R26.record a k b).1 = (R26.record a k b).1))) && (decide ((R26.record a k b).2 = (R26.record a k b).2))) && (decide ((R26.parts a r).1 = (R26.parts a r).1))) && (decide ((R26.parts a r).2.1 = (R26.parts a r).2.1))) && (decide ((R26.parts a r).2.2 = (R26.parts a r).2.2))) with g34 | g34
      · have g34r := g34
        have ⟨g34r, h35⟩ := band_true g34r
        have ⟨g34r, h36⟩ := band_true g34r
        have ⟨g34r, h37⟩ := band_true g34r
        have ⟨g34r, h38⟩ := band_true g34r
        have ⟨g34r, h39⟩ := band_true g34r
        have ⟨g34r, h40⟩ := band_true g34r
        have g34r := of_decide_eq_true g34r
        have h40 := of_decide_eq_true h40
        have h39 := of_decide_eq_true h39
        have h38 := of_decide_eq_true h38
        have h37 := of_decide_eq_true h37
        have h36 := of_decide_eq_true h36
        have h35 := of_decide_eq_true h35
        refine JO_read (Value.agg #[vS (((R26.span a k).1).Low), vS (((R26.span a k).1).High), vB (((R26.span a k).1).End)]) rfl ⟨_, rfl, g34⟩ (x_loadN 1 [vS (((R26.span a k).1).Low), vS (((R26.span a k).1).High), vB (((R26.span a k).1).End)] rfl rfl Ty.ag41 Ty.sz41 rfl) ?_
        refine JO_read (Value.agg #[vS (((R26.span a k).1).Low), vS (((R26.span a k).1).High), vB (((R26.span a k).1).End)]) rfl ⟨_, rfl, g34⟩ (x_loadN 0 [vS (((R26.span a k).1).Low), vS (((R26.span a k).1).High), vB (((R26.span a k).1).End)] rfl rfl Ty.ag41 Ty.sz41 rfl) ?_
        refine JO_read (vB (decide ((((R26.span a k).1) : Range) = ((R26.span a k).1)))) rfl ⟨_, rfl, g34⟩ (fun _ _ => x_eql_agg rfl rfl Ty.eg41 (Ty.eq41 9998 ((R26.span a k).1) ((R26.span a k).1))) ?_
        refine JO_read (vB (decide ((((R26.span a k).1) : Range) = ((R26.span a k).1)))) rfl trivial (fun _ _ => x_pick_t rfl g34 rfl) ?_
        refine JO_nil (JX_cut (decide ((((R26.span a k).1) : Range) = ((R26.span a k).1))) (by rw [g34]; simp) ⟨rfl, rfl, rfl, rfl, trivial⟩ (fun _ h => h))
      · have g34r := g34
        simp only [Bool.and_eq_true, Bool.or_eq_true, Bool.and_eq_false_iff, Bool.or_eq_false_iff, Bool.not_eq_true', Bool.not_eq_false', decide_eq_true_eq, decide_eq_false_iff_not] at g34r
        refine JO_shun rfl ⟨_, rfl, g34⟩ ?_
        refine JO_shun rfl ⟨_, rfl, g34⟩ ?_
        refine JO_shun rfl ⟨_, rfl, g34⟩ ?_
        refine JO_read (vB false) rfl trivial (fun _ _ => x_pick_f rfl g34 rfl) ?_
        refine JO_nil (JX_cut (false) (by rw [g34]; simp) ⟨rfl, rfl, rfl, rfl, trivial⟩ (fun _ h => h))
    rintro z33 rfl
    refine JO_read (vB ((((((((decide ((R26.key a r).1 = (R26.key a r).1)) && (decide (((R26.key a r).2) = ((R26.key a r).2)))) && (decide ((R26.record a k b).1 = (R26.record a k b).1))) && (decide ((R26.record a k b).2 = (R26.record a k b).2))) && (decide ((R26.parts a r).1 = (R26.parts a r).1))) && (decide ((R26.parts a r).2.1 = (R26.parts a r).2.1))) && (decide ((R26.parts a r).2.2 = (R26.parts a r).2.2))) && (decide ((((R26.span a k).1) : Range) = ((R26.span a k).1))))) rfl trivial (fun _ _ => rfl) ?_
    refine JO_cut (X := Bool) 4 (fun z => z = (((((((((decide ((R26.key a r).1 = (R26.key a r).1)) && (decide (((R26.key a r).2) = ((R26.key a r).2)))) && (decide ((R26.record a k b).1 = (R26.record a k b).1))) && (decide ((R26.record a k b).2 = (R26.record a k b).2))) && (decide ((R26.parts a r).1 = (R26.parts a r).1))) && (decide ((R26.parts a r).2.1 = (R26.parts a r).2.1))) && (decide ((R26.parts a r).2.2 = (R26.parts a r).2.2))) && (decide ((((R26.span a k).1) : Range) = ((R26.span a k).1)))) && (decide ((R26.span a k).2 = (R26.span a k).2)))) (fun z => [(8, vB false), (129, vB z)]) (fun _ => [Ent.blk b5 41 [vS (((R26.span a k).1).Low), vS (((R26.span a k).1).High), vB (((R26.span a k).1).End)], Ent.blk b4 41 [vS (((R26.span a k).1).Low), vS (((R26.span a k).1).High), vB (((R26.span a k).1).End)], Ent.blk b2 9 [vS r, vS k, vS b], Ent.blk b1 23 (DataSet.enc a)]) ?_ ?_
    · rcases Bool.eq_false_or_eq_true ((((((((decide ((R26.key a r).1 = (R26.key a r).1)) && (decide (((R26.key a r).2) = ((R26.key a r).2)))) && (decide ((R26.record a k b).1 = (R26.record a k b).1))) && (decide ((R26.record a k b).2 = (R26.record a k b).2))) && (decide ((R26.parts a r).1 = (R26.parts a r).1))) && (decide ((R26.parts a r).2.1 = (R26.parts a r).2.1))) && (decide ((R26.parts a r).2.2 = (R26.parts a r).2.2))) && (decide ((((R26.span a k).1) : Range) = ((R26.span a k).1)))) with g42 | g42
      · have g42r := g42
        have ⟨g42r, h43⟩ := band_true g42r
        have ⟨g42r, h44⟩ := band_true g42r
        have ⟨g42r, h45⟩ := band_true g42r
        have ⟨g42r, h46⟩ := band_true g42r
        have ⟨g42r, h47⟩ := band_true g42r
        have ⟨g42r, h48⟩ := band_true g42r
        have ⟨g42r, h49⟩ := band_true g42r
        have g42r := of_decide_eq_true g42r
        have h49 := of_decide_eq_true h49
        have h48 := of_decide_eq_true h48
        have h47 := of_decide_eq_true h47
        have h46 := of_decide_eq_true h46
        have h45 := of_decide_eq_true h45
        have h44 := of_decide_eq_true h44
        have h43 := of_decide_eq_true h43
        refine JO_read (vI ((R26.span a k).2)) rfl ⟨_, rfl, g42⟩ (fun _ _ => rfl) ?_
        refine JO_read (vI ((R26.span a k).2)) rfl ⟨_, rfl, g42⟩ (fun _ _ => rfl) ?_
        refine JO_read (vB (decide ((R26.span a k).2 = (R26.span a k).2))) rfl ⟨_, rfl, g42⟩ (fun _ _ => x_eql_i rfl rfl) ?_
        refine JO_read (vB (decide ((R26.span a k).2 = (R26.span a k).2))) rfl trivial (fun _ _ => x_pick_t rfl g42 rfl) ?_
        refine JO_nil (JX_cut (decide ((R26.span a k).2 = (R26.span a k).2)) (by rw [g42]; simp) ⟨rfl, rfl, trivial⟩ (fun _ h => h))
      · have g42r := g42
        simp only [Bool.and_eq_true, Bool.or_eq_true, Bool.and_eq_false_iff, Bool.or_eq_false_iff, Bool.not_eq_true', Bool.not_eq_false', decide_eq_true_eq, decide_eq_false_iff_not] at g42r
        refine JO_shun rfl ⟨_, rfl, g42⟩ ?_
        refine JO_shun rfl ⟨_, rfl, g42⟩ ?_
        refine JO_shun rfl ⟨_, rfl, g42⟩ ?_
        refine JO_read (vB false) rfl trivial (fun _ _ => x_pick_f rfl g42 rfl) ?_
        refine JO_nil (JX_cut (false) (by rw [g42]; simp) ⟨rfl, rfl, trivial⟩ (fun _ h => h))
    rintro z41 rfl
    refine JO_read (vB (((((((((decide ((R26.key a r).1 = (R26.key a r).1)) && (decide (((R26.key a r).2) = ((R26.key a r).2)))) && (decide ((R26.record a k b).1 = (R26.record a k b).1))) && (decide ((R26.record a k b).2 = (R26.record a k b).2))) && (decide ((R26.parts a r).1 = (R26.parts a r).1))) && (decide ((R26.parts a r).2.1 = (R26.parts a r).2.1))) && (decide ((R26.parts a r).2.2 = (R26.parts a r).2.2))) && (decide ((((R26.span a k).1) : Range) = ((R26.span a k).1)))) && (decide ((R26.span a k).2 = (R26.span a k).2)))) rfl trivial (fun _ _ => rfl) ?_
    refine JO_nil ?_
    refine JX_then ?_
    refine J_ret ?_
    refine JX_rets [vB (((((((((decide ((R26.key a r).1 = (R26.key a r).1)) && (decide (((R26.key a r).2) = ((R26.key a r).2)))) && (decide ((R26.record a k b).1 = (R26.record a k b).1))) && (decide ((R26.record a k b).2 = (R26.record a k b).2))) && (decide ((R26.parts a r).1 = (R26.parts a r).1))) && (decide ((R26.parts a r).2.1 = (R26.parts a r).2.1))) && (decide ((R26.parts a r).2.2 = (R26.parts a r).2.2))) && (decide ((((R26.span a k).1) : Range) = ((R26.span a k).1)))) && (decide ((R26.span a k).2 = (R26.span a k).2)))] (vB (((((((((decide ((R26.key a r).1 = (R26.key a r).1)) && (decide (((R26.key a r).2) = ((R26.key a r).2)))) && (decide ((R26.record a k b).1 = (R26.record a k b).1))) && (decide ((R26.record a k b).2 = (R26.record a k b).2))) && (decide ((R26.parts a r).1 = (R26.parts a r).1))) && (decide ((R26.parts a r).2.1 = (R26.parts a r).2.1))) && (decide ((R26.parts a r).2.2 = (R26.parts a r).2.2))) && (decide ((((R26.span a k).1) : Range) = ((R26.span a k).1)))) && (decide ((R26.span a k).2 = (R26.span a k).2)))) Try.results5 (fun w h => ⟨rfl, trivial⟩) rfl [] (fun _ h => h.keep [false, false, false, false] rfl) ⟨?_, ?_⟩
    · have e_x0 : (((((((((decide ((R26.key a r).1 = (R26.key a r).1)) && (decide (((R26.key a r).2) = ((R26.key a r).2)))) && (decide ((R26.record a k b).1 = (R26.record a k b).1))) && (decide ((R26.record a k b).2 = (R26.record a k b).2))) && (decide ((R26.parts a r).1 = (R26.parts a r).1))) && (decide ((R26.parts a r).2.1 = (R26.parts a r).2.1))) && (decide ((R26.parts a r).2.2 = (R26.parts a r).2.2))) && (decide ((((R26.span a k).1) : Range) = ((R26.span a k).1)))) && (decide ((R26.span a k).2 = (R26.span a k).2)) : Bool) = true := by
        first | rfl | (simp; done)
      exact congrArg (fun (x0 : Bool) => vB x0) e_x0
    · rfl

end Go.Proofs.Ytimjfpioenkbjaa
