/- contracts L26d -/
import Derived.Test.YtimjfpioenkbjaaC26e
namespace Go.Proofs.Ytimjfpioenkbjaa
open Go.GV
set_option linter.unusedVariables false
set_option linter.unusedSimpArgs false

set_option maxRecDepth 20000 in
theorem f6_ok (a : DataSet) (k : Bytes) (b : Bytes) (w : World) : Calls Try.prog 6 #[Value.agg ((DataSet.enc a)).toArray, vS k, vS b] w (Gives [] w fun v L => v = vB true ∧ L = []) := by
  refine calls_J [] 75 Try.func6 rfl Try.ntmps6 [(0, Value.agg ((DataSet.enc a)).toArray), (1, vS k), (2, vS b)] rfl rfl (Give.nil w) ?_
  refine J_seq ?_
  refine J_region ?_
  refine JO_op rfl trivial (O_box rfl rfl fun b1 => ?_)
  refine JO_read (vB false) rfl trivial (fun _ _ => rfl) ?_
  refine JO_nil ?_
  refine JX_then ?_
  refine J_seq ?_
  refine J_seq ?_
  refine J_region ?_
  refine JO_call [] [] [Ent.blk b1 23 (DataSet.enc a)] rfl trivial (fun _ => x_call Ty.ca10 rfl) (fun _ h => h) (fun _ h => by cases h) (fun w hS => f10_ok w) ?_
  rintro _ _ ⟨rfl, rfl⟩
  refine JO_read (vB false) rfl trivial (fun _ _ => rfl) ?_
  refine JO_nil ?_
  refine JX_then ?_
  refine J_cond false rfl rfl (fun h => by cases h) (fun h => ?_)
  refine J_skip ?_
  refine JX_then ?_
  refine J_seq ?_
  refine J_seq ?_
  refine J_region ?_
  refine JO_read (vS k) rfl trivial (fun _ _ => rfl) ?_
  refine JO_read (vI ((k.length : Nat) : Int)) rfl trivial (fun _ _ => x_len_s rfl Try.underlying9) ?_
  refine JO_read (vB (decide ((100 : Int) < ((k.length : Nat) : Int)))) rfl trivial (fun _ _ => x_gtr_i rfl rfl) ?_
  refine JO_read (vB (decide ((100 : Int) < ((k.length : Nat) : Int)))) rfl trivial (fun _ _ => rfl) ?_
  refine JO_cut (X := Bool) 4 (fun z => z = ((decide ((100 : Int) < ((k.length : Nat) : Int))) || (decide ((100 : Int) < ((b.length : Nat) : Int))))) (fun z => [(1, vS k), (2, vS b), (3, Value.pointer (some ⟨b1, 0, none⟩)), (6, vB false), (22, vB z)]) (fun _ => [Ent.blk b1 23 (DataSet.enc a)]) ?_ ?_
  · rcases Bool.eq_false_or_eq_true (decide ((100 : Int) < ((k.length : Nat) : Int))) with g3 | g3
    · have g3r := g3
      have g3r := of_decide_eq_true g3r
      refine JO_shun rfl ⟨_, rfl, g3⟩ ?_
      refine JO_shun rfl ⟨_, rfl, g3⟩ ?_
      refine JO_shun rfl ⟨_, rfl, g3⟩ ?_
      refine JO_read (vB true) rfl trivial (fun _ _ => x_pick_t rfl g3 rfl) ?_
      refine JO_nil (JX_cut (true) (by rw [g3]; simp) ⟨rfl, rfl, rfl, rfl, rfl, trivial⟩ (fun _ h => h))
    · have g3r := g3
      have g3r := of_decide_eq_false g3r
      refine JO_read (vS b) rfl ⟨_, rfl, g3⟩ (fun _ _ => rfl) ?_
      refine JO_read (vI ((b.length : Nat) : Int)) rfl ⟨_, rfl, g3⟩ (fun _ _ => x_len_s rfl Try.underlying9) ?_
      refine JO_read (vB (decide ((100 : Int) < ((b.length : Nat) : Int)))) rfl ⟨_, rfl, g3⟩ (fun _ _ => x_gtr_i rfl rfl) ?_
      refine JO_read (vB (decide ((100 : Int) < ((b.length : Nat) : Int)))) rfl trivial (fun _ _ => x_pick_f rfl g3 rfl) ?_
      refine JO_nil (JX_cut (decide ((100 : Int) < ((b.length : Nat) : Int))) (by rw [g3]; simp) ⟨rfl, rfl, rfl, rfl, rfl, trivial⟩ (fun _ h => h))
  rintro z2 rfl
  refine JO_nil ?_
  refine JX_then ?_
  refine J_cond ((decide ((100 : Int) < ((k.length : Nat) : Int))) || (decide ((100 : Int) < ((b.length : Nat) : Int)))) rfl rfl (fun h4 => ?_) (fun h4 => ?_)
  · simp only [Bool.and_eq_true, Bool.or_eq_true, Bool.and_eq_false_iff, Bool.or_eq_false_iff, Bool.not_eq_true', Bool.not_eq_false', decide_eq_true_eq, decide_eq_false_iff_not] at h4
    refine J_seq ?_
    refine J_region ?_
    refine JO_read (vB true) rfl trivial (fun _ _ => rfl) ?_
    refine JO_nil ?_
    refine JX_then ?_
    refine J_ret ?_
    refine JX_then_ret ?_
    refine JX_rets [vB true] (vB true) Try.results6 (fun w h => ⟨rfl, trivial⟩) rfl [] (fun _ h => h.keep [false] rfl) ⟨?_, ?_⟩
    · rfl
    · rfl
  · have ⟨h4, h5⟩ := bor_false h4
    have h4 := of_decide_eq_false h4
    have h5 := of_decide_eq_false h5
    refine J_skip ?_
    refine JX_then ?_
    refine J_seq ?_
    refine J_region ?_
    refine JO_read (Value.agg ((DataSet.enc a)).toArray) rfl trivial (x_loadN 0 (DataSet.enc a) rfl rfl Ty.ag23 Ty.sz23 rfl) ?_
    refine JO_read (vS k) rfl trivial (fun _ _ => rfl) ?_
    refine JO_read (vS b) rfl trivial (fun _ _ => rfl) ?_
    refine JO_call [] [] [Ent.blk b1 23 (DataSet.enc a)] rfl trivial (fun _ => x_call Ty.ca19 rfl) (fun _ h => h) (fun _ h => by cases h) (fun w hS => f19_ok a k b w) ?_
    rintro _ _ ⟨rfl, rfl⟩
    refine JO_read (Value.tuple #[vS ((R26.record a k b).1), vI ((R26.record a k b).2)]) rfl trivial (fun _ _ => rfl) ?_
    refine JO_read (vS ((R26.record a k b).1)) rfl trivial (fun _ _ => rfl) ?_
    refine JO_read (vI ((R26.record a k b).2)) rfl trivial (fun _ _ => rfl) ?_
    refine JO_read (vS ((R26.record a k b).1)) rfl trivial (fun _ _ => rfl) ?_
    refine JO_read (vI ((R26.record a k b).2)) rfl trivial (fun _ _ => rfl) ?_
    refine JO_nil ?_
    refine JX_then ?_
    refine J_seq ?_
    refine J_seq ?_
    refine J_region ?_
    refine JO_read (vI ((R26.record a k b).2)) rfl trivial (fun _ _ => rfl) ?_
    refine JO_read (vB (decide ((R26.record a k b).2 ≠ 0))) rfl trivial (fun _ _ => x_neq_i rfl rfl) ?_
    refine JO_nil ?_
    refine JX_then ?_
    refine J_cond (decide ((R26.record a k b).2 ≠ 0)) rfl rfl (fun h6 => ?_) (fun h6 => ?_)
    · have h6 := of_decide_eq_true h6
      refine J_seq ?_
      refine J_region ?_
      refine JO_read (vS ((R26.record a k b).1)) rfl trivial (fun _ _ => rfl) ?_
      refine JO_read (vB (decide ((R26.record a k b).1 = ([] : Bytes)))) rfl trivial (fun _ _ => x_eql_s rfl rfl) ?_
      refine JO_read (vB (decide ((R26.record a k b).1 = ([] : Bytes)))) rfl trivial (fun _ _ => rfl) ?_
      refine JO_nil ?_
      refine JX_then ?_
      refine J_ret ?_
      refine JX_then_ret ?_
      refine JX_rets [vB (decide ((R26.record a k b).1 = ([] : Bytes)))] (vB (decide ((R26.record a k b).1 = ([] : Bytes)))) Try.results6 (fun w h => ⟨rfl, trivial⟩) rfl [] (fun _ h => h.keep [false] rfl) ⟨?_, ?_⟩
      · have e_x0 : (decide ((R26.record a k b).1 = ([] : Bytes)) : Bool) = true := by
          first
            | rfl
            | exact R26.record_err (by assumption)
            | exact R26.inverts_law (by assumption)
        exact congrArg (fun (x0 : Bool) => vB x0) e_x0
      · rfl
    · have h6 := of_decide_eq_false h6
      refine J_skip ?_
      refine JX_then ?_
      refine J_seq ?_
      refine J_region ?_
      refine JO_read (Value.agg ((DataSet.enc a)).toArray) rfl trivial (x_loadN 0 (DataSet.enc a) rfl rfl Ty.ag23 Ty.sz23 rfl) ?_
      refine JO_read (vS ((R26.record a k b).1)) rfl trivial (fun _ _ => rfl) ?_
      refine JO_call [] [] [Ent.blk b1 23 (DataSet.enc a)] rfl trivial (fun _ => x_call Ty.ca21 rfl) (fun _ h => h) (fun _ h => by cases h) (fun w hS => f21_ok a ((R26.record a k b).1) w) ?_
      rintro _ _ ⟨rfl, rfl⟩
      refine JO_read (Value.tuple #[vS ((R26.parts a ((R26.record a k b).1)).1), vS ((R26.parts a ((R26.record a k b).1)).2.1), vI ((R26.parts a ((R26.record a k b).1)).2.2)]) rfl trivial (fun _ _ => rfl) ?_
      refine JO_read (vS ((R26.parts a ((R26.record a k b).1)).1)) rfl trivial (fun _ _ => rfl) ?_
      refine JO_read (vS ((R26.parts a ((R26.record a k b).1)).2.1)) rfl trivial (fun _ _ => rfl) ?_
      refine JO_read (vI ((R26.parts a ((R26.record a k b).1)).2.2)) rfl trivial (fun _ _ => rfl) ?_
      refine JO_read (vS ((R26.parts a ((R26.record a k b).1)).1)) rfl trivial (fun _ _ => rfl) ?_
      refine JO_read (vS ((R26.parts a ((R26.record a k b).1)).2.1)) rfl trivial (fun _ _ => rfl) ?_
      refine JO_read (vI ((R26.parts a ((R26.record a k b).1)).2.2)) rfl trivial (fun _ _ => rfl) ?_
      refine JO_nil ?_
      refine JX_then ?_
      refine J_seq ?_
      refine J_region ?_
      refine JO_read (Value.agg ((DataSet.enc a)).toArray) rfl trivial (x_loadN 0 (DataSet.enc a) rfl rfl Ty.ag23 Ty.sz23 rfl) ?_
      refine JO_read (vS k) rfl trivial (fun _ _ => rfl) ?_
      refine JO_call [] [] [Ent.blk b1 23 (DataSet.enc a)] rfl trivial (fun _ => x_call Ty.ca23 rfl) (fun _ h => h) (fun _ h => by cases h) (fun w hS => f23_ok a k w) ?_
      rintro _ _ ⟨rfl, rfl⟩
      refine JO_read (Value.tuple #[Value.agg #[vS (((R26.span a k).1).Low), vS (((R26.span a k).1).High), vB (((R26.span a k).1).End)], vI ((R26.span a k).2)]) rfl trivial (fun _ _ => rfl) ?_
      refine JO_read (Value.agg #[vS (((R26.span a k).1).Low), vS (((R26.span a k).1).High), vB (((R26.span a k).1).End)]) rfl trivial (fun _ _ => rfl) ?_
      refine JO_read (vI ((R26.span a k).2)) rfl trivial (fun _ _ => rfl) ?_
      refine JO_op rfl trivial (O_alloc Ty.ze41 rfl fun b7 => ?_)
      refine JO_op rfl trivial (O_store 0 [vS (((R26.span a k).1).Low), vS (((R26.span a k).1).High), vB (((R26.span a k).1).End)] [Ent.blk b7 41 [vS (((R26.span a k).1).Low), vS (((R26.span a k).1).High), vB (((R26.span a k).1).End)], Ent.blk b1 23 (DataSet.enc a)] rfl rfl rfl Ty.sz41 rfl (Nat.le_of_ble_eq_true rfl) rfl rfl rfl ?_)
      refine JO_read (vI ((R26.span a k).2)) rfl trivial (fun _ _ => rfl) ?_
      refine JO_nil ?_
      refine JX_then ?_
      refine J_seq ?_
      refine J_region ?_
      refine JO_read (vI ((R26.parts a ((R26.record a k b).1)).2.2)) rfl trivial (fun _ _ => rfl) ?_
      refine JO_read (vB (decide ((R26.parts a ((R26.record a k b).1)).2.2 = 0))) rfl trivial (fun _ _ => x_eql_i rfl rfl) ?_
      refine JO_read (vB (decide ((R26.parts a ((R26.record a k b).1)).2.2 = 0))) rfl trivial (fun _ _ => rfl) ?_
      refine JO_cut (X := Bool) 4 (fun z => z = ((decide ((R26.parts a ((R26.record a k b).1)).2.2 = 0)) && (decide ((R26.parts a ((R26.record a k b).1)).1 = k)))) (fun z => [(2, vS b), (3, Value.pointer (some ⟨b1, 0, none⟩)), (6, vB false), (7, vS ((R26.record a k b).1)), (10, vS ((R26.parts a ((R26.record a k b).1)).2.1)), (11, Value.pointer (some ⟨b7, 0, none⟩)), (12, vI ((R26.span a k).2)), (53, vB z)]) (fun _ => [Ent.blk b7 41 [vS (((R26.span a k).1).Low), vS (((R26.span a k).1).High), vB (((R26.span a k).1).End)], Ent.blk b1 23 (DataSet.enc a)]) ?_ ?_
      · rcases Bool.eq_false_or_eq_true (decide ((R26.parts a ((R26.record a k b).1)).2.2 = 0)) with g9 | g9
        · have g9r := g9
          have g9r := of_decide_eq_true g9r
          refine JO_read (vS ((R26.parts a ((R26.record a k b).1)).1)) rfl ⟨_, rfl, g9⟩ (fun _ _ => rfl) ?_
          refine JO_read (vS k) rfl ⟨_, rfl, g9⟩ (fun _ _ => rfl) ?_
          refine JO_read (vB (decide ((R26.parts a ((R26.record a k b).1)).1 = k))) rfl ⟨_, rfl, g9⟩ (fun _ _ => x_eql_s rfl rfl) ?_
          refine JO_read (vB (decide ((R26.parts a ((R26.record a k b).1)).1 = k))) rfl trivial (fun _ _ => x_pick_t rfl g9 rfl) ?_
          refine JO_nil (JX_cut (decide ((R26.parts a ((R26.record a k b).1)).1 = k)) (by rw [g9]; simp) ⟨rfl, rfl, rfl, rfl, rfl, rfl, rfl, rfl, trivial⟩ (fun _ h => h))
        · have g9r := g9
          have g9r := of_decide_eq_false g9r
          refine JO_shun rfl ⟨_, rfl, g9⟩ ?_
          refine JO_shun rfl ⟨_, rfl, g9⟩ ?_
          refine JO_shun rfl ⟨_, rfl, g9⟩ ?_
          refine JO_read (vB false) rfl trivial (fun _ _ => x_pick_f rfl g9 rfl) ?_
          refine JO_nil (JX_cut (false) (by rw [g9]; simp) ⟨rfl, rfl, rfl, rfl, rfl, rfl, rfl, rfl, trivial⟩ (fun _ h => h))
      rintro z8 rfl
      refine JO_read (vB ((decide ((R26.parts a ((R26.record a k b).1)).2.2 = 0)) && (decide ((R26.parts a ((R26.record a k b).1)).1 = k)))) rfl trivial (fun _ _ => rfl) ?_
      refine JO_cut (X := Bool) 4 (fun z => z = (((decide ((R26.parts a ((R26.record a k b).1)).2.2 = 0)) && (decide ((R26.parts a ((R26.record a k b).1)).1 = k))) && (decide ((R26.parts a ((R26.record a k b).1)).2.1 = b)))) (fun z => [(3, Value.pointer (some ⟨b1, 0, none⟩)), (6, vB false), (7, vS ((R26.record a k b).1)), (11, Value.pointer (some ⟨b7, 0, none⟩)), (12, vI ((R26.span a k).2)), (58, vB z)]) (fun _ => [Ent.blk b7 41 [vS (((R26.span a k).1).Low), vS (((R26.span a k).1).High), vB (((R26.span a k).1).End)], Ent.blk b1 23 (DataSet.enc a)]) ?_ ?_
      · rcases Bool.eq_false_or_eq_true ((decide ((R26.parts a ((R26.record a k b).1)).2.2 = 0)) && (decide ((R26.parts a ((R26.record a k b).1)).1 = k))) with g11 | g11
        · have g11r := g11
          have ⟨g11r, h12⟩ := band_true g11r
          have g11r := of_decide_eq_true g11r
          have h12 := of_decide_eq_true h12
          refine JO_read (vS ((R26.parts a ((R26.record a k b).1)).2.1)) rfl ⟨_, rfl, g11⟩ (fun _ _ => rfl) ?_
          refine JO_read (vS b) rfl ⟨_, rfl, g11⟩ (fun _ _ => rfl) ?_
          refine JO_read (vB (decide ((R26.parts a ((R26.record a k b).1)).2.1 = b))) rfl ⟨_, rfl, g11⟩ (fun _ _ => x_eql_s rfl rfl) ?_
          refine JO_read (vB (decide ((R26.parts a ((R26.record a k b).1)).2.1 = b))) rfl trivial (fun _ _ => x_pick_t rfl g11 rfl) ?_
          refine JO_nil (JX_cut (decide ((R26.parts a ((R26.record a k b).1)).2.1 = b)) (by rw [g11]; simp) ⟨rfl, rfl, rfl, rfl, rfl, rfl, trivial⟩ (fun _ h => h))
        · have g11r := g11
          simp only [Bool.and_eq_true, Bool.or_eq_true, Bool.and_eq_false_iff, Bool.or_eq_false_iff, Bool.not_eq_true', Bool.not_eq_false', decide_eq_true_eq, decide_eq_false_iff_not] at g11r
          refine JO_shun rfl ⟨_, rfl, g11⟩ ?_
          refine JO_shun rfl ⟨_, rfl, g11⟩ ?_
          refine JO_shun rfl ⟨_, rfl, g11⟩ ?_
          refine JO_read (vB false) rfl trivial (fun _ _ => x_pick_f rfl g11 rfl) ?_
          refine JO_nil (JX_cut (false) (by rw [g11]; simp) ⟨rfl, rfl, rfl, rfl, rfl, rfl, trivial⟩ (fun _ h => h))
      rintro z10 rfl
      refine JO_read (vB (((decide ((R26.parts a ((R26.record a k b).1)).2.2 = 0)) && (decide ((R26.parts a ((R26.record a k b).1)).1 = k))) && (decide ((R26.parts a ((R26.record a k b).1)).2.1 = b)))) rfl trivial (fun _ _ => rfl) ?_
      refine JO_cut (X := Bool) 3 (fun z => z = ((((decide ((R26.parts a ((R26.record a k b).1)).2.2 = 0)) && (decide ((R26.parts a ((R26.record a k b).1)).1 = k))) && (decide ((R26.parts a ((R26.record a k b).1)).2.1 = b))) && (decide ((R26.span a k).2 = 0)))) (fun z => [(3, Value.pointer (some ⟨b1, 0, none⟩)), (6, vB false), (7, vS ((R26.record a k b).1)), (11, Value.pointer (some ⟨b7, 0, none⟩)), (62, vB z)]) (fun _ => [Ent.blk b7 41 [vS (((R26.span a k).1).Low), vS (((R26.span a k).1).High), vB (((R26.span a k).1).End)], Ent.blk b1 23 (DataSet.enc a)]) ?_ ?_
      · rcases Bool.eq_false_or_eq_true (((decide ((R26.parts a ((R26.record a k b).1)).2.2 = 0)) && (decide ((R26.parts a ((R26.record a k b).1)).1 = k))) && (decide ((R26.parts a ((R26.record a k b).1)).2.1 = b))) with g14 | g14
        · have g14r := g14
          have ⟨g14r, h15⟩ := band_true g14r
          have ⟨g14r, h16⟩ := band_true g14r
          have g14r := of_decide_eq_true g14r
          have h16 := of_decide_eq_true h16
          have h15 := of_decide_eq_true h15
          refine JO_read (vI ((R26.span a k).2)) rfl ⟨_, rfl, g14⟩ (fun _ _ => rfl) ?_
          refine JO_read (vB (decide ((R26.span a k).2 = 0))) rfl ⟨_, rfl, g14⟩ (fun _ _ => x_eql_i rfl rfl) ?_
          refine JO_read (vB (decide ((R26.span a k).2 = 0))) rfl trivial (fun _ _ => x_pick_t rfl g14 rfl) ?_
          refine JO_nil (JX_cut (decide ((R26.span a k).2 = 0)) (by rw [g14]; simp) ⟨rfl, rfl, rfl, rfl, rfl, trivial⟩ (fun _ h => h))
        · have g14r := g14
          simp only [Bool.and_eq_true, Bool.or_eq_true, Bool.and_eq_false_iff, Bool.or_eq_false_iff, Bool.not_eq_true', Bool.not_eq_false', decide_eq_true_eq, decide_eq_false_iff_not] at g14r
          refine JO_shun rfl ⟨_, rfl, g14⟩ ?_
          refine JO_shun rfl ⟨_, rfl, g14⟩ ?_
          refine JO_read (vB false) rfl trivial (fun _ _ => x_pick_f rfl g14 rfl) ?_
          refine JO_nil (JX_cut (false) (by rw [g14]; simp) ⟨rfl, rfl, rfl, rfl, rfl, trivial⟩ (fun _ h => h))
      rintro z13 rfl
      refine JO_read (vB ((((decide ((R26.parts a ((R26.record a k b).1)).2.2 = 0)) && (decide ((R26.parts a ((R26.record a k b).1)).1 = k))) && (decide ((R26.parts a ((R26.record a k b).1)).2.1 = b))) && (decide ((R26.span a k).2 = 0)))) rfl trivial (fun _ _ => rfl) ?_
      refine JO_cut (X := Bool) 4 (fun z => z = (((((decide ((R26.parts a ((R26.record a k b).1)).2.2 = 0)) && (decide ((R26.parts a ((R26.record a k b).1)).1 = k))) && (decide ((R26.parts a ((R26.record a k b).1)).2.1 = b))) && (decide ((R26.span a k).2 = 0))) && (R26.inr ((R26.span a k).1) ((R26.record a k b).1)))) (fun z => [(3, Value.pointer (some ⟨b1, 0, none⟩)), (6, vB false), (7, vS ((R26.record a k b).1)), (67, vB z)]) (fun _ => [Ent.blk b7 41 [vS (((R26.span a k).1).Low), vS (((R26.span a k).1).High), vB (((R26.span a k).1).End)], Ent.blk b1 23 (DataSet.enc a)]) ?_ ?_
      · rcases Bool.eq_false_or_eq_true ((((decide ((R26.parts a ((R26.record a k b).1)).2.2 = 0)) && (decide ((R26.parts a ((R26.record a k b).1)).1 = k))) && (decide ((R26.parts a ((R26.record a k b).1)).2.1 = b))) && (decide ((R26.span a k).2 = 0))) with g18 | g18
        · have g18r := g18
          have ⟨g18r, h19⟩ := band_true g18r
          have ⟨g18r, h20⟩ := band_true g18r
          have ⟨g18r, h21⟩ := band_true g18r
          have g18r := of_decide_eq_true g18r
          have h21 := of_decide_eq_true h21
          have h20 := of_decide_eq_true h20
          have h19 := of_decide_eq_true h19
          refine JO_read (Value.agg #[vS (((R26.span a k).1).Low), vS (((R26.span a k).1).High), vB (((R26.span a k).1).End)]) rfl ⟨_, rfl, g18⟩ (x_loadN 0 [vS (((R26.span a k).1).Low), vS (((R26.span a k).1).High), vB (((R26.span a k).1).End)] rfl rfl Ty.ag41 Ty.sz41 rfl) ?_
          refine JO_read (vS ((R26.record a k b).1)) rfl ⟨_, rfl, g18⟩ (fun _ _ => rfl) ?_
          refine JO_call [] [] [Ent.blk b7 41 [vS (((R26.span a k).1).Low), vS (((R26.span a k).1).High), vB (((R26.span a k).1).End)], Ent.blk b1 23 (DataSet.enc a)] rfl ⟨_, rfl, g18⟩ (fun _ => x_call Ty.ca25 rfl) (fun _ h => h) (fun _ h => by cases h) (fun w hS => f25_ok ((R26.span a k).1) ((R26.record a k b).1) w) ?_
          rintro _ _ ⟨rfl, rfl⟩
          refine JO_read (vB (R26.inr ((R26.span a k).1) ((R26.record a k b).1))) rfl trivial (fun _ _ => x_pick_t rfl g18 rfl) ?_
          refine JO_nil (JX_cut (R26.inr ((R26.span a k).1) ((R26.record a k b).1)) (by rw [g18]; simp) ⟨rfl, rfl, rfl, rfl, trivial⟩ (fun _ h => h))
        · have g18r := g18
          simp only [Bool.and_eq_true, Bool.or_eq_true, Bool.and_eq_false_iff, Bool.or_eq_false_iff, Bool.not_eq_true', Bool.not_eq_false', decide_eq_true_eq, decide_eq_false_iff_not] at g18r
          refine JO_shun rfl ⟨_, rfl, g18⟩ ?_
          refine JO_shun rfl ⟨_, rfl, g18⟩ ?_
          refine JO_shun rfl ⟨_, rfl, g18⟩ ?_
          refine JO_read (vB false) rfl trivial (fun _ _ => x_pick_f rfl g18 rfl) ?_
          refine JO_nil (JX_cut (false) (by rw [g18]; simp) ⟨rfl, rfl, rfl, rfl, trivial⟩ (fun _ h => h))
      rintro z17 rfl
      refine JO_read (vB (((((decide ((R26.parts a ((R26.record a k b).1)).2.2 = 0)) && (decide ((R26.parts a ((R26.record a k b).1)).1 = k))) && (decide ((R26.parts a ((R26.record a k b).1)).2.1 = b))) && (decide ((R26.span a k).2 = 0))) && (R26.inr ((R26.span a k).1) ((R26.record a k b).1)))) rfl trivial (fun _ _ => rfl) ?_
      refine JO_cut (X := Bool) 6 (fun z => z = ((((((decide ((R26.parts a ((R26.record a k b).1)).2.2 = 0)) && (decide ((R26.parts a ((R26.record a k b).1)).1 = k))) && (decide ((R26.parts a ((R26.record a k b).1)).2.1 = b))) && (decide ((R26.span a k).2 = 0))) && (R26.inr ((R26.span a k).1) ((R26.record a k b).1))) && (decide (((((R26.record a k b).1).length : Nat) : Int) = a.KeyLength)))) (fun z => [(6, vB false), (74, vB z)]) (fun _ => [Ent.blk b7 41 [vS (((R26.span a k).1).Low), vS (((R26.span a k).1).High), vB (((R26.span a k).1).End)], Ent.blk b1 23 (DataSet.enc a)]) ?_ ?_
      · rcases Bool.eq_false_or_eq_true (((((decide ((R26.parts a ((R26.record a k b).1)).2.2 = 0)) && (decide ((R26.parts a ((R26.record a k b).1)).1 = k))) && (decide ((R26.parts a ((R26.record a k b).1)).2.1 = b))) && (decide ((R26.span a k).2 = 0))) && (R26.inr ((R26.span a k).1) ((R26.record a k b).1))) with g23 | g23
        · have g23r := g23
          have ⟨g23r, h24⟩ := band_true g23r
          have ⟨g23r, h25⟩ := band_true g23r
          have ⟨g23r, h26⟩ := band_true g23r
          have ⟨g23r, h27⟩ := band_true g23r
          have g23r := of_decide_eq_true g23r
          have h27 := of_decide_eq_true h27
          have h26 := of_decide_eq_true h26
          have h25 := of_decide_eq_true h25
          refine JO_read (vS ((R26.record a k b).1)) rfl ⟨_, rfl, g23⟩ (fun _ _ => rfl) ?_
          refine JO_read (vI ((((R26.record a k b).1).length : Nat) : Int)) rfl ⟨_, rfl, g23⟩ (fun _ _ => x_len_s rfl Try.underlying9) ?_
          refine JO_read (Value.pointer (some ⟨b1, 6, none⟩)) rfl ⟨_, rfl, g23⟩ (fun _ _ => x_fieldAddr Ty.fi23_6 rfl rfl) ?_
          refine JO_read (vI a.KeyLength) rfl ⟨_, rfl, g23⟩ (x_load 1 rfl rfl Ty.sc3 rfl) ?_
          refine JO_read (vB (decide (((((R26.record a k b).1).length : Nat) : Int) = a.KeyLength))) rfl ⟨_, rfl, g23⟩ (fun _ _ => x_eql_i rfl rfl) ?_
          refine JO_read (vB (decide (((((R26.record a k b).1).length : Nat) : Int) = a.KeyLength))) rfl trivial (fun _ _ => x_pick_t rfl g23 rfl) ?_
          refine JO_nil (JX_cut (decide (((((R26.record a k b).1).length : Nat) : Int) = a.KeyLength)) (by rw [g23]; simp) ⟨rfl, rfl, trivial⟩ (fun _ h => h))
        · have g23r := g23
          simp only [Bool.and_eq_true, Bool.or_eq_true, Bool.and_eq_false_iff, Bool.or_eq_false_iff, Bool.not_eq_true', Bool.not_eq_false', decide_eq_true_eq, decide_eq_false_iff_not] at g23r
          refine JO_shun rfl ⟨_, rfl, g23⟩ ?_
          refine JO_shun rfl ⟨_, rfl, g23⟩ ?_
          refine JO_shun rfl ⟨_, rfl, g23⟩ ?_
          refine JO_shun rfl ⟨_, rfl, g23⟩ ?_
          refine JO_shun rfl ⟨_, rfl, g23⟩ ?_
          refine JO_read (vB false) rfl trivial (fun _ _ => x_pick_f rfl g23 rfl) ?_
          refine JO_nil (JX_cut (false) (by rw [g23]; simp) ⟨rfl, rfl, trivial⟩ (fun _ h => h))
      rintro z22 rfl
      refine JO_read (vB ((((((decide ((R26.parts a ((R26.record a k b).1)).2.2 = 0)) && (decide ((R26.parts a ((R26.record a k b).1)).1 = k))) && (decide ((R26.parts a ((R26.record a k b).1)).2.1 = b))) && (decide ((R26.span a k).2 = 0))) && (R26.inr ((R26.span a k).1) ((R26.record a k b).1))) && (decide (((((R26.record a k b).1).length : Nat) : Int) = a.KeyLength)))) rfl trivial (fun _ _ => rfl) ?_
      refine JO_nil ?_
      refine JX_then ?_
      refine J_ret ?_
      refine JX_rets [vB ((((((decide ((R26.parts a ((R26.record a k b).1)).2.2 = 0)) && (decide ((R26.parts a ((R26.record a k b).1)).1 = k))) && (decide ((R26.parts a ((R26.record a k b).1)).2.1 = b))) && (decide ((R26.span a k).2 = 0))) && (R26.inr ((R26.span a k).1) ((R26.record a k b).1))) && (decide (((((R26.record a k b).1).length : Nat) : Int) = a.KeyLength)))] (vB ((((((decide ((R26.parts a ((R26.record a k b).1)).2.2 = 0)) && (decide ((R26.parts a ((R26.record a k b).1)).1 = k))) && (decide ((R26.parts a ((R26.record a k b).1)).2.1 = b))) && (decide ((R26.span a k).2 = 0))) && (R26.inr ((R26.span a k).1) ((R26.record a k b).1))) && (decide (((((R26.record a k b).1).length : Nat) : Int) = a.KeyLength)))) Try.results6 (fun w h => ⟨rfl, trivial⟩) rfl [] (fun _ h => h.keep [false, false] rfl) ⟨?_, ?_⟩
      · have e_x0 : ((((((decide ((R26.parts a ((R26.record a k b).1)).2.2 = 0)) && (decide ((R26.parts a ((R26.record a k b).1)).1 = k))) && (decide ((R26.parts a ((R26.record a k b).1)).2.1 = b))) && (decide ((R26.span a k).2 = 0))) && (R26.inr ((R26.span a k).1) ((R26.record a k b).1))) && (decide (((((R26.record a k b).1).length : Nat) : Int) = a.KeyLength)) : Bool) = true := by
          first
            | rfl
            | exact R26.record_err (by assumption)
            | exact R26.inverts_law (by assumption)
        exact congrArg (fun (x0 : Bool) => vB x0) e_x0
      · rfl

set_option maxRecDepth 20000 in
theorem f7_ok (a : DataSet) (r : Bytes) (k : Bytes) (w : World) : Calls Try.prog 7 #[Value.agg ((DataSet.enc a)).toArray, vS r, vS k] w (Gives [] w fun v L => v = vB true ∧ L = []) := by
  refine calls_J [] 48 Try.func7 rfl Try.ntmps7 [(0, Value.agg ((DataSet.enc a)).toArray), (1, vS r), (2, vS k)] rfl rfl (Give.nil w) ?_
  refine J_seq ?_
  refine J_region ?_
  refine JO_op rfl trivial (O_box rfl rfl fun b1 => ?_)
  refine JO_read (vB false) rfl trivial (fun _ _ => rfl) ?_
  refine JO_nil ?_
  refine JX_then ?_
  refine J_seq ?_
  refine J_seq ?_
  refine J_region ?_
  refine JO_call [] [] [Ent.blk b1 23 (DataSet.enc a)] rfl trivial (fun _ => x_call Ty.ca10 rfl) (fun _ h => h) (fun _ h => by cases h) (fun w hS => f10_ok w) ?_
  rintro _ _ ⟨rfl, rfl⟩
  refine JO_read (vB false) rfl trivial (fun _ _ => rfl) ?_
  refine JO_nil ?_
  refine JX_then ?_
  refine J_cond false rfl rfl (fun h => by cases h) (fun h => ?_)
  refine J_skip ?_
  refine JX_then ?_
  refine J_seq ?_
  refine J_seq ?_
  refine J_region ?_
  refine JO_read (vS r) rfl trivial (fun _ _ => rfl) ?_
  refine JO_read (vI ((r.length : Nat) : Int)) rfl trivial (fun _ _ => x_len_s rfl Try.underlying9) ?_
  refine JO_read (vB (decide ((100 : Int) < ((r.length : Nat) : Int)))) rfl trivial (fun _ _ => x_gtr_i rfl rfl) ?_
  refine JO_read (vB (decide ((100 : Int) < ((r.length : Nat) : Int)))) rfl trivial (fun _ _ => rfl) ?_
  refine JO_cut (X := Bool) 4 (fun z => z = ((decide ((100 : Int) < ((r.length : Nat) : Int))) || (decide ((100 : Int) < ((k.length : Nat) : Int))))) (fun z => [(1, vS r), (2, vS k), (3, Value.pointer (some ⟨b1, 0, none⟩)), (6, vB false), (21, vB z)]) (fun _ => [Ent.blk b1 23 (DataSet.enc a)]) ?_ ?_
  · rcases Bool.eq_false_or_eq_true (decide ((100 : Int) < ((r.length : Nat) : Int))) with g3 | g3
    · have g3r := g3
      have g3r := of_decide_eq_true g3r
      refine JO_shun rfl ⟨_, rfl, g3⟩ ?_
      refine JO_shun rfl ⟨_, rfl, g3⟩ ?_
      refine JO_shun rfl ⟨_, rfl, g3⟩ ?_
      refine JO_read (vB true) rfl trivial (fun _ _ => x_pick_t rfl g3 rfl) ?_
      refine JO_nil (JX_cut (true) (by rw [g3]; simp) ⟨rfl, rfl, rfl, rfl, rfl, trivial⟩ (fun _ h => h))
    · have g3r := g3
      have g3r := of_decide_eq_false g3r
      refine JO_read (vS k) rfl ⟨_, rfl, g3⟩ (fun _ _ => rfl) ?_
      refine JO_read (vI ((k.length : Nat) : Int)) rfl ⟨_, rfl, g3⟩ (fun _ _ => x_len_s rfl Try.underlying9) ?_
      refine JO_read (vB (decide ((100 : Int) < ((k.length : Nat) : Int)))) rfl ⟨_, rfl, g3⟩ (fun _ _ => x_gtr_i rfl rfl) ?_
      refine JO_read (vB (decide ((100 : Int) < ((k.length : Nat) : Int)))) rfl trivial (fun _ _ => x_pick_f rfl g3 rfl) ?_
      refine JO_nil (JX_cut (decide ((100 : Int) < ((k.length : Nat) : Int))) (by rw [g3]; simp) ⟨rfl, rfl, rfl, rfl, rfl, trivial⟩ (fun _ h => h))
  rintro z2 rfl
  refine JO_nil ?_
  refine JX_then ?_
  refine J_cond ((decide ((100 : Int) < ((r.length : Nat) : Int))) || (decide ((100 : Int) < ((k.length : Nat) : Int)))) rfl rfl (fun h4 => ?_) (fun h4 => ?_)
  · simp only [Bool.and_eq_true, Bool.or_eq_true, Bool.and_eq_false_iff, Bool.or_eq_false_iff, Bool.not_eq_true', Bool.not_eq_false', decide_eq_true_eq, decide_eq_false_iff_not] at h4
    refine J_seq ?_
    refine J_region ?_
    refine JO_read (vB true) rfl trivial (fun _ _ => rfl) ?_
    refine JO_nil ?_
    refine JX_then ?_
    refine J_ret ?_
    refine JX_then_ret ?_
    refine JX_rets [vB true] (vB true) Try.results7 (fun w h => ⟨rfl, trivial⟩) rfl [] (fun _ h => h.keep [false] rfl) ⟨?_, ?_⟩
    · rfl
    · rfl
  · have ⟨h4, h5⟩ := bor_false h4
    have h4 := of_decide_eq_false h4
    have h5 := of_decide_eq_false h5
    refine J_skip ?_
    refine JX_then ?_
    refine J_seq ?_
    refine J_region ?_
    refine JO_read (Value.agg ((DataSet.enc a)).toArray) rfl trivial (x_loadN 0 (DataSet.enc a) rfl rfl Ty.ag23 Ty.sz23 rfl) ?_
    refine JO_read (vS r) rfl trivial (fun _ _ => rfl) ?_
    refine JO_call [] [] [Ent.blk b1 23 (DataSet.enc a)] rfl trivial (fun _ => x_call Ty.ca21 rfl) (fun _ h => h) (fun _ h => by cases h) (fun w hS => f21_ok a r w) ?_
    rintro _ _ ⟨rfl, rfl⟩
    refine JO_read (Value.tuple #[vS ((R26.parts a r).1), vS ((R26.parts a r).2.1), vI ((R26.parts a r).2.2)]) rfl trivial (fun _ _ => rfl) ?_
    refine JO_read (vS ((R26.parts a r).1)) rfl trivial (fun _ _ => rfl) ?_
    refine JO_read (vS ((R26.parts a r).2.1)) rfl trivial (fun _ _ => rfl) ?_
    refine JO_read (vI ((R26.parts a r).2.2)) rfl trivial (fun _ _ => rfl) ?_
    refine JO_read (vS ((R26.parts a r).1)) rfl trivial (fun _ _ => rfl) ?_
    refine JO_read (vS ((R26.parts a r).2.1)) rfl trivial (fun _ _ => rfl) ?_
    refine JO_read (vI ((R26.parts a r).2.2)) rfl trivial (fun _ _ => rfl) ?_
    refine JO_nil ?_
    refine JX_then ?_
    refine J_seq ?_
    refine J_region ?_
    refine JO_read (Value.agg ((DataSet.enc a)).toArray) rfl trivial (x_loadN 0 (DataSet.enc a) rfl rfl Ty.ag23 Ty.sz23 rfl) ?_
    refine JO_read (vS k) rfl trivial (fun _ _ => rfl) ?_
    refine JO_call [] [] [Ent.blk b1 23 (DataSet.enc a)] rfl trivial (fun _ => x_call Ty.ca23 rfl) (fun _ h => h) (fun _ h => by cases h) (fun w hS => f23_ok a k w) ?_
    rintro _ _ ⟨rfl, rfl⟩
    refine JO_read (Value.tuple #[Value.agg #[vS (((R26.span a k).1).Low), vS (((R26.span a k).1).High), vB (((R26.span a k).1).End)], vI ((R26.span a k).2)]) rfl trivial (fun _ _ => rfl) ?_
    refine JO_read (Value.agg #[vS (((R26.span a k).1).Low), vS (((R26.span a k).1).High), vB (((R26.span a k).1).End)]) rfl trivial (fun _ _ => rfl) ?_
    refine JO_read (vI ((R26.span a k).2)) rfl trivial (fun _ _ => rfl) ?_
    refine JO_op rfl trivial (O_alloc Ty.ze41 rfl fun b6 => ?_)
    refine JO_op rfl trivial (O_store 0 [vS (((R26.span a k).1).Low), vS (((R26.span a k).1).High), vB (((R26.span a k).1).End)] [Ent.blk b6 41 [vS (((R26.span a k).1).Low), vS (((R26.span a k).1).High), vB (((R26.span a k).1).End)], Ent.blk b1 23 (DataSet.enc a)] rfl rfl rfl Ty.sz41 rfl (Nat.le_of_ble_eq_true rfl) rfl rfl rfl ?_)
    refine JO_read (vI ((R26.span a k).2)) rfl trivial (fun _ _ => rfl) ?_
    refine JO_nil ?_
    refine JX_then ?_
    refine J_seq ?_
    refine J_seq ?_
    refine J_region ?_
    refine JO_read (vI ((R26.parts a r).2.2)) rfl trivial (fun _ _ => rfl) ?_
    refine JO_read (vB (decide ((R26.parts a r).2.2 ≠ 0))) rfl trivial (fun _ _ => x_neq_i rfl rfl) ?_
    refine JO_read (vB (decide ((R26.parts a r).2.2 ≠ 0))) rfl trivial (fun _ _ => rfl) ?_
    refine JO_cut (X := Bool) 3 (fun z => z = ((decide ((R26.parts a r).2.2 ≠ 0)) || (decide ((R26.span a k).2 ≠ 0)))) (fun z => [(1, vS r), (2, vS k), (6, vB false), (7, vS ((R26.parts a r).1)), (10, Value.pointer (some ⟨b6, 0, none⟩)), (40, vB z)]) (fun _ => [Ent.blk b6 41 [vS (((R26.span a k).1).Low), vS (((R26.span a k).1).High), vB (((R26.span a k).1).End)], Ent.blk b1 23 (DataSet.enc a)]) ?_ ?_
    · rcases Bool.eq_false_or_eq_true (decide ((R26.parts a r).2.2 ≠ 0)) with g8 | g8
      · have g8r := g8
        have g8r := of_decide_eq_true g8r
        refine JO_shun rfl ⟨_, rfl, g8⟩ ?_
        refine JO_shun rfl ⟨_, rfl, g8⟩ ?_
        refine JO_read (vB true) rfl trivial (fun _ _ => x_pick_t rfl g8 rfl) ?_
        refine JO_nil (JX_cut (true) (by rw [g8]; simp) ⟨rfl, rfl, rfl, rfl, rfl, rfl, trivial⟩ (fun _ h => h))
      · have g8r := g8
        have g8r := of_decide_eq_false g8r
        refine JO_read (vI ((R26.span a k).2)) rfl ⟨_, rfl, g8⟩ (fun _ _ => rfl) ?_
        refine JO_read (vB (decide ((R26.span a k).2 ≠ 0))) rfl ⟨_, rfl, g8⟩ (fun _ _ => x_neq_i rfl rfl) ?_
        refine JO_read (vB (decide ((R26.span a k).2 ≠ 0))) rfl trivial (fun _ _ => x_pick_f rfl g8 rfl) ?_
        refine JO_nil (JX_cut (decide ((R26.span a k).2 ≠ 0)) (by rw [g8]; simp) ⟨rfl, rfl, rfl, rfl, rfl, rfl, trivial⟩ (fun _ h => h))
    rintro z7 rfl
    refine JO_nil ?_
    refine JX_then ?_
    refine J_cond ((decide ((R26.parts a r).2.2 ≠ 0)) || (decide ((R26.span a k).2 ≠ 0))) rfl rfl (fun h9 => ?_) (fun h9 => ?_)
    · simp only [Bool.and_eq_true, Bool.or_eq_true, Bool.and_eq_false_iff, Bool.or_eq_false_iff, Bool.not_eq_true', Bool.not_eq_false', decide_eq_true_eq, decide_eq_false_iff_not] at h9
      refine J_seq ?_
      refine J_region ?_
      refine JO_read (vB true) rfl trivial (fun _ _ => rfl) ?_
      refine JO_nil ?_
      refine JX_then ?_
      refine J_ret ?_
      refine JX_then_ret ?_
      refine JX_rets [vB true] (vB true) Try.results7 (fun w h => ⟨rfl, trivial⟩) rfl [] (fun _ h => h.keep [false, false] rfl) ⟨?_, ?_⟩
      · rfl
      · rfl
    · have ⟨h9, h10⟩ := bor_false h9
      have h9 := of_decide_eq_false h9
      have h10 := of_decide_eq_false h10
      refine J_skip ?_
      refine JX_then ?_
      refine J_seq ?_
      refine J_region ?_
      refine JO_read (Value.agg #[vS (((R26.span a k).1).Low), vS (((R26.span a k).1).High), vB (((R26.span a k).1).End)]) rfl trivial (x_loadN 0 [vS (((R26.span a k).1).Low), vS (((R26.span a k).1).High), vB (((R26.span a k).1).End)] rfl rfl Ty.ag41 Ty.sz41 rfl) ?_
      refine JO_read (vS r) rfl trivial (fun _ _ => rfl) ?_
      refine JO_call [] [] [Ent.blk b6 41 [vS (((R26.span a k).1).Low), vS (((R26.span a k).1).High), vB (((R26.span a k).1).End)], Ent.blk b1 23 (DataSet.enc a)] rfl trivial (fun _ => x_call Ty.ca25 rfl) (fun _ h => h) (fun _ h => by cases h) (fun w hS => f25_ok ((R26.span a k).1) r w) ?_
      rintro _ _ ⟨rfl, rfl⟩
      refine JO_read (vS ((R26.parts a r).1)) rfl trivial (fun _ _ => rfl) ?_
      refine JO_read (vS k) rfl trivial (fun _ _ => rfl) ?_
      refine JO_read (vB (decide ((R26.parts a r).1 = k))) rfl trivial (fun _ _ => x_eql_s rfl rfl) ?_
      refine JO_read (vB (decide ((R26.inr ((R26.span a k).1) r) = (decide ((R26.parts a r).1 = k))))) rfl trivial (fun _ _ => x_eql_b Try.underlying4 rfl rfl) ?_
      refine JO_read (vB (decide ((R26.inr ((R26.span a k).1) r) = (decide ((R26.parts a r).1 = k))))) rfl trivial (fun _ _ => rfl) ?_
      refine JO_nil ?_
      refine JX_then ?_
      refine J_ret ?_
      refine JX_rets [vB (decide ((R26.inr ((R26.span a k).1) r) = (decide ((R26.parts a r).1 = k))))] (vB (decide ((R26.inr ((R26.span a k).1) r) = (decide ((R26.parts a r).1 = k))))) Try.results7 (fun w h => ⟨rfl, trivial⟩) rfl [] (fun _ h => h.keep [false, false] rfl) ⟨?_, ?_⟩
      · have e_x0 : (decide ((R26.inr ((R26.span a k).1) r) = (decide ((R26.parts a r).1 = k))) : Bool) = true := by
          first
            | rfl
            | exact decide_eq_true (R26.spans_law (by assumption) (by assumption))
        exact congrArg (fun (x0 : Bool) => vB x0) e_x0
      · rfl

end Go.Proofs.Ytimjfpioenkbjaa
