/- contracts L47a -/
import Derived.Test.YtknibpmmjhmjeaaDoorC47i
namespace Go.Proofs.YtknibpmmjhmjeaaDoor
open Go.GV
set_option linter.unusedVariables false
set_option linter.unusedSimpArgs false

set_option maxRecDepth 20000 in
theorem f5_ok (u : Int) (k : Int) (w : World) (hT : Tab [] w) : Calls Tryd.prog 5 #[vI u, vI k] w (Gives [] w fun v L => v = vB true ∧ L = []) := by
  refine calls_J [] 70 Tryd.func5 rfl Tryd.ntmps5 [(0, vI u), (1, vI k)] rfl rfl (Give.nil w) ?_
  refine J_seq ?_
  refine J_region ?_
  refine JO_read (vB false) rfl trivial (fun _ _ => rfl) ?_
  refine JO_nil ?_
  refine JX_then ?_
  refine J_seq ?_
  refine J_region ?_
  refine JO_read (vI u) rfl trivial (fun _ _ => rfl) ?_
  refine JO_read (vI k) rfl trivial (fun _ _ => rfl) ?_
  refine JO_call [] [] [] rfl trivial (fun _ => x_call Ty.ca19 rfl) (fun _ h => h) (fun _ h => by cases h) (fun w hS => f19_ok u k w) ?_
  rintro _ _ ⟨rfl, rfl⟩
  refine JO_read (Value.tuple #[vI ((R47.idn u k).1), vI ((R47.idn u k).2)]) rfl trivial (fun _ _ => rfl) ?_
  refine JO_read (vI ((R47.idn u k).1)) rfl trivial (fun _ _ => rfl) ?_
  refine JO_read (vI ((R47.idn u k).2)) rfl trivial (fun _ _ => rfl) ?_
  refine JO_read (vI ((R47.idn u k).1)) rfl trivial (fun _ _ => rfl) ?_
  refine JO_read (vI ((R47.idn u k).2)) rfl trivial (fun _ _ => rfl) ?_
  refine JO_nil ?_
  refine JX_then ?_
  refine J_seq ?_
  refine J_seq ?_
  refine J_region ?_
  refine JO_read (vI u) rfl trivial (fun _ _ => rfl) ?_
  refine JO_read (vB (decide (u < 1))) rfl trivial (fun _ _ => x_lss_i rfl rfl) ?_
  refine JO_read (vB (decide (u < 1))) rfl trivial (fun _ _ => rfl) ?_
  refine JO_cut (X := Bool) 3 (fun z => z = ((decide (u < 1)) || (decide ((68719476735 : Int) < u)))) (fun z => [(0, vI u), (1, vI k), (4, vB false), (5, vI ((R47.idn u k).1)), (6, vI ((R47.idn u k).2)), (19, vB z)]) (fun _ => []) ?_ ?_
  · rcases Bool.eq_false_or_eq_true (decide (u < 1)) with g2 | g2
    · have g2r := g2
      have g2r := of_decide_eq_true g2r
      refine JO_shun rfl ⟨_, rfl, g2⟩ ?_
      refine JO_shun rfl ⟨_, rfl, g2⟩ ?_
      refine JO_read (vB true) rfl trivial (fun _ _ => x_pick_t rfl g2 rfl) ?_
      refine JO_nil (JX_cut (true) (by rw [g2]; simp) ⟨rfl, rfl, rfl, rfl, rfl, rfl, trivial⟩ (fun _ h => h))
    · have g2r := g2
      have g2r := of_decide_eq_false g2r
      refine JO_read (vI u) rfl ⟨_, rfl, g2⟩ (fun _ _ => rfl) ?_
      refine JO_read (vB (decide ((68719476735 : Int) < u))) rfl ⟨_, rfl, g2⟩ (fun _ _ => x_gtr_i rfl rfl) ?_
      refine JO_read (vB (decide ((68719476735 : Int) < u))) rfl trivial (fun _ _ => x_pick_f rfl g2 rfl) ?_
      refine JO_nil (JX_cut (decide ((68719476735 : Int) < u)) (by rw [g2]; simp) ⟨rfl, rfl, rfl, rfl, rfl, rfl, trivial⟩ (fun _ h => h))
  rintro z1 rfl
  refine JO_read (vB ((decide (u < 1)) || (decide ((68719476735 : Int) < u)))) rfl trivial (fun _ _ => rfl) ?_
  refine JO_cut (X := Bool) 3 (fun z => z = (((decide (u < 1)) || (decide ((68719476735 : Int) < u))) || (decide (k < 0)))) (fun z => [(0, vI u), (1, vI k), (4, vB false), (5, vI ((R47.idn u k).1)), (6, vI ((R47.idn u k).2)), (23, vB z)]) (fun _ => []) ?_ ?_
  · rcases Bool.eq_false_or_eq_true ((decide (u < 1)) || (decide ((68719476735 : Int) < u))) with g4 | g4
    · have g4r := g4
      simp only [Bool.and_eq_true, Bool.or_eq_true, Bool.and_eq_false_iff, Bool.or_eq_false_iff, Bool.not_eq_true', Bool.not_eq_false', decide_eq_true_eq, decide_eq_false_iff_not] at g4r
      refine JO_shun rfl ⟨_, rfl, g4⟩ ?_
      refine JO_shun rfl ⟨_, rfl, g4⟩ ?_
      refine JO_read (vB true) rfl trivial (fun _ _ => x_pick_t rfl g4 rfl) ?_
      refine JO_nil (JX_cut (true) (by rw [g4]; simp) ⟨rfl, rfl, rfl, rfl, rfl, rfl, trivial⟩ (fun _ h => h))
    · have g4r := g4
      have ⟨g4r, h5⟩ := bor_false g4r
      have g4r := of_decide_eq_false g4r
      have h5 := of_decide_eq_false h5
      refine JO_read (vI k) rfl ⟨_, rfl, g4⟩ (fun _ _ => rfl) ?_
      refine JO_read (vB (decide (k < 0))) rfl ⟨_, rfl, g4⟩ (fun _ _ => x_lss_i rfl rfl) ?_
      refine JO_read (vB (decide (k < 0))) rfl trivial (fun _ _ => x_pick_f rfl g4 rfl) ?_
      refine JO_nil (JX_cut (decide (k < 0)) (by rw [g4]; simp) ⟨rfl, rfl, rfl, rfl, rfl, rfl, trivial⟩ (fun _ h => h))
  rintro z3 rfl
  refine JO_read (vB (((decide (u < 1)) || (decide ((68719476735 : Int) < u))) || (decide (k < 0)))) rfl trivial (fun _ _ => rfl) ?_
  refine JO_cut (X := Bool) 3 (fun z => z = ((((decide (u < 1)) || (decide ((68719476735 : Int) < u))) || (decide (k < 0))) || (decide ((15 : Int) < k)))) (fun z => [(0, vI u), (1, vI k), (4, vB false), (5, vI ((R47.idn u k).1)), (6, vI ((R47.idn u k).2)), (27, vB z)]) (fun _ => []) ?_ ?_
  · rcases Bool.eq_false_or_eq_true (((decide (u < 1)) || (decide ((68719476735 : Int) < u))) || (decide (k < 0))) with g7 | g7
    · have g7r := g7
      simp only [Bool.and_eq_true, Bool.or_eq_true, Bool.and_eq_false_iff, Bool.or_eq_false_iff, Bool.not_eq_true', Bool.not_eq_false', decide_eq_true_eq, decide_eq_false_iff_not] at g7r
      refine JO_shun rfl ⟨_, rfl, g7⟩ ?_
      refine JO_shun rfl ⟨_, rfl, g7⟩ ?_
      refine JO_read (vB true) rfl trivial (fun _ _ => x_pick_t rfl g7 rfl) ?_
      refine JO_nil (JX_cut (true) (by rw [g7]; simp) ⟨rfl, rfl, rfl, rfl, rfl, rfl, trivial⟩ (fun _ h => h))
    · have g7r := g7
      have ⟨g7r, h8⟩ := bor_false g7r
      have ⟨g7r, h9⟩ := bor_false g7r
      have g7r := of_decide_eq_false g7r
      have h9 := of_decide_eq_false h9
      have h8 := of_decide_eq_false h8
      refine JO_read (vI k) rfl ⟨_, rfl, g7⟩ (fun _ _ => rfl) ?_
      refine JO_read (vB (decide ((15 : Int) < k))) rfl ⟨_, rfl, g7⟩ (fun _ _ => x_gtr_i rfl rfl) ?_
      refine JO_read (vB (decide ((15 : Int) < k))) rfl trivial (fun _ _ => x_pick_f rfl g7 rfl) ?_
      refine JO_nil (JX_cut (decide ((15 : Int) < k)) (by rw [g7]; simp) ⟨rfl, rfl, rfl, rfl, rfl, rfl, trivial⟩ (fun _ h => h))
  rintro z6 rfl
  refine JO_nil ?_
  refine JX_then ?_
  refine J_cond ((((decide (u < 1)) || (decide ((68719476735 : Int) < u))) || (decide (k < 0))) || (decide ((15 : Int) < k))) rfl rfl (fun h10 => ?_) (fun h10 => ?_)
  · simp only [Bool.and_eq_true, Bool.or_eq_true, Bool.and_eq_false_iff, Bool.or_eq_false_iff, Bool.not_eq_true', Bool.not_eq_false', decide_eq_true_eq, decide_eq_false_iff_not] at h10
    refine J_seq ?_
    refine J_region ?_
    refine JO_read (vI ((R47.idn u k).2)) rfl trivial (fun _ _ => rfl) ?_
    refine JO_read (vB (decide ((R47.idn u k).2 = 2))) rfl trivial (fun _ _ => x_eql_i rfl rfl) ?_
    refine JO_read (vB (decide ((R47.idn u k).2 = 2))) rfl trivial (fun _ _ => rfl) ?_
    refine JO_cut (X := Bool) 3 (fun z => z = ((decide ((R47.idn u k).2 = 2)) && (decide ((R47.idn u k).1 = 0)))) (fun z => [(0, vI u), (1, vI k), (4, vB false), (5, vI ((R47.idn u k).1)), (6, vI ((R47.idn u k).2)), (33, vB z)]) (fun _ => []) ?_ ?_
    · rcases Bool.eq_false_or_eq_true (decide ((R47.idn u k).2 = 2)) with g12 | g12
      · have g12r := g12
        have g12r := of_decide_eq_true g12r
        refine JO_read (vI ((R47.idn u k).1)) rfl ⟨_, rfl, g12⟩ (fun _ _ => rfl) ?_
        refine JO_read (vB (decide ((R47.idn u k).1 = 0))) rfl ⟨_, rfl, g12⟩ (fun _ _ => x_eql_i rfl rfl) ?_
        refine JO_read (vB (decide ((R47.idn u k).1 = 0))) rfl trivial (fun _ _ => x_pick_t rfl g12 rfl) ?_
        refine JO_nil (JX_cut (decide ((R47.idn u k).1 = 0)) (by rw [g12]; simp) ⟨rfl, rfl, rfl, rfl, rfl, rfl, trivial⟩ (fun _ h => h))
      · have g12r := g12
        have g12r := of_decide_eq_false g12r
        refine JO_shun rfl ⟨_, rfl, g12⟩ ?_
        refine JO_shun rfl ⟨_, rfl, g12⟩ ?_
        refine JO_read (vB false) rfl trivial (fun _ _ => x_pick_f rfl g12 rfl) ?_
        refine JO_nil (JX_cut (false) (by rw [g12]; simp) ⟨rfl, rfl, rfl, rfl, rfl, rfl, trivial⟩ (fun _ h => h))
    rintro z11 rfl
    refine JO_read (vB ((decide ((R47.idn u k).2 = 2)) && (decide ((R47.idn u k).1 = 0)))) rfl trivial (fun _ _ => rfl) ?_
    refine JO_cut (X := Bool) 2 (fun z => z = (((decide ((R47.idn u k).2 = 2)) && (decide ((R47.idn u k).1 = 0))) && true)) (fun z => [(0, vI u), (1, vI k), (4, vB false), (5, vI ((R47.idn u k).1)), (6, vI ((R47.idn u k).2)), (36, vB z)]) (fun _ => []) ?_ ?_
    · rcases Bool.eq_false_or_eq_true ((decide ((R47.idn u k).2 = 2)) && (decide ((R47.idn u k).1 = 0))) with g14 | g14
      · have g14r := g14
        have ⟨g14r, h15⟩ := band_true g14r
        have g14r := of_decide_eq_true g14r
        have h15 := of_decide_eq_true h15
        refine JO_call [] [] [] rfl ⟨_, rfl, g14⟩ (fun _ => x_call Ty.ca10 rfl) (fun _ h => h) (fun _ h => by cases h) (fun w hS => f10_ok w (hT.on hS (fun _ h => by cases h))) ?_
        rintro _ _ ⟨rfl, rfl⟩
        refine JO_read (vB true) rfl trivial (fun _ _ => x_pick_t rfl g14 rfl) ?_
        refine JO_nil (JX_cut (true) (by rw [g14]; simp) ⟨rfl, rfl, rfl, rfl, rfl, rfl, trivial⟩ (fun _ h => h))
      · have g14r := g14
        simp only [Bool.and_eq_true, Bool.or_eq_true, Bool.and_eq_false_iff, Bool.or_eq_false_iff, Bool.not_eq_true', Bool.not_eq_false', decide_eq_true_eq, decide_eq_false_iff_not] at g14r
        refine JO_shun rfl ⟨_, rfl, g14⟩ ?_
        refine JO_read (vB false) rfl trivial (fun _ _ => x_pick_f rfl g14 rfl) ?_
        refine JO_nil (JX_cut (false) (by rw [g14]; simp) ⟨rfl, rfl, rfl, rfl, rfl, rfl, trivial⟩ (fun _ h => h))
    rintro z13 rfl
    refine JO_read (vB (((decide ((R47.idn u k).2 = 2)) && (decide ((R47.idn u k).1 = 0))) && true)) rfl trivial (fun _ _ => rfl) ?_
    refine JO_nil ?_
    refine JX_then ?_
    refine J_ret ?_
    refine JX_then_ret ?_
    refine JX_rets [vB (((decide ((R47.idn u k).2 = 2)) && (decide ((R47.idn u k).1 = 0))) && true)] (vB (((decide ((R47.idn u k).2 = 2)) && (decide ((R47.idn u k).1 = 0))) && true)) Tryd.results5 (fun w h => ⟨rfl, trivial⟩) rfl [] (fun _ h => h) ⟨?_, ?_⟩
    · have e_x0 : (((decide ((R47.idn u k).2 = 2)) && (decide ((R47.idn u k).1 = 0))) && true : Bool) = true := by
        first | rfl | (rw [R47.idn_no (by omega)]; rfl) | exact R47.ids_ok (by omega) (by first | exact R47.creator_ok (by omega) | exact R47.creator_no (by omega))
      exact congrArg (fun (x0 : Bool) => vB x0) e_x0
    · rfl
  · have ⟨h10, h16⟩ := bor_false h10
    have ⟨h10, h17⟩ := bor_false h10
    have ⟨h10, h18⟩ := bor_false h10
    have h10 := of_decide_eq_false h10
    have h18 := of_decide_eq_false h18
    have h17 := of_decide_eq_false h17
    have h16 := of_decide_eq_false h16
    refine J_skip ?_
    refine JX_then ?_
    refine J_seq ?_
    refine J_region ?_
    refine JO_read (vI 0) rfl trivial (fun _ _ => rfl) ?_
    refine JO_nil ?_
    refine JX_then ?_
    refine J_seq ?_
    refine J_seq ?_
    refine J_region ?_
    refine JO_read (vI u) rfl trivial (fun _ _ => rfl) ?_
    refine JO_read (vB (decide ((16 : Int) ≤ u))) rfl trivial (fun _ _ => x_geq_i rfl rfl) ?_
    refine JO_read (vB (decide ((16 : Int) ≤ u))) rfl trivial (fun _ _ => rfl) ?_
    refine JO_cut (X := Bool) 3 (fun z => z = ((decide ((16 : Int) ≤ u)) && (decide (u ≤ 1099511627776)))) (fun z => [(0, vI u), (1, vI k), (4, vB false), (5, vI ((R47.idn u k).1)), (6, vI ((R47.idn u k).2)), (7, vI 0), (42, vB z)]) (fun _ => []) ?_ ?_
    · rcases Bool.eq_false_or_eq_true (decide ((16 : Int) ≤ u)) with g20 | g20
      · have g20r := g20
        have g20r := of_decide_eq_true g20r
        refine JO_read (vI u) rfl ⟨_, rfl, g20⟩ (fun _ _ => rfl) ?_
        refine JO_read (vB (decide (u ≤ 1099511627776))) rfl ⟨_, rfl, g20⟩ (fun _ _ => x_leq_i rfl rfl) ?_
        refine JO_read (vB (decide (u ≤ 1099511627776))) rfl trivial (fun _ _ => x_pick_t rfl g20 rfl) ?_
        refine JO_nil (JX_cut (decide (u ≤ 1099511627776)) (by rw [g20]; simp) ⟨rfl, rfl, rfl, rfl, rfl, rfl, rfl, trivial⟩ (fun _ h => h))
      · have g20r := g20
        have g20r := of_decide_eq_false g20r
        refine JO_shun rfl ⟨_, rfl, g20⟩ ?_
        refine JO_shun rfl ⟨_, rfl, g20⟩ ?_
        refine JO_read (vB false) rfl trivial (fun _ _ => x_pick_f rfl g20 rfl) ?_
        refine JO_nil (JX_cut (false) (by rw [g20]; simp) ⟨rfl, rfl, rfl, rfl, rfl, rfl, rfl, trivial⟩ (fun _ h => h))
    rintro z19 rfl
    refine JO_nil ?_
    refine JX_then ?_
    refine J_cond ((decide ((16 : Int) ≤ u)) && (decide (u ≤ 1099511627776))) rfl rfl (fun h21 => ?_) (fun h21 => ?_)
    · have ⟨h21, h22⟩ := band_true h21
      have h21 := of_decide_eq_true h21
      have h22 := of_decide_eq_true h22
      refine J_region ?_
      refine JO_read (vI u) rfl trivial (fun _ _ => rfl) ?_
      refine JO_read (vI (u / 16)) rfl trivial (fun _ _ => x_quo_i (a := u) (b := 16) rfl rfl (by omega) (by omega) (by omega)) ?_
      refine JO_read (vI (u / 16)) rfl trivial (fun _ _ => rfl) ?_
      refine JO_nil ?_
      refine JX_then ?_
      refine J_seq ?_
      refine J_region ?_
      refine JO_read (vI ((R47.idn u k).2)) rfl trivial (fun _ _ => rfl) ?_
      refine JO_read (vB (decide ((R47.idn u k).2 = 0))) rfl trivial (fun _ _ => x_eql_i rfl rfl) ?_
      refine JO_read (vB (decide ((R47.idn u k).2 = 0))) rfl trivial (fun _ _ => rfl) ?_
      refine JO_cut (X := Bool) 7 (fun z => z = ((decide ((R47.idn u k).2 = 0)) && (decide ((R47.idn u k).1 = (16 * u) + k)))) (fun z => [(0, vI u), (4, vB false), (5, vI ((R47.idn u k).1)), (7, vI (u / 16)), (54, vB z)]) (fun _ => []) ?_ ?_
      · rcases Bool.eq_false_or_eq_true (decide ((R47.idn u k).2 = 0)) with g24 | g24
        · have g24r := g24
          have g24r := of_decide_eq_true g24r
          refine JO_read (vI ((R47.idn u k).1)) rfl ⟨_, rfl, g24⟩ (fun _ _ => rfl) ?_
          refine JO_read (vI u) rfl ⟨_, rfl, g24⟩ (fun _ _ => rfl) ?_
          refine JO_read (vI (16 * u)) rfl ⟨_, rfl, g24⟩ (fun _ _ => x_mul_i (a := 16) (b := u) rfl rfl (by omega) (by omega)) ?_
          refine JO_read (vI k) rfl ⟨_, rfl, g24⟩ (fun _ _ => rfl) ?_
          refine JO_read (vI ((16 * u) + k)) rfl ⟨_, rfl, g24⟩ (fun _ _ => x_add_i (a := 16 * u) (b := k) rfl rfl (by omega) (by omega)) ?_
          refine JO_read (vB (decide ((R47.idn u k).1 = (16 * u) + k))) rfl ⟨_, rfl, g24⟩ (fun _ _ => x_eql_i rfl rfl) ?_
          refine JO_read (vB (decide ((R47.idn u k).1 = (16 * u) + k))) rfl trivial (fun _ _ => x_pick_t rfl g24 rfl) ?_
          refine JO_nil (JX_cut (decide ((R47.idn u k).1 = (16 * u) + k)) (by rw [g24]; simp) ⟨rfl, rfl, rfl, rfl, rfl, trivial⟩ (fun _ h => h))
        · have g24r := g24
          have g24r := of_decide_eq_false g24r
          refine JO_shun rfl ⟨_, rfl, g24⟩ ?_
          refine JO_shun rfl ⟨_, rfl, g24⟩ ?_
          refine JO_shun rfl ⟨_, rfl, g24⟩ ?_
          refine JO_shun rfl ⟨_, rfl, g24⟩ ?_
          refine JO_shun rfl ⟨_, rfl, g24⟩ ?_
          refine JO_shun rfl ⟨_, rfl, g24⟩ ?_
          refine JO_read (vB false) rfl trivial (fun _ _ => x_pick_f rfl g24 rfl) ?_
          refine JO_nil (JX_cut (false) (by rw [g24]; simp) ⟨rfl, rfl, rfl, rfl, rfl, trivial⟩ (fun _ h => h))
      rintro z23 rfl
      refine JO_read (vB ((decide ((R47.idn u k).2 = 0)) && (decide ((R47.idn u k).1 = (16 * u) + k)))) rfl trivial (fun _ _ => rfl) ?_
      refine JO_cut (X := Bool) 5 (fun z => z = (((decide ((R47.idn u k).2 = 0)) && (decide ((R47.idn u k).1 = (16 * u) + k))) && (decide (R47.creator ((R47.idn u k).1) = u)))) (fun z => [(0, vI u), (4, vB false), (7, vI (u / 16)), (60, vB z)]) (fun _ => []) ?_ ?_
      · rcases Bool.eq_false_or_eq_true ((decide ((R47.idn u k).2 = 0)) && (decide ((R47.idn u k).1 = (16 * u) + k))) with g26 | g26
        · have g26r := g26
          have ⟨g26r, h27⟩ := band_true g26r
          have g26r := of_decide_eq_true g26r
          have h27 := of_decide_eq_true h27
          refine JO_read (vI ((R47.idn u k).1)) rfl ⟨_, rfl, g26⟩ (fun _ _ => rfl) ?_
          refine JO_call [] [] [] rfl ⟨_, rfl, g26⟩ (fun _ => x_call Ty.ca20 rfl) (fun _ h => h) (fun _ h => by cases h) (fun w hS => f20_ok ((R47.idn u k).1) w) ?_
          rintro _ _ ⟨rfl, rfl⟩
          refine JO_read (vI u) rfl ⟨_, rfl, g26⟩ (fun _ _ => rfl) ?_
          refine JO_read (vB (decide (R47.creator ((R47.idn u k).1) = u))) rfl ⟨_, rfl, g26⟩ (fun _ _ => x_eql_i rfl rfl) ?_
          refine JO_read (vB (decide (R47.creator ((R47.idn u k).1) = u))) rfl trivial (fun _ _ => x_pick_t rfl g26 rfl) ?_
          refine JO_nil (JX_cut (decide (R47.creator ((R47.idn u k).1) = u)) (by rw [g26]; simp) ⟨rfl, rfl, rfl, rfl, trivial⟩ (fun _ h => h))
        · have g26r := g26
          simp only [Bool.and_eq_true, Bool.or_eq_true, Bool.and_eq_false_iff, Bool.or_eq_false_iff, Bool.not_eq_true', Bool.not_eq_false', decide_eq_true_eq, decide_eq_false_iff_not] at g26r
          refine JO_shun rfl ⟨_, rfl, g26⟩ ?_
          refine JO_shun rfl ⟨_, rfl, g26⟩ ?_
          refine JO_shun rfl ⟨_, rfl, g26⟩ ?_
          refine JO_shun rfl ⟨_, rfl, g26⟩ ?_
          refine JO_read (vB false) rfl trivial (fun _ _ => x_pick_f rfl g26 rfl) ?_
          refine JO_nil (JX_cut (false) (by rw [g26]; simp) ⟨rfl, rfl, rfl, rfl, trivial⟩ (fun _ h => h))
      rintro z25 rfl
      refine JO_read (vB (((decide ((R47.idn u k).2 = 0)) && (decide ((R47.idn u k).1 = (16 * u) + k))) && (decide (R47.creator ((R47.idn u k).1) = u)))) rfl trivial (fun _ _ => rfl) ?_
      refine JO_cut (X := Bool) 5 (fun z => z = ((((decide ((R47.idn u k).2 = 0)) && (decide ((R47.idn u k).1 = (16 * u) + k))) && (decide (R47.creator ((R47.idn u k).1) = u))) && (decide (R47.creator u = u / 16)))) (fun z => [(4, vB false), (66, vB z)]) (fun _ => []) ?_ ?_
      · rcases Bool.eq_false_or_eq_true (((decide ((R47.idn u k).2 = 0)) && (decide ((R47.idn u k).1 = (16 * u) + k))) && (decide (R47.creator ((R47.idn u k).1) = u))) with g29 | g29
        · have g29r := g29
          have ⟨g29r, h30⟩ := band_true g29r
          have ⟨g29r, h31⟩ := band_true g29r
          have g29r := of_decide_eq_true g29r
          have h31 := of_decide_eq_true h31
          have h30 := of_decide_eq_true h30
          refine JO_read (vI u) rfl ⟨_, rfl, g29⟩ (fun _ _ => rfl) ?_
          refine JO_call [] [] [] rfl ⟨_, rfl, g29⟩ (fun _ => x_call Ty.ca20 rfl) (fun _ h => h) (fun _ h => by cases h) (fun w hS => f20_ok u w) ?_
          rintro _ _ ⟨rfl, rfl⟩
          refine JO_read (vI (u / 16)) rfl ⟨_, rfl, g29⟩ (fun _ _ => rfl) ?_
          refine JO_read (vB (decide (R47.creator u = u / 16))) rfl ⟨_, rfl, g29⟩ (fun _ _ => x_eql_i rfl rfl) ?_
          refine JO_read (vB (decide (R47.creator u = u / 16))) rfl trivial (fun _ _ => x_pick_t rfl g29 rfl) ?_
          refine JO_nil (JX_cut (decide (R47.creator u = u / 16)) (by rw [g29]; simp) ⟨rfl, rfl, trivial⟩ (fun _ h => h))
        · have g29r := g29
          simp only [Bool.and_eq_true, Bool.or_eq_true, Bool.and_eq_false_iff, Bool.or_eq_false_iff, Bool.not_eq_true', Bool.not_eq_false', decide_eq_true_eq, decide_eq_false_iff_not] at g29r
          refine JO_shun rfl ⟨_, rfl, g29⟩ ?_
          refine JO_shun rfl ⟨_, rfl, g29⟩ ?_
          refine JO_shun rfl ⟨_, rfl, g29⟩ ?_
          refine JO_shun rfl ⟨_, rfl, g29⟩ ?_
          refine JO_read (vB false) rfl trivial (fun _ _ => x_pick_f rfl g29 rfl) ?_
          refine JO_nil (JX_cut (false) (by rw [g29]; simp) ⟨rfl, rfl, trivial⟩ (fun _ h => h))
      rintro z28 rfl
      refine JO_read (vB ((((decide ((R47.idn u k).2 = 0)) && (decide ((R47.idn u k).1 = (16 * u) + k))) && (decide (R47.creator ((R47.idn u k).1) = u))) && (decide (R47.creator u = u / 16)))) rfl trivial (fun _ _ => rfl) ?_
      refine JO_cut (X := Bool) 2 (fun z => z = (((((decide ((R47.idn u k).2 = 0)) && (decide ((R47.idn u k).1 = (16 * u) + k))) && (decide (R47.creator ((R47.idn u k).1) = u))) && (decide (R47.creator u = u / 16))) && true)) (fun z => [(4, vB false), (69, vB z)]) (fun _ => []) ?_ ?_
      · rcases Bool.eq_false_or_eq_true ((((decide ((R47.idn u k).2 = 0)) && (decide ((R47.idn u k).1 = (16 * u) + k))) && (decide (R47.creator ((R47.idn u k).1) = u))) && (decide (R47.creator u = u / 16))) with g33 | g33
        · have g33r := g33
          have ⟨g33r, h34⟩ := band_true g33r
          have ⟨g33r, h35⟩ := band_true g33r
          have ⟨g33r, h36⟩ := band_true g33r
          have g33r := of_decide_eq_true g33r
          have h36 := of_decide_eq_true h36
          have h35 := of_decide_eq_true h35
          have h34 := of_decide_eq_true h34
          refine JO_call [] [] [] rfl ⟨_, rfl, g33⟩ (fun _ => x_call Ty.ca10 rfl) (fun _ h => h) (fun _ h => by cases h) (fun w hS => f10_ok w (hT.on hS (fun _ h => by cases h))) ?_
          rintro _ _ ⟨rfl, rfl⟩
          refine JO_read (vB true) rfl trivial (fun _ _ => x_pick_t rfl g33 rfl) ?_
          refine JO_nil (JX_cut (true) (by rw [g33]; simp) ⟨rfl, rfl, trivial⟩ (fun _ h => h))
        · have g33r := g33
          simp only [Bool.and_eq_true, Bool.or_eq_true, Bool.and_eq_false_iff, Bool.or_eq_false_iff, Bool.not_eq_true', Bool.not_eq_false', decide_eq_true_eq, decide_eq_false_iff_not] at g33r
          refine JO_shun rfl ⟨_, rfl, g33⟩ ?_
          refine JO_read (vB false) rfl trivial (fun _ _ => x_pick_f rfl g33 rfl) ?_
          refine JO_nil (JX_cut (false) (by rw [g33]; simp) ⟨rfl, rfl, trivial⟩ (fun _ h => h))
      rintro z32 rfl
      refine JO_read (vB (((((decide ((R47.idn u k).2 = 0)) && (decide ((R47.idn u k).1 = (16 * u) + k))) && (decide (R47.creator ((R47.idn u k).1) = u))) && (decide (R47.creator u = u / 16))) && true)) rfl trivial (fun _ _ => rfl) ?_
      refine JO_nil ?_
      refine JX_then ?_
      refine J_ret ?_
      refine JX_rets [vB (((((decide ((R47.idn u k).2 = 0)) && (decide ((R47.idn u k).1 = (16 * u) + k))) && (decide (R47.creator ((R47.idn u k).1) = u))) && (decide (R47.creator u = u / 16))) && true)] (vB (((((decide ((R47.idn u k).2 = 0)) && (decide ((R47.idn u k).1 = (16 * u) + k))) && (decide (R47.creator ((R47.idn u k).1) = u))) && (decide (R47.creator u = u / 16))) && true)) Tryd.results5 (fun w h => ⟨rfl, trivial⟩) rfl [] (fun _ h => h) ⟨?_, ?_⟩
      · have e_x0 : (((((decide ((R47.idn u k).2 = 0)) && (decide ((R47.idn u k).1 = (16 * u) + k))) && (decide (R47.creator ((R47.idn u k).1) = u))) && (decide (R47.creator u = u / 16))) && true : Bool) = true := by
          first | rfl | (rw [R47.idn_no (by omega)]; rfl) | exact R47.ids_ok (by omega) (by first | exact R47.creator_ok (by omega) | exact R47.creator_no (by omega))
        exact congrArg (fun (x0 : Bool) => vB x0) e_x0
      · rfl
    · simp only [Bool.and_eq_true, Bool.or_eq_true, Bool.and_eq_false_iff, Bool.or_eq_false_iff, Bool.not_eq_true', Bool.not_eq_false', decide_eq_true_eq, decide_eq_false_iff_not] at h21
      refine J_skip ?_
      refine JX_then ?_
      refine J_seq ?_
      refine J_region ?_
      refine JO_read (vI ((R47.idn u k).2)) rfl trivial (fun _ _ => rfl) ?_
      refine JO_read (vB (decide ((R47.idn u k).2 = 0))) rfl trivial (fun _ _ => x_eql_i rfl rfl) ?_
      refine JO_read (vB (decide ((R47.idn u k).2 = 0))) rfl trivial (fun _ _ => rfl) ?_
      refine JO_cut (X := Bool) 7 (fun z => z = ((decide ((R47.idn u k).2 = 0)) && (decide ((R47.idn u k).1 = (16 * u) + k)))) (fun z => [(0, vI u), (4, vB false), (5, vI ((R47.idn u k).1)), (7, vI 0), (54, vB z)]) (fun _ => []) ?_ ?_
      · rcases Bool.eq_false_or_eq_true (decide ((R47.idn u k).2 = 0)) with g38 | g38
        · have g38r := g38
          have g38r := of_decide_eq_true g38r
          refine JO_read (vI ((R47.idn u k).1)) rfl ⟨_, rfl, g38⟩ (fun _ _ => rfl) ?_
          refine JO_read (vI u) rfl ⟨_, rfl, g38⟩ (fun _ _ => rfl) ?_
          refine JO_read (vI (16 * u)) rfl ⟨_, rfl, g38⟩ (fun _ _ => x_mul_i (a := 16) (b := u) rfl rfl (by omega) (by omega)) ?_
          refine JO_read (vI k) rfl ⟨_, rfl, g38⟩ (fun _ _ => rfl) ?_
          refine JO_read (vI ((16 * u) + k)) rfl ⟨_, rfl, g38⟩ (fun _ _ => x_add_i (a := 16 * u) (b := k) rfl rfl (by omega) (by omega)) ?_
          refine JO_read (vB (decide ((R47.idn u k).1 = (16 * u) + k))) rfl ⟨_, rfl, g38⟩ (fun _ _ => x_eql_i rfl rfl) ?_
          refine JO_read (vB (decide ((R47.idn u k).1 = (16 * u) + k))) rfl trivial (fun _ _ => x_pick_t rfl g38 rfl) ?_
          refine JO_nil (JX_cut (decide ((R47.idn u k).1 = (16 * u) + k)) (by rw [g38]; simp) ⟨rfl, rfl, rfl, rfl, rfl, trivial⟩ (fun _ h => h))
        · have g38r := g38
          have g38r := of_decide_eq_false g38r
          refine JO_shun rfl ⟨_, rfl, g38⟩ ?_
          refine JO_shun rfl ⟨_, rfl, g38⟩ ?_
          refine JO_shun rfl ⟨_, rfl, g38⟩ ?_
          refine JO_shun rfl ⟨_, rfl, g38⟩ ?_
          refine JO_shun rfl ⟨_, rfl, g38⟩ ?_
          refine JO_shun rfl ⟨_, rfl, g38⟩ ?_
          refine JO_read (vB false) rfl trivial (fun _ _ => x_pick_f rfl g38 rfl) ?_
          refine JO_nil (JX_cut (false) (by rw [g38]; simp) ⟨rfl, rfl, rfl, rfl, rfl, trivial⟩ (fun _ h => h))
      rintro z37 rfl
      refine JO_read (vB ((decide ((R47.idn u k).2 = 0)) && (decide ((R47.idn u k).1 = (16 * u) + k)))) rfl trivial (fun _ _ => rfl) ?_
      refine JO_cut (X := Bool) 5 (fun z => z = (((decide ((R47.idn u k).2 = 0)) && (decide ((R47.idn u k).1 = (16 * u) + k))) && (decide (R47.creator ((R47.idn u k).1) = u)))) (fun z => [(0, vI u), (4, vB false), (7, vI 0), (60, vB z)]) (fun _ => []) ?_ ?_
      · rcases Bool.eq_false_or_eq_true ((decide ((R47.idn u k).2 = 0)) && (decide ((R47.idn u k).1 = (16 * u) + k))) with g40 | g40
        · have g40r := g40
          have ⟨g40r, h41⟩ := band_true g40r
          have g40r := of_decide_eq_true g40r
          have h41 := of_decide_eq_true h41
          refine JO_read (vI ((R47.idn u k).1)) rfl ⟨_, rfl, g40⟩ (fun _ _ => rfl) ?_
          refine JO_call [] [] [] rfl ⟨_, rfl, g40⟩ (fun _ => x_call Ty.ca20 rfl) (fun _ h => h) (fun _ h => by cases h) (fun w hS => f20_ok ((R47.idn u k).1) w) ?_
          rintro _ _ ⟨rfl, rfl⟩
          refine JO_read (vI u) rfl ⟨_, rfl, g40⟩ (fun _ _ => rfl) ?_
          refine JO_read (vB (decide (R47.creator ((R47.idn u k).1) = u))) rfl ⟨_, rfl, g40⟩ (fun _ _ => x_eql_i rfl rfl) ?_
          refine JO_read (vB (decide (R47.creator ((R47.idn u k).1) = u))) rfl trivial (fun _ _ => x_pick_t rfl g40 rfl) ?_
          refine JO_nil (JX_cut (decide (R47.creator ((R47.idn u k).1) = u)) (by rw [g40]; simp) ⟨rfl, rfl, rfl, rfl, trivial⟩ (fun _ h => h))
        · have g40r := g40
          simp only [Bool.and_eq_true, Bool.or_eq_true, Bool.and_eq_false_iff, Bool.or_eq_false_iff, Bool.not_eq_true', Bool.not_eq_false', decide_eq_true_eq, decide_eq_false_iff_not] at g40r
          refine JO_shun rfl ⟨_, rfl, g40⟩ ?_
          refine JO_shun rfl ⟨_, rfl, g40⟩ ?_
          refine JO_shun rfl ⟨_, rfl, g40⟩ ?_
          refine JO_shun rfl ⟨_, rfl, g40⟩ ?_
          refine JO_read (vB false) rfl trivial (fun _ _ => x_pick_f rfl g40 rfl) ?_
          refine JO_nil (JX_cut (false) (by rw [g40]; simp) ⟨rfl, rfl, rfl, rfl, trivial⟩ (fun _ h => h))
      rintro z39 rfl
      refine JO_read (vB (((decide ((R47.idn u k).2 = 0)) && (decide ((R47.idn u k).1 = (16 * u) + k))) && (decide (R47.creator ((R47.idn u k).1) = u)))) rfl trivial (fun _ _ => rfl) ?_
      refine JO_cut (X := Bool) 5 (fun z => z = ((((decide ((R47.idn u k).2 = 0)) && (decide ((R47.idn u k).1 = (16 * u) + k))) && (decide (R47.creator ((R47.idn u k).1) = u))) && (decide (R47.creator u = 0)))) (fun z => [(4, vB false), (66, vB z)]) (fun _ => []) ?_ ?_
      · rcases Bool.eq_false_or_eq_true (((decide ((R47.idn u k).2 = 0)) && (decide ((R47.idn u k).1 = (16 * u) + k))) && (decide (R47.creator ((R47.idn u k).1) = u))) with g43 | g43
        · have g43r := g43
          have ⟨g43r, h44⟩ := band_true g43r
          have ⟨g43r, h45⟩ := band_true g43r
          have g43r := of_decide_eq_true g43r
          have h45 := of_decide_eq_true h45
          have h44 := of_decide_eq_true h44
          refine JO_read (vI u) rfl ⟨_, rfl, g43⟩ (fun _ _ => rfl) ?_
          refine JO_call [] [] [] rfl ⟨_, rfl, g43⟩ (fun _ => x_call Ty.ca20 rfl) (fun _ h => h) (fun _ h => by cases h) (fun w hS => f20_ok u w) ?_
          rintro _ _ ⟨rfl, rfl⟩
          refine JO_read (vI 0) rfl ⟨_, rfl, g43⟩ (fun _ _ => rfl) ?_
          refine JO_read (vB (decide (R47.creator u = 0))) rfl ⟨_, rfl, g43⟩ (fun _ _ => x_eql_i rfl rfl) ?_
          refine JO_read (vB (decide (R47.creator u = 0))) rfl trivial (fun _ _ => x_pick_t rfl g43 rfl) ?_
          refine JO_nil (JX_cut (decide (R47.creator u = 0)) (by rw [g43]; simp) ⟨rfl, rfl, trivial⟩ (fun _ h => h))
        · have g43r := g43
          simp only [Bool.and_eq_true, Bool.or_eq_true, Bool.and_eq_false_iff, Bool.or_eq_false_iff, Bool.not_eq_true', Bool.not_eq_false', decide_eq_true_eq, decide_eq_false_iff_not] at g43r
          refine JO_shun rfl ⟨_, rfl, g43⟩ ?_
          refine JO_shun rfl ⟨_, rfl, g43⟩ ?_
          refine JO_shun rfl ⟨_, rfl, g43⟩ ?_
          refine JO_shun rfl ⟨_, rfl, g43⟩ ?_
          refine JO_read (vB false) rfl trivial (fun _ _ => x_pick_f rfl g43 rfl) ?_
          refine JO_nil (JX_cut (false) (by rw [g43]; simp) ⟨rfl, rfl, trivial⟩ (fun _ h => h))
      rintro z42 rfl
      refine JO_read (vB ((((decide ((R47.idn u k).2 = 0)) && (decide ((R47.idn u k).1 = (16 * u) + k))) && (decide (R47.creator ((R47.idn u k).1) = u))) && (decide (R47.creator u = 0)))) rfl trivial (fun _ _ => rfl) ?_
      refine JO_cut (X := Bool) 2 (fun z => z = (((((decide ((R47.idn u k).2 = 0)) && (decide ((R47.idn u k).1 = (16 * u) + k))) && (decide (R47.creator ((R47.idn u k).1) = u))) && (decide (R47.creator u = 0))) && true)) (fun z => [(4, vB false), (69, vB z)]) (fun _ => []) ?_ ?_
      · rcases Bool.eq_false_or_eq_true ((((decide ((R47.idn u k).2 = 0)) && (decide ((R47.idn u k).1 = (16 * u) + k))) && (decide (R47.creator ((R47.idn u k).1) = u))) && (decide (R47.creator u = 0))) with g47 | g47
        · have g47r := g47
          have ⟨g47r, h48⟩ := band_true g47r
          have ⟨g47r, h49⟩ := band_true g47r
          have ⟨g47r, h50⟩ := band_true g47r
          have g47r := of_decide_eq_true g47r
          have h50 := of_decide_eq_true h50
          have h49 := of_decide_eq_true h49
          have h48 := of_decide_eq_true h48
          refine JO_call [] [] [] rfl ⟨_, rfl, g47⟩ (fun _ => x_call Ty.ca10 rfl) (fun _ h => h) (fun _ h => by cases h) (fun w hS => f10_ok w (hT.on hS (fun _ h => by cases h))) ?_
          rintro _ _ ⟨rfl, rfl⟩
          refine JO_read (vB true) rfl trivial (fun _ _ => x_pick_t rfl g47 rfl) ?_
          refine JO_nil (JX_cut (true) (by rw [g47]; simp) ⟨rfl, rfl, trivial⟩ (fun _ h => h))
        · have g47r := g47
          simp only [Bool.and_eq_true, Bool.or_eq_true, Bool.and_eq_false_iff, Bool.or_eq_false_iff, Bool.not_eq_true', Bool.not_eq_false', decide_eq_true_eq, decide_eq_false_iff_not] at g47r
          refine JO_shun rfl ⟨_, rfl, g47⟩ ?_
          refine JO_read (vB false) rfl trivial (fun _ _ => x_pick_f rfl g47 rfl) ?_
          refine JO_nil (JX_cut (false) (by rw [g47]; simp) ⟨rfl, rfl, trivial⟩ (fun _ h => h))
      rintro z46 rfl
      refine JO_read (vB (((((decide ((R47.idn u k).2 = 0)) && (decide ((R47.idn u k).1 = (16 * u) + k))) && (decide (R47.creator ((R47.idn u k).1) = u))) && (decide (R47.creator u = 0))) && true)) rfl trivial (fun _ _ => rfl) ?_
      refine JO_nil ?_
      refine JX_then ?_
      refine J_ret ?_
      refine JX_rets [vB (((((decide ((R47.idn u k).2 = 0)) && (decide ((R47.idn u k).1 = (16 * u) + k))) && (decide (R47.creator ((R47.idn u k).1) = u))) && (decide (R47.creator u = 0))) && true)] (vB (((((decide ((R47.idn u k).2 = 0)) && (decide ((R47.idn u k).1 = (16 * u) + k))) && (decide (R47.creator ((R47.idn u k).1) = u))) && (decide (R47.creator u = 0))) && true)) Tryd.results5 (fun w h => ⟨rfl, trivial⟩) rfl [] (fun _ h => h) ⟨?_, ?_⟩
      · have e_x0 : (((((decide ((R47.idn u k).2 = 0)) && (decide ((R47.idn u k).1 = (16 * u) + k))) && (decide (R47.creator ((R47.idn u k).1) = u))) && (decide (R47.creator u = 0))) && true : Bool) = true := by
          first | rfl | (rw [R47.idn_no (by omega)]; rfl) | exact R47.ids_ok (by omega) (by first | exact R47.creator_ok (by omega) | exact R47.creator_no (by omega))
        exact congrArg (fun (x0 : Bool) => vB x0) e_x0
      · rfl

set_option maxRecDepth 20000 in
theorem f7_ok (a : Int) (b : Int) (c : Int) (w : World) (hT : Tab [] w) : Calls Tryd.prog 7 #[vI a, vI b, vI c] w (Gives [] w fun v L => v = vB true ∧ L = []) := by
  refine calls_J [] 85 Tryd.func7 rfl Tryd.ntmps7 [(0, vI a), (1, vI b), (2, vI c)] rfl rfl (Give.nil w) ?_
  refine J_seq ?_
  refine J_region ?_
  refine JO_read (vB false) rfl trivial (fun _ _ => rfl) ?_
  refine JO_nil ?_
  refine JX_then ?_
  refine J_seq ?_
  refine J_region ?_
  refine JO_read (vI a) rfl trivial (fun _ _ => rfl) ?_
  refine JO_read (vI b) rfl trivial (fun _ _ => rfl) ?_
  refine JO_read (vI c) rfl trivial (fun _ _ => rfl) ?_
  refine JO_call [] [] [] rfl trivial (fun _ => x_call Ty.ca24 rfl) (fun _ h => h) (fun _ h => by cases h) (fun w hS => f24_ok a b c w) ?_
  rintro _ _ ⟨rfl, rfl⟩
  have ha1 := R47.unit_range a b c
  refine JO_read (Value.tuple #[vI ((R47.unit a b c).1), vI ((R47.unit a b c).2)]) rfl trivial (fun _ _ => rfl) ?_
  refine JO_read (vI ((R47.unit a b c).1)) rfl trivial (fun _ _ => rfl) ?_
  refine JO_read (vI ((R47.unit a b c).2)) rfl trivial (fun _ _ => rfl) ?_
  refine JO_read (vI ((R47.unit a b c).1)) rfl trivial (fun _ _ => rfl) ?_
  refine JO_read (vI ((R47.unit a b c).2)) rfl trivial (fun _ _ => rfl) ?_
  refine JO_nil ?_
  refine JX_then ?_
  refine J_seq ?_
  refine J_region ?_
  refine JO_read (vI a) rfl trivial (fun _ _ => rfl) ?_
  refine JO_read (vI b) rfl trivial (fun _ _ => rfl) ?_
  refine JO_read (vI c) rfl trivial (fun _ _ => rfl) ?_
  refine JO_call [] [] [] rfl trivial (fun _ => x_call Ty.ca25 rfl) (fun _ h => h) (fun _ h => by cases h) (fun w hS => f25_ok a b c w) ?_
  rintro _ _ ⟨rfl, rfl⟩
  have ha2 := R47.unit_range a b c
  refine JO_read (Value.tuple #[vI ((R47.unit a b c).1), vI ((R47.unit a b c).2)]) rfl trivial (fun _ _ => rfl) ?_
  refine JO_read (vI ((R47.unit a b c).1)) rfl trivial (fun _ _ => rfl) ?_
  refine JO_read (vI ((R47.unit a b c).2)) rfl trivial (fun _ _ => rfl) ?_
  refine JO_read (vI ((R47.unit a b c).1)) rfl trivial (fun _ _ => rfl) ?_
  refine JO_read (vI ((R47.unit a b c).2)) rfl trivial (fun _ _ => rfl) ?_
  refine JO_nil ?_
  refine JX_then ?_
  refine J_seq ?_
  refine J_seq ?_
  refine J_region ?_
  refine JO_read (vI ((R47.unit a b c).1)) rfl trivial (fun _ _ => rfl) ?_
  refine JO_read (vI ((R47.unit a b c).1)) rfl trivial (fun _ _ => rfl) ?_
  refine JO_read (vB (decide ((R47.unit a b c).1 ≠ (R47.unit a b c).1))) rfl trivial (fun _ _ => x_neq_i rfl rfl) ?_
  refine JO_read (vB (decide ((R47.unit a b c).1 ≠ (R47.unit a b c).1))) rfl trivial (fun _ _ => rfl) ?_
  refine JO_cut (X := Bool) 4 (fun z => z = ((decide ((R47.unit a b c).1 ≠ (R47.unit a b c).1)) || (decide ((R47.unit a b c).2 ≠ (R47.unit a b c).2)))) (fun z => [(0, vI a), (1, vI b), (2, vI c), (6, vB false), (7, vI ((R47.unit a b c).1)), (8, vI ((R47.unit a b c).2)), (38, vB z)]) (fun _ => []) ?_ ?_
  · rcases Bool.eq_false_or_eq_true (decide ((R47.unit a b c).1 ≠ (R47.unit a b c).1)) with g4 | g4
    · have g4r := g4
      have g4r := of_decide_eq_true g4r
      refine JO_shun rfl ⟨_, rfl, g4⟩ ?_
      refine JO_shun rfl ⟨_, rfl, g4⟩ ?_
      refine JO_shun rfl ⟨_, rfl, g4⟩ ?_
      refine JO_read (vB true) rfl trivial (fun _ _ => x_pick_t rfl g4 rfl) ?_
      refine JO_nil (JX_cut (true) (by rw [g4]; simp) ⟨rfl, rfl, rfl, rfl, rfl, rfl, rfl, trivial⟩ (fun _ h => h))
    · have g4r := g4
      have g4r := of_decide_eq_false g4r
      refine JO_read (vI ((R47.unit a b c).2)) rfl ⟨_, rfl, g4⟩ (fun _ _ => rfl) ?_
      refine JO_read (vI ((R47.unit a b c).2)) rfl ⟨_, rfl, g4⟩ (fun _ _ => rfl) ?_
      refine JO_read (vB (decide ((R47.unit a b c).2 ≠ (R47.unit a b c).2))) rfl ⟨_, rfl, g4⟩ (fun _ _ => x_neq_i rfl rfl) ?_
      refine JO_read (vB (decide ((R47.unit a b c).2 ≠ (R47.unit a b c).2))) rfl trivial (fun _ _ => x_pick_f rfl g4 rfl) ?_
      refine JO_nil (JX_cut (decide ((R47.unit a b c).2 ≠ (R47.unit a b c).2)) (by rw [g4]; simp) ⟨rfl, rfl, rfl, rfl, rfl, rfl, rfl, trivial⟩ (fun _ h => h))
  rintro z3 rfl
  refine JO_nil ?_
  refine JX_then ?_
  refine J_cond ((decide ((R47.unit a b c).1 ≠ (R47.unit a b c).1)) || (decide ((R47.unit a b c).2 ≠ (R47.unit a b c).2))) rfl rfl (fun h5 => ?_) (fun h5 => ?_)
  · have h5w := h5
    simp only [Bool.and_eq_true, Bool.or_eq_true, Bool.and_eq_false_iff, Bool.or_eq_false_iff, Bool.not_eq_true', Bool.not_eq_false', decide_eq_true_eq, decide_eq_false_iff_not] at h5
    refine J_seq ?_
    refine J_region ?_
    refine JO_read (vB false) rfl trivial (fun _ _ => rfl) ?_
    refine JO_nil ?_
    refine JX_then ?_
    refine J_ret ?_
    refine JX_then_ret ?_
    refine JX_rets [vB false] (vB false) Tryd.results7 (fun w h => ⟨rfl, trivial⟩) rfl [] (fun _ h => h) ⟨?_, ?_⟩
    · have e_x0 : (false : Bool) = true := by
        first | rfl | exact (R47.twice_bad (by assumption)).elim | (rw [R47.unit_err (by assumption)]; rfl) | exact (R47.unit_next (by assumption) (by assumption)).elim | (rw [R47.unit_parts (by assumption)]; simp)
      exact congrArg (fun (x0 : Bool) => vB x0) e_x0
    · rfl
  · have h5w := h5
    have ⟨h5, h6⟩ := bor_false h5
    have h5 := of_decide_eq_false h5
    have h6 := of_decide_eq_false h6
    refine J_skip ?_
    refine JX_then ?_
    refine J_seq ?_
    refine J_seq ?_
    refine J_region ?_
    refine JO_read (vI ((R47.unit a b c).2)) rfl trivial (fun _ _ => rfl) ?_
    refine JO_read (vB (decide ((R47.unit a b c).2 ≠ 0))) rfl trivial (fun _ _ => x_neq_i rfl rfl) ?_
    refine JO_nil ?_
    refine JX_then ?_
    refine J_cond (decide ((R47.unit a b c).2 ≠ 0)) rfl rfl (fun h7 => ?_) (fun h7 => ?_)
    · have h7w := h7
      have h7 := of_decide_eq_true h7
      refine J_seq ?_
      refine J_region ?_
      refine JO_read (vI ((R47.unit a b c).1)) rfl trivial (fun _ _ => rfl) ?_
      refine JO_read (vB (decide ((R47.unit a b c).1 = 0))) rfl trivial (fun _ _ => x_eql_i rfl rfl) ?_
      refine JO_read (vB (decide ((R47.unit a b c).1 = 0))) rfl trivial (fun _ _ => rfl) ?_
      refine JO_cut (X := Bool) 2 (fun z => z = ((decide ((R47.unit a b c).1 = 0)) && true)) (fun z => [(0, vI a), (1, vI b), (2, vI c), (6, vB false), (7, vI ((R47.unit a b c).1)), (45, vB z)]) (fun _ => []) ?_ ?_
      · rcases Bool.eq_false_or_eq_true (decide ((R47.unit a b c).1 = 0)) with g9 | g9
        · have g9r := g9
          have g9r := of_decide_eq_true g9r
          refine JO_call [] [] [] rfl ⟨_, rfl, g9⟩ (fun _ => x_call Ty.ca10 rfl) (fun _ h => h) (fun _ h => by cases h) (fun w hS => f10_ok w (hT.on hS (fun _ h => by cases h))) ?_
          rintro _ _ ⟨rfl, rfl⟩
          refine JO_read (vB true) rfl trivial (fun _ _ => x_pick_t rfl g9 rfl) ?_
          refine JO_nil (JX_cut (true) (by rw [g9]; simp) ⟨rfl, rfl, rfl, rfl, rfl, rfl, trivial⟩ (fun _ h => h))
        · have g9r := g9
          have g9r := of_decide_eq_false g9r
          refine JO_shun rfl ⟨_, rfl, g9⟩ ?_
          refine JO_read (vB false) rfl trivial (fun _ _ => x_pick_f rfl g9 rfl) ?_
          refine JO_nil (JX_cut (false) (by rw [g9]; simp) ⟨rfl, rfl, rfl, rfl, rfl, rfl, trivial⟩ (fun _ h => h))
      rintro z8 rfl
      refine JO_read (vB ((decide ((R47.unit a b c).1 = 0)) && true)) rfl trivial (fun _ _ => rfl) ?_
      refine JO_nil ?_
      refine JX_then ?_
      refine J_ret ?_
      refine JX_then_ret ?_
      refine JX_rets [vB ((decide ((R47.unit a b c).1 = 0)) && true)] (vB ((decide ((R47.unit a b c).1 = 0)) && true)) Tryd.results7 (fun w h => ⟨rfl, trivial⟩) rfl [] (fun _ h => h) ⟨?_, ?_⟩
      · have e_x0 : ((decide ((R47.unit a b c).1 = 0)) && true : Bool) = true := by
          first | rfl | exact (R47.twice_bad (by assumption)).elim | (rw [R47.unit_err (by assumption)]; rfl) | exact (R47.unit_next (by assumption) (by assumption)).elim | (rw [R47.unit_parts (by assumption)]; simp)
        exact congrArg (fun (x0 : Bool) => vB x0) e_x0
      · rfl
    · have h7w := h7
      have h7 := of_decide_eq_false h7
      have hi10 := R47.unit_fine h7
      refine J_skip ?_
      refine JX_then ?_
      refine J_seq ?_
      refine J_region ?_
      refine JO_read (vI ((R47.unit a b c).1)) rfl trivial (fun _ _ => rfl) ?_
      refine JO_call [] [] [] rfl trivial (fun _ => x_call Ty.ca26 rfl) (fun _ h => h) (fun _ h => by cases h) (fun w hS => f26_ok ((R47.unit a b c).1) w (by first | omega | assumption | (simp only [List.length_append, List.length_cons, List.length_nil]; omega) | (simp only [sub, List.length_drop, List.length_take]; omega) | (simp; omega) | (simp_all; done) | (simp_all; omega) | decide) (by first | omega | assumption | (simp only [List.length_append, List.length_cons, List.length_nil]; omega) | (simp only [sub, List.length_drop, List.length_take]; omega) | (simp; omega) | (simp_all; done) | (simp_all; omega) | decide)) ?_
      rintro _ _ ⟨rfl, rfl⟩
      refine JO_read (Value.tuple #[vI ((R47.parts ((R47.unit a b c).1)).1), vI ((R47.parts ((R47.unit a b c).1)).2.1), vI ((R47.parts ((R47.unit a b c).1)).2.2.1), vB ((R47.parts ((R47.unit a b c).1)).2.2.2)]) rfl trivial (fun _ _ => rfl) ?_
      refine JO_read (vI ((R47.parts ((R47.unit a b c).1)).1)) rfl trivial (fun _ _ => rfl) ?_
      refine JO_read (vI ((R47.parts ((R47.unit a b c).1)).2.1)) rfl trivial (fun _ _ => rfl) ?_
      refine JO_read (vI ((R47.parts ((R47.unit a b c).1)).2.2.1)) rfl trivial (fun _ _ => rfl) ?_
      refine JO_read (vB ((R47.parts ((R47.unit a b c).1)).2.2.2)) rfl trivial (fun _ _ => rfl) ?_
      refine JO_read (vI ((R47.parts ((R47.unit a b c).1)).1)) rfl trivial (fun _ _ => rfl) ?_
      refine JO_read (vI ((R47.parts ((R47.unit a b c).1)).2.1)) rfl trivial (fun _ _ => rfl) ?_
      refine JO_read (vI ((R47.parts ((R47.unit a b c).1)).2.2.1)) rfl trivial (fun _ _ => rfl) ?_
      refine JO_read (vB ((R47.parts ((R47.unit a b c).1)).2.2.2)) rfl trivial (fun _ _ => rfl) ?_
      refine JO_nil ?_
      refine JX_then ?_
      refine J_seq ?_
      refine J_seq ?_
      refine J_region ?_
      refine JO_read (vI b) rfl trivial (fun _ _ => rfl) ?_
      refine JO_read (vI (b + 1)) rfl trivial (fun _ _ => x_add_i (a := b) (b := 1) rfl rfl (by omega) (by omega)) ?_
      refine JO_call [] [] [] rfl trivial (fun _ => x_call Ty.ca24 rfl) (fun _ h => h) (fun _ h => by cases h) (fun w hS => f24_ok 1 (b + 1) 1 w) ?_
      rintro _ _ ⟨rfl, rfl⟩
      have ha11 := R47.unit_range 1 (b + 1) 1
      refine JO_read (Value.tuple #[vI ((R47.unit 1 (b + 1) 1).1), vI ((R47.unit 1 (b + 1) 1).2)]) rfl trivial (fun _ _ => rfl) ?_
      refine JO_read (vI ((R47.unit 1 (b + 1) 1).1)) rfl trivial (fun _ _ => rfl) ?_
      refine JO_read (vI ((R47.unit 1 (b + 1) 1).2)) rfl trivial (fun _ _ => rfl) ?_
      refine JO_read (vI ((R47.unit 1 (b + 1) 1).1)) rfl trivial (fun _ _ => rfl) ?_
      refine JO_read (vI ((R47.unit 1 (b + 1) 1).2)) rfl trivial (fun _ _ => rfl) ?_
      refine JO_nil ?_
      refine JX_then ?_
      refine J_seq ?_
      refine J_region ?_
      refine JO_read (vI ((R47.unit 1 (b + 1) 1).2)) rfl trivial (fun _ _ => rfl) ?_
      refine JO_read (vB (decide ((R47.unit 1 (b + 1) 1).2 = 0))) rfl trivial (fun _ _ => x_eql_i rfl rfl) ?_
      refine JO_read (vB (decide ((R47.unit 1 (b + 1) 1).2 = 0))) rfl trivial (fun _ _ => rfl) ?_
      refine JO_cut (X := Bool) 4 (fun z => z = ((decide ((R47.unit 1 (b + 1) 1).2 = 0)) && (decide ((R47.unit 1 (b + 1) 1).1 ≤ (R47.unit a b c).1)))) (fun z => [(0, vI a), (1, vI b), (2, vI c), (6, vB false), (11, vI ((R47.parts ((R47.unit a b c).1)).1)), (12, vI ((R47.parts ((R47.unit a b c).1)).2.1)), (13, vI ((R47.parts ((R47.unit a b c).1)).2.2.1)), (14, vB ((R47.parts ((R47.unit a b c).1)).2.2.2)), (65, vB z)]) (fun _ => []) ?_ ?_
      · rcases Bool.eq_false_or_eq_true (decide ((R47.unit 1 (b + 1) 1).2 = 0)) with g13 | g13
        · have g13r := g13
          have g13r := of_decide_eq_true g13r
          refine JO_read (vI ((R47.unit 1 (b + 1) 1).1)) rfl ⟨_, rfl, g13⟩ (fun _ _ => rfl) ?_
          refine JO_read (vI ((R47.unit a b c).1)) rfl ⟨_, rfl, g13⟩ (fun _ _ => rfl) ?_
          refine JO_read (vB (decide ((R47.unit 1 (b + 1) 1).1 ≤ (R47.unit a b c).1))) rfl ⟨_, rfl, g13⟩ (fun _ _ => x_leq_i rfl rfl) ?_
          refine JO_read (vB (decide ((R47.unit 1 (b + 1) 1).1 ≤ (R47.unit a b c).1))) rfl trivial (fun _ _ => x_pick_t rfl g13 rfl) ?_
          refine JO_nil (JX_cut (decide ((R47.unit 1 (b + 1) 1).1 ≤ (R47.unit a b c).1)) (by rw [g13]; simp) ⟨rfl, rfl, rfl, rfl, rfl, rfl, rfl, rfl, rfl, trivial⟩ (fun _ h => h))
        · have g13r := g13
          have g13r := of_decide_eq_false g13r
          refine JO_shun rfl ⟨_, rfl, g13⟩ ?_
          refine JO_shun rfl ⟨_, rfl, g13⟩ ?_
          refine JO_shun rfl ⟨_, rfl, g13⟩ ?_
          refine JO_read (vB false) rfl trivial (fun _ _ => x_pick_f rfl g13 rfl) ?_
          refine JO_nil (JX_cut (false) (by rw [g13]; simp) ⟨rfl, rfl, rfl, rfl, rfl, rfl, rfl, rfl, rfl, trivial⟩ (fun _ h => h))
      rintro z12 rfl
      refine JO_nil ?_
      refine JX_then ?_
      refine J_cond ((decide ((R47.unit 1 (b + 1) 1).2 = 0)) && (decide ((R47.unit 1 (b + 1) 1).1 ≤ (R47.unit a b c).1))) rfl rfl (fun h14 => ?_) (fun h14 => ?_)
      · have h14w := h14
        have ⟨h14, h15⟩ := band_true h14
        have h14 := of_decide_eq_true h14
        have h15 := of_decide_eq_true h15
        refine J_seq ?_
        refine J_region ?_
        refine JO_read (vB false) rfl trivial (fun _ _ => rfl) ?_
        refine JO_nil ?_
        refine JX_then ?_
        refine J_ret ?_
        refine JX_then_ret ?_
        refine JX_rets [vB false] (vB false) Tryd.results7 (fun w h => ⟨rfl, trivial⟩) rfl [] (fun _ h => h) ⟨?_, ?_⟩
        · have e_x0 : (false : Bool) = true := by
            first | rfl | exact (R47.twice_bad (by assumption)).elim | (rw [R47.unit_err (by assumption)]; rfl) | exact (R47.unit_next (by assumption) (by assumption)).elim | (rw [R47.unit_parts (by assumption)]; simp)
          exact congrArg (fun (x0 : Bool) => vB x0) e_x0
        · rfl
      · have h14w := h14
        simp only [Bool.and_eq_true, Bool.or_eq_true, Bool.and_eq_false_iff, Bool.or_eq_false_iff, Bool.not_eq_true', Bool.not_eq_false', decide_eq_true_eq, decide_eq_false_iff_not] at h14
        refine J_skip ?_
        refine JX_then ?_
        refine J_seq ?_
        refine J_region ?_
        refine JO_read (vB ((R47.parts ((R47.unit a b c).1)).2.2.2)) rfl trivial (fun _ _ => rfl) ?_
        refine JO_read (vB ((R47.parts ((R47.unit a b c).1)).2.2.2)) rfl trivial (fun _ _ => rfl) ?_
        refine JO_cut (X := Bool) 4 (fun z => z = (((R47.parts ((R47.unit a b c).1)).2.2.2) && (decide ((R47.parts ((R47.unit a b c).1)).1 = a)))) (fun z => [(1, vI b), (2, vI c), (6, vB false), (12, vI ((R47.parts ((R47.unit a b c).1)).2.1)), (13, vI ((R47.parts ((R47.unit a b c).1)).2.2.1)), (71, vB z)]) (fun _ => []) ?_ ?_
        · rcases Bool.eq_false_or_eq_true ((R47.parts ((R47.unit a b c).1)).2.2.2) with g17 | g17
          · have g17r := g17
            refine JO_read (vI ((R47.parts ((R47.unit a b c).1)).1)) rfl ⟨_, rfl, g17⟩ (fun _ _ => rfl) ?_
            refine JO_read (vI a) rfl ⟨_, rfl, g17⟩ (fun _ _ => rfl) ?_
            refine JO_read (vB (decide ((R47.parts ((R47.unit a b c).1)).1 = a))) rfl ⟨_, rfl, g17⟩ (fun _ _ => x_eql_i rfl rfl) ?_
            refine JO_read (vB (decide ((R47.parts ((R47.unit a b c).1)).1 = a))) rfl trivial (fun _ _ => x_pick_t rfl g17 rfl) ?_
            refine JO_nil (JX_cut (decide ((R47.parts ((R47.unit a b c).1)).1 = a)) (by rw [g17]; simp) ⟨rfl, rfl, rfl, rfl, rfl, rfl, trivial⟩ (fun _ h => h))
          · have g17r := g17
            refine JO_shun rfl ⟨_, rfl, g17⟩ ?_
            refine JO_shun rfl ⟨_, rfl, g17⟩ ?_
            refine JO_shun rfl ⟨_, rfl, g17⟩ ?_
            refine JO_read (vB false) rfl trivial (fun _ _ => x_pick_f rfl g17 rfl) ?_
            refine JO_nil (JX_cut (false) (by rw [g17]; simp) ⟨rfl, rfl, rfl, rfl, rfl, rfl, trivial⟩ (fun _ h => h))
        rintro z16 rfl
        refine JO_read (vB (((R47.parts ((R47.unit a b c).1)).2.2.2) && (decide ((R47.parts ((R47.unit a b c).1)).1 = a)))) rfl trivial (fun _ _ => rfl) ?_
        refine JO_cut (X := Bool) 4 (fun z => z = ((((R47.parts ((R47.unit a b c).1)).2.2.2) && (decide ((R47.parts ((R47.unit a b c).1)).1 = a))) && (decide ((R47.parts ((R47.unit a b c).1)).2.1 = b)))) (fun z => [(2, vI c), (6, vB false), (13, vI ((R47.parts ((R47.unit a b c).1)).2.2.1)), (76, vB z)]) (fun _ => []) ?_ ?_
        · rcases Bool.eq_false_or_eq_true (((R47.parts ((R47.unit a b c).1)).2.2.2) && (decide ((R47.parts ((R47.unit a b c).1)).1 = a))) with g19 | g19
          · have g19r := g19
            have ⟨g19r, h20⟩ := band_true g19r
            have h20 := of_decide_eq_true h20
            refine JO_read (vI ((R47.parts ((R47.unit a b c).1)).2.1)) rfl ⟨_, rfl, g19⟩ (fun _ _ => rfl) ?_
            refine JO_read (vI b) rfl ⟨_, rfl, g19⟩ (fun _ _ => rfl) ?_
            refine JO_read (vB (decide ((R47.parts ((R47.unit a b c).1)).2.1 = b))) rfl ⟨_, rfl, g19⟩ (fun _ _ => x_eql_i rfl rfl) ?_
            refine JO_read (vB (decide ((R47.parts ((R47.unit a b c).1)).2.1 = b))) rfl trivial (fun _ _ => x_pick_t rfl g19 rfl) ?_
            refine JO_nil (JX_cut (decide ((R47.parts ((R47.unit a b c).1)).2.1 = b)) (by rw [g19]; simp) ⟨rfl, rfl, rfl, rfl, trivial⟩ (fun _ h => h))
          · have g19r := g19
            simp only [Bool.and_eq_true, Bool.or_eq_true, Bool.and_eq_false_iff, Bool.or_eq_false_iff, Bool.not_eq_true', Bool.not_eq_false', decide_eq_true_eq, decide_eq_false_iff_not] at g19r
            refine JO_shun rfl ⟨_, rfl, g19⟩ ?_
            refine JO_shun rfl ⟨_, rfl, g19⟩ ?_
            refine JO_shun rfl ⟨_, rfl, g19⟩ ?_
            refine JO_read (vB false) rfl trivial (fun _ _ => x_pick_f rfl g19 rfl) ?_
            refine JO_nil (JX_cut (false) (by rw [g19]; simp) ⟨rfl, rfl, rfl, rfl, trivial⟩ (fun _ h => h))
        rintro z18 rfl
        refine JO_read (vB ((((R47.parts ((R47.unit a b c).1)).2.2.2) && (decide ((R47.parts ((R47.unit a b c).1)).1 = a))) && (decide ((R47.parts ((R47.unit a b c).1)).2.1 = b)))) rfl trivial (fun _ _ => rfl) ?_
        refine JO_cut (X := Bool) 4 (fun z => z = (((((R47.parts ((R47.unit a b c).1)).2.2.2) && (decide ((R47.parts ((R47.unit a b c).1)).1 = a))) && (decide ((R47.parts ((R47.unit a b c).1)).2.1 = b))) && (decide ((R47.parts ((R47.unit a b c).1)).2.2.1 = c)))) (fun z => [(6, vB false), (81, vB z)]) (fun _ => []) ?_ ?_
        · rcases Bool.eq_false_or_eq_true ((((R47.parts ((R47.unit a b c).1)).2.2.2) && (decide ((R47.parts ((R47.unit a b c).1)).1 = a))) && (decide ((R47.parts ((R47.unit a b c).1)).2.1 = b))) with g22 | g22
          · have g22r := g22
            have ⟨g22r, h23⟩ := band_true g22r
            have ⟨g22r, h24⟩ := band_true g22r
            have h24 := of_decide_eq_true h24
            have h23 := of_decide_eq_true h23
            refine JO_read (vI ((R47.parts ((R47.unit a b c).1)).2.2.1)) rfl ⟨_, rfl, g22⟩ (fun _ _ => rfl) ?_
            refine JO_read (vI c) rfl ⟨_, rfl, g22⟩ (fun _ _ => rfl) ?_
            refine JO_read (vB (decide ((R47.parts ((R47.unit a b c).1)).2.2.1 = c))) rfl ⟨_, rfl, g22⟩ (fun _ _ => x_eql_i rfl rfl) ?_
            refine JO_read (vB (decide ((R47.parts ((R47.unit a b c).1)).2.2.1 = c))) rfl trivial (fun _ _ => x_pick_t rfl g22 rfl) ?_
            refine JO_nil (JX_cut (decide ((R47.parts ((R47.unit a b c).1)).2.2.1 = c)) (by rw [g22]; simp) ⟨rfl, rfl, trivial⟩ (fun _ h => h))
          · have g22r := g22
            simp only [Bool.and_eq_true, Bool.or_eq_true, Bool.and_eq_false_iff, Bool.or_eq_false_iff, Bool.not_eq_true', Bool.not_eq_false', decide_eq_true_eq, decide_eq_false_iff_not] at g22r
            refine JO_shun rfl ⟨_, rfl, g22⟩ ?_
            refine JO_shun rfl ⟨_, rfl, g22⟩ ?_
            refine JO_shun rfl ⟨_, rfl, g22⟩ ?_
            refine JO_read (vB false) rfl trivial (fun _ _ => x_pick_f rfl g22 rfl) ?_
            refine JO_nil (JX_cut (false) (by rw [g22]; simp) ⟨rfl, rfl, trivial⟩ (fun _ h => h))
        rintro z21 rfl
        refine JO_read (vB (((((R47.parts ((R47.unit a b c).1)).2.2.2) && (decide ((R47.parts ((R47.unit a b c).1)).1 = a))) && (decide ((R47.parts ((R47.unit a b c).1)).2.1 = b))) && (decide ((R47.parts ((R47.unit a b c).1)).2.2.1 = c)))) rfl trivial (fun _ _ => rfl) ?_
        refine JO_cut (X := Bool) 2 (fun z => z = ((((((R47.parts ((R47.unit a b c).1)).2.2.2) && (decide ((R47.parts ((R47.unit a b c).1)).1 = a))) && (decide ((R47.parts ((R47.unit a b c).1)).2.1 = b))) && (decide ((R47.parts ((R47.unit a b c).1)).2.2.1 = c))) && true)) (fun z => [(6, vB false), (84, vB z)]) (fun _ => []) ?_ ?_
        · rcases Bool.eq_false_or_eq_true (((((R47.parts ((R47.unit a b c).1)).2.2.2) && (decide ((R47.parts ((R47.unit a b c).1)).1 = a))) && (decide ((R47.parts ((R47.unit a b c).1)).2.1 = b))) && (decide ((R47.parts ((R47.unit a b c).1)).2.2.1 = c))) with g26 | g26
          · have g26r := g26
            have ⟨g26r, h27⟩ := band_true g26r
            have ⟨g26r, h28⟩ := band_true g26r
            have ⟨g26r, h29⟩ := band_true g26r
            have h29 := of_decide_eq_true h29
            have h28 := of_decide_eq_true h28
            have h27 := of_decide_eq_true h27
            refine JO_call [] [] [] rfl ⟨_, rfl, g26⟩ (fun _ => x_call Ty.ca10 rfl) (fun _ h => h) (fun _ h => by cases h) (fun w hS => f10_ok w (hT.on hS (fun _ h => by cases h))) ?_
            rintro _ _ ⟨rfl, rfl⟩
            refine JO_read (vB true) rfl trivial (fun _ _ => x_pick_t rfl g26 rfl) ?_
            refine JO_nil (JX_cut (true) (by rw [g26]; simp) ⟨rfl, rfl, trivial⟩ (fun _ h => h))
          · have g26r := g26
            simp only [Bool.and_eq_true, Bool.or_eq_true, Bool.and_eq_false_iff, Bool.or_eq_false_iff, Bool.not_eq_true', Bool.not_eq_false', decide_eq_true_eq, decide_eq_false_iff_not] at g26r
            refine JO_shun rfl ⟨_, rfl, g26⟩ ?_
            refine JO_read (vB false) rfl trivial (fun _ _ => x_pick_f rfl g26 rfl) ?_
            refine JO_nil (JX_cut (false) (by rw [g26]; simp) ⟨rfl, rfl, trivial⟩ (fun _ h => h))
        rintro z25 rfl
        refine JO_read (vB ((((((R47.parts ((R47.unit a b c).1)).2.2.2) && (decide ((R47.parts ((R47.unit a b c).1)).1 = a))) && (decide ((R47.parts ((R47.unit a b c).1)).2.1 = b))) && (decide ((R47.parts ((R47.unit a b c).1)).2.2.1 = c))) && true)) rfl trivial (fun _ _ => rfl) ?_
        refine JO_nil ?_
        refine JX_then ?_
        refine J_ret ?_
        refine JX_rets [vB ((((((R47.parts ((R47.unit a b c).1)).2.2.2) && (decide ((R47.parts ((R47.unit a b c).1)).1 = a))) && (decide ((R47.parts ((R47.unit a b c).1)).2.1 = b))) && (decide ((R47.parts ((R47.unit a b c).1)).2.2.1 = c))) && true)] (vB ((((((R47.parts ((R47.unit a b c).1)).2.2.2) && (decide ((R47.parts ((R47.unit a b c).1)).1 = a))) && (decide ((R47.parts ((R47.unit a b c).1)).2.1 = b))) && (decide ((R47.parts ((R47.unit a b c).1)).2.2.1 = c))) && true)) Tryd.results7 (fun w h => ⟨rfl, trivial⟩) rfl [] (fun _ h => h) ⟨?_, ?_⟩
        · have e_x0 : ((((((R47.parts ((R47.unit a b c).1)).2.2.2) && (decide ((R47.parts ((R47.unit a b c).1)).1 = a))) && (decide ((R47.parts ((R47.unit a b c).1)).2.1 = b))) && (decide ((R47.parts ((R47.unit a b c).1)).2.2.1 = c))) && true : Bool) = true := by
            first | rfl | exact (R47.twice_bad (by assumption)).elim | (rw [R47.unit_err (by assumption)]; rfl) | exact (R47.unit_next (by assumption) (by assumption)).elim | (rw [R47.unit_parts (by assumption)]; simp)
          exact congrArg (fun (x0 : Bool) => vB x0) e_x0
        · rfl

set_option maxRecDepth 20000 in
theorem f8_ok (u : Int) (w : World) (hT : Tab [] w) (q0 : -9223372036854775808 ≤ u) (q1 : u ≤ 9223372036854775807) : Calls Tryd.prog 8 #[vI u] w (Gives [] w fun v L => v = vB true ∧ L = []) := by
  refine calls_J [] 61 Tryd.func8 rfl Tryd.ntmps8 [(0, vI u)] rfl rfl (Give.nil w) ?_
  refine J_seq ?_
  refine J_region ?_
  refine JO_read (vB false) rfl trivial (fun _ _ => rfl) ?_
  refine JO_nil ?_
  refine JX_then ?_
  refine J_seq ?_
  refine J_region ?_
  refine JO_read (vI u) rfl trivial (fun _ _ => rfl) ?_
  refine JO_call [] [] [] rfl trivial (fun _ => x_call Ty.ca26 rfl) (fun _ h => h) (fun _ h => by cases h) (fun w hS => f26_ok u w (by first | omega | assumption | (simp only [List.length_append, List.length_cons, List.length_nil]; omega) | (simp only [sub, List.length_drop, List.length_take]; omega) | (simp; omega) | (simp_all; done) | (simp_all; omega) | decide) (by first | omega | assumption | (simp only [List.length_append, List.length_cons, List.length_nil]; omega) | (simp only [sub, List.length_drop, List.length_take]; omega) | (simp; omega) | (simp_all; done) | (simp_all; omega) | decide)) ?_
  rintro _ _ ⟨rfl, rfl⟩
  refine JO_read (Value.tuple #[vI ((R47.parts u).1), vI ((R47.parts u).2.1), vI ((R47.parts u).2.2.1), vB ((R47.parts u).2.2.2)]) rfl trivial (fun _ _ => rfl) ?_
  refine JO_read (vI ((R47.parts u).1)) rfl trivial (fun _ _ => rfl) ?_
  refine JO_read (vI ((R47.parts u).2.1)) rfl trivial (fun _ _ => rfl) ?_
  refine JO_read (vI ((R47.parts u).2.2.1)) rfl trivial (fun _ _ => rfl) ?_
  refine JO_read (vB ((R47.parts u).2.2.2)) rfl trivial (fun _ _ => rfl) ?_
  refine JO_read (vI ((R47.parts u).1)) rfl trivial (fun _ _ => rfl) ?_
  refine JO_read (vI ((R47.parts u).2.1)) rfl trivial (fun _ _ => rfl) ?_
  refine JO_read (vI ((R47.parts u).2.2.1)) rfl trivial (fun _ _ => rfl) ?_
  refine JO_read (vB ((R47.parts u).2.2.2)) rfl trivial (fun _ _ => rfl) ?_
  refine JO_nil ?_
  refine JX_then ?_
  refine J_seq ?_
  refine J_seq ?_
  refine J_region ?_
  refine JO_read (vB ((R47.parts u).2.2.2)) rfl trivial (fun _ _ => rfl) ?_
  refine JO_read (vB (!((R47.parts u).2.2.2))) rfl trivial (fun _ _ => x_not rfl) ?_
  refine JO_nil ?_
  refine JX_then ?_
  refine J_cond (!((R47.parts u).2.2.2)) rfl rfl (fun h1 => ?_) (fun h1 => ?_)
  · have h1 : ((R47.parts u).2.2.2) = false := bnot_true h1
    refine J_seq ?_
    refine J_region ?_
    refine JO_read (vI ((R47.parts u).1)) rfl trivial (fun _ _ => rfl) ?_
    refine JO_read (vB (decide ((R47.parts u).1 = 0))) rfl trivial (fun _ _ => x_eql_i rfl rfl) ?_
    refine JO_read (vB (decide ((R47.parts u).1 = 0))) rfl trivial (fun _ _ => rfl) ?_
    refine JO_cut (X := Bool) 3 (fun z => z = ((decide ((R47.parts u).1 = 0)) && (decide ((R47.parts u).2.1 = 0)))) (fun z => [(0, vI u), (2, vB false), (3, vI ((R47.parts u).1)), (4, vI ((R47.parts u).2.1)), (5, vI ((R47.parts u).2.2.1)), (23, vB z)]) (fun _ => []) ?_ ?_
    · rcases Bool.eq_false_or_eq_true (decide ((R47.parts u).1 = 0)) with g3 | g3
      · have g3r := g3
        have g3r := of_decide_eq_true g3r
        refine JO_read (vI ((R47.parts u).2.1)) rfl ⟨_, rfl, g3⟩ (fun _ _ => rfl) ?_
        refine JO_read (vB (decide ((R47.parts u).2.1 = 0))) rfl ⟨_, rfl, g3⟩ (fun _ _ => x_eql_i rfl rfl) ?_
        refine JO_read (vB (decide ((R47.parts u).2.1 = 0))) rfl trivial (fun _ _ => x_pick_t rfl g3 rfl) ?_
        refine JO_nil (JX_cut (decide ((R47.parts u).2.1 = 0)) (by rw [g3]; simp) ⟨rfl, rfl, rfl, rfl, rfl, rfl, trivial⟩ (fun _ h => h))
      · have g3r := g3
        have g3r := of_decide_eq_false g3r
        refine JO_shun rfl ⟨_, rfl, g3⟩ ?_
        refine JO_shun rfl ⟨_, rfl, g3⟩ ?_
        refine JO_read (vB false) rfl trivial (fun _ _ => x_pick_f rfl g3 rfl) ?_
        refine JO_nil (JX_cut (false) (by rw [g3]; simp) ⟨rfl, rfl, rfl, rfl, rfl, rfl, trivial⟩ (fun _ h => h))
    rintro z2 rfl
    refine JO_read (vB ((decide ((R47.parts u).1 = 0)) && (decide ((R47.parts u).2.1 = 0)))) rfl trivial (fun _ _ => rfl) ?_
    refine JO_cut (X := Bool) 3 (fun z => z = (((decide ((R47.parts u).1 = 0)) && (decide ((R47.parts u).2.1 = 0))) && (decide ((R47.parts u).2.2.1 = 0)))) (fun z => [(0, vI u), (2, vB false), (3, vI ((R47.parts u).1)), (4, vI ((R47.parts u).2.1)), (5, vI ((R47.parts u).2.2.1)), (27, vB z)]) (fun _ => []) ?_ ?_
    · rcases Bool.eq_false_or_eq_true ((decide ((R47.parts u).1 = 0)) && (decide ((R47.parts u).2.1 = 0))) with g5 | g5
      · have g5r := g5
        have ⟨g5r, h6⟩ := band_true g5r
        have g5r := of_decide_eq_true g5r
        have h6 := of_decide_eq_true h6
        refine JO_read (vI ((R47.parts u).2.2.1)) rfl ⟨_, rfl, g5⟩ (fun _ _ => rfl) ?_
        refine JO_read (vB (decide ((R47.parts u).2.2.1 = 0))) rfl ⟨_, rfl, g5⟩ (fun _ _ => x_eql_i rfl rfl) ?_
        refine JO_read (vB (decide ((R47.parts u).2.2.1 = 0))) rfl trivial (fun _ _ => x_pick_t rfl g5 rfl) ?_
        refine JO_nil (JX_cut (decide ((R47.parts u).2.2.1 = 0)) (by rw [g5]; simp) ⟨rfl, rfl, rfl, rfl, rfl, rfl, trivial⟩ (fun _ h => h))
      · have g5r := g5
        simp only [Bool.and_eq_true, Bool.or_eq_true, Bool.and_eq_false_iff, Bool.or_eq_false_iff, Bool.not_eq_true', Bool.not_eq_false', decide_eq_true_eq, decide_eq_false_iff_not] at g5r
        refine JO_shun rfl ⟨_, rfl, g5⟩ ?_
        refine JO_shun rfl ⟨_, rfl, g5⟩ ?_
        refine JO_read (vB false) rfl trivial (fun _ _ => x_pick_f rfl g5 rfl) ?_
        refine JO_nil (JX_cut (false) (by rw [g5]; simp) ⟨rfl, rfl, rfl, rfl, rfl, rfl, trivial⟩ (fun _ h => h))
    rintro z4 rfl
    refine JO_read (vB (((decide ((R47.parts u).1 = 0)) && (decide ((R47.parts u).2.1 = 0))) && (decide ((R47.parts u).2.2.1 = 0)))) rfl trivial (fun _ _ => rfl) ?_
    refine JO_cut (X := Bool) 12 (fun z => z = ((((decide ((R47.parts u).1 = 0)) && (decide ((R47.parts u).2.1 = 0))) && (decide ((R47.parts u).2.2.1 = 0))) && (((decide (u < 262145)) || (decide ((17179869183 : Int) < u))) || (decide (u % 65536 = 0))))) (fun z => [(0, vI u), (2, vB false), (3, vI ((R47.parts u).1)), (4, vI ((R47.parts u).2.1)), (5, vI ((R47.parts u).2.2.1)), (40, vB z)]) (fun _ => []) ?_ ?_
    · rcases Bool.eq_false_or_eq_true (((decide ((R47.parts u).1 = 0)) && (decide ((R47.parts u).2.1 = 0))) && (decide ((R47.parts u).2.2.1 = 0))) with g8 | g8
      · have g8r := g8
        have ⟨g8r, h9⟩ := band_true g8r
        have ⟨g8r, h10⟩ := band_true g8r
        have g8r := of_decide_eq_true g8r
        have h10 := of_decide_eq_true h10
        have h9 := of_decide_eq_true h9
        refine JO_read (vI u) rfl ⟨_, rfl, g8⟩ (fun _ _ => rfl) ?_
        refine JO_read (vB (decide (u < 262145))) rfl ⟨_, rfl, g8⟩ (fun _ _ => x_lss_i rfl rfl) ?_
        refine JO_read (vB (decide (u < 262145))) rfl ⟨_, rfl, g8⟩ (fun _ _ => rfl) ?_
        refine JO_cut (X := Bool) 3 (fun z => z = ((decide (u < 262145)) || (decide ((17179869183 : Int) < u)))) (fun z => [(0, vI u), (2, vB false), (3, vI ((R47.parts u).1)), (4, vI ((R47.parts u).2.1)), (5, vI ((R47.parts u).2.2.1)), (28, vB (((decide ((R47.parts u).1 = 0)) && (decide ((R47.parts u).2.1 = 0))) && (decide ((R47.parts u).2.2.1 = 0)))), (34, vB z)]) (fun _ => []) ?_ ?_
        · rcases Bool.eq_false_or_eq_true (decide (u < 262145)) with g12 | g12
          · have g12r := g12
            have g12r := of_decide_eq_true g12r
            refine JO_shun rfl ⟨_, rfl, g12⟩ ?_
            refine JO_shun rfl ⟨_, rfl, g12⟩ ?_
            refine JO_read (vB true) rfl ⟨_, rfl, g8⟩ (fun _ _ => x_pick_t rfl g12 rfl) ?_
            refine JO_nil (JX_cut (true) (by rw [g12]; simp) ⟨rfl, rfl, rfl, rfl, rfl, rfl, rfl, trivial⟩ (fun _ h => h))
          · have g12r := g12
            have g12r := of_decide_eq_false g12r
            refine JO_read (vI u) rfl ⟨_, rfl, g12⟩ (fun _ _ => rfl) ?_
            refine JO_read (vB (decide ((17179869183 : Int) < u))) rfl ⟨_, rfl, g12⟩ (fun _ _ => x_gtr_i rfl rfl) ?_
            refine JO_read (vB (decide ((17179869183 : Int) < u))) rfl ⟨_, rfl, g8⟩ (fun _ _ => x_pick_f rfl g12 rfl) ?_
            refine JO_nil (JX_cut (decide ((17179869183 : Int) < u)) (by rw [g12]; simp) ⟨rfl, rfl, rfl, rfl, rfl, rfl, rfl, trivial⟩ (fun _ h => h))
        rintro z11 rfl
        refine JO_read (vB ((decide (u < 262145)) || (decide ((17179869183 : Int) < u)))) rfl ⟨_, rfl, g8⟩ (fun _ _ => rfl) ?_
        refine JO_cut (X := Bool) 4 (fun z => z = (((decide (u < 262145)) || (decide ((17179869183 : Int) < u))) || (decide (u % 65536 = 0)))) (fun z => [(0, vI u), (2, vB false), (3, vI ((R47.parts u).1)), (4, vI ((R47.parts u).2.1)), (5, vI ((R47.parts u).2.2.1)), (28, vB (((decide ((R47.parts u).1 = 0)) && (decide ((R47.parts u).2.1 = 0))) && (decide ((R47.parts u).2.2.1 = 0)))), (39, vB z)]) (fun _ => []) ?_ ?_
        · rcases Bool.eq_false_or_eq_true ((decide (u < 262145)) || (decide ((17179869183 : Int) < u))) with g14 | g14
          · have g14r := g14
            simp only [Bool.and_eq_true, Bool.or_eq_true, Bool.and_eq_false_iff, Bool.or_eq_false_iff, Bool.not_eq_true', Bool.not_eq_false', decide_eq_true_eq, decide_eq_false_iff_not] at g14r
            refine JO_shun rfl ⟨_, rfl, g14⟩ ?_
            refine JO_shun rfl ⟨_, rfl, g14⟩ ?_
            refine JO_shun rfl ⟨_, rfl, g14⟩ ?_
            refine JO_read (vB true) rfl ⟨_, rfl, g8⟩ (fun _ _ => x_pick_t rfl g14 rfl) ?_
            refine JO_nil (JX_cut (true) (by rw [g14]; simp) ⟨rfl, rfl, rfl, rfl, rfl, rfl, rfl, trivial⟩ (fun _ h => h))
          · have g14r := g14
            have ⟨g14r, h15⟩ := bor_false g14r
            have g14r := of_decide_eq_false g14r
            have h15 := of_decide_eq_false h15
            refine JO_read (vI u) rfl ⟨_, rfl, g14⟩ (fun _ _ => rfl) ?_
            refine JO_read (vI (u % 65536)) rfl ⟨_, rfl, g14⟩ (fun _ _ => x_rem_i (a := u) (b := 65536) rfl rfl (by omega) (by omega)) ?_
            refine JO_read (vB (decide (u % 65536 = 0))) rfl ⟨_, rfl, g14⟩ (fun _ _ => x_eql_i rfl rfl) ?_
            refine JO_read (vB (decide (u % 65536 = 0))) rfl ⟨_, rfl, g8⟩ (fun _ _ => x_pick_f rfl g14 rfl) ?_
            refine JO_nil (JX_cut (decide (u % 65536 = 0)) (by rw [g14]; simp) ⟨rfl, rfl, rfl, rfl, rfl, rfl, rfl, trivial⟩ (fun _ h => h))
        rintro z13 rfl
        refine JO_read (vB (((decide (u < 262145)) || (decide ((17179869183 : Int) < u))) || (decide (u % 65536 = 0)))) rfl trivial (fun _ _ => x_pick_t rfl g8 rfl) ?_
        refine JO_nil (JX_cut (((decide (u < 262145)) || (decide ((17179869183 : Int) < u))) || (decide (u % 65536 = 0))) (by rw [g8]; simp) ⟨rfl, rfl, rfl, rfl, rfl, rfl, trivial⟩ (fun _ h => h))
      · have g8r := g8
        simp only [Bool.and_eq_true, Bool.or_eq_true, Bool.and_eq_false_iff, Bool.or_eq_false_iff, Bool.not_eq_true', Bool.not_eq_false', decide_eq_true_eq, decide_eq_false_iff_not] at g8r
        refine JO_shun rfl ⟨_, rfl, g8⟩ ?_
        refine JO_shun rfl ⟨_, rfl, g8⟩ ?_
        refine JO_shun rfl ⟨_, rfl, g8⟩ ?_
        refine JO_shunU rfl ⟨_, rfl, rfl⟩ ?_
        refine JO_shunU rfl ⟨_, rfl, rfl⟩ ?_
        refine JO_shun rfl ⟨_, rfl, g8⟩ ?_
        refine JO_shun rfl ⟨_, rfl, g8⟩ ?_
        refine JO_shunU rfl ⟨_, rfl, rfl⟩ ?_
        refine JO_shunU rfl ⟨_, rfl, rfl⟩ ?_
        refine JO_shunU rfl ⟨_, rfl, rfl⟩ ?_
        refine JO_shun rfl ⟨_, rfl, g8⟩ ?_
        refine JO_read (vB false) rfl trivial (fun _ _ => x_pick_f rfl g8 rfl) ?_
        refine JO_nil (JX_cut (false) (by rw [g8]; simp) ⟨rfl, rfl, rfl, rfl, rfl, rfl, trivial⟩ (fun _ h => h))
    rintro z7 rfl
    refine JO_read (vB ((((decide ((R47.parts u).1 = 0)) && (decide ((R47.parts u).2.1 = 0))) && (decide ((R47.parts u).2.2.1 = 0))) && (((decide (u < 262145)) || (decide ((17179869183 : Int) < u))) || (decide (u % 65536 = 0))))) rfl trivial (fun _ _ => rfl) ?_
    refine JO_cut (X := Bool) 2 (fun z => z = (((((decide ((R47.parts u).1 = 0)) && (decide ((R47.parts u).2.1 = 0))) && (decide ((R47.parts u).2.2.1 = 0))) && (((decide (u < 262145)) || (decide ((17179869183 : Int) < u))) || (decide (u % 65536 = 0)))) && true)) (fun z => [(0, vI u), (2, vB false), (3, vI ((R47.parts u).1)), (4, vI ((R47.parts u).2.1)), (5, vI ((R47.parts u).2.2.1)), (43, vB z)]) (fun _ => []) ?_ ?_
    · rcases Bool.eq_false_or_eq_true ((((decide ((R47.parts u).1 = 0)) && (decide ((R47.parts u).2.1 = 0))) && (decide ((R47.parts u).2.2.1 = 0))) && (((decide (u < 262145)) || (decide ((17179869183 : Int) < u))) || (decide (u % 65536 = 0)))) with g17 | g17
      · have g17r := g17
        have ⟨g17r, h18⟩ := band_true g17r
        have ⟨g17r, h19⟩ := band_true g17r
        have ⟨g17r, h20⟩ := band_true g17r
        have g17r := of_decide_eq_true g17r
        have h20 := of_decide_eq_true h20
        have h19 := of_decide_eq_true h19
        simp only [Bool.and_eq_true, Bool.or_eq_true, Bool.and_eq_false_iff, Bool.or_eq_false_iff, Bool.not_eq_true', Bool.not_eq_false', decide_eq_true_eq, decide_eq_false_iff_not] at h18
        refine JO_call [] [] [] rfl ⟨_, rfl, g17⟩ (fun _ => x_call Ty.ca10 rfl) (fun _ h => h) (fun _ h => by cases h) (fun w hS => f10_ok w (hT.on hS (fun _ h => by cases h))) ?_
        rintro _ _ ⟨rfl, rfl⟩
        refine JO_read (vB true) rfl trivial (fun _ _ => x_pick_t rfl g17 rfl) ?_
        refine JO_nil (JX_cut (true) (by rw [g17]; simp) ⟨rfl, rfl, rfl, rfl, rfl, rfl, trivial⟩ (fun _ h => h))
      · have g17r := g17
        simp only [Bool.and_eq_true, Bool.or_eq_true, Bool.and_eq_false_iff, Bool.or_eq_false_iff, Bool.not_eq_true', Bool.not_eq_false', decide_eq_true_eq, decide_eq_false_iff_not] at g17r
        refine JO_shun rfl ⟨_, rfl, g17⟩ ?_
        refine JO_read (vB false) rfl trivial (fun _ _ => x_pick_f rfl g17 rfl) ?_
        refine JO_nil (JX_cut (false) (by rw [g17]; simp) ⟨rfl, rfl, rfl, rfl, rfl, rfl, trivial⟩ (fun _ h => h))
    rintro z16 rfl
    refine JO_read (vB (((((decide ((R47.parts u).1 = 0)) && (decide ((R47.parts u).2.1 = 0))) && (decide ((R47.parts u).2.2.1 = 0))) && (((decide (u < 262145)) || (decide ((17179869183 : Int) < u))) || (decide (u % 65536 = 0)))) && true)) rfl trivial (fun _ _ => rfl) ?_
    refine JO_nil ?_
    refine JX_then ?_
    refine J_ret ?_
    refine JX_then_ret ?_
    refine JX_rets [vB (((((decide ((R47.parts u).1 = 0)) && (decide ((R47.parts u).2.1 = 0))) && (decide ((R47.parts u).2.2.1 = 0))) && (((decide (u < 262145)) || (decide ((17179869183 : Int) < u))) || (decide (u % 65536 = 0)))) && true)] (vB (((((decide ((R47.parts u).1 = 0)) && (decide ((R47.parts u).2.1 = 0))) && (decide ((R47.parts u).2.2.1 = 0))) && (((decide (u < 262145)) || (decide ((17179869183 : Int) < u))) || (decide (u % 65536 = 0)))) && true)) Tryd.results8 (fun w h => ⟨rfl, trivial⟩) rfl [] (fun _ h => h) ⟨?_, ?_⟩
    · have e_x0 : (((((decide ((R47.parts u).1 = 0)) && (decide ((R47.parts u).2.1 = 0))) && (decide ((R47.parts u).2.2.1 = 0))) && (((decide (u < 262145)) || (decide ((17179869183 : Int) < u))) || (decide (u % 65536 = 0)))) && true : Bool) = true := by
        first | rfl | (rw [R47.parses_no (by assumption)]; rfl) | (rw [R47.parses_ok (by assumption)]; simp)
      exact congrArg (fun (x0 : Bool) => vB x0) e_x0
    · rfl
  · have h1 : ((R47.parts u).2.2.2) = true := bnot_false h1
    refine J_skip ?_
    refine JX_then ?_
    refine J_seq ?_
    refine J_region ?_
    refine JO_read (vI ((R47.parts u).1)) rfl trivial (fun _ _ => rfl) ?_
    refine JO_read (vI ((R47.parts u).2.1)) rfl trivial (fun _ _ => rfl) ?_
    refine JO_read (vI ((R47.parts u).2.2.1)) rfl trivial (fun _ _ => rfl) ?_
    refine JO_call [] [] [] rfl trivial (fun _ => x_call Ty.ca24 rfl) (fun _ h => h) (fun _ h => by cases h) (fun w hS => f24_ok ((R47.parts u).1) ((R47.parts u).2.1) ((R47.parts u).2.2.1) w) ?_
    rintro _ _ ⟨rfl, rfl⟩
    have ha21 := R47.unit_range ((R47.parts u).1) ((R47.parts u).2.1) ((R47.parts u).2.2.1)
    refine JO_read (Value.tuple #[vI ((R47.unit ((R47.parts u).1) ((R47.parts u).2.1) ((R47.parts u).2.2.1)).1), vI ((R47.unit ((R47.parts u).1) ((R47.parts u).2.1) ((R47.parts u).2.2.1)).2)]) rfl trivial (fun _ _ => rfl) ?_
    refine JO_read (vI ((R47.unit ((R47.parts u).1) ((R47.parts u).2.1) ((R47.parts u).2.2.1)).1)) rfl trivial (fun _ _ => rfl) ?_
    refine JO_read (vI ((R47.unit ((R47.parts u).1) ((R47.parts u).2.1) ((R47.parts u).2.2.1)).2)) rfl trivial (fun _ _ => rfl) ?_
    refine JO_read (vI ((R47.unit ((R47.parts u).1) ((R47.parts u).2.1) ((R47.parts u).2.2.1)).1)) rfl trivial (fun _ _ => rfl) ?_
    refine JO_read (vI ((R47.unit ((R47.parts u).1) ((R47.parts u).2.1) ((R47.parts u).2.2.1)).2)) rfl trivial (fun _ _ => rfl) ?_
    refine JO_nil ?_
    refine JX_then ?_
    refine J_seq ?_
    refine J_region ?_
    refine JO_read (vI ((R47.unit ((R47.parts u).1) ((R47.parts u).2.1) ((R47.parts u).2.2.1)).2)) rfl trivial (fun _ _ => rfl) ?_
    refine JO_read (vB (decide ((R47.unit ((R47.parts u).1) ((R47.parts u).2.1) ((R47.parts u).2.2.1)).2 = 0))) rfl trivial (fun _ _ => x_eql_i rfl rfl) ?_
    refine JO_read (vB (decide ((R47.unit ((R47.parts u).1) ((R47.parts u).2.1) ((R47.parts u).2.2.1)).2 = 0))) rfl trivial (fun _ _ => rfl) ?_
    refine JO_cut (X := Bool) 4 (fun z => z = ((decide ((R47.unit ((R47.parts u).1) ((R47.parts u).2.1) ((R47.parts u).2.2.1)).2 = 0)) && (decide ((R47.unit ((R47.parts u).1) ((R47.parts u).2.1) ((R47.parts u).2.2.1)).1 = u)))) (fun z => [(2, vB false), (57, vB z)]) (fun _ => []) ?_ ?_
    · rcases Bool.eq_false_or_eq_true (decide ((R47.unit ((R47.parts u).1) ((R47.parts u).2.1) ((R47.parts u).2.2.1)).2 = 0)) with g23 | g23
      · have g23r := g23
        have g23r := of_decide_eq_true g23r
        refine JO_read (vI ((R47.unit ((R47.parts u).1) ((R47.parts u).2.1) ((R47.parts u).2.2.1)).1)) rfl ⟨_, rfl, g23⟩ (fun _ _ => rfl) ?_
        refine JO_read (vI u) rfl ⟨_, rfl, g23⟩ (fun _ _ => rfl) ?_
        refine JO_read (vB (decide ((R47.unit ((R47.parts u).1) ((R47.parts u).2.1) ((R47.parts u).2.2.1)).1 = u))) rfl ⟨_, rfl, g23⟩ (fun _ _ => x_eql_i rfl rfl) ?_
        refine JO_read (vB (decide ((R47.unit ((R47.parts u).1) ((R47.parts u).2.1) ((R47.parts u).2.2.1)).1 = u))) rfl trivial (fun _ _ => x_pick_t rfl g23 rfl) ?_
        refine JO_nil (JX_cut (decide ((R47.unit ((R47.parts u).1) ((R47.parts u).2.1) ((R47.parts u).2.2.1)).1 = u)) (by rw [g23]; simp) ⟨rfl, rfl, trivial⟩ (fun _ h => h))
      · have g23r := g23
        have g23r := of_decide_eq_false g23r
        refine JO_shun rfl ⟨_, rfl, g23⟩ ?_
        refine JO_shun rfl ⟨_, rfl, g23⟩ ?_
        refine JO_shun rfl ⟨_, rfl, g23⟩ ?_
        refine JO_read (vB false) rfl trivial (fun _ _ => x_pick_f rfl g23 rfl) ?_
        refine JO_nil (JX_cut (false) (by rw [g23]; simp) ⟨rfl, rfl, trivial⟩ (fun _ h => h))
    rintro z22 rfl
    refine JO_read (vB ((decide ((R47.unit ((R47.parts u).1) ((R47.parts u).2.1) ((R47.parts u).2.2.1)).2 = 0)) && (decide ((R47.unit ((R47.parts u).1) ((R47.parts u).2.1) ((R47.parts u).2.2.1)).1 = u)))) rfl trivial (fun _ _ => rfl) ?_
    refine JO_cut (X := Bool) 2 (fun z => z = (((decide ((R47.unit ((R47.parts u).1) ((R47.parts u).2.1) ((R47.parts u).2.2.1)).2 = 0)) && (decide ((R47.unit ((R47.parts u).1) ((R47.parts u).2.1) ((R47.parts u).2.2.1)).1 = u))) && true)) (fun z => [(2, vB false), (60, vB z)]) (fun _ => []) ?_ ?_
    · rcases Bool.eq_false_or_eq_true ((decide ((R47.unit ((R47.parts u).1) ((R47.parts u).2.1) ((R47.parts u).2.2.1)).2 = 0)) && (decide ((R47.unit ((R47.parts u).1) ((R47.parts u).2.1) ((R47.parts u).2.2.1)).1 = u))) with g25 | g25
      · have g25r := g25
        have ⟨g25r, h26⟩ := band_true g25r
        have g25r := of_decide_eq_true g25r
        have h26 := of_decide_eq_true h26
        refine JO_call [] [] [] rfl ⟨_, rfl, g25⟩ (fun _ => x_call Ty.ca10 rfl) (fun _ h => h) (fun _ h => by cases h) (fun w hS => f10_ok w (hT.on hS (fun _ h => by cases h))) ?_
        rintro _ _ ⟨rfl, rfl⟩
        refine JO_read (vB true) rfl trivial (fun _ _ => x_pick_t rfl g25 rfl) ?_
        refine JO_nil (JX_cut (true) (by rw [g25]; simp) ⟨rfl, rfl, trivial⟩ (fun _ h => h))
      · have g25r := g25
        simp only [Bool.and_eq_true, Bool.or_eq_true, Bool.and_eq_false_iff, Bool.or_eq_false_iff, Bool.not_eq_true', Bool.not_eq_false', decide_eq_true_eq, decide_eq_false_iff_not] at g25r
        refine JO_shun rfl ⟨_, rfl, g25⟩ ?_
        refine JO_read (vB false) rfl trivial (fun _ _ => x_pick_f rfl g25 rfl) ?_
        refine JO_nil (JX_cut (false) (by rw [g25]; simp) ⟨rfl, rfl, trivial⟩ (fun _ h => h))
    rintro z24 rfl
    refine JO_read (vB (((decide ((R47.unit ((R47.parts u).1) ((R47.parts u).2.1) ((R47.parts u).2.2.1)).2 = 0)) && (decide ((R47.unit ((R47.parts u).1) ((R47.parts u).2.1) ((R47.parts u).2.2.1)).1 = u))) && true)) rfl trivial (fun _ _ => rfl) ?_
    refine JO_nil ?_
    refine JX_then ?_
    refine J_ret ?_
    refine JX_rets [vB (((decide ((R47.unit ((R47.parts u).1) ((R47.parts u).2.1) ((R47.parts u).2.2.1)).2 = 0)) && (decide ((R47.unit ((R47.parts u).1) ((R47.parts u).2.1) ((R47.parts u).2.2.1)).1 = u))) && true)] (vB (((decide ((R47.unit ((R47.parts u).1) ((R47.parts u).2.1) ((R47.parts u).2.2.1)).2 = 0)) && (decide ((R47.unit ((R47.parts u).1) ((R47.parts u).2.1) ((R47.parts u).2.2.1)).1 = u))) && true)) Tryd.results8 (fun w h => ⟨rfl, trivial⟩) rfl [] (fun _ h => h) ⟨?_, ?_⟩
    · have e_x0 : (((decide ((R47.unit ((R47.parts u).1) ((R47.parts u).2.1) ((R47.parts u).2.2.1)).2 = 0)) && (decide ((R47.unit ((R47.parts u).1) ((R47.parts u).2.1) ((R47.parts u).2.2.1)).1 = u))) && true : Bool) = true := by
        first | rfl | (rw [R47.parses_no (by assumption)]; rfl) | (rw [R47.parses_ok (by assumption)]; simp)
      exact congrArg (fun (x0 : Bool) => vB x0) e_x0
    · rfl

end Go.Proofs.YtknibpmmjhmjeaaDoor
