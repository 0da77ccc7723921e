/- contracts L47c -/
import Derived.Test.YtknibpmmjhmjeaaDoorC47l
namespace Go.Proofs.YtknibpmmjhmjeaaDoor
open Go.GV
set_option linter.unusedVariables false
set_option linter.unusedSimpArgs false

set_option maxRecDepth 20000 in
theorem f9_ok (num : Int) (unit : Int) (ch : List Change) (chA : Option Addr) (chC : Nat) (w : World) (chR : RO [] w chA (ch.flatMap Change.enc)) (hT : Tab [] w) (q0 : ch.length ≤ 9223372036854775807) : Calls Tryd.prog 9 #[Value.agg #[vI num, vI unit, Value.slice chA ch.length chC]] w (Gives [] w fun v L => v = vB true ∧ L = []) := by
  refine calls_J [] 114 Tryd.func9 rfl Tryd.ntmps9 [(0, Value.agg #[vI num, vI unit, Value.slice chA ch.length chC])] rfl rfl (Give.nil w) ?_
  refine J_seq ?_
  refine J_region ?_
  refine JO_op rfl trivial (O_box rfl rfl fun b1 => ?_)
  refine JO_read (vB false) rfl trivial (fun _ _ => rfl) ?_
  refine JO_nil ?_
  refine JX_then ?_
  refine J_seq ?_
  refine J_seq ?_
  refine J_region ?_
  refine JO_read (Value.agg #[vI num, vI unit, Value.slice chA ch.length chC]) rfl trivial (x_loadN 0 [vI num, vI unit, Value.slice chA ch.length chC] rfl rfl Ty.ag29 Ty.sz29 rfl) ?_
  refine JO_call [] [] [Ent.blk b1 29 [vI num, vI unit, Value.slice chA ch.length chC]] rfl trivial (fun _ => x_call Ty.ca21 rfl) (fun _ h => h) (fun _ h => by cases h) (fun w hS => f21_ok num unit ch chA chC 20 w (chR.on hS (fun _ h => by cases h)) hy_) ?_
  rintro _ _ ⟨rfl, rfl⟩
  refine JO_read (vB (!(R47.few ch 20))) rfl trivial (fun _ _ => x_not rfl) ?_
  refine JO_read (vB (!(R47.few ch 20))) rfl trivial (fun _ _ => rfl) ?_
  refine JO_cut (X := Bool) 4 (fun z => z = ((!(R47.few ch 20)) || (decide (num < 0)))) (fun z => [(1, Value.pointer (some ⟨b1, 0, none⟩)), (2, vB false), (22, vB z)]) (fun _ => [Ent.blk b1 29 [vI num, vI unit, Value.slice chA ch.length chC]]) ?_ ?_
  · rcases Bool.eq_false_or_eq_true (!(R47.few ch 20)) with g3 | g3
    · have g3r := g3
      have g3r : (R47.few ch 20) = false := bnot_true g3r
      refine JO_shun rfl ⟨_, rfl, g3⟩ ?_
      refine JO_shun rfl ⟨_, rfl, g3⟩ ?_
      refine JO_shun rfl ⟨_, rfl, g3⟩ ?_
      refine JO_read (vB true) rfl trivial (fun _ _ => x_pick_t rfl g3 rfl) ?_
      refine JO_nil (JX_cut (true) (by rw [g3]; simp) ⟨rfl, rfl, rfl, trivial⟩ (fun _ h => h))
    · have g3r := g3
      have g3r : (R47.few ch 20) = true := bnot_false g3r
      have hi4 := R47.few_facts g3r
      refine JO_read (Value.pointer (some ⟨b1, 0, none⟩)) rfl ⟨_, rfl, g3⟩ (fun _ _ => x_fieldAddr Ty.fi29_0 rfl rfl) ?_
      refine JO_read (vI num) rfl ⟨_, rfl, g3⟩ (x_load 0 rfl rfl Ty.sc3 rfl) ?_
      refine JO_read (vB (decide (num < 0))) rfl ⟨_, rfl, g3⟩ (fun _ _ => x_lss_i rfl rfl) ?_
      refine JO_read (vB (decide (num < 0))) rfl trivial (fun _ _ => x_pick_f rfl g3 rfl) ?_
      refine JO_nil (JX_cut (decide (num < 0)) (by rw [g3]; simp) ⟨rfl, rfl, rfl, trivial⟩ (fun _ h => h))
  rintro z2 rfl
  refine JO_read (vB ((!(R47.few ch 20)) || (decide (num < 0)))) rfl trivial (fun _ _ => rfl) ?_
  refine JO_cut (X := Bool) 4 (fun z => z = (((!(R47.few ch 20)) || (decide (num < 0))) || (decide ((1099511627776 : Int) < num)))) (fun z => [(1, Value.pointer (some ⟨b1, 0, none⟩)), (2, vB false), (27, vB z)]) (fun _ => [Ent.blk b1 29 [vI num, vI unit, Value.slice chA ch.length chC]]) ?_ ?_
  · rcases Bool.eq_false_or_eq_true ((!(R47.few ch 20)) || (decide (num < 0))) with g6 | g6
    · have g6r := g6
      simp only [Bool.and_eq_true, Bool.or_eq_true, Bool.and_eq_false_iff, Bool.or_eq_false_iff, Bool.not_eq_true', Bool.not_eq_false', decide_eq_true_eq, decide_eq_false_iff_not] at g6r
      refine JO_shun rfl ⟨_, rfl, g6⟩ ?_
      refine JO_shun rfl ⟨_, rfl, g6⟩ ?_
      refine JO_shun rfl ⟨_, rfl, g6⟩ ?_
      refine JO_read (vB true) rfl trivial (fun _ _ => x_pick_t rfl g6 rfl) ?_
      refine JO_nil (JX_cut (true) (by rw [g6]; simp) ⟨rfl, rfl, rfl, trivial⟩ (fun _ h => h))
    · have g6r := g6
      have ⟨g6r, h7⟩ := bor_false g6r
      have g6r : (R47.few ch 20) = true := bnot_false g6r
      have hi8 := R47.few_facts g6r
      have h7 := of_decide_eq_false h7
      refine JO_read (Value.pointer (some ⟨b1, 0, none⟩)) rfl ⟨_, rfl, g6⟩ (fun _ _ => x_fieldAddr Ty.fi29_0 rfl rfl) ?_
      refine JO_read (vI num) rfl ⟨_, rfl, g6⟩ (x_load 0 rfl rfl Ty.sc3 rfl) ?_
      refine JO_read (vB (decide ((1099511627776 : Int) < num))) rfl ⟨_, rfl, g6⟩ (fun _ _ => x_gtr_i rfl rfl) ?_
      refine JO_read (vB (decide ((1099511627776 : Int) < num))) rfl trivial (fun _ _ => x_pick_f rfl g6 rfl) ?_
      refine JO_nil (JX_cut (decide ((1099511627776 : Int) < num)) (by rw [g6]; simp) ⟨rfl, rfl, rfl, trivial⟩ (fun _ h => h))
  rintro z5 rfl
  refine JO_nil ?_
  refine JX_then ?_
  refine J_cond (((!(R47.few ch 20)) || (decide (num < 0))) || (decide ((1099511627776 : Int) < num))) rfl rfl (fun h9 => ?_) (fun h9 => ?_)
  · have h9w := h9
    simp only [Bool.and_eq_true, Bool.or_eq_true, Bool.and_eq_false_iff, Bool.or_eq_false_iff, Bool.not_eq_true', Bool.not_eq_false', decide_eq_true_eq, decide_eq_false_iff_not] at h9
    refine J_seq ?_
    refine J_region ?_
    refine JO_call [] [] [Ent.blk b1 29 [vI num, vI unit, Value.slice chA ch.length chC]] rfl trivial (fun _ => x_call Ty.ca10 rfl) (fun _ h => h) (fun _ h => by cases h) (fun w hS => f10_ok w (hT.on hS (fun _ h => by cases h))) ?_
    rintro _ _ ⟨rfl, rfl⟩
    refine JO_read (vB true) rfl trivial (fun _ _ => rfl) ?_
    refine JO_nil ?_
    refine JX_then ?_
    refine J_ret ?_
    refine JX_then_ret ?_
    refine JX_rets [vB true] (vB true) Tryd.results9 (fun w h => ⟨rfl, trivial⟩) rfl [] (fun _ h => h.keep [false] rfl) ⟨?_, ?_⟩
    · rfl
    · rfl
  · have h9w := h9
    have ⟨h9, h10⟩ := bor_false h9
    have ⟨h9, h11⟩ := bor_false h9
    have h9 : (R47.few ch 20) = true := bnot_false h9
    have hi12 := R47.few_facts h9
    have h11 := of_decide_eq_false h11
    have h10 := of_decide_eq_false h10
    refine J_skip ?_
    refine JX_then ?_
    refine J_seq ?_
    refine J_region ?_
    refine JO_read (Value.agg #[vI num, vI unit, Value.slice chA ch.length chC]) rfl trivial (x_loadN 0 [vI num, vI unit, Value.slice chA ch.length chC] rfl rfl Ty.ag29 Ty.sz29 rfl) ?_
    refine JO_call [] [] [Ent.blk b1 29 [vI num, vI unit, Value.slice chA ch.length chC]] rfl trivial (fun _ => x_call Ty.ca27 rfl) (fun _ h => h) (fun _ h => by cases h) (fun w hS => f27_ok num unit ch chA chC w (chR.on hS (fun _ h => by cases h)) hy_) ?_
    rintro _ _ ⟨A13, c14, rfl, rfl⟩
    have ha15 := R47.ids_len ch
    refine JO_read (Value.slice A13 ((R47.ids ch).length) c14) rfl trivial (fun _ _ => rfl) ?_
    refine JO_nil ?_
    refine JX_then ?_
    refine J_seq ?_
    refine J_seq ?_
    refine J_draw [Ent.row (.slice A13 (R47.ids ch).length c14) 3 1 (R47.ids ch).length ((R47.ids ch).map vI), Ent.blk b1 29 [vI num, vI unit, Value.slice chA ch.length chC]] [] [Ent.row (.slice A13 (R47.ids ch).length c14) 3 1 (R47.ids ch).length ((R47.ids ch).map vI), Ent.blk b1 29 [vI num, vI unit, Value.slice chA ch.length chC]] 12 Ty.mixed rfl ?_
    refine JA_take 0 (Value.slice A13 ((R47.ids ch).length) c14) rfl (by kernel_rfl) (by kernel_rfl) (by kernel_rfl) rfl (fun _ _ _ h => h) rfl trivial (fun _ _ => rfl) ?_
    refine JA_take 1 (Value.agg #[vI num, vI unit, Value.slice chA ch.length chC]) rfl (by kernel_rfl) (by kernel_rfl) (by kernel_rfl) rfl (fun _ _ _ h => h) rfl trivial (x_loadN 1 [vI num, vI unit, Value.slice chA ch.length chC] rfl rfl Ty.ag29 Ty.sz29 rfl) ?_
    refine JA_one 2 (by kernel_rfl) (fun _ h => ⟨h, fun _ => h⟩) ?_
    refine JI_call [] [] [Ent.row (.slice A13 (R47.ids ch).length c14) 3 1 (R47.ids ch).length ((R47.ids ch).map vI), Ent.blk b1 29 [vI num, vI unit, Value.slice chA ch.length chC]] rfl rfl trivial (fun _ => x_call Ty.ca29 rfl) (fun _ h => h) (fun _ h => by cases h) (fun w hS => f29_ok num unit ch chA chC w (chR.on hS (fun _ h => by cases h)) hy_) ?_
    rintro _ _ ⟨A16, c17, rfl, rfl⟩
    have ha18 := R47.ids_len ch
    refine JA_one 3 (by kernel_rfl) (fun _ h => ⟨h.keep [false, true, true] rfl, fun _ => h.keep [false, true, true] rfl⟩) ?_
    refine JI_call [] [] [Ent.row (.slice A16 (R47.ids ch).length c17) 3 1 (R47.ids ch).length ((R47.ids ch).map vI), Ent.row (.slice A13 (R47.ids ch).length c14) 3 1 (R47.ids ch).length ((R47.ids ch).map vI), Ent.blk b1 29 [vI num, vI unit, Value.slice chA ch.length chC]] rfl rfl trivial (fun _ => x_call Ty.ca28 rfl) (fun _ h => h) (fun _ h => by cases h) (fun w hS => f28_ok (R47.ids ch) A13 c14 (R47.ids ch) A16 c17 w (RO.of_row hS 1 rfl) (RO.of_row hS 0 rfl) hy_) ?_
    rintro _ _ ⟨rfl, rfl⟩
    refine JA_take 4 (vB (!(decide ((R47.ids ch) = (R47.ids ch))))) rfl (by kernel_rfl) (by kernel_rfl) (by kernel_rfl) rfl (fun _ _ _ h => h) rfl trivial (fun _ _ => x_not rfl) ?_
    refine JA_take 5 (vB (!(decide ((R47.ids ch) = (R47.ids ch))))) rfl (by kernel_rfl) (by kernel_rfl) (by kernel_rfl) rfl (fun _ _ _ h => h) rfl trivial (fun _ _ => rfl) ?_
    refine JA_bool (!(decide ((R47.ids ch) = (R47.ids ch)))) [(1, Value.pointer (some ⟨b1, 0, none⟩)), (2, vB false), (27, vB (((!(R47.few ch 20)) || (decide (num < 0))) || (decide ((1099511627776 : Int) < num)))), (29, Value.agg #[vI num, vI unit, Value.slice chA ch.length chC]), (30, Value.slice A13 ((R47.ids ch).length) c14), (3, Value.slice A13 ((R47.ids ch).length) c14), (31, Value.slice A13 ((R47.ids ch).length) c14), (32, Value.agg #[vI num, vI unit, Value.slice chA ch.length chC]), (33, Value.slice A16 ((R47.ids ch).length) c17), (34, vB (decide ((R47.ids ch) = (R47.ids ch)))), (35, vB (!(decide ((R47.ids ch) = (R47.ids ch))))), (36, vB true)] [(1, Value.pointer (some ⟨b1, 0, none⟩)), (2, vB false), (27, vB (((!(R47.few ch 20)) || (decide (num < 0))) || (decide ((1099511627776 : Int) < num)))), (29, Value.agg #[vI num, vI unit, Value.slice chA ch.length chC]), (30, Value.slice A13 ((R47.ids ch).length) c14), (3, Value.slice A13 ((R47.ids ch).length) c14), (31, Value.slice A13 ((R47.ids ch).length) c14), (32, Value.agg #[vI num, vI unit, Value.slice chA ch.length chC]), (33, Value.slice A16 ((R47.ids ch).length) c17), (34, vB (decide ((R47.ids ch) = (R47.ids ch)))), (35, vB (!(decide ((R47.ids ch) = (R47.ids ch))))), (36, vB false)] (fun hb => ⟨rfl, rfl, rfl, rfl, rfl, rfl, rfl, rfl, rfl, rfl, rfl, congrArg (fun b => some (vB b)) hb, trivial⟩) (fun hb => ⟨rfl, rfl, rfl, rfl, rfl, rfl, rfl, rfl, rfl, rfl, rfl, congrArg (fun b => some (vB b)) hb, trivial⟩) (fun h19 => ?_) (fun h19 => ?_)
    · have h19 : (decide ((R47.ids ch) = (R47.ids ch))) = false := bnot_true h19
      refine JA_shun 6 rfl (by kernel_rfl) (by kernel_rfl) (by kernel_rfl) rfl (fun _ _ _ h => h) rfl ⟨_, rfl, rfl⟩ ?_
      refine JA_shun 7 rfl (by kernel_rfl) (by kernel_rfl) (by kernel_rfl) rfl (fun _ _ _ h => h) rfl ⟨_, rfl, rfl⟩ ?_
      refine JA_shun 8 rfl (by kernel_rfl) (by kernel_rfl) (by kernel_rfl) rfl (fun _ _ _ h => h) rfl ⟨_, rfl, rfl⟩ ?_
      refine JA_shun 9 rfl (by kernel_rfl) (by kernel_rfl) (by kernel_rfl) rfl (fun _ _ _ h => h) rfl ⟨_, rfl, rfl⟩ ?_
      refine JA_shun 10 rfl (by kernel_rfl) (by kernel_rfl) (by kernel_rfl) rfl (fun _ _ _ h => h) rfl ⟨_, rfl, rfl⟩ ?_
      refine JA_take 11 (vB true) rfl (by kernel_rfl) (by kernel_rfl) (by kernel_rfl) rfl (fun _ _ _ h => h) rfl trivial (fun _ _ => rfl) ?_
      refine JA_done (by kernel_rfl) (fun _ h => ⟨h.keep [false, true, true] rfl, fun _ => h.keep [false, true, true] rfl⟩) ?_
      refine JX_then ?_
      refine J_cond true rfl rfl (fun h => ?_) (fun h => by cases h)
      refine J_seq ?_
      refine J_region ?_
      refine JO_read (vB false) rfl trivial (fun _ _ => rfl) ?_
      refine JO_nil ?_
      refine JX_then ?_
      refine J_ret ?_
      refine JX_then_ret ?_
      refine JX_rets [vB false] (vB false) Tryd.results9 (fun w h => ⟨rfl, trivial⟩) rfl [] (fun _ h => h.keep [false, false, false] rfl) ⟨?_, ?_⟩
      · have e_x0 : (false : Bool) = true := by
          first | rfl | exact absurd rfl (by assumption) | (simp at h19; done) | exact (R47.parts_bad1 (by assumption)).elim | exact (R47.parts_bad2 (by assumption)).elim | exact (R47.parts_bad3 (hsat (by omega)) (by assumption)).elim
        exact congrArg (fun (x0 : Bool) => vB x0) e_x0
      · rfl
    · have h19 : (decide ((R47.ids ch) = (R47.ids ch))) = true := bnot_false h19
      refine JA_take 6 (Value.agg #[vI num, vI unit, Value.slice chA ch.length chC]) rfl (by kernel_rfl) (by kernel_rfl) (by kernel_rfl) rfl (fun _ _ _ h => h) rfl ⟨_, rfl, rfl⟩ (x_loadN 1 [vI num, vI unit, Value.slice chA ch.length chC] rfl rfl Ty.ag29 Ty.sz29 rfl) ?_
      refine JA_take 8 (Value.agg #[vI num, vI unit, Value.slice chA ch.length chC]) rfl (by kernel_rfl) (by kernel_rfl) (by kernel_rfl) rfl (fun _ _ _ h => h) rfl ⟨_, rfl, rfl⟩ (x_loadN 1 [vI num, vI unit, Value.slice chA ch.length chC] rfl rfl Ty.ag29 Ty.sz29 rfl) ?_
      refine JA_one 7 (by kernel_rfl) (fun _ h => ⟨h.keep [false, true, true] rfl, fun _ => h.keep [false, true, true] rfl⟩) ?_
      refine JI_call [] [] [Ent.row (.slice A16 (R47.ids ch).length c17) 3 1 (R47.ids ch).length ((R47.ids ch).map vI), Ent.row (.slice A13 (R47.ids ch).length c14) 3 1 (R47.ids ch).length ((R47.ids ch).map vI), Ent.blk b1 29 [vI num, vI unit, Value.slice chA ch.length chC]] rfl rfl ⟨_, rfl, rfl⟩ (fun _ => x_call Ty.ca30 rfl) (fun _ h => h) (fun _ h => by cases h) (fun w hS => f30_ok num unit ch chA chC w (chR.on hS (fun _ h => by cases h)) hy_ hy_ hy_) ?_
      rintro _ _ ⟨rfl, rfl⟩
      refine JA_one 9 (by kernel_rfl) (fun _ h => ⟨h.keep [false, true, true] rfl, fun _ => h.keep [false, true, true] rfl⟩) ?_
      refine JI_call [] [] [Ent.row (.slice A16 (R47.ids ch).length c17) 3 1 (R47.ids ch).length ((R47.ids ch).map vI), Ent.row (.slice A13 (R47.ids ch).length c14) 3 1 (R47.ids ch).length ((R47.ids ch).map vI), Ent.blk b1 29 [vI num, vI unit, Value.slice chA ch.length chC]] rfl rfl ⟨_, rfl, rfl⟩ (fun _ => x_call Ty.ca31 rfl) (fun _ h => h) (fun _ h => by cases h) (fun w hS => f31_ok num unit ch chA chC w (chR.on hS (fun _ h => by cases h)) hy_ hy_ hy_) ?_
      rintro _ _ ⟨rfl, rfl⟩
      refine JA_take 10 (vB (decide ((num + (ch.length : Int)) - 1 ≠ (num + (ch.length : Int)) - 1))) rfl (by kernel_rfl) (by kernel_rfl) (by kernel_rfl) rfl (fun _ _ _ h => h) rfl ⟨_, rfl, rfl⟩ (fun _ _ => x_neq_i rfl rfl) ?_
      refine JA_take 11 (vB (decide ((num + (ch.length : Int)) - 1 ≠ (num + (ch.length : Int)) - 1))) rfl (by kernel_rfl) (by kernel_rfl) (by kernel_rfl) rfl (fun _ _ _ h => h) rfl trivial (fun _ _ => rfl) ?_
      refine JA_done (by kernel_rfl) (fun _ h => ⟨h.keep [false, true, true] rfl, fun _ => h.keep [false, true, true] rfl⟩) ?_
      refine JX_then ?_
      refine J_cond (decide ((num + (ch.length : Int)) - 1 ≠ (num + (ch.length : Int)) - 1)) rfl rfl (fun h20 => ?_) (fun h20 => ?_)
      · have h20w := h20
        have h20 := of_decide_eq_true h20
        refine J_seq ?_
        refine J_region ?_
        refine JO_read (vB false) rfl trivial (fun _ _ => rfl) ?_
        refine JO_nil ?_
        refine JX_then ?_
        refine J_ret ?_
        refine JX_then_ret ?_
        refine JX_rets [vB false] (vB false) Tryd.results9 (fun w h => ⟨rfl, trivial⟩) rfl [] (fun _ h => h.keep [false, false, false] rfl) ⟨?_, ?_⟩
        · have e_x0 : (false : Bool) = true := by
            first | rfl | exact absurd rfl (by assumption) | (simp at h19; done) | exact (R47.parts_bad1 (by assumption)).elim | exact (R47.parts_bad2 (by assumption)).elim | exact (R47.parts_bad3 (hsat (by omega)) (by assumption)).elim
          exact congrArg (fun (x0 : Bool) => vB x0) e_x0
        · rfl
      · have h20w := h20
        have h20 := of_decide_eq_false h20
        refine J_skip ?_
        refine JX_then ?_
        refine J_seq ?_
        refine J_region ?_
        refine JO_op rfl trivial (O_makeMap vI fun b21 => ?_)
        refine JO_read (Value.map (some b21)) rfl trivial (fun _ _ => rfl) ?_
        refine JO_nil ?_
        refine JX_then ?_
        refine J_seq ?_
        refine J_seq ?_
        refine J_region ?_
        refine JO_read (Value.slice A13 ((R47.ids ch).length) c14) rfl trivial (fun _ _ => rfl) ?_
        refine JO_op rfl trivial (O_buildSlice (cs := [vI (-5)]) Tryd.underlying48 Ty.sz3 Ty.ze3 (by decide) (by decide) (by kernel_rfl) fun b22 => ?_)
        refine JO_op rfl trivial (O_append_m 3 vI (R47.ids ch) [((-5) : Int)] Tryd.underlying48 Ty.sz3 Ty.by3 Ty.ze3 rfl rfl rfl rfl rfl (fun _ => rfl) (cells_blk 0 (off := 0) (m := 1) rfl rfl) lt_ lt_ fun A23 c24 => ?_)
        refine JO_read (vI ((((R47.ids ch) ++ [((-5) : Int)]).length : Nat) : Int)) rfl trivial (fun _ _ => x_len_sl Tryd.underlying48 rfl) ?_
        refine JO_read (vI 0) rfl trivial (fun _ _ => rfl) ?_
        refine JO_nil ?_
        refine JX_then ?_
        refine J_block ?_
        refine J_loop (X := Nat × (List (Int × Change))) (fun (⟨a, m⟩ : Nat × (List (Int × Change))) => (R47.Done num ch m (R47.ids ch ++ [-5]) a) ∧ (a ≤ (R47.ids ch ++ [-5]).length) ∧ ((R47.ids ch ++ [-5]).length ≤ 1000)) (fun (⟨a, m⟩ : Nat × (List (Int × Change))) => [(1, Value.pointer (some ⟨b1, 0, none⟩)), (4, Value.map (some b21)), (46, Value.slice A23 (((R47.ids ch) ++ [((-5) : Int)]).length) c24), (47, vI ((((R47.ids ch) ++ [((-5) : Int)]).length : Nat) : Int)), (48, vI ((a : Nat) : Int))]) (fun (⟨a, m⟩ : Nat × (List (Int × Change))) => [Ent.mp vI b21 (m.map R47.mc), Ent.row (.slice A23 ((R47.ids ch) ++ [((-5) : Int)]).length c24) 3 1 ((R47.ids ch) ++ [((-5) : Int)]).length (((R47.ids ch) ++ [((-5) : Int)]).map vI), Ent.blk b1 29 [vI num, vI unit, Value.slice chA ch.length chC]]) (fun (⟨a, m⟩ : Nat × (List (Int × Change))) => (R47.ids ch ++ [-5]).length - a) ((0, ([] : List (Int × Change))) : Nat × (List (Int × Change))) ?_ ⟨rfl, rfl, rfl, rfl, rfl, trivial⟩ (fun _ h => h.keep [false, true, false, true, true] rfl) ?_
        · show (R47.Done num ch ([] : List (Int × Change)) (R47.ids ch ++ [-5]) 0) ∧ (0 ≤ (R47.ids ch ++ [-5]).length) ∧ ((R47.ids ch ++ [-5]).length ≤ 1000)
          refine ⟨?_, ?_, ?_⟩
          · intro t ht; omega
          · exact Nat.zero_le _
          · rw [List.length_append]; simp only [List.length_cons, List.length_nil]; omega
        rintro ⟨a, m⟩ hI1
        obtain ⟨i1_0, i1_1, i1_2⟩ : (R47.Done num ch m (R47.ids ch ++ [-5]) a) ∧ (a ≤ (R47.ids ch ++ [-5]).length) ∧ ((R47.ids ch ++ [-5]).length ≤ 1000) := hI1
        refine J_weaken (E' := [(1, Value.pointer (some ⟨b1, 0, none⟩)), (4, Value.map (some b21)), (46, Value.slice A23 (((R47.ids ch) ++ [((-5) : Int)]).length) c24), (47, vI ((((R47.ids ch) ++ [((-5) : Int)]).length : Nat) : Int)), (48, vI ((a : Nat) : Int))]) (L' := [Ent.mp vI b21 (m.map R47.mc), Ent.row (.slice A23 ((R47.ids ch) ++ [((-5) : Int)]).length c24) 3 1 ((R47.ids ch) ++ [((-5) : Int)]).length (((R47.ids ch) ++ [((-5) : Int)]).map vI), Ent.blk b1 29 [vI num, vI unit, Value.slice chA ch.length chC]]) ⟨rfl, rfl, rfl, rfl, rfl, trivial⟩ (fun _ h => h) ?_
        refine J_seq ?_
        refine J_region ?_
        refine JO_read (vB (decide (((a : Nat) : Int) < ((((R47.ids ch) ++ [((-5) : Int)]).length : Nat) : Int)))) rfl trivial (fun _ _ => x_lss_i rfl rfl) ?_
        refine JO_nil ?_
        refine JX_then ?_
        refine J_seq ?_
        refine J_cond (decide (((a : Nat) : Int) < ((((R47.ids ch) ++ [((-5) : Int)]).length : Nat) : Int))) rfl rfl (fun h25 => ?_) (fun h25 => ?_)
        · have h25w := h25
          have h25 := of_decide_eq_true h25
          refine J_skip ?_
          refine JX_then ?_
          refine J_seq ?_
          refine J_block ?_
          refine J_seq ?_
          refine J_region ?_
          refine JO_read (Value.pointer (some (adr A23 a))) rfl trivial (x_indexAddr_at (k := a) (off := a) (cells_row 1 rfl) Tryd.underlying48 Ty.sz3 rfl rfl lt_ (by rw [List.length_map]; first | omega | (simp; omega) | (simp_all; omega) | (simp_all; done)) (Nat.mul_one _)) ?_
          refine JO_read (vI (((R47.ids ch) ++ [((-5) : Int)]).getD a 0)) rfl trivial (x_load_at (cells_row 1 rfl) rfl Ty.sc3 (map_at vI ((R47.ids ch) ++ [((-5) : Int)]) 0 lt_)) ?_
          refine JO_read (vI (((R47.ids ch) ++ [((-5) : Int)]).getD a 0)) rfl trivial (fun _ _ => rfl) ?_
          refine JO_nil ?_
          refine JX_then ?_
          refine J_seq ?_
          refine J_draw [Ent.mp vI b21 (m.map R47.mc), Ent.row (.slice A23 ((R47.ids ch) ++ [((-5) : Int)]).length c24) 3 1 ((R47.ids ch) ++ [((-5) : Int)]).length (((R47.ids ch) ++ [((-5) : Int)]).map vI), Ent.blk b1 29 [vI num, vI unit, Value.slice chA ch.length chC]] [] [Ent.mp vI b21 (m.map R47.mc), Ent.row (.slice A23 ((R47.ids ch) ++ [((-5) : Int)]).length c24) 3 1 ((R47.ids ch) ++ [((-5) : Int)]).length (((R47.ids ch) ++ [((-5) : Int)]).map vI), Ent.blk b1 29 [vI num, vI unit, Value.slice chA ch.length chC]] 8 Ty.mixed rfl ?_
          refine JA_take 0 (Value.agg #[vI num, vI unit, Value.slice chA ch.length chC]) rfl (by kernel_rfl) (by kernel_rfl) (by kernel_rfl) rfl (fun _ _ _ h => h) rfl trivial (x_loadN 2 [vI num, vI unit, Value.slice chA ch.length chC] rfl rfl Ty.ag29 Ty.sz29 rfl) ?_
          refine JA_take 1 (vI (((R47.ids ch) ++ [((-5) : Int)]).getD a 0)) rfl (by kernel_rfl) (by kernel_rfl) (by kernel_rfl) rfl (fun _ _ _ h => h) rfl trivial (fun _ _ => rfl) ?_
          refine JA_take 3 (Value.agg #[vI num, vI unit, Value.slice chA ch.length chC]) rfl (by kernel_rfl) (by kernel_rfl) (by kernel_rfl) rfl (fun _ _ _ h => h) rfl trivial (x_loadN 2 [vI num, vI unit, Value.slice chA ch.length chC] rfl rfl Ty.ag29 Ty.sz29 rfl) ?_
          refine JA_take 4 (vI (((R47.ids ch) ++ [((-5) : Int)]).getD a 0)) rfl (by kernel_rfl) (by kernel_rfl) (by kernel_rfl) rfl (fun _ _ _ h => h) rfl trivial (fun _ _ => rfl) ?_
          refine JA_one 2 (by kernel_rfl) (fun _ h => ⟨h, fun _ => h⟩) ?_
          refine JI_call [] [] [Ent.mp vI b21 (m.map R47.mc), Ent.row (.slice A23 ((R47.ids ch) ++ [((-5) : Int)]).length c24) 3 1 ((R47.ids ch) ++ [((-5) : Int)]).length (((R47.ids ch) ++ [((-5) : Int)]).map vI), Ent.blk b1 29 [vI num, vI unit, Value.slice chA ch.length chC]] rfl rfl trivial (fun _ => x_call Ty.ca32 rfl) (fun _ h => h) (fun _ h => by cases h) (fun w hS => f32_ok num unit ch chA chC (((R47.ids ch) ++ [((-5) : Int)]).getD a 0) w (chR.on hS (fun _ h => by cases h)) hy_ hy_ hy_) ?_
          rintro _ _ ⟨A26, c27, rfl, rfl⟩
          have ha28 := R47.of_len num ch (((R47.ids ch) ++ [((-5) : Int)]).getD a 0)
          try simp only [List.length_cons, List.length_nil, Nat.zero_add, Nat.reduceAdd, Nat.reduceMul] at ha28
          refine JA_one 5 (by kernel_rfl) (fun _ h => ⟨h.keep [false, true, true, true] rfl, fun _ => h.keep [false, true, true, true] rfl⟩) ?_
          refine JI_call [] [] [Ent.row (.slice A26 (R47.of num ch (((R47.ids ch) ++ [((-5) : Int)]).getD a 0)).length c27) 56 6 (R47.of num ch (((R47.ids ch) ++ [((-5) : Int)]).getD a 0)).length ((R47.of num ch (((R47.ids ch) ++ [((-5) : Int)]).getD a 0)).flatMap Numbered.enc), Ent.mp vI b21 (m.map R47.mc), Ent.row (.slice A23 ((R47.ids ch) ++ [((-5) : Int)]).length c24) 3 1 ((R47.ids ch) ++ [((-5) : Int)]).length (((R47.ids ch) ++ [((-5) : Int)]).map vI), Ent.blk b1 29 [vI num, vI unit, Value.slice chA ch.length chC]] rfl rfl trivial (fun _ => x_call Ty.ca33 rfl) (fun _ h => h) (fun _ h => by cases h) (fun w hS => f33_ok num unit ch chA chC (((R47.ids ch) ++ [((-5) : Int)]).getD a 0) w (chR.on hS (fun _ h => by cases h)) hy_ hy_ hy_) ?_
          rintro _ _ ⟨A29, c30, rfl, rfl⟩
          have ha31 := R47.of_len num ch (((R47.ids ch) ++ [((-5) : Int)]).getD a 0)
          try simp only [List.length_cons, List.length_nil, Nat.zero_add, Nat.reduceAdd, Nat.reduceMul] at ha31
          refine JA_take 6 (Value.slice A26 ((R47.of num ch (((R47.ids ch) ++ [((-5) : Int)]).getD a 0)).length) c27) rfl (by kernel_rfl) (by kernel_rfl) (by kernel_rfl) rfl (fun _ _ _ h => h) rfl trivial (fun _ _ => rfl) ?_
          refine JA_take 7 (Value.slice A29 ((R47.of num ch (((R47.ids ch) ++ [((-5) : Int)]).getD a 0)).length) c30) rfl (by kernel_rfl) (by kernel_rfl) (by kernel_rfl) rfl (fun _ _ _ h => h) rfl trivial (fun _ _ => rfl) ?_
          refine JA_done (by kernel_rfl) (fun _ h => ⟨h.keep [false, false, true, true, true] rfl, fun _ => h.keep [false, false, true, true, true] rfl⟩) ?_
          refine JX_then ?_
          refine J_seq ?_
          refine J_seq ?_
          refine J_region ?_
          refine JO_read (Value.slice A26 ((R47.of num ch (((R47.ids ch) ++ [((-5) : Int)]).getD a 0)).length) c27) rfl trivial (fun _ _ => rfl) ?_
          refine JO_read (vI (((R47.of num ch (((R47.ids ch) ++ [((-5) : Int)]).getD a 0)).length : Nat) : Int)) rfl trivial (fun _ _ => x_len_sl Tryd.underlying53 rfl) ?_
          refine JO_read (Value.slice A29 ((R47.of num ch (((R47.ids ch) ++ [((-5) : Int)]).getD a 0)).length) c30) rfl trivial (fun _ _ => rfl) ?_
          refine JO_read (vI (((R47.of num ch (((R47.ids ch) ++ [((-5) : Int)]).getD a 0)).length : Nat) : Int)) rfl trivial (fun _ _ => x_len_sl Tryd.underlying53 rfl) ?_
          refine JO_read (vB (decide ((((R47.of num ch (((R47.ids ch) ++ [((-5) : Int)]).getD a 0)).length : Nat) : Int) ≠ (((R47.of num ch (((R47.ids ch) ++ [((-5) : Int)]).getD a 0)).length : Nat) : Int)))) rfl trivial (fun _ _ => x_neq_i rfl rfl) ?_
          refine JO_nil ?_
          refine JX_then ?_
          refine J_cond (decide ((((R47.of num ch (((R47.ids ch) ++ [((-5) : Int)]).getD a 0)).length : Nat) : Int) ≠ (((R47.of num ch (((R47.ids ch) ++ [((-5) : Int)]).getD a 0)).length : Nat) : Int))) rfl rfl (fun h32 => ?_) (fun h32 => ?_)
          · have h32w := h32
            have h32 := of_decide_eq_true h32
            refine J_seq ?_
            refine J_region ?_
            refine JO_read (vB false) rfl trivial (fun _ _ => rfl) ?_
            refine JO_nil ?_
            refine JX_then ?_
            refine J_ret ?_
            refine JX_then_ret ?_
            refine JX_block_ret ?_
            refine JX_then_ret ?_
            refine JX_round_ret ?_
            refine JX_block_ret ?_
            refine JX_then_ret ?_
            refine JX_rets [vB false] (vB false) Tryd.results9 (fun w h => ⟨rfl, trivial⟩) rfl [] (fun _ h => h.keep [false, false, false, false, false] rfl) ⟨?_, ?_⟩
            · have e_x0 : (false : Bool) = true := by
                first | rfl | exact absurd rfl (by assumption) | (simp at h19; done) | exact (R47.parts_bad1 (by assumption)).elim | exact (R47.parts_bad2 (by assumption)).elim | exact (R47.parts_bad3 (hsat (by omega)) (by assumption)).elim
              exact congrArg (fun (x0 : Bool) => vB x0) e_x0
            · rfl
          · have h32w := h32
            have h32 := of_decide_eq_false h32
            refine J_skip ?_
            refine JX_then ?_
            refine J_seq ?_
            refine J_region ?_
            refine JO_read (Value.slice A26 ((R47.of num ch (((R47.ids ch) ++ [((-5) : Int)]).getD a 0)).length) c27) rfl trivial (fun _ _ => rfl) ?_
            refine JO_read (vI (((R47.of num ch (((R47.ids ch) ++ [((-5) : Int)]).getD a 0)).length : Nat) : Int)) rfl trivial (fun _ _ => x_len_sl Tryd.underlying53 rfl) ?_
            refine JO_read (vI 0) rfl trivial (fun _ _ => rfl) ?_
            refine JO_nil ?_
            refine JX_then ?_
            refine J_block ?_
            refine J_loop (X := Nat × (List (Int × Change))) (fun (⟨j, m2⟩ : Nat × (List (Int × Change))) => (R47.Done num ch m2 (R47.ids ch ++ [-5]) a) ∧ (R47.Half num ch m2 (R47.of num ch ((R47.ids ch ++ [-5]).getD a 0)) j) ∧ (j ≤ (R47.of num ch ((R47.ids ch ++ [-5]).getD a 0)).length)) (fun (⟨j, m2⟩ : Nat × (List (Int × Change))) => [(1, Value.pointer (some ⟨b1, 0, none⟩)), (4, Value.map (some b21)), (46, Value.slice A23 (((R47.ids ch) ++ [((-5) : Int)]).length) c24), (47, vI ((((R47.ids ch) ++ [((-5) : Int)]).length : Nat) : Int)), (48, vI ((a : Nat) : Int)), (8, Value.slice A29 ((R47.of num ch (((R47.ids ch) ++ [((-5) : Int)]).getD a 0)).length) c30), (63, Value.slice A26 ((R47.of num ch (((R47.ids ch) ++ [((-5) : Int)]).getD a 0)).length) c27), (64, vI (((R47.of num ch (((R47.ids ch) ++ [((-5) : Int)]).getD a 0)).length : Nat) : Int)), (65, vI ((j : Nat) : Int))]) (fun (⟨j, m2⟩ : Nat × (List (Int × Change))) => [Ent.row (.slice A29 (R47.of num ch (((R47.ids ch) ++ [((-5) : Int)]).getD a 0)).length c30) 56 6 (R47.of num ch (((R47.ids ch) ++ [((-5) : Int)]).getD a 0)).length ((R47.of num ch (((R47.ids ch) ++ [((-5) : Int)]).getD a 0)).flatMap Numbered.enc), Ent.row (.slice A26 (R47.of num ch (((R47.ids ch) ++ [((-5) : Int)]).getD a 0)).length c27) 56 6 (R47.of num ch (((R47.ids ch) ++ [((-5) : Int)]).getD a 0)).length ((R47.of num ch (((R47.ids ch) ++ [((-5) : Int)]).getD a 0)).flatMap Numbered.enc), Ent.mp vI b21 (m2.map R47.mc), Ent.row (.slice A23 ((R47.ids ch) ++ [((-5) : Int)]).length c24) 3 1 ((R47.ids ch) ++ [((-5) : Int)]).length (((R47.ids ch) ++ [((-5) : Int)]).map vI), Ent.blk b1 29 [vI num, vI unit, Value.slice chA ch.length chC]]) (fun (⟨j, m2⟩ : Nat × (List (Int × Change))) => (R47.of num ch ((R47.ids ch ++ [-5]).getD a 0)).length - j) ((0, m) : Nat × (List (Int × Change))) ?_ ⟨rfl, rfl, rfl, rfl, rfl, rfl, rfl, rfl, rfl, trivial⟩ (fun _ h => h) ?_
            · show (R47.Done num ch m (R47.ids ch ++ [-5]) a) ∧ (R47.Half num ch m (R47.of num ch ((R47.ids ch ++ [-5]).getD a 0)) 0) ∧ (0 ≤ (R47.of num ch ((R47.ids ch ++ [-5]).getD a 0)).length)
              refine ⟨?_, ?_, ?_⟩
              · exact i1_0
              · intro t ht; omega
              · exact Nat.zero_le _
            rintro ⟨j, m2⟩ hI2
            obtain ⟨i2_0, i2_1, i2_2⟩ : (R47.Done num ch m2 (R47.ids ch ++ [-5]) a) ∧ (R47.Half num ch m2 (R47.of num ch ((R47.ids ch ++ [-5]).getD a 0)) j) ∧ (j ≤ (R47.of num ch ((R47.ids ch ++ [-5]).getD a 0)).length) := hI2
            refine J_weaken (E' := [(1, Value.pointer (some ⟨b1, 0, none⟩)), (4, Value.map (some b21)), (46, Value.slice A23 (((R47.ids ch) ++ [((-5) : Int)]).length) c24), (47, vI ((((R47.ids ch) ++ [((-5) : Int)]).length : Nat) : Int)), (48, vI ((a : Nat) : Int)), (8, Value.slice A29 ((R47.of num ch (((R47.ids ch) ++ [((-5) : Int)]).getD a 0)).length) c30), (63, Value.slice A26 ((R47.of num ch (((R47.ids ch) ++ [((-5) : Int)]).getD a 0)).length) c27), (64, vI (((R47.of num ch (((R47.ids ch) ++ [((-5) : Int)]).getD a 0)).length : Nat) : Int)), (65, vI ((j : Nat) : Int))]) (L' := [Ent.row (.slice A29 (R47.of num ch (((R47.ids ch) ++ [((-5) : Int)]).getD a 0)).length c30) 56 6 (R47.of num ch (((R47.ids ch) ++ [((-5) : Int)]).getD a 0)).length ((R47.of num ch (((R47.ids ch) ++ [((-5) : Int)]).getD a 0)).flatMap Numbered.enc), Ent.row (.slice A26 (R47.of num ch (((R47.ids ch) ++ [((-5) : Int)]).getD a 0)).length c27) 56 6 (R47.of num ch (((R47.ids ch) ++ [((-5) : Int)]).getD a 0)).length ((R47.of num ch (((R47.ids ch) ++ [((-5) : Int)]).getD a 0)).flatMap Numbered.enc), Ent.mp vI b21 (m2.map R47.mc), Ent.row (.slice A23 ((R47.ids ch) ++ [((-5) : Int)]).length c24) 3 1 ((R47.ids ch) ++ [((-5) : Int)]).length (((R47.ids ch) ++ [((-5) : Int)]).map vI), Ent.blk b1 29 [vI num, vI unit, Value.slice chA ch.length chC]]) ⟨rfl, rfl, rfl, rfl, rfl, rfl, rfl, rfl, rfl, trivial⟩ (fun _ h => h) ?_
            refine J_seq ?_
            refine J_region ?_
            refine JO_read (vB (decide (((j : Nat) : Int) < (((R47.of num ch (((R47.ids ch) ++ [((-5) : Int)]).getD a 0)).length : Nat) : Int)))) rfl trivial (fun _ _ => x_lss_i rfl rfl) ?_
            refine JO_nil ?_
            refine JX_then ?_
            refine J_seq ?_
            refine J_cond (decide (((j : Nat) : Int) < (((R47.of num ch (((R47.ids ch) ++ [((-5) : Int)]).getD a 0)).length : Nat) : Int))) rfl rfl (fun h33 => ?_) (fun h33 => ?_)
            · have h33w := h33
              have h33 := of_decide_eq_true h33
              refine J_skip ?_
              refine JX_then ?_
              refine J_seq ?_
              refine J_block ?_
              refine J_seq ?_
              refine J_region ?_
              refine JO_read (vI ((j : Nat) : Int)) rfl trivial (fun _ _ => rfl) ?_
              refine JO_read (Value.pointer (some (adr A26 (j * 6)))) rfl trivial (x_indexAddr_at (k := j) (off := j * 6) (cells_row 1 rfl) Tryd.underlying53 Ty.sz56 rfl rfl lt_ (by rw [flat_length Numbered.enc 6 Numbered.enc_len]; first | omega | (simp; omega) | (simp_all; omega) | (simp_all; done)) rfl) ?_
              refine JO_read (Value.agg (([vI (((R47.of num ch (((R47.ids ch) ++ [((-5) : Int)]).getD a 0)).getD j default).Number)] ++ Change.enc (((R47.of num ch (((R47.ids ch) ++ [((-5) : Int)]).getD a 0)).getD j default).Change))).toArray) rfl trivial (x_loadN_at ([vI (((R47.of num ch (((R47.ids ch) ++ [((-5) : Int)]).getD a 0)).getD j default).Number)] ++ Change.enc (((R47.of num ch (((R47.ids ch) ++ [((-5) : Int)]).getD a 0)).getD j default).Change)) (cells_row 1 rfl) rfl Ty.ag56 Ty.sz56 (flat_drop Numbered.enc 6 Numbered.enc_len (R47.of num ch (((R47.ids ch) ++ [((-5) : Int)]).getD a 0)) default j lt_)) ?_
              refine JO_op rfl trivial (O_alloc Ty.ze56 rfl fun b34 => ?_)
              refine JO_read (vI ((j : Nat) : Int)) rfl trivial (fun _ _ => rfl) ?_
              refine JO_op rfl trivial (O_storeS (vs := ([vI (((R47.of num ch (((R47.ids ch) ++ [((-5) : Int)]).getD a 0)).getD j default).Number)] ++ Change.enc (((R47.of num ch (((R47.ids ch) ++ [((-5) : Int)]).getD a 0)).getD j default).Change))) 0 ([vI (((R47.of num ch (((R47.ids ch) ++ [((-5) : Int)]).getD a 0)).getD j default).Number)] ++ Change.enc (((R47.of num ch (((R47.ids ch) ++ [((-5) : Int)]).getD a 0)).getD j default).Change)) [Ent.blk b34 56 ([vI (((R47.of num ch (((R47.ids ch) ++ [((-5) : Int)]).getD a 0)).getD j default).Number)] ++ Change.enc (((R47.of num ch (((R47.ids ch) ++ [((-5) : Int)]).getD a 0)).getD j default).Change)), Ent.row (.slice A29 (R47.of num ch (((R47.ids ch) ++ [((-5) : Int)]).getD a 0)).length c30) 56 6 (R47.of num ch (((R47.ids ch) ++ [((-5) : Int)]).getD a 0)).length ((R47.of num ch (((R47.ids ch) ++ [((-5) : Int)]).getD a 0)).flatMap Numbered.enc), Ent.row (.slice A26 (R47.of num ch (((R47.ids ch) ++ [((-5) : Int)]).getD a 0)).length c27) 56 6 (R47.of num ch (((R47.ids ch) ++ [((-5) : Int)]).getD a 0)).length ((R47.of num ch (((R47.ids ch) ++ [((-5) : Int)]).getD a 0)).flatMap Numbered.enc), Ent.mp vI b21 (m2.map R47.mc), Ent.row (.slice A23 ((R47.ids ch) ++ [((-5) : Int)]).length c24) 3 1 ((R47.ids ch) ++ [((-5) : Int)]).length (((R47.ids ch) ++ [((-5) : Int)]).map vI), Ent.blk b1 29 [vI num, vI unit, Value.slice chA ch.length chC]] rfl rfl rfl Ty.sz56 rfl (Nat.le_of_ble_eq_true rfl) rfl rfl rfl ?_)
              refine JO_nil ?_
              refine JX_then ?_
              refine J_seq ?_
              refine J_seq ?_
              refine J_draw [Ent.blk b34 56 ([vI (((R47.of num ch (((R47.ids ch) ++ [((-5) : Int)]).getD a 0)).getD j default).Number)] ++ Change.enc (((R47.of num ch (((R47.ids ch) ++ [((-5) : Int)]).getD a 0)).getD j default).Change)), Ent.row (.slice A29 (R47.of num ch (((R47.ids ch) ++ [((-5) : Int)]).getD a 0)).length c30) 56 6 (R47.of num ch (((R47.ids ch) ++ [((-5) : Int)]).getD a 0)).length ((R47.of num ch (((R47.ids ch) ++ [((-5) : Int)]).getD a 0)).flatMap Numbered.enc), Ent.row (.slice A26 (R47.of num ch (((R47.ids ch) ++ [((-5) : Int)]).getD a 0)).length c27) 56 6 (R47.of num ch (((R47.ids ch) ++ [((-5) : Int)]).getD a 0)).length ((R47.of num ch (((R47.ids ch) ++ [((-5) : Int)]).getD a 0)).flatMap Numbered.enc), Ent.mp vI b21 (m2.map R47.mc), Ent.row (.slice A23 ((R47.ids ch) ++ [((-5) : Int)]).length c24) 3 1 ((R47.ids ch) ++ [((-5) : Int)]).length (((R47.ids ch) ++ [((-5) : Int)]).map vI), Ent.blk b1 29 [vI num, vI unit, Value.slice chA ch.length chC]] [] [Ent.blk b34 56 ([vI (((R47.of num ch (((R47.ids ch) ++ [((-5) : Int)]).getD a 0)).getD j default).Number)] ++ Change.enc (((R47.of num ch (((R47.ids ch) ++ [((-5) : Int)]).getD a 0)).getD j default).Change)), Ent.row (.slice A29 (R47.of num ch (((R47.ids ch) ++ [((-5) : Int)]).getD a 0)).length c30) 56 6 (R47.of num ch (((R47.ids ch) ++ [((-5) : Int)]).getD a 0)).length ((R47.of num ch (((R47.ids ch) ++ [((-5) : Int)]).getD a 0)).flatMap Numbered.enc), Ent.row (.slice A26 (R47.of num ch (((R47.ids ch) ++ [((-5) : Int)]).getD a 0)).length c27) 56 6 (R47.of num ch (((R47.ids ch) ++ [((-5) : Int)]).getD a 0)).length ((R47.of num ch (((R47.ids ch) ++ [((-5) : Int)]).getD a 0)).flatMap Numbered.enc), Ent.mp vI b21 (m2.map R47.mc), Ent.row (.slice A23 ((R47.ids ch) ++ [((-5) : Int)]).length c24) 3 1 ((R47.ids ch) ++ [((-5) : Int)]).length (((R47.ids ch) ++ [((-5) : Int)]).map vI), Ent.blk b1 29 [vI num, vI unit, Value.slice chA ch.length chC]] 6 Ty.mixed rfl ?_
              refine JA_take 0 (Value.agg (([vI (((R47.of num ch (((R47.ids ch) ++ [((-5) : Int)]).getD a 0)).getD j default).Number)] ++ Change.enc (((R47.of num ch (((R47.ids ch) ++ [((-5) : Int)]).getD a 0)).getD j default).Change))).toArray) rfl (by kernel_rfl) (by kernel_rfl) (by kernel_rfl) rfl (fun _ _ _ h => h) rfl trivial (x_loadN 0 ([vI (((R47.of num ch (((R47.ids ch) ++ [((-5) : Int)]).getD a 0)).getD j default).Number)] ++ Change.enc (((R47.of num ch (((R47.ids ch) ++ [((-5) : Int)]).getD a 0)).getD j default).Change)) rfl rfl Ty.ag56 Ty.sz56 rfl) ?_
              refine JA_take 1 (Value.slice A29 ((R47.of num ch (((R47.ids ch) ++ [((-5) : Int)]).getD a 0)).length) c30) rfl (by kernel_rfl) (by kernel_rfl) (by kernel_rfl) rfl (fun _ _ _ h => h) rfl trivial (fun _ _ => rfl) ?_
              refine JA_take 2 (vI ((j : Nat) : Int)) rfl (by kernel_rfl) (by kernel_rfl) (by kernel_rfl) rfl (fun _ _ _ h => h) rfl trivial (fun _ _ => rfl) ?_
              refine JA_take 3 (Value.pointer (some (adr A29 (j * 6)))) rfl (by kernel_rfl) (by kernel_rfl) (by kernel_rfl) rfl (fun _ _ _ h => h) rfl trivial (x_indexAddr_at (k := j) (off := j * 6) (cells_row 1 rfl) Tryd.underlying53 Ty.sz56 rfl rfl lt_ (by rw [flat_length Numbered.enc 6 Numbered.enc_len]; first | omega | (simp; omega) | (simp_all; omega) | (simp_all; done)) rfl) ?_
              refine JA_take 4 (Value.agg (([vI (((R47.of num ch (((R47.ids ch) ++ [((-5) : Int)]).getD a 0)).getD j default).Number)] ++ Change.enc (((R47.of num ch (((R47.ids ch) ++ [((-5) : Int)]).getD a 0)).getD j default).Change))).toArray) rfl (by kernel_rfl) (by kernel_rfl) (by kernel_rfl) rfl (fun _ _ _ h => h) rfl trivial (x_loadN_at ([vI (((R47.of num ch (((R47.ids ch) ++ [((-5) : Int)]).getD a 0)).getD j default).Number)] ++ Change.enc (((R47.of num ch (((R47.ids ch) ++ [((-5) : Int)]).getD a 0)).getD j default).Change)) (cells_row 1 rfl) rfl Ty.ag56 Ty.sz56 (flat_drop Numbered.enc 6 Numbered.enc_len (R47.of num ch (((R47.ids ch) ++ [((-5) : Int)]).getD a 0)) default j lt_)) ?_
              refine JA_take 5 (vB (!(decide (((Numbered.mk (((R47.of num ch (((R47.ids ch) ++ [((-5) : Int)]).getD a 0)).getD j default).Number) (((R47.of num ch (((R47.ids ch) ++ [((-5) : Int)]).getD a 0)).getD j default).Change)) : Numbered) = (Numbered.mk (((R47.of num ch (((R47.ids ch) ++ [((-5) : Int)]).getD a 0)).getD j default).Number) (((R47.of num ch (((R47.ids ch) ++ [((-5) : Int)]).getD a 0)).getD j default).Change)))))) rfl (by kernel_rfl) (by kernel_rfl) (by kernel_rfl) rfl (fun _ _ _ h => h) rfl trivial (fun _ _ => x_neq_agg rfl rfl Ty.eg56 (Ty.eq56 9997 (Numbered.mk (((R47.of num ch (((R47.ids ch) ++ [((-5) : Int)]).getD a 0)).getD j default).Number) (((R47.of num ch (((R47.ids ch) ++ [((-5) : Int)]).getD a 0)).getD j default).Change)) (Numbered.mk (((R47.of num ch (((R47.ids ch) ++ [((-5) : Int)]).getD a 0)).getD j default).Number) (((R47.of num ch (((R47.ids ch) ++ [((-5) : Int)]).getD a 0)).getD j default).Change)))) ?_
              refine JA_done (by kernel_rfl) (fun _ h => ⟨h, fun _ => h⟩) ?_
              refine JX_then ?_
              refine J_cond (!(decide (((Numbered.mk (((R47.of num ch (((R47.ids ch) ++ [((-5) : Int)]).getD a 0)).getD j default).Number) (((R47.of num ch (((R47.ids ch) ++ [((-5) : Int)]).getD a 0)).getD j default).Change)) : Numbered) = (Numbered.mk (((R47.of num ch (((R47.ids ch) ++ [((-5) : Int)]).getD a 0)).getD j default).Number) (((R47.of num ch (((R47.ids ch) ++ [((-5) : Int)]).getD a 0)).getD j default).Change))))) rfl rfl (fun h35 => ?_) (fun h35 => ?_)
              · have h35w := h35
                have h35 : (decide (((Numbered.mk (((R47.of num ch (((R47.ids ch) ++ [((-5) : Int)]).getD a 0)).getD j default).Number) (((R47.of num ch (((R47.ids ch) ++ [((-5) : Int)]).getD a 0)).getD j default).Change)) : Numbered) = (Numbered.mk (((R47.of num ch (((R47.ids ch) ++ [((-5) : Int)]).getD a 0)).getD j default).Number) (((R47.of num ch (((R47.ids ch) ++ [((-5) : Int)]).getD a 0)).getD j default).Change)))) = false := bnot_true h35
                have h35 := of_decide_eq_false h35
                refine J_seq ?_
                refine J_region ?_
                refine JO_read (vB false) rfl trivial (fun _ _ => rfl) ?_
                refine JO_nil ?_
                refine JX_then ?_
                refine J_ret ?_
                refine JX_then_ret ?_
                refine JX_block_ret ?_
                refine JX_then_ret ?_
                refine JX_round_ret ?_
                refine JX_block_ret ?_
                refine JX_block_ret ?_
                refine JX_then_ret ?_
                refine JX_round_ret ?_
                refine JX_block_ret ?_
                refine JX_then_ret ?_
                refine JX_rets [vB false] (vB false) Tryd.results9 (fun w h => ⟨rfl, trivial⟩) rfl [] (fun _ h => h.keep [false, false, false, false, false, false] rfl) ⟨?_, ?_⟩
                · have e_x0 : (false : Bool) = true := by
                    first | rfl | exact absurd rfl (by assumption) | (simp at h19; done) | exact (R47.parts_bad1 (by assumption)).elim | exact (R47.parts_bad2 (by assumption)).elim | exact (R47.parts_bad3 (hsat (by omega)) (by assumption)).elim
                  exact congrArg (fun (x0 : Bool) => vB x0) e_x0
                · rfl
              · have h35w := h35
                have h35 : (decide (((Numbered.mk (((R47.of num ch (((R47.ids ch) ++ [((-5) : Int)]).getD a 0)).getD j default).Number) (((R47.of num ch (((R47.ids ch) ++ [((-5) : Int)]).getD a 0)).getD j default).Change)) : Numbered) = (Numbered.mk (((R47.of num ch (((R47.ids ch) ++ [((-5) : Int)]).getD a 0)).getD j default).Number) (((R47.of num ch (((R47.ids ch) ++ [((-5) : Int)]).getD a 0)).getD j default).Change)))) = true := bnot_false h35
                have h35 := of_decide_eq_true h35
                refine J_skip ?_
                refine JX_then ?_
                refine J_region ?_
                refine JO_read (Value.map (some b21)) rfl trivial (fun _ _ => rfl) ?_
                refine JO_read (Value.pointer (some ⟨b34, 0, none⟩)) rfl trivial (fun _ _ => x_fieldAddr Ty.fi56_0 rfl rfl) ?_
                refine JO_read (vI (((R47.of num ch (((R47.ids ch) ++ [((-5) : Int)]).getD a 0)).getD j default).Number)) rfl trivial (x_load 0 rfl rfl Ty.sc3 rfl) ?_
                refine JO_read (Value.pointer (some ⟨b34, 1, none⟩)) rfl trivial (fun _ _ => x_fieldAddr Ty.fi56_1 rfl rfl) ?_
                refine JO_read (Value.agg ((Change.enc (((R47.of num ch (((R47.ids ch) ++ [((-5) : Int)]).getD a 0)).getD j default).Change))).toArray) rfl trivial (x_loadN 0 (Change.enc (((R47.of num ch (((R47.ids ch) ++ [((-5) : Int)]).getD a 0)).getD j default).Change)) rfl rfl Ty.ag23 Ty.sz23 rfl) ?_
                refine JO_op rfl trivial (O_mapUpdate 3 (f := vI) (k := ((R47.of num ch (((R47.ids ch) ++ [((-5) : Int)]).getD a 0)).getD j default).Number) ((R47.updC m2 (((R47.of num ch (((R47.ids ch) ++ [((-5) : Int)]).getD a 0)).getD j default).Number) (((R47.of num ch (((R47.ids ch) ++ [((-5) : Int)]).getD a 0)).getD j default).Change)).map R47.mc) [Ent.blk b34 56 ([vI (((R47.of num ch (((R47.ids ch) ++ [((-5) : Int)]).getD a 0)).getD j default).Number)] ++ Change.enc (((R47.of num ch (((R47.ids ch) ++ [((-5) : Int)]).getD a 0)).getD j default).Change)), Ent.row (.slice A29 (R47.of num ch (((R47.ids ch) ++ [((-5) : Int)]).getD a 0)).length c30) 56 6 (R47.of num ch (((R47.ids ch) ++ [((-5) : Int)]).getD a 0)).length ((R47.of num ch (((R47.ids ch) ++ [((-5) : Int)]).getD a 0)).flatMap Numbered.enc), Ent.row (.slice A26 (R47.of num ch (((R47.ids ch) ++ [((-5) : Int)]).getD a 0)).length c27) 56 6 (R47.of num ch (((R47.ids ch) ++ [((-5) : Int)]).getD a 0)).length ((R47.of num ch (((R47.ids ch) ++ [((-5) : Int)]).getD a 0)).flatMap Numbered.enc), Ent.mp vI b21 ((R47.updC m2 (((R47.of num ch (((R47.ids ch) ++ [((-5) : Int)]).getD a 0)).getD j default).Number) (((R47.of num ch (((R47.ids ch) ++ [((-5) : Int)]).getD a 0)).getD j default).Change)).map R47.mc), Ent.row (.slice A23 ((R47.ids ch) ++ [((-5) : Int)]).length c24) 3 1 ((R47.ids ch) ++ [((-5) : Int)]).length (((R47.ids ch) ++ [((-5) : Int)]).map vI), Ent.blk b1 29 [vI num, vI unit, Value.slice chA ch.length chC]] rfl rfl rfl rfl Tryd.underlying52 (mapK_i Tryd.underlying3) (R47.upd_mc m2 (((R47.of num ch (((R47.ids ch) ++ [((-5) : Int)]).getD a 0)).getD j default).Number) (((R47.of num ch (((R47.ids ch) ++ [((-5) : Int)]).getD a 0)).getD j default).Change)) rfl ?_)
                refine JO_nil ?_
                refine JX_block ?_
                refine JX_then ?_
                refine J_region ?_
                refine JO_read (vI ((j + 1 : Nat) : Int)) rfl trivial (fun _ _ => x_add_n (a := j) (b := 1) rfl rfl (by omega)) ?_
                refine JO_read (vI ((j + 1 : Nat) : Int)) rfl trivial (fun _ _ => rfl) ?_
                refine JO_nil ?_
                refine JX_round ((j + 1, (R47.updC m2 (((R47.of num ch (((R47.ids ch) ++ [((-5) : Int)]).getD a 0)).getD j default).Number) (((R47.of num ch (((R47.ids ch) ++ [((-5) : Int)]).getD a 0)).getD j default).Change))) : Nat × (List (Int × Change))) ?_ ?_ ⟨rfl, rfl, rfl, rfl, rfl, rfl, rfl, rfl, rfl, trivial⟩ (fun _ h => h.keep [false, true, true, true, true, true] rfl)
                · show (R47.Done num ch (R47.updC m2 (((R47.of num ch (((R47.ids ch) ++ [((-5) : Int)]).getD a 0)).getD j default).Number) (((R47.of num ch (((R47.ids ch) ++ [((-5) : Int)]).getD a 0)).getD j default).Change)) (R47.ids ch ++ [-5]) a) ∧ (R47.Half num ch (R47.updC m2 (((R47.of num ch (((R47.ids ch) ++ [((-5) : Int)]).getD a 0)).getD j default).Number) (((R47.of num ch (((R47.ids ch) ++ [((-5) : Int)]).getD a 0)).getD j default).Change)) (R47.of num ch ((R47.ids ch ++ [-5]).getD a 0)) (j + 1)) ∧ ((j + 1) ≤ (R47.of num ch ((R47.ids ch ++ [-5]).getD a 0)).length)
                  refine ⟨?_, ?_, ?_⟩
                  · exact R47.done_upd i2_0 (R47.of_good (R47.mem_getD (by omega)))
                  · exact R47.half_step (by omega) i2_1
                  · omega
                · show (R47.of num ch ((R47.ids ch ++ [-5]).getD a 0)).length - (j + 1) < (R47.of num ch ((R47.ids ch ++ [-5]).getD a 0)).length - j
                  first | omega | (simp; omega) | (simp_all; omega)
            · have h33w := h33
              have h33 := of_decide_eq_false h33
              refine J_exit ?_
              refine JX_then_exit ?_
              refine JX_round_exit ?_
              refine JX_block_hit ?_
              refine JX_block ?_
              refine JX_then ?_
              refine J_region ?_
              refine JO_read (vI ((a + 1 : Nat) : Int)) rfl trivial (fun _ _ => x_add_n (a := a) (b := 1) rfl rfl (by omega)) ?_
              refine JO_read (vI ((a + 1 : Nat) : Int)) rfl trivial (fun _ _ => rfl) ?_
              refine JO_nil ?_
              refine JX_round ((a + 1, m2) : Nat × (List (Int × Change))) ?_ ?_ ⟨rfl, rfl, rfl, rfl, rfl, trivial⟩ (fun _ h => h.keep [false, false, true, true, true] rfl)
              · show (R47.Done num ch m2 (R47.ids ch ++ [-5]) (a + 1)) ∧ ((a + 1) ≤ (R47.ids ch ++ [-5]).length) ∧ ((R47.ids ch ++ [-5]).length ≤ 1000)
                refine ⟨?_, ?_, ?_⟩
                · exact R47.done_step i2_0 i2_1 (by omega)
                · omega
                · exact i1_2
              · show (R47.ids ch ++ [-5]).length - (a + 1) < (R47.ids ch ++ [-5]).length - a
                first | omega | (simp; omega) | (simp_all; omega)
        · have h25w := h25
          have h25 := of_decide_eq_false h25
          refine J_exit ?_
          refine JX_then_exit ?_
          refine JX_round_exit ?_
          refine JX_block_hit ?_
          refine JX_then ?_
          refine J_seq ?_
          refine J_seq ?_
          refine J_region ?_
          refine JO_read (Value.pointer (some ⟨b1, 2, none⟩)) rfl trivial (fun _ _ => x_fieldAddr Ty.fi29_2 rfl rfl) ?_
          refine JO_read (Value.slice chA ch.length chC) rfl trivial (x_load 2 rfl rfl Ty.sc27 rfl) ?_
          refine JO_read (vI ((ch.length : Nat) : Int)) rfl trivial (fun _ _ => x_len_sl Tryd.underlying27 rfl) ?_
          refine JO_read (vI 0) rfl trivial (fun _ _ => rfl) ?_
          refine JO_nil ?_
          refine JX_then ?_
          refine J_block ?_
          refine J_loop (X := Nat) (fun (k : Nat) => (k ≤ ch.length)) (fun (k : Nat) => [(1, Value.pointer (some ⟨b1, 0, none⟩)), (4, Value.map (some b21)), (84, Value.slice chA ch.length chC), (85, vI ((ch.length : Nat) : Int)), (86, vI ((k : Nat) : Int))]) (fun (k : Nat) => [Ent.mp vI b21 (m.map R47.mc), Ent.blk b1 29 [vI num, vI unit, Value.slice chA ch.length chC]]) (fun (k : Nat) => ch.length - k) (0 : Nat) ?_ ⟨rfl, rfl, rfl, rfl, rfl, trivial⟩ (fun _ h => h.keep [true, false, true] rfl) ?_
          · show (0 ≤ ch.length)
            first | rfl | omega | (simp_all; done) | (simp_all; omega)
          intro k hI3
          have i3_0 : (k ≤ ch.length) := hI3
          have hsat := fun (hk : k < ch.length) => R47.done_all (i := k) i1_0 (by omega) rfl hk
          refine J_weaken (E' := [(1, Value.pointer (some ⟨b1, 0, none⟩)), (4, Value.map (some b21)), (84, Value.slice chA ch.length chC), (85, vI ((ch.length : Nat) : Int)), (86, vI ((k : Nat) : Int))]) (L' := [Ent.mp vI b21 (m.map R47.mc), Ent.blk b1 29 [vI num, vI unit, Value.slice chA ch.length chC]]) ⟨rfl, rfl, rfl, rfl, rfl, trivial⟩ (fun _ h => h) ?_
          refine J_seq ?_
          refine J_region ?_
          refine JO_read (vB (decide (((k : Nat) : Int) < ((ch.length : Nat) : Int)))) rfl trivial (fun _ _ => x_lss_i rfl rfl) ?_
          refine JO_nil ?_
          refine JX_then ?_
          refine J_seq ?_
          refine J_cond (decide (((k : Nat) : Int) < ((ch.length : Nat) : Int))) rfl rfl (fun h36 => ?_) (fun h36 => ?_)
          · have h36w := h36
            have h36 := of_decide_eq_true h36
            refine J_skip ?_
            refine JX_then ?_
            refine J_seq ?_
            refine J_block ?_
            refine J_seq ?_
            refine J_region ?_
            refine JO_read (vI ((k : Nat) : Int)) rfl trivial (fun _ _ => rfl) ?_
            refine JO_read (Value.pointer (some (adr chA (k * 5)))) rfl trivial (x_indexAddr_at (k := k) (off := k * 5) (cells_ro chR) Tryd.underlying27 Ty.sz23 rfl rfl lt_ (by rw [flat_length Change.enc 5 Change.enc_len]; first | omega | (simp; omega) | (simp_all; omega) | (simp_all; done)) rfl) ?_
            refine JO_read (Value.agg ((Change.enc (ch.getD k default))).toArray) rfl trivial (x_loadN_at (Change.enc (ch.getD k default)) (cells_ro chR) rfl Ty.ag23 Ty.sz23 (flat_drop Change.enc 5 Change.enc_len ch default k lt_)) ?_
            refine JO_op rfl trivial (O_alloc Ty.ze23 rfl fun b37 => ?_)
            refine JO_read (vI ((k : Nat) : Int)) rfl trivial (fun _ _ => rfl) ?_
            refine JO_op rfl trivial (O_storeS (vs := (Change.enc (ch.getD k default))) 0 (Change.enc (ch.getD k default)) [Ent.blk b37 23 (Change.enc (ch.getD k default)), Ent.mp vI b21 (m.map R47.mc), Ent.blk b1 29 [vI num, vI unit, Value.slice chA ch.length chC]] rfl rfl rfl Ty.sz23 rfl (Nat.le_of_ble_eq_true rfl) rfl rfl rfl ?_)
            refine JO_nil ?_
            refine JX_then ?_
            refine J_seq ?_
            refine J_region ?_
            refine JO_read (Value.map (some b21)) rfl trivial (fun _ _ => rfl) ?_
            refine JO_read (Value.pointer (some ⟨b1, 0, none⟩)) rfl trivial (fun _ _ => x_fieldAddr Ty.fi29_0 rfl rfl) ?_
            refine JO_read (vI num) rfl trivial (x_load 2 rfl rfl Ty.sc3 rfl) ?_
            refine JO_read (vI ((k : Nat) : Int)) rfl trivial (fun _ _ => rfl) ?_
            refine JO_read (vI (num + ((k : Nat) : Int))) rfl trivial (fun _ _ => x_add_i (a := num) (b := ((k : Nat) : Int)) rfl rfl (by omega) (by omega)) ?_
            refine JO_read (Value.tuple #[Value.agg ((Change.enc ((R47.lkC m (num + ((k : Nat) : Int))).getD (Change.mk 0 0 [] [] [])))).toArray, vB ((R47.lkC m (num + ((k : Nat) : Int))).isSome)]) rfl trivial (x_lookup_okv 1 (f := vI) (k := num + ((k : Nat) : Int)) rfl rfl rfl Tryd.underlying52 (mapK_i Tryd.underlying3) Ty.ze23 (R47.lk_mc m (num + ((k : Nat) : Int))) (R47.lk_v m (num + ((k : Nat) : Int))) (R47.lk_o m (num + ((k : Nat) : Int)))) ?_
            refine JO_read (Value.tuple #[Value.agg ((Change.enc ((R47.lkC m (num + ((k : Nat) : Int))).getD (Change.mk 0 0 [] [] [])))).toArray, vB ((R47.lkC m (num + ((k : Nat) : Int))).isSome)]) rfl trivial (fun _ _ => rfl) ?_
            refine JO_read (Value.agg ((Change.enc ((R47.lkC m (num + ((k : Nat) : Int))).getD (Change.mk 0 0 [] [] [])))).toArray) rfl trivial (fun _ _ => rfl) ?_
            refine JO_read (vB ((R47.lkC m (num + ((k : Nat) : Int))).isSome)) rfl trivial (fun _ _ => rfl) ?_
            refine JO_op rfl trivial (O_alloc Ty.ze23 rfl fun b38 => ?_)
            refine JO_op rfl trivial (O_storeS (vs := (Change.enc ((R47.lkC m (num + ((k : Nat) : Int))).getD (Change.mk 0 0 [] [] [])))) 0 (Change.enc ((R47.lkC m (num + ((k : Nat) : Int))).getD (Change.mk 0 0 [] [] []))) [Ent.blk b38 23 (Change.enc ((R47.lkC m (num + ((k : Nat) : Int))).getD (Change.mk 0 0 [] [] []))), Ent.blk b37 23 (Change.enc (ch.getD k default)), Ent.mp vI b21 (m.map R47.mc), Ent.blk b1 29 [vI num, vI unit, Value.slice chA ch.length chC]] rfl rfl rfl Ty.sz23 rfl (Nat.le_of_ble_eq_true rfl) rfl rfl rfl ?_)
            refine JO_read (vB ((R47.lkC m (num + ((k : Nat) : Int))).isSome)) rfl trivial (fun _ _ => rfl) ?_
            refine JO_nil ?_
            refine JX_then ?_
            refine J_seq ?_
            refine J_region ?_
            refine JO_read (Value.pointer (some ⟨b37, 1, none⟩)) rfl trivial (fun _ _ => x_fieldAddr Ty.fi23_1 rfl rfl) ?_
            refine JO_read (vI ((ch.getD k default).Id)) rfl trivial (x_load 1 rfl rfl Ty.sc3 rfl) ?_
            refine JO_read (vB (decide ((ch.getD k default).Id ≠ (-5)))) rfl trivial (fun _ _ => x_neq_i rfl rfl) ?_
            refine JO_read (vB (decide ((ch.getD k default).Id ≠ (-5)))) rfl trivial (fun _ _ => rfl) ?_
            refine JO_cut (X := Bool) 8 (fun z => z = ((decide ((ch.getD k default).Id ≠ (-5))) && ((!((R47.lkC m (num + ((k : Nat) : Int))).isSome)) || (!(decide ((((R47.lkC m (num + ((k : Nat) : Int))).getD (Change.mk 0 0 [] [] [])) : Change) = (ch.getD k default))))))) (fun z => [(1, Value.pointer (some ⟨b1, 0, none⟩)), (4, Value.map (some b21)), (84, Value.slice chA ch.length chC), (85, vI ((ch.length : Nat) : Int)), (86, vI ((k : Nat) : Int)), (111, vB z)]) (fun _ => [Ent.blk b38 23 (Change.enc ((R47.lkC m (num + ((k : Nat) : Int))).getD (Change.mk 0 0 [] [] []))), Ent.blk b37 23 (Change.enc (ch.getD k default)), Ent.mp vI b21 (m.map R47.mc), Ent.blk b1 29 [vI num, vI unit, Value.slice chA ch.length chC]]) ?_ ?_
            · rcases Bool.eq_false_or_eq_true (decide ((ch.getD k default).Id ≠ (-5))) with g40 | g40
              · have g40r := g40
                have g40r := of_decide_eq_true g40r
                refine JO_read (vB ((R47.lkC m (num + ((k : Nat) : Int))).isSome)) rfl ⟨_, rfl, g40⟩ (fun _ _ => rfl) ?_
                refine JO_read (vB (!((R47.lkC m (num + ((k : Nat) : Int))).isSome))) rfl ⟨_, rfl, g40⟩ (fun _ _ => x_not rfl) ?_
                refine JO_read (vB (!((R47.lkC m (num + ((k : Nat) : Int))).isSome))) rfl ⟨_, rfl, g40⟩ (fun _ _ => rfl) ?_
                refine JO_cut (X := Bool) 4 (fun z => z = ((!((R47.lkC m (num + ((k : Nat) : Int))).isSome)) || (!(decide ((((R47.lkC m (num + ((k : Nat) : Int))).getD (Change.mk 0 0 [] [] [])) : Change) = (ch.getD k default)))))) (fun z => [(1, Value.pointer (some ⟨b1, 0, none⟩)), (4, Value.map (some b21)), (84, Value.slice chA ch.length chC), (85, vI ((ch.length : Nat) : Int)), (86, vI ((k : Nat) : Int)), (103, vB (decide ((ch.getD k default).Id ≠ (-5)))), (110, vB z)]) (fun _ => [Ent.blk b38 23 (Change.enc ((R47.lkC m (num + ((k : Nat) : Int))).getD (Change.mk 0 0 [] [] []))), Ent.blk b37 23 (Change.enc (ch.getD k default)), Ent.mp vI b21 (m.map R47.mc), Ent.blk b1 29 [vI num, vI unit, Value.slice chA ch.length chC]]) ?_ ?_
                · rcases Bool.eq_false_or_eq_true (!((R47.lkC m (num + ((k : Nat) : Int))).isSome)) with g42 | g42
                  · have g42r := g42
                    have g42r : ((R47.lkC m (num + ((k : Nat) : Int))).isSome) = false := bnot_true g42r
                    refine JO_shun rfl ⟨_, rfl, g42⟩ ?_
                    refine JO_shun rfl ⟨_, rfl, g42⟩ ?_
                    refine JO_shun rfl ⟨_, rfl, g42⟩ ?_
                    refine JO_read (vB true) rfl ⟨_, rfl, g40⟩ (fun _ _ => x_pick_t rfl g42 rfl) ?_
                    refine JO_nil (JX_cut (true) (by rw [g42]; simp) ⟨rfl, rfl, rfl, rfl, rfl, rfl, rfl, trivial⟩ (fun _ h => h))
                  · have g42r := g42
                    have g42r : ((R47.lkC m (num + ((k : Nat) : Int))).isSome) = true := bnot_false g42r
                    refine JO_read (Value.agg ((Change.enc ((R47.lkC m (num + ((k : Nat) : Int))).getD (Change.mk 0 0 [] [] [])))).toArray) rfl ⟨_, rfl, g42⟩ (x_loadN 0 (Change.enc ((R47.lkC m (num + ((k : Nat) : Int))).getD (Change.mk 0 0 [] [] []))) rfl rfl Ty.ag23 Ty.sz23 rfl) ?_
                    refine JO_read (Value.agg ((Change.enc (ch.getD k default))).toArray) rfl ⟨_, rfl, g42⟩ (x_loadN 1 (Change.enc (ch.getD k default)) rfl rfl Ty.ag23 Ty.sz23 rfl) ?_
                    refine JO_read (vB (!(decide ((((R47.lkC m (num + ((k : Nat) : Int))).getD (Change.mk 0 0 [] [] [])) : Change) = (ch.getD k default))))) rfl ⟨_, rfl, g42⟩ (fun _ _ => x_neq_agg rfl rfl Ty.eg23 (Ty.eq23 9998 ((R47.lkC m (num + ((k : Nat) : Int))).getD (Change.mk 0 0 [] [] [])) (ch.getD k default))) ?_
                    refine JO_read (vB (!(decide ((((R47.lkC m (num + ((k : Nat) : Int))).getD (Change.mk 0 0 [] [] [])) : Change) = (ch.getD k default))))) rfl ⟨_, rfl, g40⟩ (fun _ _ => x_pick_f rfl g42 rfl) ?_
                    refine JO_nil (JX_cut (!(decide ((((R47.lkC m (num + ((k : Nat) : Int))).getD (Change.mk 0 0 [] [] [])) : Change) = (ch.getD k default)))) (by rw [g42]; simp) ⟨rfl, rfl, rfl, rfl, rfl, rfl, rfl, trivial⟩ (fun _ h => h))
                rintro z41 rfl
                refine JO_read (vB ((!((R47.lkC m (num + ((k : Nat) : Int))).isSome)) || (!(decide ((((R47.lkC m (num + ((k : Nat) : Int))).getD (Change.mk 0 0 [] [] [])) : Change) = (ch.getD k default)))))) rfl trivial (fun _ _ => x_pick_t rfl g40 rfl) ?_
                refine JO_nil (JX_cut ((!((R47.lkC m (num + ((k : Nat) : Int))).isSome)) || (!(decide ((((R47.lkC m (num + ((k : Nat) : Int))).getD (Change.mk 0 0 [] [] [])) : Change) = (ch.getD k default))))) (by rw [g40]; simp) ⟨rfl, rfl, rfl, rfl, rfl, rfl, trivial⟩ (fun _ h => h))
              · have g40r := g40
                have g40r := of_decide_eq_false g40r
                refine JO_shun rfl ⟨_, rfl, g40⟩ ?_
                refine JO_shun rfl ⟨_, rfl, g40⟩ ?_
                refine JO_shun rfl ⟨_, rfl, g40⟩ ?_
                refine JO_shunU rfl ⟨_, rfl, rfl⟩ ?_
                refine JO_shunU rfl ⟨_, rfl, rfl⟩ ?_
                refine JO_shunU rfl ⟨_, rfl, rfl⟩ ?_
                refine JO_shun rfl ⟨_, rfl, g40⟩ ?_
                refine JO_read (vB false) rfl trivial (fun _ _ => x_pick_f rfl g40 rfl) ?_
                refine JO_nil (JX_cut (false) (by rw [g40]; simp) ⟨rfl, rfl, rfl, rfl, rfl, rfl, trivial⟩ (fun _ h => h))
            rintro z39 rfl
            refine JO_nil ?_
            refine JX_then ?_
            refine J_cond ((decide ((ch.getD k default).Id ≠ (-5))) && ((!((R47.lkC m (num + ((k : Nat) : Int))).isSome)) || (!(decide ((((R47.lkC m (num + ((k : Nat) : Int))).getD (Change.mk 0 0 [] [] [])) : Change) = (ch.getD k default)))))) rfl rfl (fun h43 => ?_) (fun h43 => ?_)
            · have h43w := h43
              have ⟨h43, h44⟩ := band_true h43
              have h43 := of_decide_eq_true h43
              simp only [Bool.and_eq_true, Bool.or_eq_true, Bool.and_eq_false_iff, Bool.or_eq_false_iff, Bool.not_eq_true', Bool.not_eq_false', decide_eq_true_eq, decide_eq_false_iff_not] at h44
              refine J_seq ?_
              refine J_region ?_
              refine JO_read (vB false) rfl trivial (fun _ _ => rfl) ?_
              refine JO_nil ?_
              refine JX_then ?_
              refine J_ret ?_
              refine JX_block_ret ?_
              refine JX_then_ret ?_
              refine JX_round_ret ?_
              refine JX_block_ret ?_
              refine JX_then_ret ?_
              refine JX_rets [vB false] (vB false) Tryd.results9 (fun w h => ⟨rfl, trivial⟩) rfl [] (fun _ h => h.keep [false, false, false, false] rfl) ⟨?_, ?_⟩
              · have e_x0 : (false : Bool) = true := by
                  first | rfl | exact absurd rfl (by assumption) | (simp at h19; done) | exact (R47.parts_bad1 (by assumption)).elim | exact (R47.parts_bad2 (by assumption)).elim | exact (R47.parts_bad3 (hsat (by omega)) (by assumption)).elim
                exact congrArg (fun (x0 : Bool) => vB x0) e_x0
              · rfl
            · have h43w := h43
              simp only [Bool.and_eq_true, Bool.or_eq_true, Bool.and_eq_false_iff, Bool.or_eq_false_iff, Bool.not_eq_true', Bool.not_eq_false', decide_eq_true_eq, decide_eq_false_iff_not] at h43
              refine J_skip ?_
              refine JX_block ?_
              refine JX_then ?_
              refine J_region ?_
              refine JO_read (vI ((k + 1 : Nat) : Int)) rfl trivial (fun _ _ => x_add_n (a := k) (b := 1) rfl rfl (by omega)) ?_
              refine JO_read (vI ((k + 1 : Nat) : Int)) rfl trivial (fun _ _ => rfl) ?_
              refine JO_nil ?_
              refine JX_round (k + 1 : Nat) ?_ ?_ ⟨rfl, rfl, rfl, rfl, rfl, trivial⟩ (fun _ h => h.keep [false, false, true, true] rfl)
              · show ((k + 1) ≤ ch.length)
                first | rfl | omega | (simp_all; done) | (simp_all; omega)
              · show ch.length - (k + 1) < ch.length - k
                first | omega | (simp; omega) | (simp_all; omega)
          · have h36w := h36
            have h36 := of_decide_eq_false h36
            refine J_exit ?_
            refine JX_then_exit ?_
            refine JX_round_exit ?_
            refine JX_block_hit ?_
            refine JX_then ?_
            refine J_seq ?_
            refine J_region ?_
            refine JO_call [] [] [Ent.mp vI b21 (m.map R47.mc), Ent.blk b1 29 [vI num, vI unit, Value.slice chA ch.length chC]] rfl trivial (fun _ => x_call Ty.ca10 rfl) (fun _ h => h) (fun _ h => by cases h) (fun w hS => f10_ok w (hT.on hS (fun _ h => by cases h))) ?_
            rintro _ _ ⟨rfl, rfl⟩
            refine JO_read (vB true) rfl trivial (fun _ _ => rfl) ?_
            refine JO_nil ?_
            refine JX_then ?_
            refine J_ret ?_
            refine JX_rets [vB true] (vB true) Tryd.results9 (fun w h => ⟨rfl, trivial⟩) rfl [] (fun _ h => h.keep [false, false] rfl) ⟨?_, ?_⟩
            · rfl
            · rfl

end Go.Proofs.YtknibpmmjhmjeaaDoor
