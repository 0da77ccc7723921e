/- contracts L47b -/
import Derived.Test.YtknibpmmjhmjeaaDoorC47i
namespace Go.Proofs.YtknibpmmjhmjeaaDoor
open Go.GV
set_option linter.unusedVariables false
set_option linter.unusedSimpArgs false

set_option maxRecDepth 20000 in
theorem f3_ok (c : Change) (w : World) (hT : Tab [] w) : Calls Tryd.prog 3 #[Value.agg ((Change.enc c)).toArray] w (Gives [] w fun v L => v = vB true ∧ L = []) := by
  refine calls_J [] 35 Tryd.func3 rfl Tryd.ntmps3 [(0, Value.agg ((Change.enc c)).toArray)] rfl rfl (Give.nil w) ?_
  refine J_seq ?_
  refine J_region ?_
  refine JO_op rfl trivial (O_box rfl rfl fun b1 => ?_)
  refine JO_read (vB false) rfl trivial (fun _ _ => rfl) ?_
  refine JO_nil ?_
  refine JX_then ?_
  refine J_seq ?_
  refine J_seq ?_
  refine J_region ?_
  refine JO_read (Value.pointer (some ⟨b1, 2, none⟩)) rfl trivial (fun _ _ => x_fieldAddr Ty.fi23_2 rfl rfl) ?_
  refine JO_read (vS c.Key) rfl trivial (x_load 0 rfl rfl Ty.sc9 rfl) ?_
  refine JO_read (vI ((c.Key.length : Nat) : Int)) rfl trivial (fun _ _ => x_len_s rfl Tryd.underlying9) ?_
  refine JO_read (vB (decide ((50 : Int) < ((c.Key.length : Nat) : Int)))) rfl trivial (fun _ _ => x_gtr_i rfl rfl) ?_
  refine JO_read (vB (decide ((50 : Int) < ((c.Key.length : Nat) : Int)))) rfl trivial (fun _ _ => rfl) ?_
  refine JO_cut (X := Bool) 5 (fun z => z = ((decide ((50 : Int) < ((c.Key.length : Nat) : Int))) || (decide ((1200 : Int) < ((c.Record.length : Nat) : Int))))) (fun z => [(1, Value.pointer (some ⟨b1, 0, none⟩)), (2, vB false), (12, vB z)]) (fun _ => [Ent.blk b1 23 (Change.enc c)]) ?_ ?_
  · rcases Bool.eq_false_or_eq_true (decide ((50 : Int) < ((c.Key.length : Nat) : Int))) with g3 | g3
    · have g3r := g3
      have g3r := of_decide_eq_true g3r
      refine JO_shun rfl ⟨_, rfl, g3⟩ ?_
      refine JO_shun rfl ⟨_, rfl, g3⟩ ?_
      refine JO_shun rfl ⟨_, rfl, g3⟩ ?_
      refine JO_shun rfl ⟨_, rfl, g3⟩ ?_
      refine JO_read (vB true) rfl trivial (fun _ _ => x_pick_t rfl g3 rfl) ?_
      refine JO_nil (JX_cut (true) (by rw [g3]; simp) ⟨rfl, rfl, rfl, trivial⟩ (fun _ h => h))
    · have g3r := g3
      have g3r := of_decide_eq_false g3r
      refine JO_read (Value.pointer (some ⟨b1, 3, none⟩)) rfl ⟨_, rfl, g3⟩ (fun _ _ => x_fieldAddr Ty.fi23_3 rfl rfl) ?_
      refine JO_read (vS c.Record) rfl ⟨_, rfl, g3⟩ (x_load 0 rfl rfl Ty.sc9 rfl) ?_
      refine JO_read (vI ((c.Record.length : Nat) : Int)) rfl ⟨_, rfl, g3⟩ (fun _ _ => x_len_s rfl Tryd.underlying9) ?_
      refine JO_read (vB (decide ((1200 : Int) < ((c.Record.length : Nat) : Int)))) rfl ⟨_, rfl, g3⟩ (fun _ _ => x_gtr_i rfl rfl) ?_
      refine JO_read (vB (decide ((1200 : Int) < ((c.Record.length : Nat) : Int)))) rfl trivial (fun _ _ => x_pick_f rfl g3 rfl) ?_
      refine JO_nil (JX_cut (decide ((1200 : Int) < ((c.Record.length : Nat) : Int))) (by rw [g3]; simp) ⟨rfl, rfl, rfl, trivial⟩ (fun _ h => h))
  rintro z2 rfl
  refine JO_read (vB ((decide ((50 : Int) < ((c.Key.length : Nat) : Int))) || (decide ((1200 : Int) < ((c.Record.length : Nat) : Int))))) rfl trivial (fun _ _ => rfl) ?_
  refine JO_cut (X := Bool) 5 (fun z => z = (((decide ((50 : Int) < ((c.Key.length : Nat) : Int))) || (decide ((1200 : Int) < ((c.Record.length : Nat) : Int)))) || (decide ((20 : Int) < ((c.Volume.length : Nat) : Int))))) (fun z => [(1, Value.pointer (some ⟨b1, 0, none⟩)), (2, vB false), (18, vB z)]) (fun _ => [Ent.blk b1 23 (Change.enc c)]) ?_ ?_
  · rcases Bool.eq_false_or_eq_true ((decide ((50 : Int) < ((c.Key.length : Nat) : Int))) || (decide ((1200 : Int) < ((c.Record.length : Nat) : Int)))) with g5 | g5
    · have g5r := g5
      simp only [Bool.and_eq_true, Bool.or_eq_true, Bool.and_eq_false_iff, Bool.or_eq_false_iff, Bool.not_eq_true', Bool.not_eq_false', decide_eq_true_eq, decide_eq_false_iff_not] at g5r
      refine JO_shun rfl ⟨_, rfl, g5⟩ ?_
      refine JO_shun rfl ⟨_, rfl, g5⟩ ?_
      refine JO_shun rfl ⟨_, rfl, g5⟩ ?_
      refine JO_shun rfl ⟨_, rfl, g5⟩ ?_
      refine JO_read (vB true) rfl trivial (fun _ _ => x_pick_t rfl g5 rfl) ?_
      refine JO_nil (JX_cut (true) (by rw [g5]; simp) ⟨rfl, rfl, rfl, trivial⟩ (fun _ h => h))
    · have g5r := g5
      have ⟨g5r, h6⟩ := bor_false g5r
      have g5r := of_decide_eq_false g5r
      have h6 := of_decide_eq_false h6
      refine JO_read (Value.pointer (some ⟨b1, 4, none⟩)) rfl ⟨_, rfl, g5⟩ (fun _ _ => x_fieldAddr Ty.fi23_4 rfl rfl) ?_
      refine JO_read (vS c.Volume) rfl ⟨_, rfl, g5⟩ (x_load 0 rfl rfl Ty.sc9 rfl) ?_
      refine JO_read (vI ((c.Volume.length : Nat) : Int)) rfl ⟨_, rfl, g5⟩ (fun _ _ => x_len_s rfl Tryd.underlying9) ?_
      refine JO_read (vB (decide ((20 : Int) < ((c.Volume.length : Nat) : Int)))) rfl ⟨_, rfl, g5⟩ (fun _ _ => x_gtr_i rfl rfl) ?_
      refine JO_read (vB (decide ((20 : Int) < ((c.Volume.length : Nat) : Int)))) rfl trivial (fun _ _ => x_pick_f rfl g5 rfl) ?_
      refine JO_nil (JX_cut (decide ((20 : Int) < ((c.Volume.length : Nat) : Int))) (by rw [g5]; simp) ⟨rfl, rfl, rfl, trivial⟩ (fun _ h => h))
  rintro z4 rfl
  refine JO_nil ?_
  refine JX_then ?_
  refine J_cond (((decide ((50 : Int) < ((c.Key.length : Nat) : Int))) || (decide ((1200 : Int) < ((c.Record.length : Nat) : Int)))) || (decide ((20 : Int) < ((c.Volume.length : Nat) : Int)))) rfl rfl (fun h7 => ?_) (fun h7 => ?_)
  · simp only [Bool.and_eq_true, Bool.or_eq_true, Bool.and_eq_false_iff, Bool.or_eq_false_iff, Bool.not_eq_true', Bool.not_eq_false', decide_eq_true_eq, decide_eq_false_iff_not] at h7
    refine J_seq ?_
    refine J_region ?_
    refine JO_call [] [] [Ent.blk b1 23 (Change.enc c)] rfl trivial (fun _ => x_call Ty.ca10 rfl) (fun _ h => h) (fun _ h => by cases h) (fun w hS => f10_ok w (hT.on hS (fun _ h => by cases h))) ?_
    rintro _ _ ⟨rfl, rfl⟩
    refine JO_read (vB true) rfl trivial (fun _ _ => rfl) ?_
    refine JO_nil ?_
    refine JX_then ?_
    refine J_ret ?_
    refine JX_then_ret ?_
    refine JX_rets [vB true] (vB true) Tryd.results3 (fun w h => ⟨rfl, trivial⟩) rfl [] (fun _ h => h.keep [false] rfl) ⟨?_, ?_⟩
    · rfl
    · rfl
  · have ⟨h7, h8⟩ := bor_false h7
    have ⟨h7, h9⟩ := bor_false h7
    have h7 := of_decide_eq_false h7
    have h9 := of_decide_eq_false h9
    have h8 := of_decide_eq_false h8
    refine J_skip ?_
    refine JX_then ?_
    refine J_seq ?_
    refine J_draw [Ent.blk b1 23 (Change.enc c)] [] [Ent.blk b1 23 (Change.enc c)] 16 Ty.mixed rfl ?_
    refine JA_take 0 (Value.agg ((Change.enc c)).toArray) rfl (by kernel_rfl) (by kernel_rfl) (by kernel_rfl) rfl (fun _ _ _ h => h) rfl trivial (x_loadN 0 (Change.enc c) rfl rfl Ty.ag23 Ty.sz23 rfl) ?_
    refine JA_take 2 (Value.agg ((Change.enc c)).toArray) rfl (by kernel_rfl) (by kernel_rfl) (by kernel_rfl) rfl (fun _ _ _ h => h) rfl trivial (x_loadN 0 (Change.enc c) rfl rfl Ty.ag23 Ty.sz23 rfl) ?_
    refine JA_one 1 (by kernel_rfl) (fun _ h => ⟨h, fun _ => h⟩) ?_
    refine JI_call [] [] [Ent.blk b1 23 (Change.enc c)] rfl rfl trivial (fun _ => x_call Ty.ca11 rfl) (fun _ h => h) (fun _ h => by cases h) (fun w hS => f11_ok c w (by first | omega | assumption | (simp only [List.length_append, List.length_cons, List.length_nil]; omega) | (simp only [sub, List.length_drop, List.length_take]; omega) | (simp; omega) | (simp_all; done) | (simp_all; omega) | decide)) ?_
    rintro _ _ ⟨rfl, rfl⟩
    refine JA_one 3 (by kernel_rfl) (fun _ h => ⟨h, fun _ => h⟩) ?_
    refine JI_call [] [] [Ent.blk b1 23 (Change.enc c)] rfl rfl trivial (fun _ => x_call Ty.ca12 rfl) (fun _ h => h) (fun _ h => by cases h) (fun w hS => f12_ok c w (by first | omega | assumption | (simp only [List.length_append, List.length_cons, List.length_nil]; omega) | (simp only [sub, List.length_drop, List.length_take]; omega) | (simp; omega) | (simp_all; done) | (simp_all; omega) | decide)) ?_
    rintro _ _ ⟨rfl, rfl⟩
    refine JA_take 4 (vB (decide ((R47.valid c) = (R47.valid c)))) rfl (by kernel_rfl) (by kernel_rfl) (by kernel_rfl) rfl (fun _ _ _ h => h) rfl trivial (fun _ _ => x_eql_b Tryd.underlying4 rfl rfl) ?_
    refine JA_take 5 (vB (decide ((R47.valid c) = (R47.valid c)))) rfl (by kernel_rfl) (by kernel_rfl) (by kernel_rfl) rfl (fun _ _ _ h => h) rfl trivial (fun _ _ => rfl) ?_
    refine JA_bool (decide ((R47.valid c) = (R47.valid c))) [(1, Value.pointer (some ⟨b1, 0, none⟩)), (2, vB false), (18, vB (((decide ((50 : Int) < ((c.Key.length : Nat) : Int))) || (decide ((1200 : Int) < ((c.Record.length : Nat) : Int)))) || (decide ((20 : Int) < ((c.Volume.length : Nat) : Int))))), (20, Value.agg ((Change.enc c)).toArray), (22, Value.agg ((Change.enc c)).toArray), (21, vB (R47.valid c)), (23, vB (R47.valid c)), (24, vB (decide ((R47.valid c) = (R47.valid c)))), (25, vB true)] [(1, Value.pointer (some ⟨b1, 0, none⟩)), (2, vB false), (18, vB (((decide ((50 : Int) < ((c.Key.length : Nat) : Int))) || (decide ((1200 : Int) < ((c.Record.length : Nat) : Int)))) || (decide ((20 : Int) < ((c.Volume.length : Nat) : Int))))), (20, Value.agg ((Change.enc c)).toArray), (22, Value.agg ((Change.enc c)).toArray), (21, vB (R47.valid c)), (23, vB (R47.valid c)), (24, vB (decide ((R47.valid c) = (R47.valid c)))), (25, vB false)] (fun hb => ⟨rfl, rfl, rfl, rfl, rfl, rfl, rfl, rfl, congrArg (fun b => some (vB b)) hb, trivial⟩) (fun hb => ⟨rfl, rfl, rfl, rfl, rfl, rfl, rfl, rfl, congrArg (fun b => some (vB b)) hb, trivial⟩) (fun h10 => ?_) (fun h10 => ?_)
    · have h10 := of_decide_eq_true h10
      refine JA_take 6 (Value.agg ((Change.enc c)).toArray) rfl (by kernel_rfl) (by kernel_rfl) (by kernel_rfl) rfl (fun _ _ _ h => h) rfl ⟨_, rfl, rfl⟩ (x_loadN 0 (Change.enc c) rfl rfl Ty.ag23 Ty.sz23 rfl) ?_
      refine JA_take 8 (Value.agg ((Change.enc c)).toArray) rfl (by kernel_rfl) (by kernel_rfl) (by kernel_rfl) rfl (fun _ _ _ h => h) rfl ⟨_, rfl, rfl⟩ (x_loadN 0 (Change.enc c) rfl rfl Ty.ag23 Ty.sz23 rfl) ?_
      refine JA_one 7 (by kernel_rfl) (fun _ h => ⟨h, fun _ => h⟩) ?_
      refine JI_call [] [] [Ent.blk b1 23 (Change.enc c)] rfl rfl ⟨_, rfl, rfl⟩ (fun _ => x_call Ty.ca13 rfl) (fun _ h => h) (fun _ h => by cases h) (fun w hS => f13_ok c w (hT.on hS (fun _ h => by cases h)) (by first | omega | assumption | (simp only [List.length_append, List.length_cons, List.length_nil]; omega) | (simp only [sub, List.length_drop, List.length_take]; omega) | (simp; omega) | (simp_all; done) | (simp_all; omega) | decide)) ?_
      rintro _ _ ⟨rfl, rfl⟩
      refine JA_one 9 (by kernel_rfl) (fun _ h => ⟨h, fun _ => h⟩) ?_
      refine JI_call [] [] [Ent.blk b1 23 (Change.enc c)] rfl rfl ⟨_, rfl, rfl⟩ (fun _ => x_call Ty.ca14 rfl) (fun _ h => h) (fun _ h => by cases h) (fun w hS => f14_ok c w (by first | omega | assumption | (simp only [List.length_append, List.length_cons, List.length_nil]; omega) | (simp only [sub, List.length_drop, List.length_take]; omega) | (simp; omega) | (simp_all; done) | (simp_all; omega) | decide)) ?_
      rintro _ _ ⟨rfl, rfl⟩
      refine JA_take 10 (vB (decide (R47.text c = R47.text c))) rfl (by kernel_rfl) (by kernel_rfl) (by kernel_rfl) rfl (fun _ _ _ h => h) rfl ⟨_, rfl, rfl⟩ (fun _ _ => x_eql_s rfl rfl) ?_
      refine JA_take 11 (vB (decide (R47.text c = R47.text c))) rfl (by kernel_rfl) (by kernel_rfl) (by kernel_rfl) rfl (fun _ _ _ h => h) rfl trivial (fun _ _ => rfl) ?_
      refine JA_take 12 (vB (decide (R47.text c = R47.text c))) rfl (by kernel_rfl) (by kernel_rfl) (by kernel_rfl) rfl (fun _ _ _ h => h) rfl trivial (fun _ _ => rfl) ?_
      refine JA_bool (decide (R47.text c = R47.text c)) [(1, Value.pointer (some ⟨b1, 0, none⟩)), (2, vB false), (18, vB (((decide ((50 : Int) < ((c.Key.length : Nat) : Int))) || (decide ((1200 : Int) < ((c.Record.length : Nat) : Int)))) || (decide ((20 : Int) < ((c.Volume.length : Nat) : Int))))), (20, Value.agg ((Change.enc c)).toArray), (22, Value.agg ((Change.enc c)).toArray), (21, vB (R47.valid c)), (23, vB (R47.valid c)), (24, vB (decide ((R47.valid c) = (R47.valid c)))), (25, vB true), (26, Value.agg ((Change.enc c)).toArray), (28, Value.agg ((Change.enc c)).toArray), (27, vS (R47.text c)), (29, vS (R47.text c)), (30, vB (decide (R47.text c = R47.text c))), (31, vB (decide (R47.text c = R47.text c))), (32, vB true)] [(1, Value.pointer (some ⟨b1, 0, none⟩)), (2, vB false), (18, vB (((decide ((50 : Int) < ((c.Key.length : Nat) : Int))) || (decide ((1200 : Int) < ((c.Record.length : Nat) : Int)))) || (decide ((20 : Int) < ((c.Volume.length : Nat) : Int))))), (20, Value.agg ((Change.enc c)).toArray), (22, Value.agg ((Change.enc c)).toArray), (21, vB (R47.valid c)), (23, vB (R47.valid c)), (24, vB (decide ((R47.valid c) = (R47.valid c)))), (25, vB true), (26, Value.agg ((Change.enc c)).toArray), (28, Value.agg ((Change.enc c)).toArray), (27, vS (R47.text c)), (29, vS (R47.text c)), (30, vB (decide (R47.text c = R47.text c))), (31, vB (decide (R47.text c = R47.text c))), (32, vB false)] (fun hb => ⟨rfl, rfl, rfl, rfl, rfl, rfl, rfl, rfl, rfl, rfl, rfl, rfl, rfl, rfl, rfl, congrArg (fun b => some (vB b)) hb, trivial⟩) (fun hb => ⟨rfl, rfl, rfl, rfl, rfl, rfl, rfl, rfl, rfl, rfl, rfl, rfl, rfl, rfl, rfl, congrArg (fun b => some (vB b)) hb, trivial⟩) (fun h11 => ?_) (fun h11 => ?_)
      · have h11 := of_decide_eq_true h11
        refine JA_one 13 (by kernel_rfl) (fun _ h => ⟨h, fun _ => h⟩) ?_
        refine JI_call [] [] [Ent.blk b1 23 (Change.enc c)] rfl rfl ⟨_, rfl, rfl⟩ (fun _ => x_call Ty.ca10 rfl) (fun _ h => h) (fun _ h => by cases h) (fun w hS => f10_ok w (hT.on hS (fun _ h => by cases h))) ?_
        rintro _ _ ⟨rfl, rfl⟩
        refine JA_take 14 (vB true) rfl (by kernel_rfl) (by kernel_rfl) (by kernel_rfl) rfl (fun _ _ _ h => h) rfl trivial (fun _ _ => rfl) ?_
        refine JA_take 15 (vB true) rfl (by kernel_rfl) (by kernel_rfl) (by kernel_rfl) rfl (fun _ _ _ h => h) rfl trivial (fun _ _ => rfl) ?_
        refine JA_done (by kernel_rfl) (fun _ h => ⟨h, fun _ => h⟩) ?_
        refine JX_then ?_
        refine J_ret ?_
        refine JX_rets [vB true] (vB true) Tryd.results3 (fun w h => ⟨rfl, trivial⟩) rfl [] (fun _ h => h.keep [false] rfl) ⟨?_, ?_⟩
        · rfl
        · rfl
      · have h11 := of_decide_eq_false h11
        refine JA_shun 13 rfl (by kernel_rfl) (by kernel_rfl) (by kernel_rfl) rfl (fun _ _ _ h => h) rfl ⟨_, rfl, rfl⟩ ?_
        refine JA_take 14 (vB false) rfl (by kernel_rfl) (by kernel_rfl) (by kernel_rfl) rfl (fun _ _ _ h => h) rfl trivial (fun _ _ => rfl) ?_
        refine JA_take 15 (vB false) rfl (by kernel_rfl) (by kernel_rfl) (by kernel_rfl) rfl (fun _ _ _ h => h) rfl trivial (fun _ _ => rfl) ?_
        refine JA_done (by kernel_rfl) (fun _ h => ⟨h, fun _ => h⟩) ?_
        refine JX_then ?_
        refine J_ret ?_
        refine JX_rets [vB false] (vB false) Tryd.results3 (fun w h => ⟨rfl, trivial⟩) rfl [] (fun _ h => h.keep [false] rfl) ⟨?_, ?_⟩
        · have e_x0 : (false : Bool) = true := by
            first | rfl | exact absurd rfl (by assumption) | (simp; done)
          exact congrArg (fun (x0 : Bool) => vB x0) e_x0
        · rfl
    · have h10 := of_decide_eq_false h10
      refine JA_shun 6 rfl (by kernel_rfl) (by kernel_rfl) (by kernel_rfl) rfl (fun _ _ _ h => h) rfl ⟨_, rfl, rfl⟩ ?_
      refine JA_shun 7 rfl (by kernel_rfl) (by kernel_rfl) (by kernel_rfl) rfl (fun _ _ _ h => h) rfl ⟨_, rfl, rfl⟩ ?_
      refine JA_shun 8 rfl (by kernel_rfl) (by kernel_rfl) (by kernel_rfl) rfl (fun _ _ _ h => h) rfl ⟨_, rfl, rfl⟩ ?_
      refine JA_shun 9 rfl (by kernel_rfl) (by kernel_rfl) (by kernel_rfl) rfl (fun _ _ _ h => h) rfl ⟨_, rfl, rfl⟩ ?_
      refine JA_shun 10 rfl (by kernel_rfl) (by kernel_rfl) (by kernel_rfl) rfl (fun _ _ _ h => h) rfl ⟨_, rfl, rfl⟩ ?_
      refine JA_take 11 (vB false) rfl (by kernel_rfl) (by kernel_rfl) (by kernel_rfl) rfl (fun _ _ _ h => h) rfl trivial (fun _ _ => rfl) ?_
      refine JA_take 12 (vB false) rfl (by kernel_rfl) (by kernel_rfl) (by kernel_rfl) rfl (fun _ _ _ h => h) rfl trivial (fun _ _ => rfl) ?_
      refine JA_shun 13 rfl (by kernel_rfl) (by kernel_rfl) (by kernel_rfl) rfl (fun _ _ _ h => h) rfl ⟨_, rfl, rfl⟩ ?_
      refine JA_take 14 (vB false) rfl (by kernel_rfl) (by kernel_rfl) (by kernel_rfl) rfl (fun _ _ _ h => h) rfl trivial (fun _ _ => rfl) ?_
      refine JA_take 15 (vB false) rfl (by kernel_rfl) (by kernel_rfl) (by kernel_rfl) rfl (fun _ _ _ h => h) rfl trivial (fun _ _ => rfl) ?_
      refine JA_done (by kernel_rfl) (fun _ h => ⟨h, fun _ => h⟩) ?_
      refine JX_then ?_
      refine J_ret ?_
      refine JX_rets [vB false] (vB false) Tryd.results3 (fun w h => ⟨rfl, trivial⟩) rfl [] (fun _ h => h.keep [false] rfl) ⟨?_, ?_⟩
      · have e_x0 : (false : Bool) = true := by
          first | rfl | exact absurd rfl (by assumption) | (simp; done)
        exact congrArg (fun (x0 : Bool) => vB x0) e_x0
      · rfl

set_option maxRecDepth 20000 in
theorem f4_ok (s : Bytes) (w : World) (hT : Tab [] w) : Calls Tryd.prog 4 #[vS s] w (Gives [] w fun v L => v = vB true ∧ L = []) := by
  refine calls_J [] 47 Tryd.func4 rfl Tryd.ntmps4 [(0, vS s)] rfl rfl (Give.nil w) ?_
  refine J_seq ?_
  refine J_region ?_
  refine JO_read (vB false) rfl trivial (fun _ _ => rfl) ?_
  refine JO_nil ?_
  refine JX_then ?_
  refine J_seq ?_
  refine J_seq ?_
  refine J_region ?_
  refine JO_read (vS s) rfl trivial (fun _ _ => rfl) ?_
  refine JO_read (vI ((s.length : Nat) : Int)) rfl trivial (fun _ _ => x_len_s rfl Tryd.underlying9) ?_
  refine JO_read (vB (decide ((3000 : Int) < ((s.length : Nat) : Int)))) rfl trivial (fun _ _ => x_gtr_i rfl rfl) ?_
  refine JO_nil ?_
  refine JX_then ?_
  refine J_cond (decide ((3000 : Int) < ((s.length : Nat) : Int))) rfl rfl (fun h1 => ?_) (fun h1 => ?_)
  · have h1 := of_decide_eq_true h1
    refine J_seq ?_
    refine J_region ?_
    refine JO_call [] [] [] rfl trivial (fun _ => x_call Ty.ca10 rfl) (fun _ h => h) (fun _ h => by cases h) (fun w hS => f10_ok w (hT.on hS (fun _ h => by cases h))) ?_
    rintro _ _ ⟨rfl, rfl⟩
    refine JO_read (vB true) rfl trivial (fun _ _ => rfl) ?_
    refine JO_nil ?_
    refine JX_then ?_
    refine J_ret ?_
    refine JX_then_ret ?_
    refine JX_rets [vB true] (vB true) Tryd.results4 (fun w h => ⟨rfl, trivial⟩) rfl [] (fun _ h => h) ⟨?_, ?_⟩
    · rfl
    · rfl
  · have h1 := of_decide_eq_false h1
    refine J_skip ?_
    refine JX_then ?_
    refine J_seq ?_
    refine J_region ?_
    refine JO_read (vS s) rfl trivial (fun _ _ => rfl) ?_
    refine JO_call [] [] [] rfl trivial (fun _ => x_call Ty.ca15 rfl) (fun _ h => h) (fun _ h => by cases h) (fun w hS => f15_ok s w) ?_
    rintro _ _ ⟨A2, c3, rfl, rfl⟩
    have ha4 := R47.decode_len s
    have ha5 := R47.decode_vol s
    refine JO_read (Value.tuple #[Value.agg #[vI ((R47.decode s).1), vI ((R47.decode s).2.1), Value.slice A2 ((R47.decode s).2.2.1.length) c3], vI ((R47.decode s).2.2.2)]) rfl trivial (fun _ _ => rfl) ?_
    refine JO_read (Value.agg #[vI ((R47.decode s).1), vI ((R47.decode s).2.1), Value.slice A2 ((R47.decode s).2.2.1.length) c3]) rfl trivial (fun _ _ => rfl) ?_
    refine JO_read (vI ((R47.decode s).2.2.2)) rfl trivial (fun _ _ => rfl) ?_
    refine JO_op rfl trivial (O_alloc Ty.ze29 rfl fun b6 => ?_)
    refine JO_op rfl trivial (O_store 0 [vI ((R47.decode s).1), vI ((R47.decode s).2.1), Value.slice A2 ((R47.decode s).2.2.1.length) c3] [Ent.blk b6 29 [vI ((R47.decode s).1), vI ((R47.decode s).2.1), Value.slice A2 ((R47.decode s).2.2.1.length) c3], Ent.row (.slice A2 ((R47.decode s).2.2.1).length c3) 23 5 ((R47.decode s).2.2.1).length (((R47.decode s).2.2.1).flatMap Change.enc)] rfl rfl rfl Ty.sz29 rfl (Nat.le_of_ble_eq_true rfl) rfl rfl rfl ?_)
    refine JO_read (vI ((R47.decode s).2.2.2)) rfl trivial (fun _ _ => rfl) ?_
    refine JO_nil ?_
    refine JX_then ?_
    refine J_seq ?_
    refine J_seq ?_
    refine J_region ?_
    refine JO_read (vI ((R47.decode s).2.2.2)) rfl trivial (fun _ _ => rfl) ?_
    refine JO_read (vB (decide ((R47.decode s).2.2.2 ≠ 0))) rfl trivial (fun _ _ => x_neq_i rfl rfl) ?_
    refine JO_nil ?_
    refine JX_then ?_
    refine J_cond (decide ((R47.decode s).2.2.2 ≠ 0)) rfl rfl (fun h7 => ?_) (fun h7 => ?_)
    · have h7 := of_decide_eq_true h7
      refine J_seq ?_
      refine J_region ?_
      refine JO_read (vI ((R47.decode s).2.2.2)) rfl trivial (fun _ _ => rfl) ?_
      refine JO_read (vB (decide ((R47.decode s).2.2.2 = 11))) rfl trivial (fun _ _ => x_eql_i rfl rfl) ?_
      refine JO_read (vB (decide ((R47.decode s).2.2.2 = 11))) rfl trivial (fun _ _ => rfl) ?_
      refine JO_cut (X := Bool) 4 (fun z => z = ((decide ((R47.decode s).2.2.2 = 11)) && (((decide (((R47.decode s).1) = 0)) && (decide (((R47.decode s).2.1) = 0))) && (decide (((R47.decode s).2.2.1) = []))))) (fun z => [(0, vS s), (2, vB false), (3, Value.pointer (some ⟨b6, 0, none⟩)), (24, vB z)]) (fun _ => [Ent.blk b6 29 [vI ((R47.decode s).1), vI ((R47.decode s).2.1), Value.slice A2 ((R47.decode s).2.2.1.length) c3], Ent.row (.slice A2 ((R47.decode s).2.2.1).length c3) 23 5 ((R47.decode s).2.2.1).length (((R47.decode s).2.2.1).flatMap Change.enc)]) ?_ ?_
      · rcases Bool.eq_false_or_eq_true (decide ((R47.decode s).2.2.2 = 11)) with g9 | g9
        · have g9r := g9
          have g9r := of_decide_eq_true g9r
          refine JO_read (Value.agg #[vI ((R47.decode s).1), vI ((R47.decode s).2.1), Value.slice A2 ((R47.decode s).2.2.1.length) c3]) rfl ⟨_, rfl, g9⟩ (x_loadN 0 [vI ((R47.decode s).1), vI ((R47.decode s).2.1), Value.slice A2 ((R47.decode s).2.2.1.length) c3] rfl rfl Ty.ag29 Ty.sz29 rfl) ?_
          refine JO_read (Value.agg #[vI 0, vI 0, Value.slice none 0 0]) rfl ⟨_, rfl, g9⟩ (fun _ _ => x_build (by kernel_rfl)) ?_
          refine JO_call [] [] [Ent.blk b6 29 [vI ((R47.decode s).1), vI ((R47.decode s).2.1), Value.slice A2 ((R47.decode s).2.2.1.length) c3], Ent.row (.slice A2 ((R47.decode s).2.2.1).length c3) 23 5 ((R47.decode s).2.2.1).length (((R47.decode s).2.2.1).flatMap Change.enc)] rfl ⟨_, rfl, g9⟩ (fun _ => x_call Ty.ca16 rfl) (fun _ h => h) (fun _ h => by cases h) (fun w hS => f16_ok ((R47.decode s).1) ((R47.decode s).2.1) ((R47.decode s).2.2.1) A2 c3 0 0 [] none 0 w (RO.of_row hS 1 rfl) RO.nil (by first | omega | assumption | (simp only [List.length_append, List.length_cons, List.length_nil]; omega) | (simp only [sub, List.length_drop, List.length_take]; omega) | (simp; omega) | (simp_all; done) | (simp_all; omega) | decide)) ?_
          rintro _ _ ⟨rfl, rfl⟩
          refine JO_read (vB (((decide (((R47.decode s).1) = 0)) && (decide (((R47.decode s).2.1) = 0))) && (decide (((R47.decode s).2.2.1) = [])))) rfl trivial (fun _ _ => x_pick_t rfl g9 rfl) ?_
          refine JO_nil (JX_cut (((decide (((R47.decode s).1) = 0)) && (decide (((R47.decode s).2.1) = 0))) && (decide (((R47.decode s).2.2.1) = []))) (by rw [g9]; simp) ⟨rfl, rfl, rfl, rfl, trivial⟩ (fun _ h => h))
        · have g9r := g9
          have g9r := of_decide_eq_false g9r
          refine JO_shun rfl ⟨_, rfl, g9⟩ ?_
          refine JO_shun rfl ⟨_, rfl, g9⟩ ?_
          refine JO_shun rfl ⟨_, rfl, g9⟩ ?_
          refine JO_read (vB false) rfl trivial (fun _ _ => x_pick_f rfl g9 rfl) ?_
          refine JO_nil (JX_cut (false) (by rw [g9]; simp) ⟨rfl, rfl, rfl, rfl, trivial⟩ (fun _ h => h))
      rintro z8 rfl
      refine JO_read (vB ((decide ((R47.decode s).2.2.2 = 11)) && (((decide (((R47.decode s).1) = 0)) && (decide (((R47.decode s).2.1) = 0))) && (decide (((R47.decode s).2.2.1) = []))))) rfl trivial (fun _ _ => rfl) ?_
      refine JO_cut (X := Bool) 2 (fun z => z = (((decide ((R47.decode s).2.2.2 = 11)) && (((decide (((R47.decode s).1) = 0)) && (decide (((R47.decode s).2.1) = 0))) && (decide (((R47.decode s).2.2.1) = [])))) && true)) (fun z => [(0, vS s), (2, vB false), (3, Value.pointer (some ⟨b6, 0, none⟩)), (27, vB z)]) (fun _ => [Ent.blk b6 29 [vI ((R47.decode s).1), vI ((R47.decode s).2.1), Value.slice A2 ((R47.decode s).2.2.1.length) c3], Ent.row (.slice A2 ((R47.decode s).2.2.1).length c3) 23 5 ((R47.decode s).2.2.1).length (((R47.decode s).2.2.1).flatMap Change.enc)]) ?_ ?_
      · rcases Bool.eq_false_or_eq_true ((decide ((R47.decode s).2.2.2 = 11)) && (((decide (((R47.decode s).1) = 0)) && (decide (((R47.decode s).2.1) = 0))) && (decide (((R47.decode s).2.2.1) = [])))) with g11 | g11
        · have g11r := g11
          have ⟨g11r, h12⟩ := band_true g11r
          have g11r := of_decide_eq_true g11r
          have ⟨h12, h13⟩ := band_true h12
          have ⟨h12, h14⟩ := band_true h12
          have h12 := of_decide_eq_true h12
          have h14 := of_decide_eq_true h14
          refine JO_call [] [] [Ent.blk b6 29 [vI ((R47.decode s).1), vI ((R47.decode s).2.1), Value.slice A2 ((R47.decode s).2.2.1.length) c3], Ent.row (.slice A2 ((R47.decode s).2.2.1).length c3) 23 5 ((R47.decode s).2.2.1).length (((R47.decode s).2.2.1).flatMap Change.enc)] rfl ⟨_, rfl, g11⟩ (fun _ => x_call Ty.ca10 rfl) (fun _ h => h) (fun _ h => by cases h) (fun w hS => f10_ok w (hT.on hS (fun _ h => by cases h))) ?_
          rintro _ _ ⟨rfl, rfl⟩
          refine JO_read (vB true) rfl trivial (fun _ _ => x_pick_t rfl g11 rfl) ?_
          refine JO_nil (JX_cut (true) (by rw [g11]; simp) ⟨rfl, rfl, rfl, rfl, trivial⟩ (fun _ h => h))
        · have g11r := g11
          simp only [Bool.and_eq_true, Bool.or_eq_true, Bool.and_eq_false_iff, Bool.or_eq_false_iff, Bool.not_eq_true', Bool.not_eq_false', decide_eq_true_eq, decide_eq_false_iff_not] at g11r
          refine JO_shun rfl ⟨_, rfl, g11⟩ ?_
          refine JO_read (vB false) rfl trivial (fun _ _ => x_pick_f rfl g11 rfl) ?_
          refine JO_nil (JX_cut (false) (by rw [g11]; simp) ⟨rfl, rfl, rfl, rfl, trivial⟩ (fun _ h => h))
      rintro z10 rfl
      refine JO_read (vB (((decide ((R47.decode s).2.2.2 = 11)) && (((decide (((R47.decode s).1) = 0)) && (decide (((R47.decode s).2.1) = 0))) && (decide (((R47.decode s).2.2.1) = [])))) && true)) rfl trivial (fun _ _ => rfl) ?_
      refine JO_nil ?_
      refine JX_then ?_
      refine J_ret ?_
      refine JX_then_ret ?_
      refine JX_rets [vB (((decide ((R47.decode s).2.2.2 = 11)) && (((decide (((R47.decode s).1) = 0)) && (decide (((R47.decode s).2.1) = 0))) && (decide (((R47.decode s).2.2.1) = [])))) && true)] (vB (((decide ((R47.decode s).2.2.2 = 11)) && (((decide (((R47.decode s).1) = 0)) && (decide (((R47.decode s).2.1) = 0))) && (decide (((R47.decode s).2.2.1) = [])))) && true)) Tryd.results4 (fun w h => ⟨rfl, trivial⟩) rfl [] (fun _ h => h.keep [false, false] rfl) ⟨?_, ?_⟩
      · have e_x0 : (((decide ((R47.decode s).2.2.2 = 11)) && (((decide (((R47.decode s).1) = 0)) && (decide (((R47.decode s).2.1) = 0))) && (decide (((R47.decode s).2.2.1) = [])))) && true : Bool) = true := by
          first | rfl | (rw [R47.decodes_err (by assumption)]; rfl) | (rw [R47.valid_enc, R47.decodes_enc (by assumption)]; simp)
        exact congrArg (fun (x0 : Bool) => vB x0) e_x0
      · rfl
    · have h7 := of_decide_eq_false h7
      refine J_skip ?_
      refine JX_then ?_
      refine J_seq ?_
      refine J_region ?_
      refine JO_read (Value.agg #[vI ((R47.decode s).1), vI ((R47.decode s).2.1), Value.slice A2 ((R47.decode s).2.2.1.length) c3]) rfl trivial (x_loadN 0 [vI ((R47.decode s).1), vI ((R47.decode s).2.1), Value.slice A2 ((R47.decode s).2.2.1.length) c3] rfl rfl Ty.ag29 Ty.sz29 rfl) ?_
      refine JO_call [] [] [Ent.blk b6 29 [vI ((R47.decode s).1), vI ((R47.decode s).2.1), Value.slice A2 ((R47.decode s).2.2.1.length) c3], Ent.row (.slice A2 ((R47.decode s).2.2.1).length c3) 23 5 ((R47.decode s).2.2.1).length (((R47.decode s).2.2.1).flatMap Change.enc)] rfl trivial (fun _ => x_call Ty.ca17 rfl) (fun _ h => h) (fun _ h => by cases h) (fun w hS => f17_ok ((R47.decode s).1) ((R47.decode s).2.1) ((R47.decode s).2.2.1) A2 c3 w (RO.of_row hS 1 rfl) (by first | omega | assumption | (simp only [List.length_append, List.length_cons, List.length_nil]; omega) | (simp only [sub, List.length_drop, List.length_take]; omega) | (simp; omega) | (simp_all; done) | (simp_all; omega) | decide) (by first | omega | assumption | (simp only [List.length_append, List.length_cons, List.length_nil]; omega) | (simp only [sub, List.length_drop, List.length_take]; omega) | (simp; omega) | (simp_all; done) | (simp_all; omega) | decide)) ?_
      rintro _ _ ⟨rfl, rfl⟩
      refine JO_read (Value.tuple #[vS ((R47.encode ((R47.decode s).1) ((R47.decode s).2.1) ((R47.decode s).2.2.1)).1), vI ((R47.encode ((R47.decode s).1) ((R47.decode s).2.1) ((R47.decode s).2.2.1)).2)]) rfl trivial (fun _ _ => rfl) ?_
      refine JO_read (vS ((R47.encode ((R47.decode s).1) ((R47.decode s).2.1) ((R47.decode s).2.2.1)).1)) rfl trivial (fun _ _ => rfl) ?_
      refine JO_read (vI ((R47.encode ((R47.decode s).1) ((R47.decode s).2.1) ((R47.decode s).2.2.1)).2)) rfl trivial (fun _ _ => rfl) ?_
      refine JO_read (vS ((R47.encode ((R47.decode s).1) ((R47.decode s).2.1) ((R47.decode s).2.2.1)).1)) rfl trivial (fun _ _ => rfl) ?_
      refine JO_read (vI ((R47.encode ((R47.decode s).1) ((R47.decode s).2.1) ((R47.decode s).2.2.1)).2)) rfl trivial (fun _ _ => rfl) ?_
      refine JO_nil ?_
      refine JX_then ?_
      refine J_seq ?_
      refine J_region ?_
      refine JO_read (vI ((R47.encode ((R47.decode s).1) ((R47.decode s).2.1) ((R47.decode s).2.2.1)).2)) rfl trivial (fun _ _ => rfl) ?_
      refine JO_read (vB (decide ((R47.encode ((R47.decode s).1) ((R47.decode s).2.1) ((R47.decode s).2.2.1)).2 = 0))) rfl trivial (fun _ _ => x_eql_i rfl rfl) ?_
      refine JO_read (vB (decide ((R47.encode ((R47.decode s).1) ((R47.decode s).2.1) ((R47.decode s).2.2.1)).2 = 0))) rfl trivial (fun _ _ => rfl) ?_
      refine JO_cut (X := Bool) 4 (fun z => z = ((decide ((R47.encode ((R47.decode s).1) ((R47.decode s).2.1) ((R47.decode s).2.2.1)).2 = 0)) && (decide ((R47.encode ((R47.decode s).1) ((R47.decode s).2.1) ((R47.decode s).2.2.1)).1 = s)))) (fun z => [(2, vB false), (3, Value.pointer (some ⟨b6, 0, none⟩)), (39, vB z)]) (fun _ => [Ent.blk b6 29 [vI ((R47.decode s).1), vI ((R47.decode s).2.1), Value.slice A2 ((R47.decode s).2.2.1.length) c3], Ent.row (.slice A2 ((R47.decode s).2.2.1).length c3) 23 5 ((R47.decode s).2.2.1).length (((R47.decode s).2.2.1).flatMap Change.enc)]) ?_ ?_
      · rcases Bool.eq_false_or_eq_true (decide ((R47.encode ((R47.decode s).1) ((R47.decode s).2.1) ((R47.decode s).2.2.1)).2 = 0)) with g16 | g16
        · have g16r := g16
          have g16r := of_decide_eq_true g16r
          refine JO_read (vS ((R47.encode ((R47.decode s).1) ((R47.decode s).2.1) ((R47.decode s).2.2.1)).1)) rfl ⟨_, rfl, g16⟩ (fun _ _ => rfl) ?_
          refine JO_read (vS s) rfl ⟨_, rfl, g16⟩ (fun _ _ => rfl) ?_
          refine JO_read (vB (decide ((R47.encode ((R47.decode s).1) ((R47.decode s).2.1) ((R47.decode s).2.2.1)).1 = s))) rfl ⟨_, rfl, g16⟩ (fun _ _ => x_eql_s rfl rfl) ?_
          refine JO_read (vB (decide ((R47.encode ((R47.decode s).1) ((R47.decode s).2.1) ((R47.decode s).2.2.1)).1 = s))) rfl trivial (fun _ _ => x_pick_t rfl g16 rfl) ?_
          refine JO_nil (JX_cut (decide ((R47.encode ((R47.decode s).1) ((R47.decode s).2.1) ((R47.decode s).2.2.1)).1 = s)) (by rw [g16]; simp) ⟨rfl, rfl, rfl, trivial⟩ (fun _ h => h))
        · have g16r := g16
          have g16r := of_decide_eq_false g16r
          refine JO_shun rfl ⟨_, rfl, g16⟩ ?_
          refine JO_shun rfl ⟨_, rfl, g16⟩ ?_
          refine JO_shun rfl ⟨_, rfl, g16⟩ ?_
          refine JO_read (vB false) rfl trivial (fun _ _ => x_pick_f rfl g16 rfl) ?_
          refine JO_nil (JX_cut (false) (by rw [g16]; simp) ⟨rfl, rfl, rfl, trivial⟩ (fun _ h => h))
      rintro z15 rfl
      refine JO_read (vB ((decide ((R47.encode ((R47.decode s).1) ((R47.decode s).2.1) ((R47.decode s).2.2.1)).2 = 0)) && (decide ((R47.encode ((R47.decode s).1) ((R47.decode s).2.1) ((R47.decode s).2.2.1)).1 = s)))) rfl trivial (fun _ _ => rfl) ?_
      refine JO_cut (X := Bool) 3 (fun z => z = (((decide ((R47.encode ((R47.decode s).1) ((R47.decode s).2.1) ((R47.decode s).2.2.1)).2 = 0)) && (decide ((R47.encode ((R47.decode s).1) ((R47.decode s).2.1) ((R47.decode s).2.2.1)).1 = s))) && ((R47.sound ((R47.decode s).1) ((R47.decode s).2.1) ((R47.decode s).2.2.1)) && (decide (((R47.enc ((R47.decode s).1) ((R47.decode s).2.1) ((R47.decode s).2.2.1)).length : Int) ≤ 16384))))) (fun z => [(2, vB false), (43, vB z)]) (fun _ => [Ent.blk b6 29 [vI ((R47.decode s).1), vI ((R47.decode s).2.1), Value.slice A2 ((R47.decode s).2.2.1.length) c3], Ent.row (.slice A2 ((R47.decode s).2.2.1).length c3) 23 5 ((R47.decode s).2.2.1).length (((R47.decode s).2.2.1).flatMap Change.enc)]) ?_ ?_
      · rcases Bool.eq_false_or_eq_true ((decide ((R47.encode ((R47.decode s).1) ((R47.decode s).2.1) ((R47.decode s).2.2.1)).2 = 0)) && (decide ((R47.encode ((R47.decode s).1) ((R47.decode s).2.1) ((R47.decode s).2.2.1)).1 = s))) with g18 | g18
        · have g18r := g18
          have ⟨g18r, h19⟩ := band_true g18r
          have g18r := of_decide_eq_true g18r
          have h19 := of_decide_eq_true h19
          refine JO_read (Value.agg #[vI ((R47.decode s).1), vI ((R47.decode s).2.1), Value.slice A2 ((R47.decode s).2.2.1.length) c3]) rfl ⟨_, rfl, g18⟩ (x_loadN 0 [vI ((R47.decode s).1), vI ((R47.decode s).2.1), Value.slice A2 ((R47.decode s).2.2.1.length) c3] rfl rfl Ty.ag29 Ty.sz29 rfl) ?_
          refine JO_call [] [] [Ent.blk b6 29 [vI ((R47.decode s).1), vI ((R47.decode s).2.1), Value.slice A2 ((R47.decode s).2.2.1.length) c3], Ent.row (.slice A2 ((R47.decode s).2.2.1).length c3) 23 5 ((R47.decode s).2.2.1).length (((R47.decode s).2.2.1).flatMap Change.enc)] rfl ⟨_, rfl, g18⟩ (fun _ => x_call Ty.ca18 rfl) (fun _ h => h) (fun _ h => by cases h) (fun w hS => f18_ok ((R47.decode s).1) ((R47.decode s).2.1) ((R47.decode s).2.2.1) A2 c3 w (RO.of_row hS 1 rfl) (by first | omega | assumption | (simp only [List.length_append, List.length_cons, List.length_nil]; omega) | (simp only [sub, List.length_drop, List.length_take]; omega) | (simp; omega) | (simp_all; done) | (simp_all; omega) | decide) (by first | omega | assumption | (simp only [List.length_append, List.length_cons, List.length_nil]; omega) | (simp only [sub, List.length_drop, List.length_take]; omega) | (simp; omega) | (simp_all; done) | (simp_all; omega) | decide)) ?_
          rintro _ _ ⟨rfl, rfl⟩
          refine JO_read (vB ((R47.sound ((R47.decode s).1) ((R47.decode s).2.1) ((R47.decode s).2.2.1)) && (decide (((R47.enc ((R47.decode s).1) ((R47.decode s).2.1) ((R47.decode s).2.2.1)).length : Int) ≤ 16384)))) rfl trivial (fun _ _ => x_pick_t rfl g18 rfl) ?_
          refine JO_nil (JX_cut ((R47.sound ((R47.decode s).1) ((R47.decode s).2.1) ((R47.decode s).2.2.1)) && (decide (((R47.enc ((R47.decode s).1) ((R47.decode s).2.1) ((R47.decode s).2.2.1)).length : Int) ≤ 16384))) (by rw [g18]; simp) ⟨rfl, rfl, trivial⟩ (fun _ h => h))
        · have g18r := g18
          simp only [Bool.and_eq_true, Bool.or_eq_true, Bool.and_eq_false_iff, Bool.or_eq_false_iff, Bool.not_eq_true', Bool.not_eq_false', decide_eq_true_eq, decide_eq_false_iff_not] at g18r
          refine JO_shun rfl ⟨_, rfl, g18⟩ ?_
          refine JO_shun rfl ⟨_, rfl, g18⟩ ?_
          refine JO_read (vB false) rfl trivial (fun _ _ => x_pick_f rfl g18 rfl) ?_
          refine JO_nil (JX_cut (false) (by rw [g18]; simp) ⟨rfl, rfl, trivial⟩ (fun _ h => h))
      rintro z17 rfl
      refine JO_read (vB (((decide ((R47.encode ((R47.decode s).1) ((R47.decode s).2.1) ((R47.decode s).2.2.1)).2 = 0)) && (decide ((R47.encode ((R47.decode s).1) ((R47.decode s).2.1) ((R47.decode s).2.2.1)).1 = s))) && ((R47.sound ((R47.decode s).1) ((R47.decode s).2.1) ((R47.decode s).2.2.1)) && (decide (((R47.enc ((R47.decode s).1) ((R47.decode s).2.1) ((R47.decode s).2.2.1)).length : Int) ≤ 16384))))) rfl trivial (fun _ _ => rfl) ?_
      refine JO_cut (X := Bool) 2 (fun z => z = ((((decide ((R47.encode ((R47.decode s).1) ((R47.decode s).2.1) ((R47.decode s).2.2.1)).2 = 0)) && (decide ((R47.encode ((R47.decode s).1) ((R47.decode s).2.1) ((R47.decode s).2.2.1)).1 = s))) && ((R47.sound ((R47.decode s).1) ((R47.decode s).2.1) ((R47.decode s).2.2.1)) && (decide (((R47.enc ((R47.decode s).1) ((R47.decode s).2.1) ((R47.decode s).2.2.1)).length : Int) ≤ 16384)))) && true)) (fun z => [(2, vB false), (46, vB z)]) (fun _ => [Ent.blk b6 29 [vI ((R47.decode s).1), vI ((R47.decode s).2.1), Value.slice A2 ((R47.decode s).2.2.1.length) c3], Ent.row (.slice A2 ((R47.decode s).2.2.1).length c3) 23 5 ((R47.decode s).2.2.1).length (((R47.decode s).2.2.1).flatMap Change.enc)]) ?_ ?_
      · rcases Bool.eq_false_or_eq_true (((decide ((R47.encode ((R47.decode s).1) ((R47.decode s).2.1) ((R47.decode s).2.2.1)).2 = 0)) && (decide ((R47.encode ((R47.decode s).1) ((R47.decode s).2.1) ((R47.decode s).2.2.1)).1 = s))) && ((R47.sound ((R47.decode s).1) ((R47.decode s).2.1) ((R47.decode s).2.2.1)) && (decide (((R47.enc ((R47.decode s).1) ((R47.decode s).2.1) ((R47.decode s).2.2.1)).length : Int) ≤ 16384)))) with g21 | g21
        · have g21r := g21
          have ⟨g21r, h22⟩ := band_true g21r
          have ⟨g21r, h23⟩ := band_true g21r
          have g21r := of_decide_eq_true g21r
          have h23 := of_decide_eq_true h23
          have ⟨h22, h24⟩ := band_true h22
          have hi25 := R47.sound_facts h22
          have h24 := of_decide_eq_true h24
          refine JO_call [] [] [Ent.blk b6 29 [vI ((R47.decode s).1), vI ((R47.decode s).2.1), Value.slice A2 ((R47.decode s).2.2.1.length) c3], Ent.row (.slice A2 ((R47.decode s).2.2.1).length c3) 23 5 ((R47.decode s).2.2.1).length (((R47.decode s).2.2.1).flatMap Change.enc)] rfl ⟨_, rfl, g21⟩ (fun _ => x_call Ty.ca10 rfl) (fun _ h => h) (fun _ h => by cases h) (fun w hS => f10_ok w (hT.on hS (fun _ h => by cases h))) ?_
          rintro _ _ ⟨rfl, rfl⟩
          refine JO_read (vB true) rfl trivial (fun _ _ => x_pick_t rfl g21 rfl) ?_
          refine JO_nil (JX_cut (true) (by rw [g21]; simp) ⟨rfl, rfl, trivial⟩ (fun _ h => h))
        · have g21r := g21
          simp only [Bool.and_eq_true, Bool.or_eq_true, Bool.and_eq_false_iff, Bool.or_eq_false_iff, Bool.not_eq_true', Bool.not_eq_false', decide_eq_true_eq, decide_eq_false_iff_not] at g21r
          refine JO_shun rfl ⟨_, rfl, g21⟩ ?_
          refine JO_read (vB false) rfl trivial (fun _ _ => x_pick_f rfl g21 rfl) ?_
          refine JO_nil (JX_cut (false) (by rw [g21]; simp) ⟨rfl, rfl, trivial⟩ (fun _ h => h))
      rintro z20 rfl
      refine JO_read (vB ((((decide ((R47.encode ((R47.decode s).1) ((R47.decode s).2.1) ((R47.decode s).2.2.1)).2 = 0)) && (decide ((R47.encode ((R47.decode s).1) ((R47.decode s).2.1) ((R47.decode s).2.2.1)).1 = s))) && ((R47.sound ((R47.decode s).1) ((R47.decode s).2.1) ((R47.decode s).2.2.1)) && (decide (((R47.enc ((R47.decode s).1) ((R47.decode s).2.1) ((R47.decode s).2.2.1)).length : Int) ≤ 16384)))) && true)) rfl trivial (fun _ _ => rfl) ?_
      refine JO_nil ?_
      refine JX_then ?_
      refine J_ret ?_
      refine JX_rets [vB ((((decide ((R47.encode ((R47.decode s).1) ((R47.decode s).2.1) ((R47.decode s).2.2.1)).2 = 0)) && (decide ((R47.encode ((R47.decode s).1) ((R47.decode s).2.1) ((R47.decode s).2.2.1)).1 = s))) && ((R47.sound ((R47.decode s).1) ((R47.decode s).2.1) ((R47.decode s).2.2.1)) && (decide (((R47.enc ((R47.decode s).1) ((R47.decode s).2.1) ((R47.decode s).2.2.1)).length : Int) ≤ 16384)))) && true)] (vB ((((decide ((R47.encode ((R47.decode s).1) ((R47.decode s).2.1) ((R47.decode s).2.2.1)).2 = 0)) && (decide ((R47.encode ((R47.decode s).1) ((R47.decode s).2.1) ((R47.decode s).2.2.1)).1 = s))) && ((R47.sound ((R47.decode s).1) ((R47.decode s).2.1) ((R47.decode s).2.2.1)) && (decide (((R47.enc ((R47.decode s).1) ((R47.decode s).2.1) ((R47.decode s).2.2.1)).length : Int) ≤ 16384)))) && true)) Tryd.results4 (fun w h => ⟨rfl, trivial⟩) rfl [] (fun _ h => h.keep [false, false] rfl) ⟨?_, ?_⟩
      · have e_x0 : ((((decide ((R47.encode ((R47.decode s).1) ((R47.decode s).2.1) ((R47.decode s).2.2.1)).2 = 0)) && (decide ((R47.encode ((R47.decode s).1) ((R47.decode s).2.1) ((R47.decode s).2.2.1)).1 = s))) && ((R47.sound ((R47.decode s).1) ((R47.decode s).2.1) ((R47.decode s).2.2.1)) && (decide (((R47.enc ((R47.decode s).1) ((R47.decode s).2.1) ((R47.decode s).2.2.1)).length : Int) ≤ 16384)))) && true : Bool) = true := by
          first | rfl | (rw [R47.decodes_err (by assumption)]; rfl) | (rw [R47.valid_enc, R47.decodes_enc (by assumption)]; simp)
        exact congrArg (fun (x0 : Bool) => vB x0) e_x0
      · rfl

set_option maxRecDepth 20000 in
theorem f6_ok (num : Int) (unit : Int) (ch : List Change) (chA : Option Addr) (chC : Nat) (w : World) (chR : RO [] w chA (ch.flatMap Change.enc)) (hT : Tab [] w) (q0 : ch.length ≤ 9223372036854775807) : Calls Tryd.prog 6 #[Value.agg #[vI num, vI unit, Value.slice chA ch.length chC]] w (Gives [] w fun v L => v = vB true ∧ L = []) := by
  refine calls_J [] 56 Tryd.func6 rfl Tryd.ntmps6 [(0, Value.agg #[vI num, vI unit, Value.slice chA ch.length chC])] rfl rfl (Give.nil w) ?_
  refine J_seq ?_
  refine J_region ?_
  refine JO_op rfl trivial (O_box rfl rfl fun b1 => ?_)
  refine JO_read (vB false) rfl trivial (fun _ _ => rfl) ?_
  refine JO_nil ?_
  refine JX_then ?_
  refine J_seq ?_
  refine J_seq ?_
  refine J_region ?_
  refine JO_read (Value.agg #[vI num, vI unit, Value.slice chA ch.length chC]) rfl trivial (x_loadN 0 [vI num, vI unit, Value.slice chA ch.length chC] rfl rfl Ty.ag29 Ty.sz29 rfl) ?_
  refine JO_call [] [] [Ent.blk b1 29 [vI num, vI unit, Value.slice chA ch.length chC]] rfl trivial (fun _ => x_call Ty.ca21 rfl) (fun _ h => h) (fun _ h => by cases h) (fun w hS => f21_ok num unit ch chA chC 20 w (chR.on hS (fun _ h => by cases h)) (by first | omega | assumption | (simp only [List.length_append, List.length_cons, List.length_nil]; omega) | (simp only [sub, List.length_drop, List.length_take]; omega) | (simp; omega) | (simp_all; done) | (simp_all; omega) | decide)) ?_
  rintro _ _ ⟨rfl, rfl⟩
  refine JO_read (vB (!(R47.few ch 20))) rfl trivial (fun _ _ => x_not rfl) ?_
  refine JO_nil ?_
  refine JX_then ?_
  refine J_cond (!(R47.few ch 20)) rfl rfl (fun h2 => ?_) (fun h2 => ?_)
  · have h2w := h2
    have h2 : (R47.few ch 20) = false := bnot_true h2
    refine J_seq ?_
    refine J_region ?_
    refine JO_call [] [] [Ent.blk b1 29 [vI num, vI unit, Value.slice chA ch.length chC]] rfl trivial (fun _ => x_call Ty.ca10 rfl) (fun _ h => h) (fun _ h => by cases h) (fun w hS => f10_ok w (hT.on hS (fun _ h => by cases h))) ?_
    rintro _ _ ⟨rfl, rfl⟩
    refine JO_read (vB true) rfl trivial (fun _ _ => rfl) ?_
    refine JO_nil ?_
    refine JX_then ?_
    refine J_ret ?_
    refine JX_then_ret ?_
    refine JX_rets [vB true] (vB true) Tryd.results6 (fun w h => ⟨rfl, trivial⟩) rfl [] (fun _ h => h.keep [false] rfl) ⟨?_, ?_⟩
    · rfl
    · rfl
  · have h2w := h2
    have h2 : (R47.few ch 20) = true := bnot_false h2
    have hi3 := R47.few_facts h2
    refine J_skip ?_
    refine JX_then ?_
    refine J_seq ?_
    refine J_region ?_
    refine JO_read (Value.agg #[vI num, vI unit, Value.slice chA ch.length chC]) rfl trivial (x_loadN 0 [vI num, vI unit, Value.slice chA ch.length chC] rfl rfl Ty.ag29 Ty.sz29 rfl) ?_
    refine JO_call [] [] [Ent.blk b1 29 [vI num, vI unit, Value.slice chA ch.length chC]] rfl trivial (fun _ => x_call Ty.ca17 rfl) (fun _ h => h) (fun _ h => by cases h) (fun w hS => f17_ok num unit ch chA chC w (chR.on hS (fun _ h => by cases h)) (by first | omega | assumption | (simp only [List.length_append, List.length_cons, List.length_nil]; omega) | (simp only [sub, List.length_drop, List.length_take]; omega) | (simp; omega) | (simp_all; done) | (simp_all; omega) | decide) (by first | omega | assumption | (simp only [List.length_append, List.length_cons, List.length_nil]; omega) | (simp only [sub, List.length_drop, List.length_take]; omega) | (simp; omega) | (simp_all; done) | (simp_all; omega) | decide)) ?_
    rintro _ _ ⟨rfl, rfl⟩
    refine JO_read (Value.tuple #[vS ((R47.encode num unit ch).1), vI ((R47.encode num unit ch).2)]) rfl trivial (fun _ _ => rfl) ?_
    refine JO_read (vS ((R47.encode num unit ch).1)) rfl trivial (fun _ _ => rfl) ?_
    refine JO_read (vI ((R47.encode num unit ch).2)) rfl trivial (fun _ _ => rfl) ?_
    refine JO_read (vS ((R47.encode num unit ch).1)) rfl trivial (fun _ _ => rfl) ?_
    refine JO_read (vI ((R47.encode num unit ch).2)) rfl trivial (fun _ _ => rfl) ?_
    refine JO_nil ?_
    refine JX_then ?_
    refine J_seq ?_
    refine J_region ?_
    refine JO_read (Value.agg #[vI num, vI unit, Value.slice chA ch.length chC]) rfl trivial (x_loadN 0 [vI num, vI unit, Value.slice chA ch.length chC] rfl rfl Ty.ag29 Ty.sz29 rfl) ?_
    refine JO_call [] [] [Ent.blk b1 29 [vI num, vI unit, Value.slice chA ch.length chC]] rfl trivial (fun _ => x_call Ty.ca22 rfl) (fun _ h => h) (fun _ h => by cases h) (fun w hS => f22_ok num unit ch chA chC w (chR.on hS (fun _ h => by cases h)) (by first | omega | assumption | (simp only [List.length_append, List.length_cons, List.length_nil]; omega) | (simp only [sub, List.length_drop, List.length_take]; omega) | (simp; omega) | (simp_all; done) | (simp_all; omega) | decide) (by first | omega | assumption | (simp only [List.length_append, List.length_cons, List.length_nil]; omega) | (simp only [sub, List.length_drop, List.length_take]; omega) | (simp; omega) | (simp_all; done) | (simp_all; omega) | decide)) ?_
    rintro _ _ ⟨rfl, rfl⟩
    refine JO_read (Value.tuple #[vS ((R47.encode num unit ch).1), vI ((R47.encode num unit ch).2)]) rfl trivial (fun _ _ => rfl) ?_
    refine JO_read (vS ((R47.encode num unit ch).1)) rfl trivial (fun _ _ => rfl) ?_
    refine JO_read (vI ((R47.encode num unit ch).2)) rfl trivial (fun _ _ => rfl) ?_
    refine JO_read (vS ((R47.encode num unit ch).1)) rfl trivial (fun _ _ => rfl) ?_
    refine JO_read (vI ((R47.encode num unit ch).2)) rfl trivial (fun _ _ => rfl) ?_
    refine JO_nil ?_
    refine JX_then ?_
    refine J_seq ?_
    refine J_seq ?_
    refine J_region ?_
    refine JO_read (vS ((R47.encode num unit ch).1)) rfl trivial (fun _ _ => rfl) ?_
    refine JO_read (vS ((R47.encode num unit ch).1)) rfl trivial (fun _ _ => rfl) ?_
    refine JO_read (vB (decide ((R47.encode num unit ch).1 ≠ (R47.encode num unit ch).1))) rfl trivial (fun _ _ => x_neq_s rfl rfl) ?_
    refine JO_read (vB (decide ((R47.encode num unit ch).1 ≠ (R47.encode num unit ch).1))) rfl trivial (fun _ _ => rfl) ?_
    refine JO_cut (X := Bool) 4 (fun z => z = ((decide ((R47.encode num unit ch).1 ≠ (R47.encode num unit ch).1)) || (decide ((R47.encode num unit ch).2 ≠ (R47.encode num unit ch).2)))) (fun z => [(1, Value.pointer (some ⟨b1, 0, none⟩)), (2, vB false), (3, vS ((R47.encode num unit ch).1)), (4, vI ((R47.encode num unit ch).2)), (30, vB z)]) (fun _ => [Ent.blk b1 29 [vI num, vI unit, Value.slice chA ch.length chC]]) ?_ ?_
    · rcases Bool.eq_false_or_eq_true (decide ((R47.encode num unit ch).1 ≠ (R47.encode num unit ch).1)) with g5 | g5
      · have g5r := g5
        have g5r := of_decide_eq_true g5r
        refine JO_shun rfl ⟨_, rfl, g5⟩ ?_
        refine JO_shun rfl ⟨_, rfl, g5⟩ ?_
        refine JO_shun rfl ⟨_, rfl, g5⟩ ?_
        refine JO_read (vB true) rfl trivial (fun _ _ => x_pick_t rfl g5 rfl) ?_
        refine JO_nil (JX_cut (true) (by rw [g5]; simp) ⟨rfl, rfl, rfl, rfl, rfl, trivial⟩ (fun _ h => h))
      · have g5r := g5
        have g5r := of_decide_eq_false g5r
        refine JO_read (vI ((R47.encode num unit ch).2)) rfl ⟨_, rfl, g5⟩ (fun _ _ => rfl) ?_
        refine JO_read (vI ((R47.encode num unit ch).2)) rfl ⟨_, rfl, g5⟩ (fun _ _ => rfl) ?_
        refine JO_read (vB (decide ((R47.encode num unit ch).2 ≠ (R47.encode num unit ch).2))) rfl ⟨_, rfl, g5⟩ (fun _ _ => x_neq_i rfl rfl) ?_
        refine JO_read (vB (decide ((R47.encode num unit ch).2 ≠ (R47.encode num unit ch).2))) rfl trivial (fun _ _ => x_pick_f rfl g5 rfl) ?_
        refine JO_nil (JX_cut (decide ((R47.encode num unit ch).2 ≠ (R47.encode num unit ch).2)) (by rw [g5]; simp) ⟨rfl, rfl, rfl, rfl, rfl, trivial⟩ (fun _ h => h))
    rintro z4 rfl
    refine JO_read (vB ((decide ((R47.encode num unit ch).1 ≠ (R47.encode num unit ch).1)) || (decide ((R47.encode num unit ch).2 ≠ (R47.encode num unit ch).2)))) rfl trivial (fun _ _ => rfl) ?_
    refine JO_cut (X := Bool) 6 (fun z => z = (((decide ((R47.encode num unit ch).1 ≠ (R47.encode num unit ch).1)) || (decide ((R47.encode num unit ch).2 ≠ (R47.encode num unit ch).2))) || (decide (((R47.sound num unit ch) && (decide (((R47.enc num unit ch).length : Int) ≤ 16384))) ≠ (decide ((R47.encode num unit ch).2 = 0)))))) (fun z => [(1, Value.pointer (some ⟨b1, 0, none⟩)), (2, vB false), (3, vS ((R47.encode num unit ch).1)), (4, vI ((R47.encode num unit ch).2)), (37, vB z)]) (fun _ => [Ent.blk b1 29 [vI num, vI unit, Value.slice chA ch.length chC]]) ?_ ?_
    · rcases Bool.eq_false_or_eq_true ((decide ((R47.encode num unit ch).1 ≠ (R47.encode num unit ch).1)) || (decide ((R47.encode num unit ch).2 ≠ (R47.encode num unit ch).2))) with g7 | g7
      · have g7r := g7
        simp only [Bool.and_eq_true, Bool.or_eq_true, Bool.and_eq_false_iff, Bool.or_eq_false_iff, Bool.not_eq_true', Bool.not_eq_false', decide_eq_true_eq, decide_eq_false_iff_not] at g7r
        refine JO_shun rfl ⟨_, rfl, g7⟩ ?_
        refine JO_shun rfl ⟨_, rfl, g7⟩ ?_
        refine JO_shun rfl ⟨_, rfl, g7⟩ ?_
        refine JO_shun rfl ⟨_, rfl, g7⟩ ?_
        refine JO_shun rfl ⟨_, rfl, g7⟩ ?_
        refine JO_read (vB true) rfl trivial (fun _ _ => x_pick_t rfl g7 rfl) ?_
        refine JO_nil (JX_cut (true) (by rw [g7]; simp) ⟨rfl, rfl, rfl, rfl, rfl, trivial⟩ (fun _ h => h))
      · have g7r := g7
        have ⟨g7r, h8⟩ := bor_false g7r
        have g7r := of_decide_eq_false g7r
        have h8 := of_decide_eq_false h8
        refine JO_read (Value.agg #[vI num, vI unit, Value.slice chA ch.length chC]) rfl ⟨_, rfl, g7⟩ (x_loadN 0 [vI num, vI unit, Value.slice chA ch.length chC] rfl rfl Ty.ag29 Ty.sz29 rfl) ?_
        refine JO_call [] [] [Ent.blk b1 29 [vI num, vI unit, Value.slice chA ch.length chC]] rfl ⟨_, rfl, g7⟩ (fun _ => x_call Ty.ca23 rfl) (fun _ h => h) (fun _ h => by cases h) (fun w hS => f23_ok num unit ch chA chC w (chR.on hS (fun _ h => by cases h)) (by first | omega | assumption | (simp only [List.length_append, List.length_cons, List.length_nil]; omega) | (simp only [sub, List.length_drop, List.length_take]; omega) | (simp; omega) | (simp_all; done) | (simp_all; omega) | decide) (by first | omega | assumption | (simp only [List.length_append, List.length_cons, List.length_nil]; omega) | (simp only [sub, List.length_drop, List.length_take]; omega) | (simp; omega) | (simp_all; done) | (simp_all; omega) | decide)) ?_
        rintro _ _ ⟨rfl, rfl⟩
        refine JO_read (vI ((R47.encode num unit ch).2)) rfl ⟨_, rfl, g7⟩ (fun _ _ => rfl) ?_
        refine JO_read (vB (decide ((R47.encode num unit ch).2 = 0))) rfl ⟨_, rfl, g7⟩ (fun _ _ => x_eql_i rfl rfl) ?_
        refine JO_read (vB (decide (((R47.sound num unit ch) && (decide (((R47.enc num unit ch).length : Int) ≤ 16384))) ≠ (decide ((R47.encode num unit ch).2 = 0))))) rfl ⟨_, rfl, g7⟩ (fun _ _ => x_neq_b Tryd.underlying4 rfl rfl) ?_
        refine JO_read (vB (decide (((R47.sound num unit ch) && (decide (((R47.enc num unit ch).length : Int) ≤ 16384))) ≠ (decide ((R47.encode num unit ch).2 = 0))))) rfl trivial (fun _ _ => x_pick_f rfl g7 rfl) ?_
        refine JO_nil (JX_cut (decide (((R47.sound num unit ch) && (decide (((R47.enc num unit ch).length : Int) ≤ 16384))) ≠ (decide ((R47.encode num unit ch).2 = 0)))) (by rw [g7]; simp) ⟨rfl, rfl, rfl, rfl, rfl, trivial⟩ (fun _ h => h))
    rintro z6 rfl
    refine JO_nil ?_
    refine JX_then ?_
    refine J_cond (((decide ((R47.encode num unit ch).1 ≠ (R47.encode num unit ch).1)) || (decide ((R47.encode num unit ch).2 ≠ (R47.encode num unit ch).2))) || (decide (((R47.sound num unit ch) && (decide (((R47.enc num unit ch).length : Int) ≤ 16384))) ≠ (decide ((R47.encode num unit ch).2 = 0))))) rfl rfl (fun h9 => ?_) (fun h9 => ?_)
    · have h9w := h9
      simp only [Bool.and_eq_true, Bool.or_eq_true, Bool.and_eq_false_iff, Bool.or_eq_false_iff, Bool.not_eq_true', Bool.not_eq_false', decide_eq_true_eq, decide_eq_false_iff_not] at h9
      refine J_seq ?_
      refine J_region ?_
      refine JO_read (vB false) rfl trivial (fun _ _ => rfl) ?_
      refine JO_nil ?_
      refine JX_then ?_
      refine J_ret ?_
      refine JX_then_ret ?_
      refine JX_rets [vB false] (vB false) Tryd.results6 (fun w h => ⟨rfl, trivial⟩) rfl [] (fun _ h => h.keep [false] rfl) ⟨?_, ?_⟩
      · have e_x0 : (false : Bool) = true := by
          first | rfl | exact (R47.encodes_bad (by assumption)).elim | (rw [R47.encodes_dec (by assumption)]; simp)
        exact congrArg (fun (x0 : Bool) => vB x0) e_x0
      · rfl
    · have h9w := h9
      have ⟨h9, h10⟩ := bor_false h9
      have ⟨h9, h11⟩ := bor_false h9
      have h9 := of_decide_eq_false h9
      have h11 := of_decide_eq_false h11
      have h10 := of_decide_eq_false h10
      refine J_skip ?_
      refine JX_then ?_
      refine J_seq ?_
      refine J_seq ?_
      refine J_region ?_
      refine JO_read (vI ((R47.encode num unit ch).2)) rfl trivial (fun _ _ => rfl) ?_
      refine JO_read (vB (decide ((R47.encode num unit ch).2 ≠ 0))) rfl trivial (fun _ _ => x_neq_i rfl rfl) ?_
      refine JO_nil ?_
      refine JX_then ?_
      refine J_cond (decide ((R47.encode num unit ch).2 ≠ 0)) rfl rfl (fun h12 => ?_) (fun h12 => ?_)
      · have h12w := h12
        have h12 := of_decide_eq_true h12
        refine J_seq ?_
        refine J_region ?_
        refine JO_call [] [] [Ent.blk b1 29 [vI num, vI unit, Value.slice chA ch.length chC]] rfl trivial (fun _ => x_call Ty.ca10 rfl) (fun _ h => h) (fun _ h => by cases h) (fun w hS => f10_ok w (hT.on hS (fun _ h => by cases h))) ?_
        rintro _ _ ⟨rfl, rfl⟩
        refine JO_read (vB true) rfl trivial (fun _ _ => rfl) ?_
        refine JO_nil ?_
        refine JX_then ?_
        refine J_ret ?_
        refine JX_then_ret ?_
        refine JX_rets [vB true] (vB true) Tryd.results6 (fun w h => ⟨rfl, trivial⟩) rfl [] (fun _ h => h.keep [false] rfl) ⟨?_, ?_⟩
        · rfl
        · rfl
      · have h12w := h12
        have h12 := of_decide_eq_false h12
        refine J_skip ?_
        refine JX_then ?_
        refine J_seq ?_
        refine J_region ?_
        refine JO_read (vS ((R47.encode num unit ch).1)) rfl trivial (fun _ _ => rfl) ?_
        refine JO_call [] [] [Ent.blk b1 29 [vI num, vI unit, Value.slice chA ch.length chC]] rfl trivial (fun _ => x_call Ty.ca15 rfl) (fun _ h => h) (fun _ h => by cases h) (fun w hS => f15_ok ((R47.encode num unit ch).1) w) ?_
        rintro _ _ ⟨A13, c14, rfl, rfl⟩
        have ha15 := R47.decode_len ((R47.encode num unit ch).1)
        have ha16 := R47.decode_vol ((R47.encode num unit ch).1)
        refine JO_read (Value.tuple #[Value.agg #[vI ((R47.decode ((R47.encode num unit ch).1)).1), vI ((R47.decode ((R47.encode num unit ch).1)).2.1), Value.slice A13 ((R47.decode ((R47.encode num unit ch).1)).2.2.1.length) c14], vI ((R47.decode ((R47.encode num unit ch).1)).2.2.2)]) rfl trivial (fun _ _ => rfl) ?_
        refine JO_read (Value.agg #[vI ((R47.decode ((R47.encode num unit ch).1)).1), vI ((R47.decode ((R47.encode num unit ch).1)).2.1), Value.slice A13 ((R47.decode ((R47.encode num unit ch).1)).2.2.1.length) c14]) rfl trivial (fun _ _ => rfl) ?_
        refine JO_read (vI ((R47.decode ((R47.encode num unit ch).1)).2.2.2)) rfl trivial (fun _ _ => rfl) ?_
        refine JO_op rfl trivial (O_alloc Ty.ze29 rfl fun b17 => ?_)
        refine JO_op rfl trivial (O_store 0 [vI ((R47.decode ((R47.encode num unit ch).1)).1), vI ((R47.decode ((R47.encode num unit ch).1)).2.1), Value.slice A13 ((R47.decode ((R47.encode num unit ch).1)).2.2.1.length) c14] [Ent.blk b17 29 [vI ((R47.decode ((R47.encode num unit ch).1)).1), vI ((R47.decode ((R47.encode num unit ch).1)).2.1), Value.slice A13 ((R47.decode ((R47.encode num unit ch).1)).2.2.1.length) c14], Ent.row (.slice A13 ((R47.decode ((R47.encode num unit ch).1)).2.2.1).length c14) 23 5 ((R47.decode ((R47.encode num unit ch).1)).2.2.1).length (((R47.decode ((R47.encode num unit ch).1)).2.2.1).flatMap Change.enc), Ent.blk b1 29 [vI num, vI unit, Value.slice chA ch.length chC]] rfl rfl rfl Ty.sz29 rfl (Nat.le_of_ble_eq_true rfl) rfl rfl rfl ?_)
        refine JO_read (vI ((R47.decode ((R47.encode num unit ch).1)).2.2.2)) rfl trivial (fun _ _ => rfl) ?_
        refine JO_nil ?_
        refine JX_then ?_
        refine J_seq ?_
        refine J_region ?_
        refine JO_read (vI ((R47.decode ((R47.encode num unit ch).1)).2.2.2)) rfl trivial (fun _ _ => rfl) ?_
        refine JO_read (vB (decide ((R47.decode ((R47.encode num unit ch).1)).2.2.2 = 0))) rfl trivial (fun _ _ => x_eql_i rfl rfl) ?_
        refine JO_read (vB (decide ((R47.decode ((R47.encode num unit ch).1)).2.2.2 = 0))) rfl trivial (fun _ _ => rfl) ?_
        refine JO_cut (X := Bool) 4 (fun z => z = ((decide ((R47.decode ((R47.encode num unit ch).1)).2.2.2 = 0)) && (((decide (((R47.decode ((R47.encode num unit ch).1)).1) = num)) && (decide (((R47.decode ((R47.encode num unit ch).1)).2.1) = unit))) && (decide (((R47.decode ((R47.encode num unit ch).1)).2.2.1) = ch))))) (fun z => [(2, vB false), (52, vB z)]) (fun _ => [Ent.blk b17 29 [vI ((R47.decode ((R47.encode num unit ch).1)).1), vI ((R47.decode ((R47.encode num unit ch).1)).2.1), Value.slice A13 ((R47.decode ((R47.encode num unit ch).1)).2.2.1.length) c14], Ent.row (.slice A13 ((R47.decode ((R47.encode num unit ch).1)).2.2.1).length c14) 23 5 ((R47.decode ((R47.encode num unit ch).1)).2.2.1).length (((R47.decode ((R47.encode num unit ch).1)).2.2.1).flatMap Change.enc), Ent.blk b1 29 [vI num, vI unit, Value.slice chA ch.length chC]]) ?_ ?_
        · rcases Bool.eq_false_or_eq_true (decide ((R47.decode ((R47.encode num unit ch).1)).2.2.2 = 0)) with g19 | g19
          · have g19r := g19
            have g19r := of_decide_eq_true g19r
            refine JO_read (Value.agg #[vI ((R47.decode ((R47.encode num unit ch).1)).1), vI ((R47.decode ((R47.encode num unit ch).1)).2.1), Value.slice A13 ((R47.decode ((R47.encode num unit ch).1)).2.2.1.length) c14]) rfl ⟨_, rfl, g19⟩ (x_loadN 0 [vI ((R47.decode ((R47.encode num unit ch).1)).1), vI ((R47.decode ((R47.encode num unit ch).1)).2.1), Value.slice A13 ((R47.decode ((R47.encode num unit ch).1)).2.2.1.length) c14] rfl rfl Ty.ag29 Ty.sz29 rfl) ?_
            refine JO_read (Value.agg #[vI num, vI unit, Value.slice chA ch.length chC]) rfl ⟨_, rfl, g19⟩ (x_loadN 2 [vI num, vI unit, Value.slice chA ch.length chC] rfl rfl Ty.ag29 Ty.sz29 rfl) ?_
            refine JO_call [] [] [Ent.blk b17 29 [vI ((R47.decode ((R47.encode num unit ch).1)).1), vI ((R47.decode ((R47.encode num unit ch).1)).2.1), Value.slice A13 ((R47.decode ((R47.encode num unit ch).1)).2.2.1.length) c14], Ent.row (.slice A13 ((R47.decode ((R47.encode num unit ch).1)).2.2.1).length c14) 23 5 ((R47.decode ((R47.encode num unit ch).1)).2.2.1).length (((R47.decode ((R47.encode num unit ch).1)).2.2.1).flatMap Change.enc), Ent.blk b1 29 [vI num, vI unit, Value.slice chA ch.length chC]] rfl ⟨_, rfl, g19⟩ (fun _ => x_call Ty.ca16 rfl) (fun _ h => h) (fun _ h => by cases h) (fun w hS => f16_ok ((R47.decode ((R47.encode num unit ch).1)).1) ((R47.decode ((R47.encode num unit ch).1)).2.1) ((R47.decode ((R47.encode num unit ch).1)).2.2.1) A13 c14 num unit ch chA chC w (RO.of_row hS 1 rfl) (chR.on hS (fun _ h => by cases h)) (by first | omega | assumption | (simp only [List.length_append, List.length_cons, List.length_nil]; omega) | (simp only [sub, List.length_drop, List.length_take]; omega) | (simp; omega) | (simp_all; done) | (simp_all; omega) | decide)) ?_
            rintro _ _ ⟨rfl, rfl⟩
            refine JO_read (vB (((decide (((R47.decode ((R47.encode num unit ch).1)).1) = num)) && (decide (((R47.decode ((R47.encode num unit ch).1)).2.1) = unit))) && (decide (((R47.decode ((R47.encode num unit ch).1)).2.2.1) = ch)))) rfl trivial (fun _ _ => x_pick_t rfl g19 rfl) ?_
            refine JO_nil (JX_cut (((decide (((R47.decode ((R47.encode num unit ch).1)).1) = num)) && (decide (((R47.decode ((R47.encode num unit ch).1)).2.1) = unit))) && (decide (((R47.decode ((R47.encode num unit ch).1)).2.2.1) = ch))) (by rw [g19]; simp) ⟨rfl, rfl, trivial⟩ (fun _ h => h))
          · have g19r := g19
            have g19r := of_decide_eq_false g19r
            refine JO_shun rfl ⟨_, rfl, g19⟩ ?_
            refine JO_shun rfl ⟨_, rfl, g19⟩ ?_
            refine JO_shun rfl ⟨_, rfl, g19⟩ ?_
            refine JO_read (vB false) rfl trivial (fun _ _ => x_pick_f rfl g19 rfl) ?_
            refine JO_nil (JX_cut (false) (by rw [g19]; simp) ⟨rfl, rfl, trivial⟩ (fun _ h => h))
        rintro z18 rfl
        refine JO_read (vB ((decide ((R47.decode ((R47.encode num unit ch).1)).2.2.2 = 0)) && (((decide (((R47.decode ((R47.encode num unit ch).1)).1) = num)) && (decide (((R47.decode ((R47.encode num unit ch).1)).2.1) = unit))) && (decide (((R47.decode ((R47.encode num unit ch).1)).2.2.1) = ch))))) rfl trivial (fun _ _ => rfl) ?_
        refine JO_cut (X := Bool) 2 (fun z => z = (((decide ((R47.decode ((R47.encode num unit ch).1)).2.2.2 = 0)) && (((decide (((R47.decode ((R47.encode num unit ch).1)).1) = num)) && (decide (((R47.decode ((R47.encode num unit ch).1)).2.1) = unit))) && (decide (((R47.decode ((R47.encode num unit ch).1)).2.2.1) = ch)))) && true)) (fun z => [(2, vB false), (55, vB z)]) (fun _ => [Ent.blk b17 29 [vI ((R47.decode ((R47.encode num unit ch).1)).1), vI ((R47.decode ((R47.encode num unit ch).1)).2.1), Value.slice A13 ((R47.decode ((R47.encode num unit ch).1)).2.2.1.length) c14], Ent.row (.slice A13 ((R47.decode ((R47.encode num unit ch).1)).2.2.1).length c14) 23 5 ((R47.decode ((R47.encode num unit ch).1)).2.2.1).length (((R47.decode ((R47.encode num unit ch).1)).2.2.1).flatMap Change.enc), Ent.blk b1 29 [vI num, vI unit, Value.slice chA ch.length chC]]) ?_ ?_
        · rcases Bool.eq_false_or_eq_true ((decide ((R47.decode ((R47.encode num unit ch).1)).2.2.2 = 0)) && (((decide (((R47.decode ((R47.encode num unit ch).1)).1) = num)) && (decide (((R47.decode ((R47.encode num unit ch).1)).2.1) = unit))) && (decide (((R47.decode ((R47.encode num unit ch).1)).2.2.1) = ch)))) with g21 | g21
          · have g21r := g21
            have ⟨g21r, h22⟩ := band_true g21r
            have g21r := of_decide_eq_true g21r
            have ⟨h22, h23⟩ := band_true h22
            have ⟨h22, h24⟩ := band_true h22
            have h22 := of_decide_eq_true h22
            have h24 := of_decide_eq_true h24
            refine JO_call [] [] [Ent.blk b17 29 [vI ((R47.decode ((R47.encode num unit ch).1)).1), vI ((R47.decode ((R47.encode num unit ch).1)).2.1), Value.slice A13 ((R47.decode ((R47.encode num unit ch).1)).2.2.1.length) c14], Ent.row (.slice A13 ((R47.decode ((R47.encode num unit ch).1)).2.2.1).length c14) 23 5 ((R47.decode ((R47.encode num unit ch).1)).2.2.1).length (((R47.decode ((R47.encode num unit ch).1)).2.2.1).flatMap Change.enc), Ent.blk b1 29 [vI num, vI unit, Value.slice chA ch.length chC]] rfl ⟨_, rfl, g21⟩ (fun _ => x_call Ty.ca10 rfl) (fun _ h => h) (fun _ h => by cases h) (fun w hS => f10_ok w (hT.on hS (fun _ h => by cases h))) ?_
            rintro _ _ ⟨rfl, rfl⟩
            refine JO_read (vB true) rfl trivial (fun _ _ => x_pick_t rfl g21 rfl) ?_
            refine JO_nil (JX_cut (true) (by rw [g21]; simp) ⟨rfl, rfl, trivial⟩ (fun _ h => h))
          · have g21r := g21
            simp only [Bool.and_eq_true, Bool.or_eq_true, Bool.and_eq_false_iff, Bool.or_eq_false_iff, Bool.not_eq_true', Bool.not_eq_false', decide_eq_true_eq, decide_eq_false_iff_not] at g21r
            refine JO_shun rfl ⟨_, rfl, g21⟩ ?_
            refine JO_read (vB false) rfl trivial (fun _ _ => x_pick_f rfl g21 rfl) ?_
            refine JO_nil (JX_cut (false) (by rw [g21]; simp) ⟨rfl, rfl, trivial⟩ (fun _ h => h))
        rintro z20 rfl
        refine JO_read (vB (((decide ((R47.decode ((R47.encode num unit ch).1)).2.2.2 = 0)) && (((decide (((R47.decode ((R47.encode num unit ch).1)).1) = num)) && (decide (((R47.decode ((R47.encode num unit ch).1)).2.1) = unit))) && (decide (((R47.decode ((R47.encode num unit ch).1)).2.2.1) = ch)))) && true)) rfl trivial (fun _ _ => rfl) ?_
        refine JO_nil ?_
        refine JX_then ?_
        refine J_ret ?_
        refine JX_rets [vB (((decide ((R47.decode ((R47.encode num unit ch).1)).2.2.2 = 0)) && (((decide (((R47.decode ((R47.encode num unit ch).1)).1) = num)) && (decide (((R47.decode ((R47.encode num unit ch).1)).2.1) = unit))) && (decide (((R47.decode ((R47.encode num unit ch).1)).2.2.1) = ch)))) && true)] (vB (((decide ((R47.decode ((R47.encode num unit ch).1)).2.2.2 = 0)) && (((decide (((R47.decode ((R47.encode num unit ch).1)).1) = num)) && (decide (((R47.decode ((R47.encode num unit ch).1)).2.1) = unit))) && (decide (((R47.decode ((R47.encode num unit ch).1)).2.2.1) = ch)))) && true)) Tryd.results6 (fun w h => ⟨rfl, trivial⟩) rfl [] (fun _ h => h.keep [false, false, false] rfl) ⟨?_, ?_⟩
        · have e_x0 : (((decide ((R47.decode ((R47.encode num unit ch).1)).2.2.2 = 0)) && (((decide (((R47.decode ((R47.encode num unit ch).1)).1) = num)) && (decide (((R47.decode ((R47.encode num unit ch).1)).2.1) = unit))) && (decide (((R47.decode ((R47.encode num unit ch).1)).2.2.1) = ch)))) && true : Bool) = true := by
            first | rfl | exact (R47.encodes_bad (by assumption)).elim | (rw [R47.encodes_dec (by assumption)]; simp)
          exact congrArg (fun (x0 : Bool) => vB x0) e_x0
        · rfl

end Go.Proofs.YtknibpmmjhmjeaaDoor
