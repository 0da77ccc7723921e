/- contracts C47f -/
import Derived.Test.YtknibpmmjhmjeaaDoorC47e
namespace Go.Proofs.YtknibpmmjhmjeaaDoor
open Go.GV
set_option linter.unusedVariables false
set_option linter.unusedSimpArgs false

set_option maxRecDepth 20000 in
theorem f63_ok (c : Change) (w : World) (q0 : c.Volume.length ≤ 9223372036854775807) : Calls Tryd.prog 63 #[Value.agg ((Change.enc c)).toArray] w (Gives [] w fun v L => v = vB (!(R47.valid c)) ∧ L = []) := by
  refine calls_J [] 6 Tryd.func63 rfl Tryd.ntmps63 [(0, Value.agg ((Change.enc c)).toArray)] rfl rfl (Give.nil w) ?_
  refine J_seq ?_
  refine J_region ?_
  refine JO_op rfl trivial (O_box rfl rfl fun b1 => ?_)
  refine JO_read (vB false) rfl trivial (fun _ _ => rfl) ?_
  refine JO_nil ?_
  refine JX_then ?_
  refine J_seq ?_
  refine J_region ?_
  refine JO_read (Value.agg ((Change.enc c)).toArray) rfl trivial (x_loadN 0 (Change.enc c) rfl rfl Ty.ag23 Ty.sz23 rfl) ?_
  refine JO_call [] [] [Ent.blk b1 23 (Change.enc c)] rfl trivial (fun _ => x_call Ty.ca11 rfl) (fun _ h => h) (fun _ h => by cases h) (fun w hS => f11_ok c w hy_) ?_
  rintro _ _ ⟨rfl, rfl⟩
  refine JO_read (vB (!(R47.valid c))) rfl trivial (fun _ _ => x_not rfl) ?_
  refine JO_read (vB (!(R47.valid c))) rfl trivial (fun _ _ => rfl) ?_
  refine JO_nil ?_
  refine JX_then ?_
  refine J_ret ?_
  refine JX_rets [vB (!(R47.valid c))] (vB (!(R47.valid c))) Tryd.results63 (fun w h => ⟨rfl, trivial⟩) rfl [] (fun _ h => h.keep [false] rfl) ⟨?_, ?_⟩
  · rfl
  · rfl

set_option maxRecDepth 20000 in
theorem f74_ok (ch : List Change) (chA : Option Addr) (chC : Nat) (w : World) (chR : RO [] w chA (ch.flatMap Change.enc)) (q0 : ch.length ≤ 9223372036854775807) (q1 : ∀ i, i < ch.length → (ch.getD i default).Volume.length ≤ 9223372036854775807) : Calls Tryd.prog 74 #[Value.slice chA ch.length chC, Value.func (.func 63) #[] #[]] w (Gives [] w fun v L => v = vI (R47.idxBad ch) ∧ L = []) := by
  refine calls_J [] 19 Tryd.func74 rfl Tryd.ntmps74 [(0, Value.slice chA ch.length chC), (1, Value.func (.func 63) #[] #[])] rfl rfl (Give.nil w) ?_
  refine J_seq ?_
  refine J_region ?_
  refine JO_read (vI 0) rfl trivial (fun _ _ => rfl) ?_
  refine JO_nil ?_
  refine JX_then ?_
  refine J_seq ?_
  refine J_seq ?_
  refine J_region ?_
  refine JO_read (Value.slice chA ch.length chC) rfl trivial (fun _ _ => rfl) ?_
  refine JO_read (vI ((ch.length : Nat) : Int)) rfl trivial (fun _ _ => x_len_sl Tryd.underlying27 rfl) ?_
  refine JO_read (vI 0) rfl trivial (fun _ _ => rfl) ?_
  refine JO_nil ?_
  refine JX_then ?_
  refine J_block ?_
  refine J_loop (X := Nat) (fun (k : Nat) => (k ≤ ch.length) ∧ (∀ i, i < k → R47.valid (ch.getD i default) = true)) (fun (k : Nat) => [(0, Value.slice chA ch.length chC), (1, Value.func (.func 63) #[] #[]), (7, vI ((ch.length : Nat) : Int)), (8, vI ((k : Nat) : Int))]) (fun (k : Nat) => []) (fun (k : Nat) => ch.length - k) (0 : Nat) ?_ ⟨rfl, rfl, rfl, rfl, trivial⟩ (fun _ h => h) ?_
  · show (0 ≤ ch.length) ∧ (∀ i, i < 0 → R47.valid (ch.getD i default) = true)
    refine ⟨?_, ?_⟩
    · first | rfl | omega | (simp_all; done) | (simp_all; omega)
    · intro i hi; omega
  intro k hI1
  obtain ⟨i1_0, i1_1⟩ : (k ≤ ch.length) ∧ (∀ i, i < k → R47.valid (ch.getD i default) = true) := hI1
  have hvk := q1 k
  refine J_weaken (E' := [(0, Value.slice chA ch.length chC), (1, Value.func (.func 63) #[] #[]), (7, vI ((ch.length : Nat) : Int)), (8, vI ((k : Nat) : Int))]) (L' := []) ⟨rfl, rfl, rfl, rfl, trivial⟩ (fun _ h => h) ?_
  refine J_seq ?_
  refine J_region ?_
  refine JO_read (vB (decide (((k : Nat) : Int) < ((ch.length : Nat) : Int)))) rfl trivial (fun _ _ => x_lss_i rfl rfl) ?_
  refine JO_nil ?_
  refine JX_then ?_
  refine J_seq ?_
  refine J_cond (decide (((k : Nat) : Int) < ((ch.length : Nat) : Int))) rfl rfl (fun h1 => ?_) (fun h1 => ?_)
  · have h1 := of_decide_eq_true h1
    refine J_skip ?_
    refine JX_then ?_
    refine J_seq ?_
    refine J_block ?_
    refine J_seq ?_
    refine J_region ?_
    refine JO_read (vI ((k : Nat) : Int)) rfl trivial (fun _ _ => rfl) ?_
    refine JO_read (vI ((k : Nat) : Int)) rfl trivial (fun _ _ => rfl) ?_
    refine JO_nil ?_
    refine JX_then ?_
    refine J_seq ?_
    refine J_region ?_
    refine JO_read (Value.func (.func 63) #[] #[]) rfl trivial (fun _ _ => rfl) ?_
    refine JO_read (Value.slice chA ch.length chC) rfl trivial (fun _ _ => rfl) ?_
    refine JO_read (vI ((k : Nat) : Int)) rfl trivial (fun _ _ => rfl) ?_
    refine JO_read (Value.pointer (some (adr chA (k * 5)))) rfl trivial (x_indexAddr_at (k := k) (off := k * 5) (cells_ro chR) Tryd.underlying27 Ty.sz23 rfl rfl lt_ (by rw [flat_length Change.enc 5 Change.enc_len]; first | omega | (simp; omega) | (simp_all; omega) | (simp_all; done)) rfl) ?_
    refine JO_read (Value.agg ((Change.enc (ch.getD k default))).toArray) rfl trivial (x_loadN_at (Change.enc (ch.getD k default)) (cells_ro chR) rfl Ty.ag23 Ty.sz23 (flat_drop Change.enc 5 Change.enc_len ch default k lt_)) ?_
    refine JO_call [] [] [] rfl trivial (fun _ => x_callv (first := []) (caps := []) rfl Ty.ca63 rfl) (fun _ h => h) (fun _ h => by cases h) (fun w hS => f63_ok (ch.getD k default) w hy_) ?_
    rintro _ _ ⟨rfl, rfl⟩
    refine JO_nil ?_
    refine JX_then ?_
    refine J_cond (!(R47.valid (ch.getD k default))) rfl rfl (fun h2 => ?_) (fun h2 => ?_)
    · have h2 : (R47.valid (ch.getD k default)) = false := bnot_true h2
      refine J_seq ?_
      refine J_region ?_
      refine JO_read (vI ((k : Nat) : Int)) rfl trivial (fun _ _ => rfl) ?_
      refine JO_read (vI ((k : Nat) : Int)) rfl trivial (fun _ _ => rfl) ?_
      refine JO_nil ?_
      refine JX_then ?_
      refine J_ret ?_
      refine JX_block_ret ?_
      refine JX_then_ret ?_
      refine JX_round_ret ?_
      refine JX_block_ret ?_
      refine JX_then_ret ?_
      refine JX_rets [vI ((k : Nat) : Int)] (vI ((k : Nat) : Int)) Tryd.results74 (fun w h => ⟨rfl, trivial⟩) rfl [] (fun _ h => h) ⟨?_, ?_⟩
      · have e_x0 : (((k : Nat) : Int) : Int) = (R47.idxBad ch) := by
          first | exact (R47.idx_hit (by omega) i1_1 (by assumption)).symm | exact (R47.idx_none (fun i hi => i1_1 i (by omega))).symm
        exact congrArg (fun (x0 : Int) => vI x0) e_x0
      · rfl
    · have h2 : (R47.valid (ch.getD k default)) = true := bnot_false h2
      have hi3 := R47.valid_facts h2
      refine J_skip ?_
      refine JX_block ?_
      refine JX_then ?_
      refine J_region ?_
      refine JO_read (vI ((k + 1 : Nat) : Int)) rfl trivial (fun _ _ => x_add_n (a := k) (b := 1) rfl rfl (by omega)) ?_
      refine JO_read (vI ((k + 1 : Nat) : Int)) rfl trivial (fun _ _ => rfl) ?_
      refine JO_nil ?_
      refine JX_round (k + 1 : Nat) ?_ ?_ ⟨rfl, rfl, rfl, rfl, trivial⟩ (fun _ h => h)
      · show ((k + 1) ≤ ch.length) ∧ (∀ i, i < (k + 1) → R47.valid (ch.getD i default) = true)
        refine ⟨?_, ?_⟩
        · first | rfl | omega | (simp_all; done) | (simp_all; omega)
        · intro i hi
          by_cases hik : i = k
          · subst hik; simpa using (by assumption : R47.valid (ch.getD i default) = true)
          · exact i1_1 i (by omega)
      · show ch.length - (k + 1) < ch.length - k
        first | omega | (simp; omega) | (simp_all; omega)
  · have h1 := of_decide_eq_false h1
    refine J_exit ?_
    refine JX_then_exit ?_
    refine JX_round_exit ?_
    refine JX_block_hit ?_
    refine JX_then ?_
    refine J_seq ?_
    refine J_region ?_
    refine JO_read (vI (-1)) rfl trivial (fun _ _ => rfl) ?_
    refine JO_nil ?_
    refine JX_then ?_
    refine J_ret ?_
    refine JX_rets [vI (-1)] (vI (-1)) Tryd.results74 (fun w h => ⟨rfl, trivial⟩) rfl [] (fun _ h => h) ⟨?_, ?_⟩
    · have e_x0 : ((-1) : Int) = (R47.idxBad ch) := by
        first | exact (R47.idx_hit (by omega) i1_1 (by assumption)).symm | exact (R47.idx_none (fun i hi => i1_1 i (by omega))).symm
      exact congrArg (fun (x0 : Int) => vI x0) e_x0
    · rfl

set_option maxRecDepth 20000 in
theorem f62_ok (ch : List Change) (chA : Option Addr) (chC : Nat) (w : World) (chR : RO [] w chA (ch.flatMap Change.enc)) (q0 : ch.length ≤ 9223372036854775807) (q1 : ∀ i, i < ch.length → (ch.getD i default).Volume.length ≤ 9223372036854775807) : Calls Tryd.prog 62 #[Value.slice chA ch.length chC, Value.func (.func 63) #[] #[]] w (Gives [] w fun v L => v = vB (!(ch.all R47.valid)) ∧ L = []) := by
  refine calls_J [] 9 Tryd.func62 rfl Tryd.ntmps62 [(0, Value.slice chA ch.length chC), (1, Value.func (.func 63) #[] #[])] rfl rfl (Give.nil w) ?_
  refine J_seq ?_
  refine J_region ?_
  refine JO_read (vB false) rfl trivial (fun _ _ => rfl) ?_
  refine JO_nil ?_
  refine JX_then ?_
  refine J_seq ?_
  refine J_region ?_
  refine JO_read (Value.slice chA ch.length chC) rfl trivial (fun _ _ => rfl) ?_
  refine JO_read (Value.func (.func 63) #[] #[]) rfl trivial (fun _ _ => rfl) ?_
  refine JO_call [] [] [] rfl trivial (fun _ => x_call Ty.ca74 rfl) (fun _ h => h) (fun _ h => by cases h) (fun w hS => f74_ok ch chA chC w (chR.on hS (fun _ h => by cases h)) hy_ hy_) ?_
  rintro _ _ ⟨rfl, rfl⟩
  refine JO_read (vB (decide ((0 : Int) ≤ R47.idxBad ch))) rfl trivial (fun _ _ => x_geq_i rfl rfl) ?_
  refine JO_read (vB (decide ((0 : Int) ≤ R47.idxBad ch))) rfl trivial (fun _ _ => rfl) ?_
  refine JO_nil ?_
  refine JX_then ?_
  refine J_ret ?_
  refine JX_rets [vB (decide ((0 : Int) ≤ R47.idxBad ch))] (vB (decide ((0 : Int) ≤ R47.idxBad ch))) Tryd.results62 (fun w h => ⟨rfl, trivial⟩) rfl [] (fun _ h => h) ⟨?_, ?_⟩
  · have e_x0 : (decide ((0 : Int) ≤ R47.idxBad ch) : Bool) = (!(ch.all R47.valid)) := by
      exact R47.idx_all
    exact congrArg (fun (x0 : Bool) => vB x0) e_x0
  · rfl

set_option maxRecDepth 20000 in
theorem f45_ok (num : Int) (unit : Int) (ch : List Change) (chA : Option Addr) (chC : Nat) (w : World) (chR : RO [] w chA (ch.flatMap Change.enc)) (q0 : ch.length ≤ 9223372036854775807) (q1 : ∀ i, i < ch.length → (ch.getD i default).Volume.length ≤ 9223372036854775807) : Calls Tryd.prog 45 #[Value.agg #[vI num, vI unit, Value.slice chA ch.length chC]] w (Gives [] w fun v L => v = vB (R47.sound num unit ch) ∧ L = []) := by
  refine calls_J [] 40 Tryd.func45 rfl Tryd.ntmps45 [(0, Value.agg #[vI num, vI unit, Value.slice chA ch.length chC])] rfl rfl (Give.nil w) ?_
  refine J_seq ?_
  refine J_region ?_
  refine JO_op rfl trivial (O_box rfl rfl fun b1 => ?_)
  refine JO_read (vB false) rfl trivial (fun _ _ => rfl) ?_
  refine JO_nil ?_
  refine JX_then ?_
  refine J_seq ?_
  refine J_region ?_
  refine JO_read (Value.pointer (some ⟨b1, 2, none⟩)) rfl trivial (fun _ _ => x_fieldAddr Ty.fi29_2 rfl rfl) ?_
  refine JO_read (Value.slice chA ch.length chC) rfl trivial (x_load 0 rfl rfl Ty.sc27 rfl) ?_
  refine JO_read (vI ((ch.length : Nat) : Int)) rfl trivial (fun _ _ => x_len_sl Tryd.underlying27 rfl) ?_
  refine JO_read (vI ((ch.length : Nat) : Int)) rfl trivial (fun _ _ => rfl) ?_
  refine JO_nil ?_
  refine JX_then ?_
  refine J_seq ?_
  refine J_seq ?_
  refine J_region ?_
  refine JO_read (Value.pointer (some ⟨b1, 1, none⟩)) rfl trivial (fun _ _ => x_fieldAddr Ty.fi29_1 rfl rfl) ?_
  refine JO_read (vI unit) rfl trivial (x_load 0 rfl rfl Ty.sc3 rfl) ?_
  refine JO_read (vB (decide (unit < 1))) rfl trivial (fun _ _ => x_lss_i rfl rfl) ?_
  refine JO_read (vB (decide (unit < 1))) rfl trivial (fun _ _ => rfl) ?_
  refine JO_cut (X := Bool) 4 (fun z => z = ((decide (unit < 1)) || (decide ((1099511627776 : Int) < unit)))) (fun z => [(1, Value.pointer (some ⟨b1, 0, none⟩)), (2, vB false), (3, vI ((ch.length : Nat) : Int)), (14, vB z)]) (fun _ => [Ent.blk b1 29 [vI num, vI unit, Value.slice chA ch.length chC]]) ?_ ?_
  · rcases Bool.eq_false_or_eq_true (decide (unit < 1)) with g3 | g3
    · have g3r := g3
      have g3r := of_decide_eq_true g3r
      refine JO_shun rfl ⟨_, rfl, g3⟩ ?_
      refine JO_shun rfl ⟨_, rfl, g3⟩ ?_
      refine JO_shun rfl ⟨_, rfl, g3⟩ ?_
      refine JO_read (vB true) rfl trivial (fun _ _ => x_pick_t rfl g3 rfl) ?_
      refine JO_nil (JX_cut (true) (by rw [g3]; simp) ⟨rfl, rfl, rfl, rfl, trivial⟩ (fun _ h => h))
    · have g3r := g3
      have g3r := of_decide_eq_false g3r
      refine JO_read (Value.pointer (some ⟨b1, 1, none⟩)) rfl ⟨_, rfl, g3⟩ (fun _ _ => x_fieldAddr Ty.fi29_1 rfl rfl) ?_
      refine JO_read (vI unit) rfl ⟨_, rfl, g3⟩ (x_load 0 rfl rfl Ty.sc3 rfl) ?_
      refine JO_read (vB (decide ((1099511627776 : Int) < unit))) rfl ⟨_, rfl, g3⟩ (fun _ _ => x_gtr_i rfl rfl) ?_
      refine JO_read (vB (decide ((1099511627776 : Int) < unit))) rfl trivial (fun _ _ => x_pick_f rfl g3 rfl) ?_
      refine JO_nil (JX_cut (decide ((1099511627776 : Int) < unit)) (by rw [g3]; simp) ⟨rfl, rfl, rfl, rfl, trivial⟩ (fun _ h => h))
  rintro z2 rfl
  refine JO_read (vB ((decide (unit < 1)) || (decide ((1099511627776 : Int) < unit)))) rfl trivial (fun _ _ => rfl) ?_
  refine JO_cut (X := Bool) 3 (fun z => z = (((decide (unit < 1)) || (decide ((1099511627776 : Int) < unit))) || (decide (((ch.length : Nat) : Int) < 1)))) (fun z => [(1, Value.pointer (some ⟨b1, 0, none⟩)), (2, vB false), (3, vI ((ch.length : Nat) : Int)), (18, vB z)]) (fun _ => [Ent.blk b1 29 [vI num, vI unit, Value.slice chA ch.length chC]]) ?_ ?_
  · rcases Bool.eq_false_or_eq_true ((decide (unit < 1)) || (decide ((1099511627776 : Int) < unit))) with g5 | g5
    · have g5r := g5
      simp only [Bool.and_eq_true, Bool.or_eq_true, Bool.and_eq_false_iff, Bool.or_eq_false_iff, Bool.not_eq_true', Bool.not_eq_false', decide_eq_true_eq, decide_eq_false_iff_not] at g5r
      refine JO_shun rfl ⟨_, rfl, g5⟩ ?_
      refine JO_shun rfl ⟨_, rfl, g5⟩ ?_
      refine JO_read (vB true) rfl trivial (fun _ _ => x_pick_t rfl g5 rfl) ?_
      refine JO_nil (JX_cut (true) (by rw [g5]; simp) ⟨rfl, rfl, rfl, rfl, trivial⟩ (fun _ h => h))
    · have g5r := g5
      have ⟨g5r, h6⟩ := bor_false g5r
      have g5r := of_decide_eq_false g5r
      have h6 := of_decide_eq_false h6
      refine JO_read (vI ((ch.length : Nat) : Int)) rfl ⟨_, rfl, g5⟩ (fun _ _ => rfl) ?_
      refine JO_read (vB (decide (((ch.length : Nat) : Int) < 1))) rfl ⟨_, rfl, g5⟩ (fun _ _ => x_lss_i rfl rfl) ?_
      refine JO_read (vB (decide (((ch.length : Nat) : Int) < 1))) rfl trivial (fun _ _ => x_pick_f rfl g5 rfl) ?_
      refine JO_nil (JX_cut (decide (((ch.length : Nat) : Int) < 1)) (by rw [g5]; simp) ⟨rfl, rfl, rfl, rfl, trivial⟩ (fun _ h => h))
  rintro z4 rfl
  refine JO_read (vB (((decide (unit < 1)) || (decide ((1099511627776 : Int) < unit))) || (decide (((ch.length : Nat) : Int) < 1)))) rfl trivial (fun _ _ => rfl) ?_
  refine JO_cut (X := Bool) 3 (fun z => z = ((((decide (unit < 1)) || (decide ((1099511627776 : Int) < unit))) || (decide (((ch.length : Nat) : Int) < 1))) || (decide ((300 : Int) < ((ch.length : Nat) : Int))))) (fun z => [(1, Value.pointer (some ⟨b1, 0, none⟩)), (2, vB false), (3, vI ((ch.length : Nat) : Int)), (22, vB z)]) (fun _ => [Ent.blk b1 29 [vI num, vI unit, Value.slice chA ch.length chC]]) ?_ ?_
  · rcases Bool.eq_false_or_eq_true (((decide (unit < 1)) || (decide ((1099511627776 : Int) < unit))) || (decide (((ch.length : Nat) : Int) < 1))) with g8 | g8
    · have g8r := g8
      simp only [Bool.and_eq_true, Bool.or_eq_true, Bool.and_eq_false_iff, Bool.or_eq_false_iff, Bool.not_eq_true', Bool.not_eq_false', decide_eq_true_eq, decide_eq_false_iff_not] at g8r
      refine JO_shun rfl ⟨_, rfl, g8⟩ ?_
      refine JO_shun rfl ⟨_, rfl, g8⟩ ?_
      refine JO_read (vB true) rfl trivial (fun _ _ => x_pick_t rfl g8 rfl) ?_
      refine JO_nil (JX_cut (true) (by rw [g8]; simp) ⟨rfl, rfl, rfl, rfl, trivial⟩ (fun _ h => h))
    · have g8r := g8
      have ⟨g8r, h9⟩ := bor_false g8r
      have ⟨g8r, h10⟩ := bor_false g8r
      have g8r := of_decide_eq_false g8r
      have h10 := of_decide_eq_false h10
      have h9 := of_decide_eq_false h9
      refine JO_read (vI ((ch.length : Nat) : Int)) rfl ⟨_, rfl, g8⟩ (fun _ _ => rfl) ?_
      refine JO_read (vB (decide ((300 : Int) < ((ch.length : Nat) : Int)))) rfl ⟨_, rfl, g8⟩ (fun _ _ => x_gtr_i rfl rfl) ?_
      refine JO_read (vB (decide ((300 : Int) < ((ch.length : Nat) : Int)))) rfl trivial (fun _ _ => x_pick_f rfl g8 rfl) ?_
      refine JO_nil (JX_cut (decide ((300 : Int) < ((ch.length : Nat) : Int))) (by rw [g8]; simp) ⟨rfl, rfl, rfl, rfl, trivial⟩ (fun _ h => h))
  rintro z7 rfl
  refine JO_read (vB ((((decide (unit < 1)) || (decide ((1099511627776 : Int) < unit))) || (decide (((ch.length : Nat) : Int) < 1))) || (decide ((300 : Int) < ((ch.length : Nat) : Int))))) rfl trivial (fun _ _ => rfl) ?_
  refine JO_cut (X := Bool) 4 (fun z => z = (((((decide (unit < 1)) || (decide ((1099511627776 : Int) < unit))) || (decide (((ch.length : Nat) : Int) < 1))) || (decide ((300 : Int) < ((ch.length : Nat) : Int)))) || (decide (num < 1)))) (fun z => [(1, Value.pointer (some ⟨b1, 0, none⟩)), (2, vB false), (3, vI ((ch.length : Nat) : Int)), (27, vB z)]) (fun _ => [Ent.blk b1 29 [vI num, vI unit, Value.slice chA ch.length chC]]) ?_ ?_
  · rcases Bool.eq_false_or_eq_true ((((decide (unit < 1)) || (decide ((1099511627776 : Int) < unit))) || (decide (((ch.length : Nat) : Int) < 1))) || (decide ((300 : Int) < ((ch.length : Nat) : Int)))) with g12 | g12
    · have g12r := g12
      simp only [Bool.and_eq_true, Bool.or_eq_true, Bool.and_eq_false_iff, Bool.or_eq_false_iff, Bool.not_eq_true', Bool.not_eq_false', decide_eq_true_eq, decide_eq_false_iff_not] at g12r
      refine JO_shun rfl ⟨_, rfl, g12⟩ ?_
      refine JO_shun rfl ⟨_, rfl, g12⟩ ?_
      refine JO_shun rfl ⟨_, rfl, g12⟩ ?_
      refine JO_read (vB true) rfl trivial (fun _ _ => x_pick_t rfl g12 rfl) ?_
      refine JO_nil (JX_cut (true) (by rw [g12]; simp) ⟨rfl, rfl, rfl, rfl, trivial⟩ (fun _ h => h))
    · have g12r := g12
      have ⟨g12r, h13⟩ := bor_false g12r
      have ⟨g12r, h14⟩ := bor_false g12r
      have ⟨g12r, h15⟩ := bor_false g12r
      have g12r := of_decide_eq_false g12r
      have h15 := of_decide_eq_false h15
      have h14 := of_decide_eq_false h14
      have h13 := of_decide_eq_false h13
      refine JO_read (Value.pointer (some ⟨b1, 0, none⟩)) rfl ⟨_, rfl, g12⟩ (fun _ _ => x_fieldAddr Ty.fi29_0 rfl rfl) ?_
      refine JO_read (vI num) rfl ⟨_, rfl, g12⟩ (x_load 0 rfl rfl Ty.sc3 rfl) ?_
      refine JO_read (vB (decide (num < 1))) rfl ⟨_, rfl, g12⟩ (fun _ _ => x_lss_i rfl rfl) ?_
      refine JO_read (vB (decide (num < 1))) rfl trivial (fun _ _ => x_pick_f rfl g12 rfl) ?_
      refine JO_nil (JX_cut (decide (num < 1)) (by rw [g12]; simp) ⟨rfl, rfl, rfl, rfl, trivial⟩ (fun _ h => h))
  rintro z11 rfl
  refine JO_read (vB (((((decide (unit < 1)) || (decide ((1099511627776 : Int) < unit))) || (decide (((ch.length : Nat) : Int) < 1))) || (decide ((300 : Int) < ((ch.length : Nat) : Int)))) || (decide (num < 1)))) rfl trivial (fun _ _ => rfl) ?_
  refine JO_cut (X := Bool) 7 (fun z => z = ((((((decide (unit < 1)) || (decide ((1099511627776 : Int) < unit))) || (decide (((ch.length : Nat) : Int) < 1))) || (decide ((300 : Int) < ((ch.length : Nat) : Int)))) || (decide (num < 1))) || (decide ((1099511627776 - ((ch.length : Nat) : Int)) + 1 < num)))) (fun z => [(1, Value.pointer (some ⟨b1, 0, none⟩)), (2, vB false), (35, vB z)]) (fun _ => [Ent.blk b1 29 [vI num, vI unit, Value.slice chA ch.length chC]]) ?_ ?_
  · rcases Bool.eq_false_or_eq_true (((((decide (unit < 1)) || (decide ((1099511627776 : Int) < unit))) || (decide (((ch.length : Nat) : Int) < 1))) || (decide ((300 : Int) < ((ch.length : Nat) : Int)))) || (decide (num < 1))) with g17 | g17
    · have g17r := g17
      simp only [Bool.and_eq_true, Bool.or_eq_true, Bool.and_eq_false_iff, Bool.or_eq_false_iff, Bool.not_eq_true', Bool.not_eq_false', decide_eq_true_eq, decide_eq_false_iff_not] at g17r
      refine JO_shun rfl ⟨_, rfl, g17⟩ ?_
      refine JO_shun rfl ⟨_, rfl, g17⟩ ?_
      refine JO_shun rfl ⟨_, rfl, g17⟩ ?_
      refine JO_shun rfl ⟨_, rfl, g17⟩ ?_
      refine JO_shun rfl ⟨_, rfl, g17⟩ ?_
      refine JO_shun rfl ⟨_, rfl, g17⟩ ?_
      refine JO_read (vB true) rfl trivial (fun _ _ => x_pick_t rfl g17 rfl) ?_
      refine JO_nil (JX_cut (true) (by rw [g17]; simp) ⟨rfl, rfl, rfl, trivial⟩ (fun _ h => h))
    · have g17r := g17
      have ⟨g17r, h18⟩ := bor_false g17r
      have ⟨g17r, h19⟩ := bor_false g17r
      have ⟨g17r, h20⟩ := bor_false g17r
      have ⟨g17r, h21⟩ := bor_false g17r
      have g17r := of_decide_eq_false g17r
      have h21 := of_decide_eq_false h21
      have h20 := of_decide_eq_false h20
      have h19 := of_decide_eq_false h19
      have h18 := of_decide_eq_false h18
      refine JO_read (Value.pointer (some ⟨b1, 0, none⟩)) rfl ⟨_, rfl, g17⟩ (fun _ _ => x_fieldAddr Ty.fi29_0 rfl rfl) ?_
      refine JO_read (vI num) rfl ⟨_, rfl, g17⟩ (x_load 0 rfl rfl Ty.sc3 rfl) ?_
      refine JO_read (vI ((ch.length : Nat) : Int)) rfl ⟨_, rfl, g17⟩ (fun _ _ => rfl) ?_
      refine JO_read (vI (1099511627776 - ((ch.length : Nat) : Int))) rfl ⟨_, rfl, g17⟩ (fun _ _ => x_sub_i (a := 1099511627776) (b := ((ch.length : Nat) : Int)) rfl rfl (by omega) (by omega)) ?_
      refine JO_read (vI ((1099511627776 - ((ch.length : Nat) : Int)) + 1)) rfl ⟨_, rfl, g17⟩ (fun _ _ => x_add_i (a := 1099511627776 - ((ch.length : Nat) : Int)) (b := 1) rfl rfl (by omega) (by omega)) ?_
      refine JO_read (vB (decide ((1099511627776 - ((ch.length : Nat) : Int)) + 1 < num))) rfl ⟨_, rfl, g17⟩ (fun _ _ => x_gtr_i rfl rfl) ?_
      refine JO_read (vB (decide ((1099511627776 - ((ch.length : Nat) : Int)) + 1 < num))) rfl trivial (fun _ _ => x_pick_f rfl g17 rfl) ?_
      refine JO_nil (JX_cut (decide ((1099511627776 - ((ch.length : Nat) : Int)) + 1 < num)) (by rw [g17]; simp) ⟨rfl, rfl, rfl, trivial⟩ (fun _ h => h))
  rintro z16 rfl
  refine JO_nil ?_
  refine JX_then ?_
  refine J_cond ((((((decide (unit < 1)) || (decide ((1099511627776 : Int) < unit))) || (decide (((ch.length : Nat) : Int) < 1))) || (decide ((300 : Int) < ((ch.length : Nat) : Int)))) || (decide (num < 1))) || (decide ((1099511627776 - ((ch.length : Nat) : Int)) + 1 < num))) rfl rfl (fun h22 => ?_) (fun h22 => ?_)
  · simp only [Bool.and_eq_true, Bool.or_eq_true, Bool.and_eq_false_iff, Bool.or_eq_false_iff, Bool.not_eq_true', Bool.not_eq_false', decide_eq_true_eq, decide_eq_false_iff_not] at h22
    refine J_seq ?_
    refine J_region ?_
    refine JO_read (vB false) rfl trivial (fun _ _ => rfl) ?_
    refine JO_nil ?_
    refine JX_then ?_
    refine J_ret ?_
    refine JX_then_ret ?_
    refine JX_rets [vB false] (vB false) Tryd.results45 (fun w h => ⟨rfl, trivial⟩) rfl [] (fun _ h => h.keep [false] rfl) ⟨?_, ?_⟩
    · have e_x0 : (false : Bool) = (R47.sound num unit ch) := by
        first | exact (R47.sound_no (by omega)).symm | (rw [Bool.not_not]; exact (R47.sound_all (by omega)).symm)
      exact congrArg (fun (x0 : Bool) => vB x0) e_x0
    · rfl
  · have ⟨h22, h23⟩ := bor_false h22
    have ⟨h22, h24⟩ := bor_false h22
    have ⟨h22, h25⟩ := bor_false h22
    have ⟨h22, h26⟩ := bor_false h22
    have ⟨h22, h27⟩ := bor_false h22
    have h22 := of_decide_eq_false h22
    have h27 := of_decide_eq_false h27
    have h26 := of_decide_eq_false h26
    have h25 := of_decide_eq_false h25
    have h24 := of_decide_eq_false h24
    have h23 := of_decide_eq_false h23
    refine J_skip ?_
    refine JX_then ?_
    refine J_seq ?_
    refine J_region ?_
    refine JO_read (Value.pointer (some ⟨b1, 2, none⟩)) rfl trivial (fun _ _ => x_fieldAddr Ty.fi29_2 rfl rfl) ?_
    refine JO_read (Value.slice chA ch.length chC) rfl trivial (x_load 0 rfl rfl Ty.sc27 rfl) ?_
    refine JO_call [] [] [Ent.blk b1 29 [vI num, vI unit, Value.slice chA ch.length chC]] rfl trivial (fun _ => x_call Ty.ca62 rfl) (fun _ h => h) (fun _ h => by cases h) (fun w hS => f62_ok ch chA chC w (chR.on hS (fun _ h => by cases h)) hy_ hy_) ?_
    rintro _ _ ⟨rfl, rfl⟩
    refine JO_read (vB (!(!(ch.all R47.valid)))) rfl trivial (fun _ _ => x_not rfl) ?_
    refine JO_read (vB (!(!(ch.all R47.valid)))) rfl trivial (fun _ _ => rfl) ?_
    refine JO_nil ?_
    refine JX_then ?_
    refine J_ret ?_
    refine JX_rets [vB (!(!(ch.all R47.valid)))] (vB (!(!(ch.all R47.valid)))) Tryd.results45 (fun w h => ⟨rfl, trivial⟩) rfl [] (fun _ h => h.keep [false] rfl) ⟨?_, ?_⟩
    · have e_x0 : (!(!(ch.all R47.valid)) : Bool) = (R47.sound num unit ch) := by
        first | exact (R47.sound_no (by omega)).symm | (rw [Bool.not_not]; exact (R47.sound_all (by omega)).symm)
      exact congrArg (fun (x0 : Bool) => vB x0) e_x0
    · rfl

set_option maxRecDepth 20000 in
theorem f30_ok (num : Int) (unit : Int) (ch : List Change) (chA : Option Addr) (chC : Nat) (w : World) (chR : RO [] w chA (ch.flatMap Change.enc)) (q0 : 0 ≤ num) (q1 : num ≤ 1099511627776) (q2 : ch.length ≤ 1000) : Calls Tryd.prog 30 #[Value.agg #[vI num, vI unit, Value.slice chA ch.length chC]] w (Gives [] w fun v L => v = vI ((num + (ch.length : Int)) - 1) ∧ L = []) := by
  refine calls_J [] 10 Tryd.func30 rfl Tryd.ntmps30 [(0, Value.agg #[vI num, vI unit, Value.slice chA ch.length chC])] rfl rfl (Give.nil w) ?_
  refine J_seq ?_
  refine J_region ?_
  refine JO_op rfl trivial (O_box rfl rfl fun b1 => ?_)
  refine JO_read (vI 0) rfl trivial (fun _ _ => rfl) ?_
  refine JO_nil ?_
  refine JX_then ?_
  refine J_seq ?_
  refine J_region ?_
  refine JO_read (Value.pointer (some ⟨b1, 0, none⟩)) rfl trivial (fun _ _ => x_fieldAddr Ty.fi29_0 rfl rfl) ?_
  refine JO_read (vI num) rfl trivial (x_load 0 rfl rfl Ty.sc3 rfl) ?_
  refine JO_read (Value.pointer (some ⟨b1, 2, none⟩)) rfl trivial (fun _ _ => x_fieldAddr Ty.fi29_2 rfl rfl) ?_
  refine JO_read (Value.slice chA ch.length chC) rfl trivial (x_load 0 rfl rfl Ty.sc27 rfl) ?_
  refine JO_read (vI ((ch.length : Nat) : Int)) rfl trivial (fun _ _ => x_len_sl Tryd.underlying27 rfl) ?_
  refine JO_read (vI (num + ((ch.length : Nat) : Int))) rfl trivial (fun _ _ => x_add_i (a := num) (b := ((ch.length : Nat) : Int)) rfl rfl (by omega) (by omega)) ?_
  refine JO_read (vI ((num + ((ch.length : Nat) : Int)) - 1)) rfl trivial (fun _ _ => x_sub_i (a := num + ((ch.length : Nat) : Int)) (b := 1) rfl rfl (by omega) (by omega)) ?_
  refine JO_read (vI ((num + ((ch.length : Nat) : Int)) - 1)) rfl trivial (fun _ _ => rfl) ?_
  refine JO_nil ?_
  refine JX_then ?_
  refine J_ret ?_
  refine JX_rets [vI ((num + ((ch.length : Nat) : Int)) - 1)] (vI ((num + ((ch.length : Nat) : Int)) - 1)) Tryd.results30 (fun w h => ⟨rfl, trivial⟩) rfl [] (fun _ h => h.keep [false] rfl) ⟨?_, ?_⟩
  · have e_x0 : ((num + ((ch.length : Nat) : Int)) - 1 : Int) = ((num + (ch.length : Int)) - 1) := by
      first | rfl | omega | (simp_all; done) | (simp_all; omega)
    exact congrArg (fun (x0 : Int) => vI x0) e_x0
  · rfl

set_option maxRecDepth 20000 in
theorem f31_ok (num : Int) (unit : Int) (ch : List Change) (chA : Option Addr) (chC : Nat) (w : World) (chR : RO [] w chA (ch.flatMap Change.enc)) (q0 : 0 ≤ num) (q1 : num ≤ 1099511627776) (q2 : ch.length ≤ 1000) : Calls Tryd.prog 31 #[Value.agg #[vI num, vI unit, Value.slice chA ch.length chC]] w (Gives [] w fun v L => v = vI ((num + (ch.length : Int)) - 1) ∧ L = []) := by
  refine calls_J [] 10 Tryd.func31 rfl Tryd.ntmps31 [(0, Value.agg #[vI num, vI unit, Value.slice chA ch.length chC])] rfl rfl (Give.nil w) ?_
  refine J_seq ?_
  refine J_region ?_
  refine JO_op rfl trivial (O_box rfl rfl fun b1 => ?_)
  refine JO_read (vI 0) rfl trivial (fun _ _ => rfl) ?_
  refine JO_nil ?_
  refine JX_then ?_
  refine J_seq ?_
  refine J_region ?_
  refine JO_read (Value.pointer (some ⟨b1, 0, none⟩)) rfl trivial (fun _ _ => x_fieldAddr Ty.fi29_0 rfl rfl) ?_
  refine JO_read (vI num) rfl trivial (x_load 0 rfl rfl Ty.sc3 rfl) ?_
  refine JO_read (Value.pointer (some ⟨b1, 2, none⟩)) rfl trivial (fun _ _ => x_fieldAddr Ty.fi29_2 rfl rfl) ?_
  refine JO_read (Value.slice chA ch.length chC) rfl trivial (x_load 0 rfl rfl Ty.sc27 rfl) ?_
  refine JO_read (vI ((ch.length : Nat) : Int)) rfl trivial (fun _ _ => x_len_sl Tryd.underlying27 rfl) ?_
  refine JO_read (vI (num + ((ch.length : Nat) : Int))) rfl trivial (fun _ _ => x_add_i (a := num) (b := ((ch.length : Nat) : Int)) rfl rfl (by omega) (by omega)) ?_
  refine JO_read (vI ((num + ((ch.length : Nat) : Int)) - 1)) rfl trivial (fun _ _ => x_sub_i (a := num + ((ch.length : Nat) : Int)) (b := 1) rfl rfl (by omega) (by omega)) ?_
  refine JO_read (vI ((num + ((ch.length : Nat) : Int)) - 1)) rfl trivial (fun _ _ => rfl) ?_
  refine JO_nil ?_
  refine JX_then ?_
  refine J_ret ?_
  refine JX_rets [vI ((num + ((ch.length : Nat) : Int)) - 1)] (vI ((num + ((ch.length : Nat) : Int)) - 1)) Tryd.results31 (fun w h => ⟨rfl, trivial⟩) rfl [] (fun _ h => h.keep [false] rfl) ⟨?_, ?_⟩
  · have e_x0 : ((num + ((ch.length : Nat) : Int)) - 1 : Int) = ((num + (ch.length : Int)) - 1) := by
      first | rfl | omega | (simp_all; done) | (simp_all; omega)
    exact congrArg (fun (x0 : Int) => vI x0) e_x0
  · rfl

set_option maxRecDepth 20000 in
theorem f48_ok (num : Int) (unit : Int) (ch : List Change) (chA : Option Addr) (chC : Nat) (w : World) (chR : RO [] w chA (ch.flatMap Change.enc)) (q0 : ch.length ≤ 9223372036854775807) (q1 : ∀ i, i < ch.length → (ch.getD i default).Volume.length ≤ 9223372036854775807) : Calls Tryd.prog 48 #[Value.agg #[vI num, vI unit, Value.slice chA ch.length chC]] w (Gives [] w fun v L => v = vB (R47.sound num unit ch) ∧ L = []) := by
  refine calls_J [] 53 Tryd.func48 rfl Tryd.ntmps48 [(0, Value.agg #[vI num, vI unit, Value.slice chA ch.length chC])] rfl rfl (Give.nil w) ?_
  refine J_seq ?_
  refine J_region ?_
  refine JO_op rfl trivial (O_box rfl rfl fun b1 => ?_)
  refine JO_read (vB false) rfl trivial (fun _ _ => rfl) ?_
  refine JO_nil ?_
  refine JX_then ?_
  refine J_seq ?_
  refine J_seq ?_
  refine J_region ?_
  refine JO_read (Value.pointer (some ⟨b1, 1, none⟩)) rfl trivial (fun _ _ => x_fieldAddr Ty.fi29_1 rfl rfl) ?_
  refine JO_read (vI unit) rfl trivial (x_load 0 rfl rfl Ty.sc3 rfl) ?_
  refine JO_read (vB (decide (unit < 1))) rfl trivial (fun _ _ => x_lss_i rfl rfl) ?_
  refine JO_read (vB (decide (unit < 1))) rfl trivial (fun _ _ => rfl) ?_
  refine JO_cut (X := Bool) 4 (fun z => z = ((decide (unit < 1)) || (decide ((1099511627776 : Int) < unit)))) (fun z => [(1, Value.pointer (some ⟨b1, 0, none⟩)), (2, vB false), (11, vB z)]) (fun _ => [Ent.blk b1 29 [vI num, vI unit, Value.slice chA ch.length chC]]) ?_ ?_
  · rcases Bool.eq_false_or_eq_true (decide (unit < 1)) with g3 | g3
    · have g3r := g3
      have g3r := of_decide_eq_true g3r
      refine JO_shun rfl ⟨_, rfl, g3⟩ ?_
      refine JO_shun rfl ⟨_, rfl, g3⟩ ?_
      refine JO_shun rfl ⟨_, rfl, g3⟩ ?_
      refine JO_read (vB true) rfl trivial (fun _ _ => x_pick_t rfl g3 rfl) ?_
      refine JO_nil (JX_cut (true) (by rw [g3]; simp) ⟨rfl, rfl, rfl, trivial⟩ (fun _ h => h))
    · have g3r := g3
      have g3r := of_decide_eq_false g3r
      refine JO_read (Value.pointer (some ⟨b1, 1, none⟩)) rfl ⟨_, rfl, g3⟩ (fun _ _ => x_fieldAddr Ty.fi29_1 rfl rfl) ?_
      refine JO_read (vI unit) rfl ⟨_, rfl, g3⟩ (x_load 0 rfl rfl Ty.sc3 rfl) ?_
      refine JO_read (vB (decide ((1099511627776 : Int) < unit))) rfl ⟨_, rfl, g3⟩ (fun _ _ => x_gtr_i rfl rfl) ?_
      refine JO_read (vB (decide ((1099511627776 : Int) < unit))) rfl trivial (fun _ _ => x_pick_f rfl g3 rfl) ?_
      refine JO_nil (JX_cut (decide ((1099511627776 : Int) < unit)) (by rw [g3]; simp) ⟨rfl, rfl, rfl, trivial⟩ (fun _ h => h))
  rintro z2 rfl
  refine JO_read (vB ((decide (unit < 1)) || (decide ((1099511627776 : Int) < unit)))) rfl trivial (fun _ _ => rfl) ?_
  refine JO_cut (X := Bool) 4 (fun z => z = (((decide (unit < 1)) || (decide ((1099511627776 : Int) < unit))) || (decide (num < 1)))) (fun z => [(1, Value.pointer (some ⟨b1, 0, none⟩)), (2, vB false), (16, vB z)]) (fun _ => [Ent.blk b1 29 [vI num, vI unit, Value.slice chA ch.length chC]]) ?_ ?_
  · rcases Bool.eq_false_or_eq_true ((decide (unit < 1)) || (decide ((1099511627776 : Int) < unit))) with g5 | g5
    · have g5r := g5
      simp only [Bool.and_eq_true, Bool.or_eq_true, Bool.and_eq_false_iff, Bool.or_eq_false_iff, Bool.not_eq_true', Bool.not_eq_false', decide_eq_true_eq, decide_eq_false_iff_not] at g5r
      refine JO_shun rfl ⟨_, rfl, g5⟩ ?_
      refine JO_shun rfl ⟨_, rfl, g5⟩ ?_
      refine JO_shun rfl ⟨_, rfl, g5⟩ ?_
      refine JO_read (vB true) rfl trivial (fun _ _ => x_pick_t rfl g5 rfl) ?_
      refine JO_nil (JX_cut (true) (by rw [g5]; simp) ⟨rfl, rfl, rfl, trivial⟩ (fun _ h => h))
    · have g5r := g5
      have ⟨g5r, h6⟩ := bor_false g5r
      have g5r := of_decide_eq_false g5r
      have h6 := of_decide_eq_false h6
      refine JO_read (Value.pointer (some ⟨b1, 0, none⟩)) rfl ⟨_, rfl, g5⟩ (fun _ _ => x_fieldAddr Ty.fi29_0 rfl rfl) ?_
      refine JO_read (vI num) rfl ⟨_, rfl, g5⟩ (x_load 0 rfl rfl Ty.sc3 rfl) ?_
      refine JO_read (vB (decide (num < 1))) rfl ⟨_, rfl, g5⟩ (fun _ _ => x_lss_i rfl rfl) ?_
      refine JO_read (vB (decide (num < 1))) rfl trivial (fun _ _ => x_pick_f rfl g5 rfl) ?_
      refine JO_nil (JX_cut (decide (num < 1)) (by rw [g5]; simp) ⟨rfl, rfl, rfl, trivial⟩ (fun _ h => h))
  rintro z4 rfl
  refine JO_read (vB (((decide (unit < 1)) || (decide ((1099511627776 : Int) < unit))) || (decide (num < 1)))) rfl trivial (fun _ _ => rfl) ?_
  refine JO_cut (X := Bool) 4 (fun z => z = ((((decide (unit < 1)) || (decide ((1099511627776 : Int) < unit))) || (decide (num < 1))) || (decide ((1099511627776 : Int) < num)))) (fun z => [(1, Value.pointer (some ⟨b1, 0, none⟩)), (2, vB false), (21, vB z)]) (fun _ => [Ent.blk b1 29 [vI num, vI unit, Value.slice chA ch.length chC]]) ?_ ?_
  · rcases Bool.eq_false_or_eq_true (((decide (unit < 1)) || (decide ((1099511627776 : Int) < unit))) || (decide (num < 1))) with g8 | g8
    · have g8r := g8
      simp only [Bool.and_eq_true, Bool.or_eq_true, Bool.and_eq_false_iff, Bool.or_eq_false_iff, Bool.not_eq_true', Bool.not_eq_false', decide_eq_true_eq, decide_eq_false_iff_not] at g8r
      refine JO_shun rfl ⟨_, rfl, g8⟩ ?_
      refine JO_shun rfl ⟨_, rfl, g8⟩ ?_
      refine JO_shun rfl ⟨_, rfl, g8⟩ ?_
      refine JO_read (vB true) rfl trivial (fun _ _ => x_pick_t rfl g8 rfl) ?_
      refine JO_nil (JX_cut (true) (by rw [g8]; simp) ⟨rfl, rfl, rfl, trivial⟩ (fun _ h => h))
    · have g8r := g8
      have ⟨g8r, h9⟩ := bor_false g8r
      have ⟨g8r, h10⟩ := bor_false g8r
      have g8r := of_decide_eq_false g8r
      have h10 := of_decide_eq_false h10
      have h9 := of_decide_eq_false h9
      refine JO_read (Value.pointer (some ⟨b1, 0, none⟩)) rfl ⟨_, rfl, g8⟩ (fun _ _ => x_fieldAddr Ty.fi29_0 rfl rfl) ?_
      refine JO_read (vI num) rfl ⟨_, rfl, g8⟩ (x_load 0 rfl rfl Ty.sc3 rfl) ?_
      refine JO_read (vB (decide ((1099511627776 : Int) < num))) rfl ⟨_, rfl, g8⟩ (fun _ _ => x_gtr_i rfl rfl) ?_
      refine JO_read (vB (decide ((1099511627776 : Int) < num))) rfl trivial (fun _ _ => x_pick_f rfl g8 rfl) ?_
      refine JO_nil (JX_cut (decide ((1099511627776 : Int) < num)) (by rw [g8]; simp) ⟨rfl, rfl, rfl, trivial⟩ (fun _ h => h))
  rintro z7 rfl
  refine JO_read (vB ((((decide (unit < 1)) || (decide ((1099511627776 : Int) < unit))) || (decide (num < 1))) || (decide ((1099511627776 : Int) < num)))) rfl trivial (fun _ _ => rfl) ?_
  refine JO_cut (X := Bool) 5 (fun z => z = (((((decide (unit < 1)) || (decide ((1099511627776 : Int) < unit))) || (decide (num < 1))) || (decide ((1099511627776 : Int) < num))) || (decide (((ch.length : Nat) : Int) < 1)))) (fun z => [(1, Value.pointer (some ⟨b1, 0, none⟩)), (2, vB false), (27, vB z)]) (fun _ => [Ent.blk b1 29 [vI num, vI unit, Value.slice chA ch.length chC]]) ?_ ?_
  · rcases Bool.eq_false_or_eq_true ((((decide (unit < 1)) || (decide ((1099511627776 : Int) < unit))) || (decide (num < 1))) || (decide ((1099511627776 : Int) < num))) with g12 | g12
    · have g12r := g12
      simp only [Bool.and_eq_true, Bool.or_eq_true, Bool.and_eq_false_iff, Bool.or_eq_false_iff, Bool.not_eq_true', Bool.not_eq_false', decide_eq_true_eq, decide_eq_false_iff_not] at g12r
      refine JO_shun rfl ⟨_, rfl, g12⟩ ?_
      refine JO_shun rfl ⟨_, rfl, g12⟩ ?_
      refine JO_shun rfl ⟨_, rfl, g12⟩ ?_
      refine JO_shun rfl ⟨_, rfl, g12⟩ ?_
      refine JO_read (vB true) rfl trivial (fun _ _ => x_pick_t rfl g12 rfl) ?_
      refine JO_nil (JX_cut (true) (by rw [g12]; simp) ⟨rfl, rfl, rfl, trivial⟩ (fun _ h => h))
    · have g12r := g12
      have ⟨g12r, h13⟩ := bor_false g12r
      have ⟨g12r, h14⟩ := bor_false g12r
      have ⟨g12r, h15⟩ := bor_false g12r
      have g12r := of_decide_eq_false g12r
      have h15 := of_decide_eq_false h15
      have h14 := of_decide_eq_false h14
      have h13 := of_decide_eq_false h13
      refine JO_read (Value.pointer (some ⟨b1, 2, none⟩)) rfl ⟨_, rfl, g12⟩ (fun _ _ => x_fieldAddr Ty.fi29_2 rfl rfl) ?_
      refine JO_read (Value.slice chA ch.length chC) rfl ⟨_, rfl, g12⟩ (x_load 0 rfl rfl Ty.sc27 rfl) ?_
      refine JO_read (vI ((ch.length : Nat) : Int)) rfl ⟨_, rfl, g12⟩ (fun _ _ => x_len_sl Tryd.underlying27 rfl) ?_
      refine JO_read (vB (decide (((ch.length : Nat) : Int) < 1))) rfl ⟨_, rfl, g12⟩ (fun _ _ => x_lss_i rfl rfl) ?_
      refine JO_read (vB (decide (((ch.length : Nat) : Int) < 1))) rfl trivial (fun _ _ => x_pick_f rfl g12 rfl) ?_
      refine JO_nil (JX_cut (decide (((ch.length : Nat) : Int) < 1)) (by rw [g12]; simp) ⟨rfl, rfl, rfl, trivial⟩ (fun _ h => h))
  rintro z11 rfl
  refine JO_read (vB (((((decide (unit < 1)) || (decide ((1099511627776 : Int) < unit))) || (decide (num < 1))) || (decide ((1099511627776 : Int) < num))) || (decide (((ch.length : Nat) : Int) < 1)))) rfl trivial (fun _ _ => rfl) ?_
  refine JO_cut (X := Bool) 5 (fun z => z = ((((((decide (unit < 1)) || (decide ((1099511627776 : Int) < unit))) || (decide (num < 1))) || (decide ((1099511627776 : Int) < num))) || (decide (((ch.length : Nat) : Int) < 1))) || (decide ((300 : Int) < ((ch.length : Nat) : Int))))) (fun z => [(1, Value.pointer (some ⟨b1, 0, none⟩)), (2, vB false), (33, vB z)]) (fun _ => [Ent.blk b1 29 [vI num, vI unit, Value.slice chA ch.length chC]]) ?_ ?_
  · rcases Bool.eq_false_or_eq_true (((((decide (unit < 1)) || (decide ((1099511627776 : Int) < unit))) || (decide (num < 1))) || (decide ((1099511627776 : Int) < num))) || (decide (((ch.length : Nat) : Int) < 1))) with g17 | g17
    · have g17r := g17
      simp only [Bool.and_eq_true, Bool.or_eq_true, Bool.and_eq_false_iff, Bool.or_eq_false_iff, Bool.not_eq_true', Bool.not_eq_false', decide_eq_true_eq, decide_eq_false_iff_not] at g17r
      refine JO_shun rfl ⟨_, rfl, g17⟩ ?_
      refine JO_shun rfl ⟨_, rfl, g17⟩ ?_
      refine JO_shun rfl ⟨_, rfl, g17⟩ ?_
      refine JO_shun rfl ⟨_, rfl, g17⟩ ?_
      refine JO_read (vB true) rfl trivial (fun _ _ => x_pick_t rfl g17 rfl) ?_
      refine JO_nil (JX_cut (true) (by rw [g17]; simp) ⟨rfl, rfl, rfl, trivial⟩ (fun _ h => h))
    · have g17r := g17
      have ⟨g17r, h18⟩ := bor_false g17r
      have ⟨g17r, h19⟩ := bor_false g17r
      have ⟨g17r, h20⟩ := bor_false g17r
      have ⟨g17r, h21⟩ := bor_false g17r
      have g17r := of_decide_eq_false g17r
      have h21 := of_decide_eq_false h21
      have h20 := of_decide_eq_false h20
      have h19 := of_decide_eq_false h19
      have h18 := of_decide_eq_false h18
      refine JO_read (Value.pointer (some ⟨b1, 2, none⟩)) rfl ⟨_, rfl, g17⟩ (fun _ _ => x_fieldAddr Ty.fi29_2 rfl rfl) ?_
      refine JO_read (Value.slice chA ch.length chC) rfl ⟨_, rfl, g17⟩ (x_load 0 rfl rfl Ty.sc27 rfl) ?_
      refine JO_read (vI ((ch.length : Nat) : Int)) rfl ⟨_, rfl, g17⟩ (fun _ _ => x_len_sl Tryd.underlying27 rfl) ?_
      refine JO_read (vB (decide ((300 : Int) < ((ch.length : Nat) : Int)))) rfl ⟨_, rfl, g17⟩ (fun _ _ => x_gtr_i rfl rfl) ?_
      refine JO_read (vB (decide ((300 : Int) < ((ch.length : Nat) : Int)))) rfl trivial (fun _ _ => x_pick_f rfl g17 rfl) ?_
      refine JO_nil (JX_cut (decide ((300 : Int) < ((ch.length : Nat) : Int))) (by rw [g17]; simp) ⟨rfl, rfl, rfl, trivial⟩ (fun _ h => h))
  rintro z16 rfl
  refine JO_read (vB ((((((decide (unit < 1)) || (decide ((1099511627776 : Int) < unit))) || (decide (num < 1))) || (decide ((1099511627776 : Int) < num))) || (decide (((ch.length : Nat) : Int) < 1))) || (decide ((300 : Int) < ((ch.length : Nat) : Int))))) rfl trivial (fun _ _ => rfl) ?_
  refine JO_cut (X := Bool) 4 (fun z => z = (((((((decide (unit < 1)) || (decide ((1099511627776 : Int) < unit))) || (decide (num < 1))) || (decide ((1099511627776 : Int) < num))) || (decide (((ch.length : Nat) : Int) < 1))) || (decide ((300 : Int) < ((ch.length : Nat) : Int)))) || (decide ((1099511627776 : Int) < (num + (ch.length : Int)) - 1)))) (fun z => [(1, Value.pointer (some ⟨b1, 0, none⟩)), (2, vB false), (38, vB z)]) (fun _ => [Ent.blk b1 29 [vI num, vI unit, Value.slice chA ch.length chC]]) ?_ ?_
  · rcases Bool.eq_false_or_eq_true ((((((decide (unit < 1)) || (decide ((1099511627776 : Int) < unit))) || (decide (num < 1))) || (decide ((1099511627776 : Int) < num))) || (decide (((ch.length : Nat) : Int) < 1))) || (decide ((300 : Int) < ((ch.length : Nat) : Int)))) with g23 | g23
    · have g23r := g23
      simp only [Bool.and_eq_true, Bool.or_eq_true, Bool.and_eq_false_iff, Bool.or_eq_false_iff, Bool.not_eq_true', Bool.not_eq_false', decide_eq_true_eq, decide_eq_false_iff_not] at g23r
      refine JO_shun rfl ⟨_, rfl, g23⟩ ?_
      refine JO_shun rfl ⟨_, rfl, g23⟩ ?_
      refine JO_shun rfl ⟨_, rfl, g23⟩ ?_
      refine JO_read (vB true) rfl trivial (fun _ _ => x_pick_t rfl g23 rfl) ?_
      refine JO_nil (JX_cut (true) (by rw [g23]; simp) ⟨rfl, rfl, rfl, trivial⟩ (fun _ h => h))
    · have g23r := g23
      have ⟨g23r, h24⟩ := bor_false g23r
      have ⟨g23r, h25⟩ := bor_false g23r
      have ⟨g23r, h26⟩ := bor_false g23r
      have ⟨g23r, h27⟩ := bor_false g23r
      have ⟨g23r, h28⟩ := bor_false g23r
      have g23r := of_decide_eq_false g23r
      have h28 := of_decide_eq_false h28
      have h27 := of_decide_eq_false h27
      have h26 := of_decide_eq_false h26
      have h25 := of_decide_eq_false h25
      have h24 := of_decide_eq_false h24
      refine JO_read (Value.agg #[vI num, vI unit, Value.slice chA ch.length chC]) rfl ⟨_, rfl, g23⟩ (x_loadN 0 [vI num, vI unit, Value.slice chA ch.length chC] rfl rfl Ty.ag29 Ty.sz29 rfl) ?_
      refine JO_call [] [] [Ent.blk b1 29 [vI num, vI unit, Value.slice chA ch.length chC]] rfl ⟨_, rfl, g23⟩ (fun _ => x_call Ty.ca31 rfl) (fun _ h => h) (fun _ h => by cases h) (fun w hS => f31_ok num unit ch chA chC w (chR.on hS (fun _ h => by cases h)) hy_ hy_ hy_) ?_
      rintro _ _ ⟨rfl, rfl⟩
      refine JO_read (vB (decide ((1099511627776 : Int) < (num + (ch.length : Int)) - 1))) rfl ⟨_, rfl, g23⟩ (fun _ _ => x_gtr_i rfl rfl) ?_
      refine JO_read (vB (decide ((1099511627776 : Int) < (num + (ch.length : Int)) - 1))) rfl trivial (fun _ _ => x_pick_f rfl g23 rfl) ?_
      refine JO_nil (JX_cut (decide ((1099511627776 : Int) < (num + (ch.length : Int)) - 1)) (by rw [g23]; simp) ⟨rfl, rfl, rfl, trivial⟩ (fun _ h => h))
  rintro z22 rfl
  refine JO_nil ?_
  refine JX_then ?_
  refine J_cond (((((((decide (unit < 1)) || (decide ((1099511627776 : Int) < unit))) || (decide (num < 1))) || (decide ((1099511627776 : Int) < num))) || (decide (((ch.length : Nat) : Int) < 1))) || (decide ((300 : Int) < ((ch.length : Nat) : Int)))) || (decide ((1099511627776 : Int) < (num + (ch.length : Int)) - 1))) rfl rfl (fun h29 => ?_) (fun h29 => ?_)
  · simp only [Bool.and_eq_true, Bool.or_eq_true, Bool.and_eq_false_iff, Bool.or_eq_false_iff, Bool.not_eq_true', Bool.not_eq_false', decide_eq_true_eq, decide_eq_false_iff_not] at h29
    refine J_seq ?_
    refine J_region ?_
    refine JO_read (vB false) rfl trivial (fun _ _ => rfl) ?_
    refine JO_nil ?_
    refine JX_then ?_
    refine J_ret ?_
    refine JX_then_ret ?_
    refine JX_rets [vB false] (vB false) Tryd.results48 (fun w h => ⟨rfl, trivial⟩) rfl [] (fun _ h => h.keep [false] rfl) ⟨?_, ?_⟩
    · have e_x0 : (false : Bool) = (R47.sound num unit ch) := by
        first | exact (R47.sound_no (by omega)).symm | exact (R47.sound_bad (k := k) (by omega) (by assumption)).symm | (rw [R47.sound_all (by omega)]; exact (R47.all_i (fun i hi => i1_1 i (by omega))).symm)
      exact congrArg (fun (x0 : Bool) => vB x0) e_x0
    · rfl
  · have ⟨h29, h30⟩ := bor_false h29
    have ⟨h29, h31⟩ := bor_false h29
    have ⟨h29, h32⟩ := bor_false h29
    have ⟨h29, h33⟩ := bor_false h29
    have ⟨h29, h34⟩ := bor_false h29
    have ⟨h29, h35⟩ := bor_false h29
    have h29 := of_decide_eq_false h29
    have h35 := of_decide_eq_false h35
    have h34 := of_decide_eq_false h34
    have h33 := of_decide_eq_false h33
    have h32 := of_decide_eq_false h32
    have h31 := of_decide_eq_false h31
    have h30 := of_decide_eq_false h30
    refine J_skip ?_
    refine JX_then ?_
    refine J_seq ?_
    refine J_seq ?_
    refine J_region ?_
    refine JO_read (vI 0) rfl trivial (fun _ _ => rfl) ?_
    refine JO_nil ?_
    refine JX_then ?_
    refine J_block ?_
    refine J_loop (X := Nat) (fun (k : Nat) => (k ≤ ch.length) ∧ (∀ i, i < k → R47.valid (ch.getD i default) = true)) (fun (k : Nat) => [(1, Value.pointer (some ⟨b1, 0, none⟩)), (3, vI ((k : Nat) : Int))]) (fun (k : Nat) => [Ent.blk b1 29 [vI num, vI unit, Value.slice chA ch.length chC]]) (fun (k : Nat) => ch.length - k) (0 : Nat) ?_ ⟨rfl, rfl, trivial⟩ (fun _ h => h) ?_
    · show (0 ≤ ch.length) ∧ (∀ i, i < 0 → R47.valid (ch.getD i default) = true)
      refine ⟨?_, ?_⟩
      · first | rfl | omega | (simp_all; done) | (simp_all; omega)
      · intro i hi; omega
    intro k hI1
    obtain ⟨i1_0, i1_1⟩ : (k ≤ ch.length) ∧ (∀ i, i < k → R47.valid (ch.getD i default) = true) := hI1
    have hvk := q1 k
    refine J_weaken (E' := [(1, Value.pointer (some ⟨b1, 0, none⟩)), (3, vI ((k : Nat) : Int))]) (L' := [Ent.blk b1 29 [vI num, vI unit, Value.slice chA ch.length chC]]) ⟨rfl, rfl, trivial⟩ (fun _ h => h) ?_
    refine J_seq ?_
    refine J_seq ?_
    refine J_region ?_
    refine JO_read (vI ((k : Nat) : Int)) rfl trivial (fun _ _ => rfl) ?_
    refine JO_read (Value.pointer (some ⟨b1, 2, none⟩)) rfl trivial (fun _ _ => x_fieldAddr Ty.fi29_2 rfl rfl) ?_
    refine JO_read (Value.slice chA ch.length chC) rfl trivial (x_load 0 rfl rfl Ty.sc27 rfl) ?_
    refine JO_read (vI ((ch.length : Nat) : Int)) rfl trivial (fun _ _ => x_len_sl Tryd.underlying27 rfl) ?_
    refine JO_read (vB (decide (((k : Nat) : Int) < ((ch.length : Nat) : Int)))) rfl trivial (fun _ _ => x_lss_i rfl rfl) ?_
    refine JO_nil ?_
    refine JX_then ?_
    refine J_cond (decide (((k : Nat) : Int) < ((ch.length : Nat) : Int))) rfl rfl (fun h36 => ?_) (fun h36 => ?_)
    · have h36 := of_decide_eq_true h36
      refine J_skip ?_
      refine JX_then ?_
      refine J_seq ?_
      refine J_block ?_
      refine J_seq ?_
      refine J_region ?_
      refine JO_read (Value.pointer (some ⟨b1, 2, none⟩)) rfl trivial (fun _ _ => x_fieldAddr Ty.fi29_2 rfl rfl) ?_
      refine JO_read (Value.slice chA ch.length chC) rfl trivial (x_load 0 rfl rfl Ty.sc27 rfl) ?_
      refine JO_read (vI ((k : Nat) : Int)) rfl trivial (fun _ _ => rfl) ?_
      refine JO_read (Value.pointer (some (adr chA (k * 5)))) rfl trivial (x_indexAddr_at (k := k) (off := k * 5) (cells_ro chR) Tryd.underlying27 Ty.sz23 rfl rfl lt_ (by rw [flat_length Change.enc 5 Change.enc_len]; first | omega | (simp; omega) | (simp_all; omega) | (simp_all; done)) rfl) ?_
      refine JO_read (Value.agg ((Change.enc (ch.getD k default))).toArray) rfl trivial (x_loadN_at (Change.enc (ch.getD k default)) (cells_ro chR) rfl Ty.ag23 Ty.sz23 (flat_drop Change.enc 5 Change.enc_len ch default k lt_)) ?_
      refine JO_call [] [] [Ent.blk b1 29 [vI num, vI unit, Value.slice chA ch.length chC]] rfl trivial (fun _ => x_call Ty.ca12 rfl) (fun _ h => h) (fun _ h => by cases h) (fun w hS => f12_ok (ch.getD k default) w hy_) ?_
      rintro _ _ ⟨rfl, rfl⟩
      refine JO_read (vB (!(R47.valid (ch.getD k default)))) rfl trivial (fun _ _ => x_not rfl) ?_
      refine JO_nil ?_
      refine JX_then ?_
      refine J_cond (!(R47.valid (ch.getD k default))) rfl rfl (fun h37 => ?_) (fun h37 => ?_)
      · have h37 : (R47.valid (ch.getD k default)) = false := bnot_true h37
        refine J_seq ?_
        refine J_region ?_
        refine JO_read (vB false) rfl trivial (fun _ _ => rfl) ?_
        refine JO_nil ?_
        refine JX_then ?_
        refine J_ret ?_
        refine JX_block_ret ?_
        refine JX_then_ret ?_
        refine JX_round_ret ?_
        refine JX_block_ret ?_
        refine JX_then_ret ?_
        refine JX_rets [vB false] (vB false) Tryd.results48 (fun w h => ⟨rfl, trivial⟩) rfl [] (fun _ h => h.keep [false] rfl) ⟨?_, ?_⟩
        · have e_x0 : (false : Bool) = (R47.sound num unit ch) := by
            first | exact (R47.sound_no (by omega)).symm | exact (R47.sound_bad (k := k) (by omega) (by assumption)).symm | (rw [R47.sound_all (by omega)]; exact (R47.all_i (fun i hi => i1_1 i (by omega))).symm)
          exact congrArg (fun (x0 : Bool) => vB x0) e_x0
        · rfl
      · have h37 : (R47.valid (ch.getD k default)) = true := bnot_false h37
        have hi38 := R47.valid_facts h37
        refine J_skip ?_
        refine JX_block ?_
        refine JX_then ?_
        refine J_region ?_
        refine JO_read (vI ((k : Nat) : Int)) rfl trivial (fun _ _ => rfl) ?_
        refine JO_read (vI ((k + 1 : Nat) : Int)) rfl trivial (fun _ _ => x_add_n (a := k) (b := 1) rfl rfl (by omega)) ?_
        refine JO_read (vI ((k + 1 : Nat) : Int)) rfl trivial (fun _ _ => rfl) ?_
        refine JO_nil ?_
        refine JX_round (k + 1 : Nat) ?_ ?_ ⟨rfl, rfl, trivial⟩ (fun _ h => h)
        · show ((k + 1) ≤ ch.length) ∧ (∀ i, i < (k + 1) → R47.valid (ch.getD i default) = true)
          refine ⟨?_, ?_⟩
          · first | rfl | omega | (simp_all; done) | (simp_all; omega)
          · intro i hi
            by_cases hik : i = k
            · subst hik; assumption
            · exact i1_1 i (by omega)
        · show ch.length - (k + 1) < ch.length - k
          first | omega | (simp; omega) | (simp_all; omega)
    · have h36 := of_decide_eq_false h36
      refine J_exit ?_
      refine JX_then_exit ?_
      refine JX_round_exit ?_
      refine JX_block_hit ?_
      refine JX_then ?_
      refine J_seq ?_
      refine J_region ?_
      refine JO_read (vB true) rfl trivial (fun _ _ => rfl) ?_
      refine JO_nil ?_
      refine JX_then ?_
      refine J_ret ?_
      refine JX_rets [vB true] (vB true) Tryd.results48 (fun w h => ⟨rfl, trivial⟩) rfl [] (fun _ h => h.keep [false] rfl) ⟨?_, ?_⟩
      · have e_x0 : (true : Bool) = (R47.sound num unit ch) := by
          first | exact (R47.sound_no (by omega)).symm | exact (R47.sound_bad (k := k) (by omega) (by assumption)).symm | (rw [R47.sound_all (by omega)]; exact (R47.all_i (fun i hi => i1_1 i (by omega))).symm)
        exact congrArg (fun (x0 : Bool) => vB x0) e_x0
      · rfl

end Go.Proofs.YtknibpmmjhmjeaaDoor
