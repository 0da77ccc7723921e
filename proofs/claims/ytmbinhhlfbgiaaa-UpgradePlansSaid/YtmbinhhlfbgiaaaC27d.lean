/- contracts C27d -/
import Derived.Test.YtmbinhhlfbgiaaaC27c
import Derived.Test.YtmbinhhlfbgiaaaGvR
namespace Go.Proofs.Ytmbinhhlfbgiaaa
open Go.GV
set_option linter.unusedVariables false
set_option linter.unusedSimpArgs false
set_option maxRecDepth 20000 in
theorem f31_ok (d : DataSet) (c : Change) (w : World) (q0 : R16.valid d = true) (q1 : c.Record.length ≤ 1000000) (q2 : c.Key.length ≤ 1000000) : Calls Try.prog 31 #[Value.agg ((DataSet.enc d)).toArray, Value.agg ((Change.enc c)).toArray] w (Gives [] w fun v L => v = vB (R27.isChange d c) ∧ L = []) := by
 have hv := R16.valid_facts q0
 refine calls_J [] 144 Try.func31 rfl Try.ntmps31 [(0, Value.agg ((DataSet.enc d)).toArray), (1, Value.agg ((Change.enc c)).toArray)] rfl rfl (Give.nil w) ?_
 refine J_seq (J_region ?_)
 refine JO_op rfl trivial (O_box rfl rfl fun b1 => ?_)
 refine JO_op rfl trivial (O_box rfl rfl fun b2 => ?_)
 refine jr_ (vB false) ?_
 refine JO_nil (JX_then (J_seq (J_seq (J_region ?_))))
 refine js_ (Value.pointer (some ⟨b2, 1, none⟩)) (x_fieldAddr Ty.fi27_1 rfl rfl) ?_
 refine JO_read (vI c.Id) rfl trivial (x_load 0 rfl rfl Ty.sc3 rfl) ?_
 refine js_ (Value.pointer (some ⟨b1, 0, none⟩)) (x_fieldAddr Ty.fi24_0 rfl rfl) ?_
 refine JO_read (vI d.Id) rfl trivial (x_load 1 rfl rfl Ty.sc3 rfl) ?_
 refine js_ (vB (decide (c.Id ≠ d.Id))) (x_neq_i rfl rfl) ?_
 refine jr_ (vB (decide (c.Id ≠ d.Id))) ?_
 refine JO_cut 4 (fun z => z = ((decide (c.Id ≠ d.Id)) || (decide (c.Volume ≠ ([] : Bytes))))) (fun z => [(2, Value.pointer (some ⟨b1, 0, none⟩)), (3, Value.pointer (some ⟨b2, 0, none⟩)), (4, vB false), (19, vB z)]) (fun _ => [Ent.blk b2 27 (Change.enc c), Ent.blk b1 24 (DataSet.enc d)]) ?_ ?_
 ·rcases Bool.eq_false_or_eq_true (decide (c.Id ≠ d.Id)) with g4 | g4
  ·have g4r := g4
   have g4r := of_decide_eq_true g4r
   refine sh_ g4 ?_
   refine sh_ g4 ?_
   refine sh_ g4 ?_
   refine js_ (vB true) (x_pick_t rfl g4 rfl) ?_
   refine JO_nil (JX_cut (true) (by rw [g4]; simp) ⟨rfl, rfl, rfl, rfl, trivial⟩ (fun _ h => h))
  ·have g4r := g4
   have g4r := of_decide_eq_false g4r
   refine jg_ g4 (Value.pointer (some ⟨b2, 4, none⟩)) (x_fieldAddr Ty.fi27_4 rfl rfl) ?_
   refine JO_read (vS c.Volume) rfl ⟨_, rfl, g4⟩ (x_load 0 rfl rfl Ty.sc9 rfl) ?_
   refine jg_ g4 (vB (decide (c.Volume ≠ ([] : Bytes)))) (x_neq_s rfl rfl) ?_
   refine js_ (vB (decide (c.Volume ≠ ([] : Bytes)))) (x_pick_f rfl g4 rfl) ?_
   refine JO_nil (JX_cut (decide (c.Volume ≠ ([] : Bytes))) (by rw [g4]; simp) ⟨rfl, rfl, rfl, rfl, trivial⟩ (fun _ h => h))
 rintro z3 rfl
 refine JO_nil (JX_then ?_)
 refine J_cond ((decide (c.Id ≠ d.Id)) || (decide (c.Volume ≠ ([] : Bytes)))) rfl rfl (fun h5 => ?_) (fun h5 => ?_)
 ·have h5w := h5
  simp only [Bool.and_eq_true, Bool.or_eq_true, Bool.and_eq_false_iff, Bool.or_eq_false_iff, Bool.not_eq_true', Bool.not_eq_false', decide_eq_true_eq, decide_eq_false_iff_not] at h5
  refine J_seq (J_region ?_)
  refine jr_ (vB false) ?_
  refine JO_nil (JX_then (J_ret (JX_then_ret ?_)))
  refine JX_rets [vB false] (vB false) Try.results31 (fun w h => ⟨rfl, trivial⟩) rfl [] (fun _ h => h.keep [false, false] rfl) ⟨?_, ?_⟩
  ·have e_x0 : (false : Bool) = (R27.isChange d c) := by first | exact R27.ic_1 (by assumption) | exact R27.ic_2 (by assumption) (by assumption) | exact R27.ic_03 (by assumption) (by assumption) (by assumption) | exact R27.ic_0 q0 (by assumption) (by assumption) (by assumption) (by assumption) | exact R27.ic_k1 q0 (by assumption) (by assumption) (by assumption) | exact R27.ic_k2 (by assumption) (by assumption) | exact R27.ic_k3 (by assumption) (by assumption) | exact R27.ic_no (by assumption) (by assumption) (by assumption) (by assumption) (by assumption)
   exact congrArg (fun (x0 : Bool) => vB x0) e_x0
  ·rfl
 ·have h5w := h5
  have ⟨h5, h6⟩ := bor_false h5
  have h5 := of_decide_eq_false h5
  have h6 := of_decide_eq_false h6
  refine J_skip (JX_then (J_seq (J_region ?_)))
  refine jr_ (vI 8) ?_
  refine JO_nil (JX_then (J_seq (J_seq (J_region ?_))))
  refine js_ (Value.pointer (some ⟨b1, 1, none⟩)) (x_fieldAddr Ty.fi24_1 rfl rfl) ?_
  refine JO_read (vI d.Org) rfl trivial (x_load 1 rfl rfl Ty.sc3 rfl) ?_
  refine js_ (vB (decide (d.Org = 3))) (x_eql_i rfl rfl) ?_
  refine JO_nil (JX_then ?_)
  refine J_cutK (X := Int) (fun (m7 : Int) => m7 = (if d.Org = 3 then d.KeyLength else (8 : Int))) (fun (m7 : Int) => [(2, Value.pointer (some ⟨b1, 0, none⟩)), (3, Value.pointer (some ⟨b2, 0, none⟩)), (4, vB false), (5, vI m7)]) (fun (m7 : Int) => [Ent.blk b2 27 (Change.enc c), Ent.blk b1 24 (DataSet.enc d)]) ?_ ?_
  ·refine J_cond (decide (d.Org = 3)) rfl rfl (fun h8 => ?_) (fun h8 => ?_)
   ·have h8r := h8
    have h8r := of_decide_eq_true h8r
    have h8 : (d.Org = 3) := by exact h8r
    refine J_region ?_
    refine js_ (Value.pointer (some ⟨b1, 6, none⟩)) (x_fieldAddr Ty.fi24_6 rfl rfl) ?_
    refine JO_read (vI d.KeyLength) rfl trivial (x_load 1 rfl rfl Ty.sc3 rfl) ?_
    refine jr_ (vI d.KeyLength) ?_
    refine JO_nil ?_
    exact JX_cut (d.KeyLength) (if_pos h8).symm ⟨rfl, rfl, rfl, rfl, trivial⟩ (fun _ h => h)
   ·have h8r := h8
    have h8r := of_decide_eq_false h8r
    have h8 : ¬ (d.Org = 3) := by exact h8r
    refine J_skip ?_
    exact JX_cut ((8 : Int)) (if_neg h8).symm ⟨rfl, rfl, rfl, rfl, trivial⟩ (fun _ h => h)
  rintro m7 rfl
  refine JX_then (J_seq (J_seq (J_region ?_)))
  refine js_ (Value.pointer (some ⟨b2, 2, none⟩)) (x_fieldAddr Ty.fi27_2 rfl rfl) ?_
  refine JO_read (vS c.Key) rfl trivial (x_load 0 rfl rfl Ty.sc9 rfl) ?_
  refine JO_call [] [] [Ent.blk b2 27 (Change.enc c), Ent.blk b1 24 (DataSet.enc d)] rfl trivial (fun _ => x_call Ty.ca51 rfl) (fun _ h => h) (fun _ h => by cases h) (fun w hS => f51_ok c.Key w hy_) ?_
  rintro _ _ ⟨rfl, rfl⟩
  refine jr_ (Value.tuple #[vI ((R27.number c.Key).1), vB ((R27.number c.Key).2)]) ?_
  refine jr_ (vI ((R27.number c.Key).1)) ?_
  refine jr_ (vB ((R27.number c.Key).2)) ?_
  refine jr_ (vI ((R27.number c.Key).1)) ?_
  refine jr_ (vB ((R27.number c.Key).2)) ?_
  refine JO_nil (JX_then (J_seq (J_region ?_)))
  refine js_ (Value.pointer (some ⟨b1, 1, none⟩)) (x_fieldAddr Ty.fi24_1 rfl rfl) ?_
  refine JO_read (vI d.Org) rfl trivial (x_load 1 rfl rfl Ty.sc3 rfl) ?_
  refine js_ (vB (decide (d.Org = 2))) (x_eql_i rfl rfl) ?_
  refine jr_ (vB (decide (d.Org = 2))) ?_
  refine JO_cut 4 (fun z => z = ((decide (d.Org = 2)) && (decide (c.Kind ≠ 3)))) (fun z => [(2, Value.pointer (some ⟨b1, 0, none⟩)), (3, Value.pointer (some ⟨b2, 0, none⟩)), (4, vB false), (5, vI (if d.Org = 3 then d.KeyLength else (8 : Int))), (6, vI ((R27.number c.Key).1)), (7, vB ((R27.number c.Key).2)), (38, vB z)]) (fun _ => [Ent.blk b2 27 (Change.enc c), Ent.blk b1 24 (DataSet.enc d)]) ?_ ?_
  ·rcases Bool.eq_false_or_eq_true (decide (d.Org = 2)) with g10 | g10
   ·have g10r := g10
    have g10r := of_decide_eq_true g10r
    refine jg_ g10 (Value.pointer (some ⟨b2, 0, none⟩)) (x_fieldAddr Ty.fi27_0 rfl rfl) ?_
    refine JO_read (vI c.Kind) rfl ⟨_, rfl, g10⟩ (x_load 0 rfl rfl Ty.sc3 rfl) ?_
    refine jg_ g10 (vB (decide (c.Kind ≠ 3))) (x_neq_i rfl rfl) ?_
    refine js_ (vB (decide (c.Kind ≠ 3))) (x_pick_t rfl g10 rfl) ?_
    refine JO_nil (JX_cut (decide (c.Kind ≠ 3)) (by rw [g10]; simp) ⟨rfl, rfl, rfl, rfl, rfl, rfl, rfl, trivial⟩ (fun _ h => h))
   ·have g10r := g10
    have g10r := of_decide_eq_false g10r
    refine sh_ g10 ?_
    refine sh_ g10 ?_
    refine sh_ g10 ?_
    refine js_ (vB false) (x_pick_f rfl g10 rfl) ?_
    refine JO_nil (JX_cut (false) (by rw [g10]; simp) ⟨rfl, rfl, rfl, rfl, rfl, rfl, rfl, trivial⟩ (fun _ h => h))
  rintro z9 rfl
  refine jr_ (vB ((decide (d.Org = 2)) && (decide (c.Kind ≠ 3)))) ?_
  refine JO_cut 11 (fun z => z = (((decide (d.Org = 2)) && (decide (c.Kind ≠ 3))) && (((!((R27.number c.Key).2)) || (decide ((R27.number c.Key).1 < 1))) || (decide ((65536 : Int) < (R27.number c.Key).1))))) (fun z => [(2, Value.pointer (some ⟨b1, 0, none⟩)), (3, Value.pointer (some ⟨b2, 0, none⟩)), (4, vB false), (5, vI (if d.Org = 3 then d.KeyLength else (8 : Int))), (50, vB z)]) (fun _ => [Ent.blk b2 27 (Change.enc c), Ent.blk b1 24 (DataSet.enc d)]) ?_ ?_
  ·rcases Bool.eq_false_or_eq_true ((decide (d.Org = 2)) && (decide (c.Kind ≠ 3))) with g12 | g12
   ·have g12r := g12
    have ⟨g12r, h13⟩ := band_true g12r
    have g12r := of_decide_eq_true g12r
    have h13 := of_decide_eq_true h13
    refine jg_ g12 (vB ((R27.number c.Key).2)) (rfl) ?_
    refine jg_ g12 (vB (!((R27.number c.Key).2))) (x_not rfl) ?_
    refine jg_ g12 (vB (!((R27.number c.Key).2))) (rfl) ?_
    refine JO_cut 3 (fun z => z = ((!((R27.number c.Key).2)) || (decide ((R27.number c.Key).1 < 1)))) (fun z => [(2, Value.pointer (some ⟨b1, 0, none⟩)), (3, Value.pointer (some ⟨b2, 0, none⟩)), (4, vB false), (5, vI (if d.Org = 3 then d.KeyLength else (8 : Int))), (6, vI ((R27.number c.Key).1)), (39, vB ((decide (d.Org = 2)) && (decide (c.Kind ≠ 3)))), (45, vB z)]) (fun _ => [Ent.blk b2 27 (Change.enc c), Ent.blk b1 24 (DataSet.enc d)]) ?_ ?_
    ·rcases Bool.eq_false_or_eq_true (!((R27.number c.Key).2)) with g15 | g15
     ·have g15r := g15
      have g15r : ((R27.number c.Key).2) = false := bnot_true g15r
      refine sh_ g15 ?_
      refine sh_ g15 ?_
      refine jg_ g12 (vB true) (x_pick_t rfl g15 rfl) ?_
      refine JO_nil (JX_cut (true) (by rw [g15]; simp) ⟨rfl, rfl, rfl, rfl, rfl, rfl, rfl, trivial⟩ (fun _ h => h))
     ·have g15r := g15
      have g15r : ((R27.number c.Key).2) = true := bnot_false g15r
      refine jg_ g15 (vI ((R27.number c.Key).1)) (rfl) ?_
      refine jg_ g15 (vB (decide ((R27.number c.Key).1 < 1))) (x_lss_i rfl rfl) ?_
      refine jg_ g12 (vB (decide ((R27.number c.Key).1 < 1))) (x_pick_f rfl g15 rfl) ?_
      refine JO_nil (JX_cut (decide ((R27.number c.Key).1 < 1)) (by rw [g15]; simp) ⟨rfl, rfl, rfl, rfl, rfl, rfl, rfl, trivial⟩ (fun _ h => h))
    rintro z14 rfl
    refine jg_ g12 (vB ((!((R27.number c.Key).2)) || (decide ((R27.number c.Key).1 < 1)))) (rfl) ?_
    refine JO_cut 3 (fun z => z = (((!((R27.number c.Key).2)) || (decide ((R27.number c.Key).1 < 1))) || (decide ((65536 : Int) < (R27.number c.Key).1)))) (fun z => [(2, Value.pointer (some ⟨b1, 0, none⟩)), (3, Value.pointer (some ⟨b2, 0, none⟩)), (4, vB false), (5, vI (if d.Org = 3 then d.KeyLength else (8 : Int))), (39, vB ((decide (d.Org = 2)) && (decide (c.Kind ≠ 3)))), (49, vB z)]) (fun _ => [Ent.blk b2 27 (Change.enc c), Ent.blk b1 24 (DataSet.enc d)]) ?_ ?_
    ·rcases Bool.eq_false_or_eq_true ((!((R27.number c.Key).2)) || (decide ((R27.number c.Key).1 < 1))) with g17 | g17
     ·have g17r := g17
      simp only [Bool.and_eq_true, Bool.or_eq_true, Bool.and_eq_false_iff, Bool.or_eq_false_iff, Bool.not_eq_true', Bool.not_eq_false', decide_eq_true_eq, decide_eq_false_iff_not] at g17r
      refine sh_ g17 ?_
      refine sh_ g17 ?_
      refine jg_ g12 (vB true) (x_pick_t rfl g17 rfl) ?_
      refine JO_nil (JX_cut (true) (by rw [g17]; simp) ⟨rfl, rfl, rfl, rfl, rfl, rfl, trivial⟩ (fun _ h => h))
     ·have g17r := g17
      have ⟨g17r, h18⟩ := bor_false g17r
      have g17r : ((R27.number c.Key).2) = true := bnot_false g17r
      have h18 := of_decide_eq_false h18
      refine jg_ g17 (vI ((R27.number c.Key).1)) (rfl) ?_
      refine jg_ g17 (vB (decide ((65536 : Int) < (R27.number c.Key).1))) (x_gtr_i rfl rfl) ?_
      refine jg_ g12 (vB (decide ((65536 : Int) < (R27.number c.Key).1))) (x_pick_f rfl g17 rfl) ?_
      refine JO_nil (JX_cut (decide ((65536 : Int) < (R27.number c.Key).1)) (by rw [g17]; simp) ⟨rfl, rfl, rfl, rfl, rfl, rfl, trivial⟩ (fun _ h => h))
    rintro z16 rfl
    refine js_ (vB (((!((R27.number c.Key).2)) || (decide ((R27.number c.Key).1 < 1))) || (decide ((65536 : Int) < (R27.number c.Key).1)))) (x_pick_t rfl g12 rfl) ?_
    refine JO_nil (JX_cut (((!((R27.number c.Key).2)) || (decide ((R27.number c.Key).1 < 1))) || (decide ((65536 : Int) < (R27.number c.Key).1))) (by rw [g12]; simp) ⟨rfl, rfl, rfl, rfl, rfl, trivial⟩ (fun _ h => h))
   ·have g12r := g12
    simp only [Bool.and_eq_true, Bool.or_eq_true, Bool.and_eq_false_iff, Bool.or_eq_false_iff, Bool.not_eq_true', Bool.not_eq_false', decide_eq_true_eq, decide_eq_false_iff_not] at g12r
    refine sh_ g12 ?_
    refine sh_ g12 ?_
    refine sh_ g12 ?_
    refine JO_shunU rfl ⟨_, rfl, rfl⟩ ?_
    refine JO_shunU rfl ⟨_, rfl, rfl⟩ ?_
    refine sh_ g12 ?_
    refine sh_ g12 ?_
    refine JO_shunU rfl ⟨_, rfl, rfl⟩ ?_
    refine JO_shunU rfl ⟨_, rfl, rfl⟩ ?_
    refine sh_ g12 ?_
    refine js_ (vB false) (x_pick_f rfl g12 rfl) ?_
    refine JO_nil (JX_cut (false) (by rw [g12]; simp) ⟨rfl, rfl, rfl, rfl, rfl, trivial⟩ (fun _ h => h))
  rintro z11 rfl
  refine JO_nil (JX_then ?_)
  refine J_cond (((decide (d.Org = 2)) && (decide (c.Kind ≠ 3))) && (((!((R27.number c.Key).2)) || (decide ((R27.number c.Key).1 < 1))) || (decide ((65536 : Int) < (R27.number c.Key).1)))) rfl rfl (fun h19 => ?_) (fun h19 => ?_)
  ·have h19w := h19
   have ⟨h19, h20⟩ := band_true h19
   have ⟨h19, h21⟩ := band_true h19
   have h19 := of_decide_eq_true h19
   have h21 := of_decide_eq_true h21
   simp only [Bool.and_eq_true, Bool.or_eq_true, Bool.and_eq_false_iff, Bool.or_eq_false_iff, Bool.not_eq_true', Bool.not_eq_false', decide_eq_true_eq, decide_eq_false_iff_not] at h20
   refine J_seq (J_region ?_)
   refine jr_ (vB false) ?_
   refine JO_nil (JX_then (J_ret (JX_then_ret ?_)))
   refine JX_rets [vB false] (vB false) Try.results31 (fun w h => ⟨rfl, trivial⟩) rfl [] (fun _ h => h.keep [false, false] rfl) ⟨?_, ?_⟩
   ·have e_x0 : (false : Bool) = (R27.isChange d c) := by first | exact R27.ic_1 (by assumption) | exact R27.ic_2 (by assumption) (by assumption) | exact R27.ic_03 (by assumption) (by assumption) (by assumption) | exact R27.ic_0 q0 (by assumption) (by assumption) (by assumption) (by assumption) | exact R27.ic_k1 q0 (by assumption) (by assumption) (by assumption) | exact R27.ic_k2 (by assumption) (by assumption) | exact R27.ic_k3 (by assumption) (by assumption) | exact R27.ic_no (by assumption) (by assumption) (by assumption) (by assumption) (by assumption)
    exact congrArg (fun (x0 : Bool) => vB x0) e_x0
   ·rfl
  ·have h19w := h19
   simp only [Bool.and_eq_true, Bool.or_eq_true, Bool.and_eq_false_iff, Bool.or_eq_false_iff, Bool.not_eq_true', Bool.not_eq_false', decide_eq_true_eq, decide_eq_false_iff_not] at h19
   refine J_skip (JX_then (J_seq (J_seq (J_region ?_))))
   refine js_ (Value.pointer (some ⟨b2, 0, none⟩)) (x_fieldAddr Ty.fi27_0 rfl rfl) ?_
   refine JO_read (vI c.Kind) rfl trivial (x_load 0 rfl rfl Ty.sc3 rfl) ?_
   refine JO_nil (JX_then (J_block (J_seq (J_region ?_))))
   refine js_ (vB (decide (c.Kind = 0))) (x_eql_i rfl rfl) ?_
   refine jr_ (vB (decide (c.Kind = 0))) ?_
   refine JO_nil (JX_then ?_)
   refine J_cond (decide (c.Kind = 0)) rfl rfl (fun h22 => ?_) (fun h22 => ?_)
   ·have h22w := h22
    have h22 := of_decide_eq_true h22
    refine J_seq (J_seq (J_region ?_))
    refine js_ (Value.pointer (some ⟨b1, 1, none⟩)) (x_fieldAddr Ty.fi24_1 rfl rfl) ?_
    refine JO_read (vI d.Org) rfl trivial (x_load 1 rfl rfl Ty.sc3 rfl) ?_
    refine js_ (vB (decide (d.Org = 3))) (x_eql_i rfl rfl) ?_
    refine JO_nil (JX_then ?_)
    refine J_cond (decide (d.Org = 3)) rfl rfl (fun h23 => ?_) (fun h23 => ?_)
    ·have h23w := h23
     have h23 := of_decide_eq_true h23
     refine J_seq (J_region ?_)
     refine JO_read (Value.agg ((DataSet.enc d)).toArray) rfl trivial (x_loadN 1 (DataSet.enc d) rfl rfl Ty.ag24 Ty.sz24 rfl) ?_
     refine js_ (Value.pointer (some ⟨b2, 3, none⟩)) (x_fieldAddr Ty.fi27_3 rfl rfl) ?_
     refine JO_read (vS c.Record) rfl trivial (x_load 0 rfl rfl Ty.sc9 rfl) ?_
     refine JO_call [] [] [Ent.blk b2 27 (Change.enc c), Ent.blk b1 24 (DataSet.enc d)] rfl trivial (fun _ => x_call Ty.ca52 rfl) (fun _ h => h) (fun _ h => by cases h) (fun w hS => f52_ok d c.Record w hy_) ?_
     rintro _ _ ⟨rfl, rfl⟩
     refine jr_ (Value.tuple #[vS ((R27.ofK d c.Record).1), vI ((R27.ofK d c.Record).2)]) ?_
     refine jr_ (vS ((R27.ofK d c.Record).1)) ?_
     refine jr_ (vI ((R27.ofK d c.Record).2)) ?_
     refine jr_ (vS ((R27.ofK d c.Record).1)) ?_
     refine jr_ (vI ((R27.ofK d c.Record).2)) ?_
     refine JO_nil (JX_then (J_seq (J_region ?_)))
     refine jr_ (vI ((R27.ofK d c.Record).2)) ?_
     refine js_ (vB (decide ((R27.ofK d c.Record).2 = 0))) (x_eql_i rfl rfl) ?_
     refine jr_ (vB (decide ((R27.ofK d c.Record).2 = 0))) ?_
     refine JO_cut 5 (fun z => z = ((decide ((R27.ofK d c.Record).2 = 0)) && (decide ((R27.ofK d c.Record).1 = c.Key)))) (fun z => [(2, Value.pointer (some ⟨b1, 0, none⟩)), (3, Value.pointer (some ⟨b2, 0, none⟩)), (4, vB false), (5, vI (if d.Org = 3 then d.KeyLength else (8 : Int))), (72, vB z)]) (fun _ => [Ent.blk b2 27 (Change.enc c), Ent.blk b1 24 (DataSet.enc d)]) ?_ ?_
     ·rcases Bool.eq_false_or_eq_true (decide ((R27.ofK d c.Record).2 = 0)) with g25 | g25
      ·have g25r := g25
       have g25r := of_decide_eq_true g25r
       refine jg_ g25 (vS ((R27.ofK d c.Record).1)) (rfl) ?_
       refine jg_ g25 (Value.pointer (some ⟨b2, 2, none⟩)) (x_fieldAddr Ty.fi27_2 rfl rfl) ?_
       refine JO_read (vS c.Key) rfl ⟨_, rfl, g25⟩ (x_load 0 rfl rfl Ty.sc9 rfl) ?_
       refine jg_ g25 (vB (decide ((R27.ofK d c.Record).1 = c.Key))) (x_eql_s rfl rfl) ?_
       refine js_ (vB (decide ((R27.ofK d c.Record).1 = c.Key))) (x_pick_t rfl g25 rfl) ?_
       refine JO_nil (JX_cut (decide ((R27.ofK d c.Record).1 = c.Key)) (by rw [g25]; simp) ⟨rfl, rfl, rfl, rfl, rfl, trivial⟩ (fun _ h => h))
      ·have g25r := g25
       have g25r := of_decide_eq_false g25r
       refine sh_ g25 ?_
       refine sh_ g25 ?_
       refine sh_ g25 ?_
       refine sh_ g25 ?_
       refine js_ (vB false) (x_pick_f rfl g25 rfl) ?_
       refine JO_nil (JX_cut (false) (by rw [g25]; simp) ⟨rfl, rfl, rfl, rfl, rfl, trivial⟩ (fun _ h => h))
     rintro z24 rfl
     refine jr_ (vB ((decide ((R27.ofK d c.Record).2 = 0)) && (decide ((R27.ofK d c.Record).1 = c.Key)))) ?_
     refine JO_nil (JX_then (J_ret (JX_then_ret (JX_block_ret (JX_then_ret ?_)))))
     refine JX_rets [vB ((decide ((R27.ofK d c.Record).2 = 0)) && (decide ((R27.ofK d c.Record).1 = c.Key)))] (vB ((decide ((R27.ofK d c.Record).2 = 0)) && (decide ((R27.ofK d c.Record).1 = c.Key)))) Try.results31 (fun w h => ⟨rfl, trivial⟩) rfl [] (fun _ h => h.keep [false, false] rfl) ⟨?_, ?_⟩
     ·have e_x0 : ((decide ((R27.ofK d c.Record).2 = 0)) && (decide ((R27.ofK d c.Record).1 = c.Key)) : Bool) = (R27.isChange d c) := by first | exact R27.ic_1 (by assumption) | exact R27.ic_2 (by assumption) (by assumption) | exact R27.ic_03 (by assumption) (by assumption) (by assumption) | exact R27.ic_0 q0 (by assumption) (by assumption) (by assumption) (by assumption) | exact R27.ic_k1 q0 (by assumption) (by assumption) (by assumption) | exact R27.ic_k2 (by assumption) (by assumption) | exact R27.ic_k3 (by assumption) (by assumption) | exact R27.ic_no (by assumption) (by assumption) (by assumption) (by assumption) (by assumption)
      exact congrArg (fun (x0 : Bool) => vB x0) e_x0
     ·rfl
    ·have h23w := h23
     have h23 := of_decide_eq_false h23
     refine J_skip (JX_then (J_seq (J_region ?_)))
     refine js_ (Value.pointer (some ⟨b1, 1, none⟩)) (x_fieldAddr Ty.fi24_1 rfl rfl) ?_
     refine JO_read (vI d.Org) rfl trivial (x_load 1 rfl rfl Ty.sc3 rfl) ?_
     refine js_ (vB (decide (d.Org = 2))) (x_eql_i rfl rfl) ?_
     refine jr_ (vB (decide (d.Org = 2))) ?_
     refine JO_cut 6 (fun z => z = ((decide (d.Org = 2)) && (decide (((c.Key.length : Nat) : Int) = (if d.Org = 3 then d.KeyLength else (8 : Int)))))) (fun z => [(2, Value.pointer (some ⟨b1, 0, none⟩)), (3, Value.pointer (some ⟨b2, 0, none⟩)), (4, vB false), (82, vB z)]) (fun _ => [Ent.blk b2 27 (Change.enc c), Ent.blk b1 24 (DataSet.enc d)]) ?_ ?_
     ·rcases Bool.eq_false_or_eq_true (decide (d.Org = 2)) with g27 | g27
      ·have g27r := g27
       have g27r := of_decide_eq_true g27r
       refine jg_ g27 (Value.pointer (some ⟨b2, 2, none⟩)) (x_fieldAddr Ty.fi27_2 rfl rfl) ?_
       refine JO_read (vS c.Key) rfl ⟨_, rfl, g27⟩ (x_load 0 rfl rfl Ty.sc9 rfl) ?_
       refine jg_ g27 (vI ((c.Key.length : Nat) : Int)) (x_len_s rfl Try.underlying9) ?_
       refine jg_ g27 (vI (if d.Org = 3 then d.KeyLength else (8 : Int))) (rfl) ?_
       refine jg_ g27 (vB (decide (((c.Key.length : Nat) : Int) = (if d.Org = 3 then d.KeyLength else (8 : Int))))) (x_eql_i rfl rfl) ?_
       refine js_ (vB (decide (((c.Key.length : Nat) : Int) = (if d.Org = 3 then d.KeyLength else (8 : Int))))) (x_pick_t rfl g27 rfl) ?_
       refine JO_nil (JX_cut (decide (((c.Key.length : Nat) : Int) = (if d.Org = 3 then d.KeyLength else (8 : Int)))) (by rw [g27]; simp) ⟨rfl, rfl, rfl, rfl, trivial⟩ (fun _ h => h))
      ·have g27r := g27
       have g27r := of_decide_eq_false g27r
       refine sh_ g27 ?_
       refine sh_ g27 ?_
       refine sh_ g27 ?_
       refine sh_ g27 ?_
       refine sh_ g27 ?_
       refine js_ (vB false) (x_pick_f rfl g27 rfl) ?_
       refine JO_nil (JX_cut (false) (by rw [g27]; simp) ⟨rfl, rfl, rfl, rfl, trivial⟩ (fun _ h => h))
     rintro z26 rfl
     refine jr_ (vB ((decide (d.Org = 2)) && (decide (((c.Key.length : Nat) : Int) = (if d.Org = 3 then d.KeyLength else (8 : Int)))))) ?_
     refine JO_cut 7 (fun z => z = (((decide (d.Org = 2)) && (decide (((c.Key.length : Nat) : Int) = (if d.Org = 3 then d.KeyLength else (8 : Int))))) && (decide (((c.Record.length : Nat) : Int) = d.Length)))) (fun z => [(4, vB false), (90, vB z)]) (fun _ => [Ent.blk b2 27 (Change.enc c), Ent.blk b1 24 (DataSet.enc d)]) ?_ ?_
     ·rcases Bool.eq_false_or_eq_true ((decide (d.Org = 2)) && (decide (((c.Key.length : Nat) : Int) = (if d.Org = 3 then d.KeyLength else (8 : Int))))) with g29 | g29
      ·have g29r := g29
       have ⟨g29r, h30⟩ := band_true g29r
       have g29r := of_decide_eq_true g29r
       have h30 := of_decide_eq_true h30
       refine jg_ g29 (Value.pointer (some ⟨b2, 3, none⟩)) (x_fieldAddr Ty.fi27_3 rfl rfl) ?_
       refine JO_read (vS c.Record) rfl ⟨_, rfl, g29⟩ (x_load 0 rfl rfl Ty.sc9 rfl) ?_
       refine jg_ g29 (vI ((c.Record.length : Nat) : Int)) (x_len_s rfl Try.underlying9) ?_
       refine jg_ g29 (Value.pointer (some ⟨b1, 3, none⟩)) (x_fieldAddr Ty.fi24_3 rfl rfl) ?_
       refine JO_read (vI d.Length) rfl ⟨_, rfl, g29⟩ (x_load 1 rfl rfl Ty.sc3 rfl) ?_
       refine jg_ g29 (vB (decide (((c.Record.length : Nat) : Int) = d.Length))) (x_eql_i rfl rfl) ?_
       refine js_ (vB (decide (((c.Record.length : Nat) : Int) = d.Length))) (x_pick_t rfl g29 rfl) ?_
       refine JO_nil (JX_cut (decide (((c.Record.length : Nat) : Int) = d.Length)) (by rw [g29]; simp) ⟨rfl, rfl, trivial⟩ (fun _ h => h))
      ·have g29r := g29
       simp only [Bool.and_eq_true, Bool.or_eq_true, Bool.and_eq_false_iff, Bool.or_eq_false_iff, Bool.not_eq_true', Bool.not_eq_false', decide_eq_true_eq, decide_eq_false_iff_not] at g29r
       refine sh_ g29 ?_
       refine sh_ g29 ?_
       refine sh_ g29 ?_
       refine sh_ g29 ?_
       refine sh_ g29 ?_
       refine sh_ g29 ?_
       refine js_ (vB false) (x_pick_f rfl g29 rfl) ?_
       refine JO_nil (JX_cut (false) (by rw [g29]; simp) ⟨rfl, rfl, trivial⟩ (fun _ h => h))
     rintro z28 rfl
     refine jr_ (vB (((decide (d.Org = 2)) && (decide (((c.Key.length : Nat) : Int) = (if d.Org = 3 then d.KeyLength else (8 : Int))))) && (decide (((c.Record.length : Nat) : Int) = d.Length)))) ?_
     refine JO_nil (JX_then (J_ret (JX_block_ret (JX_then_ret ?_))))
     refine JX_rets [vB (((decide (d.Org = 2)) && (decide (((c.Key.length : Nat) : Int) = (if d.Org = 3 then d.KeyLength else (8 : Int))))) && (decide (((c.Record.length : Nat) : Int) = d.Length)))] (vB (((decide (d.Org = 2)) && (decide (((c.Key.length : Nat) : Int) = (if d.Org = 3 then d.KeyLength else (8 : Int))))) && (decide (((c.Record.length : Nat) : Int) = d.Length)))) Try.results31 (fun w h => ⟨rfl, trivial⟩) rfl [] (fun _ h => h.keep [false, false] rfl) ⟨?_, ?_⟩
     ·have e_x0 : (((decide (d.Org = 2)) && (decide (((c.Key.length : Nat) : Int) = (if d.Org = 3 then d.KeyLength else (8 : Int))))) && (decide (((c.Record.length : Nat) : Int) = d.Length)) : Bool) = (R27.isChange d c) := by first | exact R27.ic_1 (by assumption) | exact R27.ic_2 (by assumption) (by assumption) | exact R27.ic_03 (by assumption) (by assumption) (by assumption) | exact R27.ic_0 q0 (by assumption) (by assumption) (by assumption) (by assumption) | exact R27.ic_k1 q0 (by assumption) (by assumption) (by assumption) | exact R27.ic_k2 (by assumption) (by assumption) | exact R27.ic_k3 (by assumption) (by assumption) | exact R27.ic_no (by assumption) (by assumption) (by assumption) (by assumption) (by assumption)
      exact congrArg (fun (x0 : Bool) => vB x0) e_x0
     ·rfl
   ·have h22w := h22
    have h22 := of_decide_eq_false h22
    refine J_seq (J_region ?_)
    refine js_ (vB (decide (c.Kind = 1))) (x_eql_i rfl rfl) ?_
    refine jr_ (vB (decide (c.Kind = 1))) ?_
    refine JO_nil (JX_then ?_)
    refine J_cond (decide (c.Kind = 1)) rfl rfl (fun h31 => ?_) (fun h31 => ?_)
    ·have h31w := h31
     have h31 := of_decide_eq_true h31
     refine J_seq (J_region ?_)
     refine js_ (Value.pointer (some ⟨b1, 1, none⟩)) (x_fieldAddr Ty.fi24_1 rfl rfl) ?_
     refine JO_read (vI d.Org) rfl trivial (x_load 1 rfl rfl Ty.sc3 rfl) ?_
     refine js_ (vB (decide (d.Org ≠ 1))) (x_neq_i rfl rfl) ?_
     refine jr_ (vB (decide (d.Org ≠ 1))) ?_
     refine JO_cut 6 (fun z => z = ((decide (d.Org ≠ 1)) && (decide (((c.Key.length : Nat) : Int) = (if d.Org = 3 then d.KeyLength else (8 : Int)))))) (fun z => [(3, Value.pointer (some ⟨b2, 0, none⟩)), (4, vB false), (102, vB z)]) (fun _ => [Ent.blk b2 27 (Change.enc c), Ent.blk b1 24 (DataSet.enc d)]) ?_ ?_
     ·rcases Bool.eq_false_or_eq_true (decide (d.Org ≠ 1)) with g33 | g33
      ·have g33r := g33
       have g33r := of_decide_eq_true g33r
       refine jg_ g33 (Value.pointer (some ⟨b2, 2, none⟩)) (x_fieldAddr Ty.fi27_2 rfl rfl) ?_
       refine JO_read (vS c.Key) rfl ⟨_, rfl, g33⟩ (x_load 0 rfl rfl Ty.sc9 rfl) ?_
       refine jg_ g33 (vI ((c.Key.length : Nat) : Int)) (x_len_s rfl Try.underlying9) ?_
       refine jg_ g33 (vI (if d.Org = 3 then d.KeyLength else (8 : Int))) (rfl) ?_
       refine jg_ g33 (vB (decide (((c.Key.length : Nat) : Int) = (if d.Org = 3 then d.KeyLength else (8 : Int))))) (x_eql_i rfl rfl) ?_
       refine js_ (vB (decide (((c.Key.length : Nat) : Int) = (if d.Org = 3 then d.KeyLength else (8 : Int))))) (x_pick_t rfl g33 rfl) ?_
       refine JO_nil (JX_cut (decide (((c.Key.length : Nat) : Int) = (if d.Org = 3 then d.KeyLength else (8 : Int)))) (by rw [g33]; simp) ⟨rfl, rfl, rfl, trivial⟩ (fun _ h => h))
      ·have g33r := g33
       have g33r := of_decide_eq_false g33r
       refine sh_ g33 ?_
       refine sh_ g33 ?_
       refine sh_ g33 ?_
       refine sh_ g33 ?_
       refine sh_ g33 ?_
       refine js_ (vB false) (x_pick_f rfl g33 rfl) ?_
       refine JO_nil (JX_cut (false) (by rw [g33]; simp) ⟨rfl, rfl, rfl, trivial⟩ (fun _ h => h))
     rintro z32 rfl
     refine jr_ (vB ((decide (d.Org ≠ 1)) && (decide (((c.Key.length : Nat) : Int) = (if d.Org = 3 then d.KeyLength else (8 : Int)))))) ?_
     refine JO_cut 4 (fun z => z = (((decide (d.Org ≠ 1)) && (decide (((c.Key.length : Nat) : Int) = (if d.Org = 3 then d.KeyLength else (8 : Int))))) && (decide (c.Record = ([] : Bytes))))) (fun z => [(4, vB false), (107, vB z)]) (fun _ => [Ent.blk b2 27 (Change.enc c), Ent.blk b1 24 (DataSet.enc d)]) ?_ ?_
     ·rcases Bool.eq_false_or_eq_true ((decide (d.Org ≠ 1)) && (decide (((c.Key.length : Nat) : Int) = (if d.Org = 3 then d.KeyLength else (8 : Int))))) with g35 | g35
      ·have g35r := g35
       have ⟨g35r, h36⟩ := band_true g35r
       have g35r := of_decide_eq_true g35r
       have h36 := of_decide_eq_true h36
       refine jg_ g35 (Value.pointer (some ⟨b2, 3, none⟩)) (x_fieldAddr Ty.fi27_3 rfl rfl) ?_
       refine JO_read (vS c.Record) rfl ⟨_, rfl, g35⟩ (x_load 0 rfl rfl Ty.sc9 rfl) ?_
       refine jg_ g35 (vB (decide (c.Record = ([] : Bytes)))) (x_eql_s rfl rfl) ?_
       refine js_ (vB (decide (c.Record = ([] : Bytes)))) (x_pick_t rfl g35 rfl) ?_
       refine JO_nil (JX_cut (decide (c.Record = ([] : Bytes))) (by rw [g35]; simp) ⟨rfl, rfl, trivial⟩ (fun _ h => h))
      ·have g35r := g35
       simp only [Bool.and_eq_true, Bool.or_eq_true, Bool.and_eq_false_iff, Bool.or_eq_false_iff, Bool.not_eq_true', Bool.not_eq_false', decide_eq_true_eq, decide_eq_false_iff_not] at g35r
       refine sh_ g35 ?_
       refine sh_ g35 ?_
       refine sh_ g35 ?_
       refine js_ (vB false) (x_pick_f rfl g35 rfl) ?_
       refine JO_nil (JX_cut (false) (by rw [g35]; simp) ⟨rfl, rfl, trivial⟩ (fun _ h => h))
     rintro z34 rfl
     refine jr_ (vB (((decide (d.Org ≠ 1)) && (decide (((c.Key.length : Nat) : Int) = (if d.Org = 3 then d.KeyLength else (8 : Int))))) && (decide (c.Record = ([] : Bytes))))) ?_
     refine JO_nil (JX_then (J_ret (JX_block_ret (JX_then_ret ?_))))
     refine JX_rets [vB (((decide (d.Org ≠ 1)) && (decide (((c.Key.length : Nat) : Int) = (if d.Org = 3 then d.KeyLength else (8 : Int))))) && (decide (c.Record = ([] : Bytes))))] (vB (((decide (d.Org ≠ 1)) && (decide (((c.Key.length : Nat) : Int) = (if d.Org = 3 then d.KeyLength else (8 : Int))))) && (decide (c.Record = ([] : Bytes))))) Try.results31 (fun w h => ⟨rfl, trivial⟩) rfl [] (fun _ h => h.keep [false, false] rfl) ⟨?_, ?_⟩
     ·have e_x0 : (((decide (d.Org ≠ 1)) && (decide (((c.Key.length : Nat) : Int) = (if d.Org = 3 then d.KeyLength else (8 : Int))))) && (decide (c.Record = ([] : Bytes))) : Bool) = (R27.isChange d c) := by first | exact R27.ic_1 (by assumption) | exact R27.ic_2 (by assumption) (by assumption) | exact R27.ic_03 (by assumption) (by assumption) (by assumption) | exact R27.ic_0 q0 (by assumption) (by assumption) (by assumption) (by assumption) | exact R27.ic_k1 q0 (by assumption) (by assumption) (by assumption) | exact R27.ic_k2 (by assumption) (by assumption) | exact R27.ic_k3 (by assumption) (by assumption) | exact R27.ic_no (by assumption) (by assumption) (by assumption) (by assumption) (by assumption)
      exact congrArg (fun (x0 : Bool) => vB x0) e_x0
     ·rfl
    ·have h31w := h31
     have h31 := of_decide_eq_false h31
     refine J_seq (J_region ?_)
     refine js_ (vB (decide (c.Kind = 2))) (x_eql_i rfl rfl) ?_
     refine jr_ (vB (decide (c.Kind = 2))) ?_
     refine JO_nil (JX_then ?_)
     refine J_cond (decide (c.Kind = 2)) rfl rfl (fun h37 => ?_) (fun h37 => ?_)
     ·have h37w := h37
      have h37 := of_decide_eq_true h37
      refine J_seq (J_region ?_)
      refine js_ (Value.pointer (some ⟨b1, 1, none⟩)) (x_fieldAddr Ty.fi24_1 rfl rfl) ?_
      refine JO_read (vI d.Org) rfl trivial (x_load 1 rfl rfl Ty.sc3 rfl) ?_
      refine js_ (vB (decide (d.Org = 1))) (x_eql_i rfl rfl) ?_
      refine jr_ (vB (decide (d.Org = 1))) ?_
      refine JO_cut 6 (fun z => z = ((decide (d.Org = 1)) && (decide (((c.Key.length : Nat) : Int) = (if d.Org = 3 then d.KeyLength else (8 : Int)))))) (fun z => [(2, Value.pointer (some ⟨b1, 0, none⟩)), (3, Value.pointer (some ⟨b2, 0, none⟩)), (4, vB false), (119, vB z)]) (fun _ => [Ent.blk b2 27 (Change.enc c), Ent.blk b1 24 (DataSet.enc d)]) ?_ ?_
      ·rcases Bool.eq_false_or_eq_true (decide (d.Org = 1)) with g39 | g39
       ·have g39r := g39
        have g39r := of_decide_eq_true g39r
        refine jg_ g39 (Value.pointer (some ⟨b2, 2, none⟩)) (x_fieldAddr Ty.fi27_2 rfl rfl) ?_
        refine JO_read (vS c.Key) rfl ⟨_, rfl, g39⟩ (x_load 0 rfl rfl Ty.sc9 rfl) ?_
        refine jg_ g39 (vI ((c.Key.length : Nat) : Int)) (x_len_s rfl Try.underlying9) ?_
        refine jg_ g39 (vI (if d.Org = 3 then d.KeyLength else (8 : Int))) (rfl) ?_
        refine jg_ g39 (vB (decide (((c.Key.length : Nat) : Int) = (if d.Org = 3 then d.KeyLength else (8 : Int))))) (x_eql_i rfl rfl) ?_
        refine js_ (vB (decide (((c.Key.length : Nat) : Int) = (if d.Org = 3 then d.KeyLength else (8 : Int))))) (x_pick_t rfl g39 rfl) ?_
        refine JO_nil (JX_cut (decide (((c.Key.length : Nat) : Int) = (if d.Org = 3 then d.KeyLength else (8 : Int)))) (by rw [g39]; simp) ⟨rfl, rfl, rfl, rfl, trivial⟩ (fun _ h => h))
       ·have g39r := g39
        have g39r := of_decide_eq_false g39r
        refine sh_ g39 ?_
        refine sh_ g39 ?_
        refine sh_ g39 ?_
        refine sh_ g39 ?_
        refine sh_ g39 ?_
        refine js_ (vB false) (x_pick_f rfl g39 rfl) ?_
        refine JO_nil (JX_cut (false) (by rw [g39]; simp) ⟨rfl, rfl, rfl, rfl, trivial⟩ (fun _ h => h))
      rintro z38 rfl
      refine jr_ (vB ((decide (d.Org = 1)) && (decide (((c.Key.length : Nat) : Int) = (if d.Org = 3 then d.KeyLength else (8 : Int)))))) ?_
      refine JO_cut 5 (fun z => z = (((decide (d.Org = 1)) && (decide (((c.Key.length : Nat) : Int) = (if d.Org = 3 then d.KeyLength else (8 : Int))))) && (decide ((1 : Int) ≤ ((c.Record.length : Nat) : Int))))) (fun z => [(2, Value.pointer (some ⟨b1, 0, none⟩)), (3, Value.pointer (some ⟨b2, 0, none⟩)), (4, vB false), (125, vB z)]) (fun _ => [Ent.blk b2 27 (Change.enc c), Ent.blk b1 24 (DataSet.enc d)]) ?_ ?_
      ·rcases Bool.eq_false_or_eq_true ((decide (d.Org = 1)) && (decide (((c.Key.length : Nat) : Int) = (if d.Org = 3 then d.KeyLength else (8 : Int))))) with g41 | g41
       ·have g41r := g41
        have ⟨g41r, h42⟩ := band_true g41r
        have g41r := of_decide_eq_true g41r
        have h42 := of_decide_eq_true h42
        refine jg_ g41 (Value.pointer (some ⟨b2, 3, none⟩)) (x_fieldAddr Ty.fi27_3 rfl rfl) ?_
        refine JO_read (vS c.Record) rfl ⟨_, rfl, g41⟩ (x_load 0 rfl rfl Ty.sc9 rfl) ?_
        refine jg_ g41 (vI ((c.Record.length : Nat) : Int)) (x_len_s rfl Try.underlying9) ?_
        refine jg_ g41 (vB (decide ((1 : Int) ≤ ((c.Record.length : Nat) : Int)))) (x_geq_i rfl rfl) ?_
        refine js_ (vB (decide ((1 : Int) ≤ ((c.Record.length : Nat) : Int)))) (x_pick_t rfl g41 rfl) ?_
        refine JO_nil (JX_cut (decide ((1 : Int) ≤ ((c.Record.length : Nat) : Int))) (by rw [g41]; simp) ⟨rfl, rfl, rfl, rfl, trivial⟩ (fun _ h => h))
       ·have g41r := g41
        simp only [Bool.and_eq_true, Bool.or_eq_true, Bool.and_eq_false_iff, Bool.or_eq_false_iff, Bool.not_eq_true', Bool.not_eq_false', decide_eq_true_eq, decide_eq_false_iff_not] at g41r
        refine sh_ g41 ?_
        refine sh_ g41 ?_
        refine sh_ g41 ?_
        refine sh_ g41 ?_
        refine js_ (vB false) (x_pick_f rfl g41 rfl) ?_
        refine JO_nil (JX_cut (false) (by rw [g41]; simp) ⟨rfl, rfl, rfl, rfl, trivial⟩ (fun _ h => h))
      rintro z40 rfl
      refine jr_ (vB (((decide (d.Org = 1)) && (decide (((c.Key.length : Nat) : Int) = (if d.Org = 3 then d.KeyLength else (8 : Int))))) && (decide ((1 : Int) ≤ ((c.Record.length : Nat) : Int))))) ?_
      refine JO_cut 7 (fun z => z = ((((decide (d.Org = 1)) && (decide (((c.Key.length : Nat) : Int) = (if d.Org = 3 then d.KeyLength else (8 : Int))))) && (decide ((1 : Int) ≤ ((c.Record.length : Nat) : Int)))) && (decide (((c.Record.length : Nat) : Int) ≤ d.Length)))) (fun z => [(4, vB false), (133, vB z)]) (fun _ => [Ent.blk b2 27 (Change.enc c), Ent.blk b1 24 (DataSet.enc d)]) ?_ ?_
      ·rcases Bool.eq_false_or_eq_true (((decide (d.Org = 1)) && (decide (((c.Key.length : Nat) : Int) = (if d.Org = 3 then d.KeyLength else (8 : Int))))) && (decide ((1 : Int) ≤ ((c.Record.length : Nat) : Int)))) with g44 | g44
       ·have g44r := g44
        have ⟨g44r, h45⟩ := band_true g44r
        have ⟨g44r, h46⟩ := band_true g44r
        have g44r := of_decide_eq_true g44r
        have h46 := of_decide_eq_true h46
        have h45 := of_decide_eq_true h45
        refine jg_ g44 (Value.pointer (some ⟨b2, 3, none⟩)) (x_fieldAddr Ty.fi27_3 rfl rfl) ?_
        refine JO_read (vS c.Record) rfl ⟨_, rfl, g44⟩ (x_load 0 rfl rfl Ty.sc9 rfl) ?_
        refine jg_ g44 (vI ((c.Record.length : Nat) : Int)) (x_len_s rfl Try.underlying9) ?_
        refine jg_ g44 (Value.pointer (some ⟨b1, 3, none⟩)) (x_fieldAddr Ty.fi24_3 rfl rfl) ?_
        refine JO_read (vI d.Length) rfl ⟨_, rfl, g44⟩ (x_load 1 rfl rfl Ty.sc3 rfl) ?_
        refine jg_ g44 (vB (decide (((c.Record.length : Nat) : Int) ≤ d.Length))) (x_leq_i rfl rfl) ?_
        refine js_ (vB (decide (((c.Record.length : Nat) : Int) ≤ d.Length))) (x_pick_t rfl g44 rfl) ?_
        refine JO_nil (JX_cut (decide (((c.Record.length : Nat) : Int) ≤ d.Length)) (by rw [g44]; simp) ⟨rfl, rfl, trivial⟩ (fun _ h => h))
       ·have g44r := g44
        simp only [Bool.and_eq_true, Bool.or_eq_true, Bool.and_eq_false_iff, Bool.or_eq_false_iff, Bool.not_eq_true', Bool.not_eq_false', decide_eq_true_eq, decide_eq_false_iff_not] at g44r
        refine sh_ g44 ?_
        refine sh_ g44 ?_
        refine sh_ g44 ?_
        refine sh_ g44 ?_
        refine sh_ g44 ?_
        refine sh_ g44 ?_
        refine js_ (vB false) (x_pick_f rfl g44 rfl) ?_
        refine JO_nil (JX_cut (false) (by rw [g44]; simp) ⟨rfl, rfl, trivial⟩ (fun _ h => h))
      rintro z43 rfl
      refine jr_ (vB ((((decide (d.Org = 1)) && (decide (((c.Key.length : Nat) : Int) = (if d.Org = 3 then d.KeyLength else (8 : Int))))) && (decide ((1 : Int) ≤ ((c.Record.length : Nat) : Int)))) && (decide (((c.Record.length : Nat) : Int) ≤ d.Length)))) ?_
      refine JO_nil (JX_then (J_ret (JX_block_ret (JX_then_ret ?_))))
      refine JX_rets [vB ((((decide (d.Org = 1)) && (decide (((c.Key.length : Nat) : Int) = (if d.Org = 3 then d.KeyLength else (8 : Int))))) && (decide ((1 : Int) ≤ ((c.Record.length : Nat) : Int)))) && (decide (((c.Record.length : Nat) : Int) ≤ d.Length)))] (vB ((((decide (d.Org = 1)) && (decide (((c.Key.length : Nat) : Int) = (if d.Org = 3 then d.KeyLength else (8 : Int))))) && (decide ((1 : Int) ≤ ((c.Record.length : Nat) : Int)))) && (decide (((c.Record.length : Nat) : Int) ≤ d.Length)))) Try.results31 (fun w h => ⟨rfl, trivial⟩) rfl [] (fun _ h => h.keep [false, false] rfl) ⟨?_, ?_⟩
      ·have e_x0 : ((((decide (d.Org = 1)) && (decide (((c.Key.length : Nat) : Int) = (if d.Org = 3 then d.KeyLength else (8 : Int))))) && (decide ((1 : Int) ≤ ((c.Record.length : Nat) : Int)))) && (decide (((c.Record.length : Nat) : Int) ≤ d.Length)) : Bool) = (R27.isChange d c) := by first | exact R27.ic_1 (by assumption) | exact R27.ic_2 (by assumption) (by assumption) | exact R27.ic_03 (by assumption) (by assumption) (by assumption) | exact R27.ic_0 q0 (by assumption) (by assumption) (by assumption) (by assumption) | exact R27.ic_k1 q0 (by assumption) (by assumption) (by assumption) | exact R27.ic_k2 (by assumption) (by assumption) | exact R27.ic_k3 (by assumption) (by assumption) | exact R27.ic_no (by assumption) (by assumption) (by assumption) (by assumption) (by assumption)
       exact congrArg (fun (x0 : Bool) => vB x0) e_x0
      ·rfl
     ·have h37w := h37
      have h37 := of_decide_eq_false h37
      refine J_seq (J_region ?_)
      refine js_ (vB (decide (c.Kind = 3))) (x_eql_i rfl rfl) ?_
      refine jr_ (vB (decide (c.Kind = 3))) ?_
      refine JO_nil (JX_then ?_)
      refine J_cond (decide (c.Kind = 3)) rfl rfl (fun h47 => ?_) (fun h47 => ?_)
      ·have h47w := h47
       have h47 := of_decide_eq_true h47
       refine J_seq (J_region ?_)
       refine js_ (Value.pointer (some ⟨b2, 2, none⟩)) (x_fieldAddr Ty.fi27_2 rfl rfl) ?_
       refine JO_read (vS c.Key) rfl trivial (x_load 0 rfl rfl Ty.sc9 rfl) ?_
       refine js_ (vB (decide (c.Key = ([] : Bytes)))) (x_eql_s rfl rfl) ?_
       refine jr_ (vB (decide (c.Key = ([] : Bytes)))) ?_
       refine JO_cut 4 (fun z => z = ((decide (c.Key = ([] : Bytes))) && (decide (c.Record = ([] : Bytes))))) (fun z => [(4, vB false), (143, vB z)]) (fun _ => [Ent.blk b2 27 (Change.enc c), Ent.blk b1 24 (DataSet.enc d)]) ?_ ?_
       ·rcases Bool.eq_false_or_eq_true (decide (c.Key = ([] : Bytes))) with g49 | g49
        ·have g49r := g49
         have g49r := of_decide_eq_true g49r
         refine jg_ g49 (Value.pointer (some ⟨b2, 3, none⟩)) (x_fieldAddr Ty.fi27_3 rfl rfl) ?_
         refine JO_read (vS c.Record) rfl ⟨_, rfl, g49⟩ (x_load 0 rfl rfl Ty.sc9 rfl) ?_
         refine jg_ g49 (vB (decide (c.Record = ([] : Bytes)))) (x_eql_s rfl rfl) ?_
         refine js_ (vB (decide (c.Record = ([] : Bytes)))) (x_pick_t rfl g49 rfl) ?_
         refine JO_nil (JX_cut (decide (c.Record = ([] : Bytes))) (by rw [g49]; simp) ⟨rfl, rfl, trivial⟩ (fun _ h => h))
        ·have g49r := g49
         have g49r := of_decide_eq_false g49r
         have g49rl := List.length_pos_iff.2 g49r
         refine sh_ g49 ?_
         refine sh_ g49 ?_
         refine sh_ g49 ?_
         refine js_ (vB false) (x_pick_f rfl g49 rfl) ?_
         refine JO_nil (JX_cut (false) (by rw [g49]; simp) ⟨rfl, rfl, trivial⟩ (fun _ h => h))
       rintro z48 rfl
       refine jr_ (vB ((decide (c.Key = ([] : Bytes))) && (decide (c.Record = ([] : Bytes))))) ?_
       refine JO_nil (JX_then (J_ret (JX_block_ret (JX_then_ret ?_))))
       refine JX_rets [vB ((decide (c.Key = ([] : Bytes))) && (decide (c.Record = ([] : Bytes))))] (vB ((decide (c.Key = ([] : Bytes))) && (decide (c.Record = ([] : Bytes))))) Try.results31 (fun w h => ⟨rfl, trivial⟩) rfl [] (fun _ h => h.keep [false, false] rfl) ⟨?_, ?_⟩
       ·have e_x0 : ((decide (c.Key = ([] : Bytes))) && (decide (c.Record = ([] : Bytes))) : Bool) = (R27.isChange d c) := by first | exact R27.ic_1 (by assumption) | exact R27.ic_2 (by assumption) (by assumption) | exact R27.ic_03 (by assumption) (by assumption) (by assumption) | exact R27.ic_0 q0 (by assumption) (by assumption) (by assumption) (by assumption) | exact R27.ic_k1 q0 (by assumption) (by assumption) (by assumption) | exact R27.ic_k2 (by assumption) (by assumption) | exact R27.ic_k3 (by assumption) (by assumption) | exact R27.ic_no (by assumption) (by assumption) (by assumption) (by assumption) (by assumption)
        exact congrArg (fun (x0 : Bool) => vB x0) e_x0
       ·rfl
      ·have h47w := h47
       have h47 := of_decide_eq_false h47
       refine J_skip (JX_block (JX_then (J_seq (J_region ?_))))
       refine jr_ (vB false) ?_
       refine JO_nil (JX_then (J_ret ?_))
       refine JX_rets [vB false] (vB false) Try.results31 (fun w h => ⟨rfl, trivial⟩) rfl [] (fun _ h => h.keep [false, false] rfl) ⟨?_, ?_⟩
       ·have e_x0 : (false : Bool) = (R27.isChange d c) := by first | exact R27.ic_1 (by assumption) | exact R27.ic_2 (by assumption) (by assumption) | exact R27.ic_03 (by assumption) (by assumption) (by assumption) | exact R27.ic_0 q0 (by assumption) (by assumption) (by assumption) (by assumption) | exact R27.ic_k1 q0 (by assumption) (by assumption) (by assumption) | exact R27.ic_k2 (by assumption) (by assumption) | exact R27.ic_k3 (by assumption) (by assumption) | exact R27.ic_no (by assumption) (by assumption) (by assumption) (by assumption) (by assumption)
        exact congrArg (fun (x0 : Bool) => vB x0) e_x0
       ·rfl
set_option maxRecDepth 20000 in
theorem f23_ok (base : DataSet) (alts : List DataSet) (altsA : Option Addr) (altsC : Nat) (w : World) (altsR : RO [] w altsA (alts.flatMap DataSet.enc)) (q0 : alts.length ≤ 1000000) : Calls Try.prog 23 #[Value.agg ((DataSet.enc base)).toArray, Value.slice altsA alts.length altsC] w (Gives [] w fun v L => v = vB (R27.isSphere base alts) ∧ L = []) := by
 refine calls_J [] 36 Try.func23 rfl Try.ntmps23 [(0, Value.agg ((DataSet.enc base)).toArray), (1, Value.slice altsA alts.length altsC)] rfl rfl (Give.nil w) ?_
 refine J_seq (J_region ?_)
 refine JO_op rfl trivial (O_box rfl rfl fun b1 => ?_)
 refine jr_ (vB false) ?_
 refine JO_nil (JX_then (J_seq (J_region ?_)))
 refine JO_op rfl trivial (O_makeMap vI fun b2 => ?_)
 refine jr_ (Value.map (some b2)) ?_
 refine JO_nil (JX_then (J_seq (J_seq (J_region ?_))))
 refine jr_ (Value.slice altsA alts.length altsC) ?_
 refine js_ (vI ((alts.length : Nat) : Int)) (x_len_sl Try.underlying25 rfl) ?_
 refine jr_ (vI 0) ?_
 refine JO_nil (JX_then (J_block ?_))
 refine J_loop (X := Nat × (List Int)) (fun (⟨k, ids⟩ : Nat × (List Int)) => (k ≤ alts.length) ∧ (ids = (alts.take k).map (·.Id)) ∧ (R27.Sph base alts k)) (fun (⟨k, ids⟩ : Nat × (List Int)) => [(1, Value.slice altsA alts.length altsC), (2, Value.pointer (some ⟨b1, 0, none⟩)), (5, Value.map (some b2)), (9, Value.slice altsA alts.length altsC), (10, vI ((alts.length : Nat) : Int)), (11, vI ((k : Nat) : Int))]) (fun (⟨k, ids⟩ : Nat × (List Int)) => [Ent.mp vI b2 (ids.map kT), Ent.blk b1 24 (DataSet.enc base)]) (fun (⟨k, ids⟩ : Nat × (List Int)) => alts.length - k) ((0, ([] : List Int)) : Nat × (List Int)) ?_ ⟨rfl, rfl, rfl, rfl, rfl, rfl, trivial⟩ (fun _ h => h) ?_
 ·show (0 ≤ alts.length) ∧ (([] : List Int) = (alts.take 0).map (·.Id)) ∧ (R27.Sph base alts 0)
  refine ⟨?_, ?_, ?_⟩
  ·first | rfl | omega | (simp_all; done) | (simp_all; omega)
  ·rfl
  ·exact R27.sph_zero
 rintro ⟨k, ids⟩ hI1
 obtain ⟨i1_0, i1_1, i1_2⟩ : (k ≤ alts.length) ∧ (ids = (alts.take k).map (·.Id)) ∧ (R27.Sph base alts k) := hI1
 refine J_weaken (E' := [(1, Value.slice altsA alts.length altsC), (2, Value.pointer (some ⟨b1, 0, none⟩)), (5, Value.map (some b2)), (9, Value.slice altsA alts.length altsC), (10, vI ((alts.length : Nat) : Int)), (11, vI ((k : Nat) : Int))]) (L' := [Ent.mp vI b2 (ids.map kT), Ent.blk b1 24 (DataSet.enc base)]) ⟨rfl, rfl, rfl, rfl, rfl, rfl, trivial⟩ (fun _ h => h) ?_
 refine J_seq (J_region ?_)
 refine js_ (vB (decide (((k : Nat) : Int) < ((alts.length : Nat) : Int)))) (x_lss_i rfl rfl) ?_
 refine JO_nil (JX_then (J_seq ?_))
 refine J_cond (decide (((k : Nat) : Int) < ((alts.length : Nat) : Int))) rfl rfl (fun h3 => ?_) (fun h3 => ?_)
 ·have h3w := h3
  have h3 := of_decide_eq_true h3
  refine J_skip (JX_then (J_seq (J_block (J_seq (J_region ?_)))))
  refine JO_read (Value.pointer (some (adr altsA (k * 21)))) rfl trivial (x_indexAddr_at (k := k) (off := k * 21) (cells_ro altsR) Try.underlying25 Ty.sz24 rfl rfl lt_ (by rw [flat_length DataSet.enc 21 DataSet.enc_len]; first | omega | (simp; omega) | (simp_all; omega) | (simp_all; done)) rfl) ?_
  refine JO_read (Value.agg ((DataSet.enc (alts.getD k default))).toArray) rfl trivial (x_loadN_at (DataSet.enc (alts.getD k default)) (cells_ro altsR) rfl Ty.ag24 Ty.sz24 (flat_drop DataSet.enc 21 DataSet.enc_len alts default k lt_)) ?_
  refine JO_op rfl trivial (O_alloc Ty.ze24 rfl fun b4 => ?_)
  refine JO_op rfl trivial (O_storeS (vs := (DataSet.enc (alts.getD k default))) 0 (DataSet.enc (alts.getD k default)) [Ent.blk b4 24 (DataSet.enc (alts.getD k default)), Ent.mp vI b2 (ids.map kT), Ent.blk b1 24 (DataSet.enc base)] rfl rfl rfl Ty.sz24 rfl (Nat.le_of_ble_eq_true rfl) rfl (st_all rfl) rfl ?_)
  refine JO_nil (JX_then (J_seq (J_seq (J_region ?_))))
  refine jr_ (Value.map (some b2)) ?_
  refine js_ (Value.pointer (some ⟨b4, 0, none⟩)) (x_fieldAddr Ty.fi24_0 rfl rfl) ?_
  refine JO_read (vI ((alts.getD k default).Id)) rfl trivial (x_load 0 rfl rfl Ty.sc3 rfl) ?_
  refine JO_read (vB (hasK ids ((alts.getD k default).Id))) rfl trivial (x_lookup_v 1 (f := vI) (k := (alts.getD k default).Id) rfl rfl rfl Try.underlying100 (mapK_i Try.underlying3) Ty.ze4 rfl (lk_kT_v ids ((alts.getD k default).Id))) ?_
  refine jr_ (vB (hasK ids ((alts.getD k default).Id))) ?_
  refine JO_cut 5 (fun z => z = (((hasK ids ((alts.getD k default).Id))) || (!(R26.valid base (alts.getD k default))))) (fun z => [(1, Value.slice altsA alts.length altsC), (2, Value.pointer (some ⟨b1, 0, none⟩)), (5, Value.map (some b2)), (9, Value.slice altsA alts.length altsC), (10, vI ((alts.length : Nat) : Int)), (11, vI ((k : Nat) : Int)), (7, Value.pointer (some ⟨b4, 0, none⟩)), (24, vB z)]) (fun _ => [Ent.blk b4 24 (DataSet.enc (alts.getD k default)), Ent.mp vI b2 (ids.map kT), Ent.blk b1 24 (DataSet.enc base)]) ?_ ?_
  ·rcases Bool.eq_false_or_eq_true ((hasK ids ((alts.getD k default).Id))) with g6 | g6
   ·have g6r := g6
    refine sh_ g6 ?_
    refine sh_ g6 ?_
    refine sh_ g6 ?_
    refine sh_ g6 ?_
    refine js_ (vB true) (x_pick_t rfl g6 rfl) ?_
    refine JO_nil (JX_cut (true) (by rw [g6]; simp) ⟨rfl, rfl, rfl, rfl, rfl, rfl, rfl, rfl, trivial⟩ (fun _ h => h))
   ·have g6r := g6
    refine JO_read (Value.agg ((DataSet.enc base)).toArray) rfl ⟨_, rfl, g6⟩ (x_loadN 2 (DataSet.enc base) rfl rfl Ty.ag24 Ty.sz24 rfl) ?_
    refine JO_read (Value.agg ((DataSet.enc (alts.getD k default))).toArray) rfl ⟨_, rfl, g6⟩ (x_loadN 0 (DataSet.enc (alts.getD k default)) rfl rfl Ty.ag24 Ty.sz24 rfl) ?_
    refine JO_call [] [] [Ent.blk b4 24 (DataSet.enc (alts.getD k default)), Ent.mp vI b2 (ids.map kT), Ent.blk b1 24 (DataSet.enc base)] rfl ⟨_, rfl, g6⟩ (fun _ => x_call Ty.ca45 rfl) (fun _ h => h) (fun _ h => by cases h) (fun w hS => f45_ok base (alts.getD k default) w) ?_
    rintro _ _ ⟨rfl, rfl⟩
    refine jg_ g6 (vB (!(R26.valid base (alts.getD k default)))) (x_not rfl) ?_
    refine js_ (vB (!(R26.valid base (alts.getD k default)))) (x_pick_f rfl g6 rfl) ?_
    refine JO_nil (JX_cut (!(R26.valid base (alts.getD k default))) (by rw [g6]; simp) ⟨rfl, rfl, rfl, rfl, rfl, rfl, rfl, rfl, trivial⟩ (fun _ h => h))
  rintro z5 rfl
  refine JO_nil (JX_then ?_)
  refine J_cond (((hasK ids ((alts.getD k default).Id))) || (!(R26.valid base (alts.getD k default)))) rfl rfl (fun h7 => ?_) (fun h7 => ?_)
  ·have h7w := h7
   simp only [Bool.and_eq_true, Bool.or_eq_true, Bool.and_eq_false_iff, Bool.or_eq_false_iff, Bool.not_eq_true', Bool.not_eq_false', decide_eq_true_eq, decide_eq_false_iff_not] at h7
   refine J_seq (J_region ?_)
   refine jr_ (vB false) ?_
   refine JO_nil (JX_then (J_ret (JX_then_ret (JX_block_ret (JX_then_ret ?_)))))
   refine JX_round_ret (JX_block_ret (JX_then_ret ?_))
   first
    | have hd := R27.sph_or (k := k) (base := base) (by omega) i1_1 (by assumption)
    | have hd := R27.sph_all i1_2 i1_0 (by assumption)
   refine JX_rets [vB false] (vB false) Try.results23 (fun w h => ⟨rfl, trivial⟩) rfl [] (fun _ h => h.keep [false, false, false] rfl) ⟨?_, ?_⟩
   ·have e_x0 : (false : Bool) = (R27.isSphere base alts) := by rw [hd]
    exact congrArg (fun (x0 : Bool) => vB x0) e_x0
   ·rfl
  ·have h7w := h7
   have ⟨h7, h8⟩ := bor_false h7
   have h8 : (R26.valid base (alts.getD k default)) = true := bnot_false h8
   have hi9 := R26.valid_facts h8
   refine J_skip (JX_then (J_region ?_))
   refine jr_ (Value.map (some b2)) ?_
   refine js_ (Value.pointer (some ⟨b4, 0, none⟩)) (x_fieldAddr Ty.fi24_0 rfl rfl) ?_
   refine JO_read (vI ((alts.getD k default).Id)) rfl trivial (x_load 0 rfl rfl Ty.sc3 rfl) ?_
   refine JO_op rfl trivial (O_mapUpdate 1 (f := vI) (k := (alts.getD k default).Id) ((addK ids ((alts.getD k default).Id)).map kT) [Ent.blk b4 24 (DataSet.enc (alts.getD k default)), Ent.mp vI b2 ((addK ids ((alts.getD k default).Id)).map kT), Ent.blk b1 24 (DataSet.enc base)] rfl rfl rfl rfl Try.underlying100 (mapK_i Try.underlying3) (upd_kT ids ((alts.getD k default).Id)) rfl ?_)
   refine JO_nil (JX_block (JX_then (J_region ?_)))
   refine js_ (vI ((k + 1 : Nat) : Int)) (x_add_n (a := k) (b := 1) rfl rfl (by omega)) ?_
   refine jr_ (vI ((k + 1 : Nat) : Int)) ?_
   refine JO_nil ?_
   refine JX_round ((k + 1, (addK ids ((alts.getD k default).Id))) : Nat × (List Int)) ?_ ?_ ⟨rfl, rfl, rfl, rfl, rfl, rfl, trivial⟩ (fun _ h => h.keep [false, true, true] rfl)
   ·show ((k + 1) ≤ alts.length) ∧ ((addK ids ((alts.getD k default).Id)) = (alts.take (k + 1)).map (·.Id)) ∧ (R27.Sph base alts (k + 1))
    refine ⟨?_, ?_, ?_⟩
    ·first | rfl | omega | (simp_all; done) | (simp_all; omega)
    ·rw [R27.take_ids (by omega), i1_1]; exact addK_new (by rw [← i1_1]; exact hasK_not (R27.orf1 (by assumption)))
    ·exact R27.sph_step (by omega) i1_2 (by rw [← i1_1]; exact hasK_not (R27.orf1 (by assumption))) (R27.orf2 (by assumption))
   ·show alts.length - (k + 1) < alts.length - k
    first | omega | (simp; omega) | (simp_all; omega)
 ·have h3w := h3
  have h3 := of_decide_eq_false h3
  refine J_exit (JX_then_exit (JX_round_exit (JX_block_hit (JX_then (J_seq ?_)))))
  refine J_region ?_
  refine JO_read (Value.agg ((DataSet.enc base)).toArray) rfl trivial (x_loadN 1 (DataSet.enc base) rfl rfl Ty.ag24 Ty.sz24 rfl) ?_
  refine JO_call [] [] [Ent.mp vI b2 (ids.map kT), Ent.blk b1 24 (DataSet.enc base)] rfl trivial (fun _ => x_call Ty.ca46 rfl) (fun _ h => h) (fun _ h => by cases h) (fun w hS => f46_ok base w) ?_
  rintro _ _ ⟨rfl, rfl⟩
  refine jr_ (vB (R27.isBase base)) ?_
  refine JO_cut 4 (fun z => z = ((R27.isBase base) && (decide (((alts.length : Nat) : Int) ≤ 4)))) (fun z => [(35, vB z)]) (fun _ => [Ent.mp vI b2 (ids.map kT), Ent.blk b1 24 (DataSet.enc base)]) ?_ ?_
  ·rcases Bool.eq_false_or_eq_true (R27.isBase base) with g11 | g11
   ·have g11r := g11
    refine jg_ g11 (Value.slice altsA alts.length altsC) (rfl) ?_
    refine jg_ g11 (vI ((alts.length : Nat) : Int)) (x_len_sl Try.underlying25 rfl) ?_
    refine jg_ g11 (vB (decide (((alts.length : Nat) : Int) ≤ 4))) (x_leq_i rfl rfl) ?_
    refine js_ (vB (decide (((alts.length : Nat) : Int) ≤ 4))) (x_pick_t rfl g11 rfl) ?_
    refine JO_nil (JX_cut (decide (((alts.length : Nat) : Int) ≤ 4)) (by rw [g11]; simp) ⟨rfl, trivial⟩ (fun _ h => h))
   ·have g11r := g11
    refine sh_ g11 ?_
    refine sh_ g11 ?_
    refine sh_ g11 ?_
    refine js_ (vB false) (x_pick_f rfl g11 rfl) ?_
    refine JO_nil (JX_cut (false) (by rw [g11]; simp) ⟨rfl, trivial⟩ (fun _ h => h))
  rintro z10 rfl
  refine jr_ (vB ((R27.isBase base) && (decide (((alts.length : Nat) : Int) ≤ 4)))) ?_
  refine JO_nil (JX_then (J_ret ?_))
  first
   | have hd := R27.sph_or (k := k) (base := base) (by omega) i1_1 (by assumption)
   | have hd := R27.sph_all i1_2 i1_0 (by assumption)
  refine JX_rets [vB ((R27.isBase base) && (decide (((alts.length : Nat) : Int) ≤ 4)))] (vB ((R27.isBase base) && (decide (((alts.length : Nat) : Int) ≤ 4)))) Try.results23 (fun w h => ⟨rfl, trivial⟩) rfl [] (fun _ h => h.keep [false, false] rfl) ⟨?_, ?_⟩
  ·have e_x0 : ((R27.isBase base) && (decide (((alts.length : Nat) : Int) ≤ 4)) : Bool) = (R27.isSphere base alts) := by rw [hd]
   exact congrArg (fun (x0 : Bool) => vB x0) e_x0
  ·rfl
set_option maxRecDepth 20000 in
theorem f30_ok (base : DataSet) (alts : List DataSet) (altsA : Option Addr) (altsC : Nat) (w : World) (altsR : RO [] w altsA (alts.flatMap DataSet.enc)) (q0 : alts.length ≤ 1000000) : Calls Try.prog 30 #[Value.agg ((DataSet.enc base)).toArray, Value.slice altsA alts.length altsC] w (Gives [] w fun v L => v = vB (R27.isSphere base alts) ∧ L = []) := by
 refine calls_J [] 59 Try.func30 rfl Try.ntmps30 [(0, Value.agg ((DataSet.enc base)).toArray), (1, Value.slice altsA alts.length altsC)] rfl rfl (Give.nil w) ?_
 refine J_seq (J_region ?_)
 refine JO_op rfl trivial (O_box rfl rfl fun b1 => ?_)
 refine jr_ (vB false) ?_
 refine JO_nil (JX_then (J_seq (J_seq (J_region ?_))))
 refine JO_read (Value.agg ((DataSet.enc base)).toArray) rfl trivial (x_loadN 0 (DataSet.enc base) rfl rfl Ty.ag24 Ty.sz24 rfl) ?_
 refine JO_call [] [] [Ent.blk b1 24 (DataSet.enc base)] rfl trivial (fun _ => x_call Ty.ca49 rfl) (fun _ h => h) (fun _ h => by cases h) (fun w hS => f49_ok base w) ?_
 rintro _ _ ⟨rfl, rfl⟩
 refine js_ (vB (!(R16.valid base))) (x_not rfl) ?_
 refine jr_ (vB (!(R16.valid base))) ?_
 refine JO_cut 4 (fun z => z = ((!(R16.valid base)) || (decide (base.Id < 1)))) (fun z => [(1, Value.slice altsA alts.length altsC), (2, Value.pointer (some ⟨b1, 0, none⟩)), (4, vB false), (14, vB z)]) (fun _ => [Ent.blk b1 24 (DataSet.enc base)]) ?_ ?_
 ·rcases Bool.eq_false_or_eq_true (!(R16.valid base)) with g3 | g3
  ·have g3r := g3
   have g3r : (R16.valid base) = false := bnot_true g3r
   refine sh_ g3 ?_
   refine sh_ g3 ?_
   refine sh_ g3 ?_
   refine js_ (vB true) (x_pick_t rfl g3 rfl) ?_
   refine JO_nil (JX_cut (true) (by rw [g3]; simp) ⟨rfl, rfl, rfl, rfl, trivial⟩ (fun _ h => h))
  ·have g3r := g3
   have g3r : (R16.valid base) = true := bnot_false g3r
   have hi4 := R16.valid_facts g3r
   refine jg_ g3 (Value.pointer (some ⟨b1, 0, none⟩)) (x_fieldAddr Ty.fi24_0 rfl rfl) ?_
   refine JO_read (vI base.Id) rfl ⟨_, rfl, g3⟩ (x_load 0 rfl rfl Ty.sc3 rfl) ?_
   refine jg_ g3 (vB (decide (base.Id < 1))) (x_lss_i rfl rfl) ?_
   refine js_ (vB (decide (base.Id < 1))) (x_pick_f rfl g3 rfl) ?_
   refine JO_nil (JX_cut (decide (base.Id < 1)) (by rw [g3]; simp) ⟨rfl, rfl, rfl, rfl, trivial⟩ (fun _ h => h))
 rintro z2 rfl
 refine jr_ (vB ((!(R16.valid base)) || (decide (base.Id < 1)))) ?_
 refine JO_cut 4 (fun z => z = (((!(R16.valid base)) || (decide (base.Id < 1))) || (decide ((1099511627776 : Int) < base.Id)))) (fun z => [(1, Value.slice altsA alts.length altsC), (2, Value.pointer (some ⟨b1, 0, none⟩)), (4, vB false), (19, vB z)]) (fun _ => [Ent.blk b1 24 (DataSet.enc base)]) ?_ ?_
 ·rcases Bool.eq_false_or_eq_true ((!(R16.valid base)) || (decide (base.Id < 1))) with g6 | g6
  ·have g6r := g6
   simp only [Bool.and_eq_true, Bool.or_eq_true, Bool.and_eq_false_iff, Bool.or_eq_false_iff, Bool.not_eq_true', Bool.not_eq_false', decide_eq_true_eq, decide_eq_false_iff_not] at g6r
   refine sh_ g6 ?_
   refine sh_ g6 ?_
   refine sh_ g6 ?_
   refine js_ (vB true) (x_pick_t rfl g6 rfl) ?_
   refine JO_nil (JX_cut (true) (by rw [g6]; simp) ⟨rfl, rfl, rfl, rfl, trivial⟩ (fun _ h => h))
  ·have g6r := g6
   have ⟨g6r, h7⟩ := bor_false g6r
   have g6r : (R16.valid base) = true := bnot_false g6r
   have hi8 := R16.valid_facts g6r
   have h7 := of_decide_eq_false h7
   refine jg_ g6 (Value.pointer (some ⟨b1, 0, none⟩)) (x_fieldAddr Ty.fi24_0 rfl rfl) ?_
   refine JO_read (vI base.Id) rfl ⟨_, rfl, g6⟩ (x_load 0 rfl rfl Ty.sc3 rfl) ?_
   refine jg_ g6 (vB (decide ((1099511627776 : Int) < base.Id))) (x_gtr_i rfl rfl) ?_
   refine js_ (vB (decide ((1099511627776 : Int) < base.Id))) (x_pick_f rfl g6 rfl) ?_
   refine JO_nil (JX_cut (decide ((1099511627776 : Int) < base.Id)) (by rw [g6]; simp) ⟨rfl, rfl, rfl, rfl, trivial⟩ (fun _ h => h))
 rintro z5 rfl
 refine jr_ (vB (((!(R16.valid base)) || (decide (base.Id < 1))) || (decide ((1099511627776 : Int) < base.Id)))) ?_
 refine JO_cut 4 (fun z => z = ((((!(R16.valid base)) || (decide (base.Id < 1))) || (decide ((1099511627776 : Int) < base.Id))) || (decide (base.Base ≠ 0)))) (fun z => [(1, Value.slice altsA alts.length altsC), (2, Value.pointer (some ⟨b1, 0, none⟩)), (4, vB false), (24, vB z)]) (fun _ => [Ent.blk b1 24 (DataSet.enc base)]) ?_ ?_
 ·rcases Bool.eq_false_or_eq_true (((!(R16.valid base)) || (decide (base.Id < 1))) || (decide ((1099511627776 : Int) < base.Id))) with g10 | g10
  ·have g10r := g10
   simp only [Bool.and_eq_true, Bool.or_eq_true, Bool.and_eq_false_iff, Bool.or_eq_false_iff, Bool.not_eq_true', Bool.not_eq_false', decide_eq_true_eq, decide_eq_false_iff_not] at g10r
   refine sh_ g10 ?_
   refine sh_ g10 ?_
   refine sh_ g10 ?_
   refine js_ (vB true) (x_pick_t rfl g10 rfl) ?_
   refine JO_nil (JX_cut (true) (by rw [g10]; simp) ⟨rfl, rfl, rfl, rfl, trivial⟩ (fun _ h => h))
  ·have g10r := g10
   have ⟨g10r, h11⟩ := bor_false g10r
   have ⟨g10r, h12⟩ := bor_false g10r
   have g10r : (R16.valid base) = true := bnot_false g10r
   have hi13 := R16.valid_facts g10r
   have h12 := of_decide_eq_false h12
   have h11 := of_decide_eq_false h11
   refine jg_ g10 (Value.pointer (some ⟨b1, 11, none⟩)) (x_fieldAddr Ty.fi24_11 rfl rfl) ?_
   refine JO_read (vI base.Base) rfl ⟨_, rfl, g10⟩ (x_load 0 rfl rfl Ty.sc3 rfl) ?_
   refine jg_ g10 (vB (decide (base.Base ≠ 0))) (x_neq_i rfl rfl) ?_
   refine js_ (vB (decide (base.Base ≠ 0))) (x_pick_f rfl g10 rfl) ?_
   refine JO_nil (JX_cut (decide (base.Base ≠ 0)) (by rw [g10]; simp) ⟨rfl, rfl, rfl, rfl, trivial⟩ (fun _ h => h))
 rintro z9 rfl
 refine jr_ (vB ((((!(R16.valid base)) || (decide (base.Id < 1))) || (decide ((1099511627776 : Int) < base.Id))) || (decide (base.Base ≠ 0)))) ?_
 refine JO_cut 4 (fun z => z = (((((!(R16.valid base)) || (decide (base.Id < 1))) || (decide ((1099511627776 : Int) < base.Id))) || (decide (base.Base ≠ 0))) || (decide ((4 : Int) < ((alts.length : Nat) : Int))))) (fun z => [(1, Value.slice altsA alts.length altsC), (2, Value.pointer (some ⟨b1, 0, none⟩)), (4, vB false), (29, vB z)]) (fun _ => [Ent.blk b1 24 (DataSet.enc base)]) ?_ ?_
 ·rcases Bool.eq_false_or_eq_true ((((!(R16.valid base)) || (decide (base.Id < 1))) || (decide ((1099511627776 : Int) < base.Id))) || (decide (base.Base ≠ 0))) with g15 | g15
  ·have g15r := g15
   simp only [Bool.and_eq_true, Bool.or_eq_true, Bool.and_eq_false_iff, Bool.or_eq_false_iff, Bool.not_eq_true', Bool.not_eq_false', decide_eq_true_eq, decide_eq_false_iff_not] at g15r
   refine sh_ g15 ?_
   refine sh_ g15 ?_
   refine sh_ g15 ?_
   refine js_ (vB true) (x_pick_t rfl g15 rfl) ?_
   refine JO_nil (JX_cut (true) (by rw [g15]; simp) ⟨rfl, rfl, rfl, rfl, trivial⟩ (fun _ h => h))
  ·have g15r := g15
   have ⟨g15r, h16⟩ := bor_false g15r
   have ⟨g15r, h17⟩ := bor_false g15r
   have ⟨g15r, h18⟩ := bor_false g15r
   have g15r : (R16.valid base) = true := bnot_false g15r
   have hi19 := R16.valid_facts g15r
   have h18 := of_decide_eq_false h18
   have h17 := of_decide_eq_false h17
   have h16 := of_decide_eq_false h16
   refine jg_ g15 (Value.slice altsA alts.length altsC) (rfl) ?_
   refine jg_ g15 (vI ((alts.length : Nat) : Int)) (x_len_sl Try.underlying25 rfl) ?_
   refine jg_ g15 (vB (decide ((4 : Int) < ((alts.length : Nat) : Int)))) (x_gtr_i rfl rfl) ?_
   refine js_ (vB (decide ((4 : Int) < ((alts.length : Nat) : Int)))) (x_pick_f rfl g15 rfl) ?_
   refine JO_nil (JX_cut (decide ((4 : Int) < ((alts.length : Nat) : Int))) (by rw [g15]; simp) ⟨rfl, rfl, rfl, rfl, trivial⟩ (fun _ h => h))
 rintro z14 rfl
 refine JO_nil (JX_then ?_)
 refine J_cond (((((!(R16.valid base)) || (decide (base.Id < 1))) || (decide ((1099511627776 : Int) < base.Id))) || (decide (base.Base ≠ 0))) || (decide ((4 : Int) < ((alts.length : Nat) : Int)))) rfl rfl (fun h20 => ?_) (fun h20 => ?_)
 ·have h20w := h20
  simp only [Bool.and_eq_true, Bool.or_eq_true, Bool.and_eq_false_iff, Bool.or_eq_false_iff, Bool.not_eq_true', Bool.not_eq_false', decide_eq_true_eq, decide_eq_false_iff_not] at h20
  refine J_seq (J_region ?_)
  refine jr_ (vB false) ?_
  refine JO_nil (JX_then (J_ret (JX_then_ret ?_)))
  first
   | have hd := R27.sph_base (base := base) (alts := alts) (by assumption)
   | have hd := R27.sph_valid (k := k) (base := base) (alts := alts) (by omega) (R27.not_t (by assumption))
   | have hd := R27.sph_twice (k := k) (base := base) (alts := alts) (by omega) (R27.ids_at (i := j) (by omega) (by omega) (by assumption))
   | have hd := (R27.sph_all i1_1 i1_0 (by assumption)).trans i1_2
  refine JX_rets [vB false] (vB false) Try.results30 (fun w h => ⟨rfl, trivial⟩) rfl [] (fun _ h => h.keep [false] rfl) ⟨?_, ?_⟩
  ·have e_x0 : (false : Bool) = (R27.isSphere base alts) := by rw [hd]
   exact congrArg (fun (x0 : Bool) => vB x0) e_x0
  ·rfl
 ·have h20w := h20
  have ⟨h20, h21⟩ := bor_false h20
  have ⟨h20, h22⟩ := bor_false h20
  have ⟨h20, h23⟩ := bor_false h20
  have ⟨h20, h24⟩ := bor_false h20
  have h20 : (R16.valid base) = true := bnot_false h20
  have hi25 := R16.valid_facts h20
  have h24 := of_decide_eq_false h24
  have h23 := of_decide_eq_false h23
  have h22 := of_decide_eq_false h22
  have h21 := of_decide_eq_false h21
  refine J_skip (JX_then (J_seq (J_seq (J_region ?_))))
  refine jr_ (vI 0) ?_
  refine JO_nil (JX_then (J_block ?_))
  refine J_loop (X := Nat) (fun (k : Nat) => (k ≤ alts.length) ∧ (R27.Sph base alts k) ∧ ((R27.isBase base && decide (((alts.length : Nat) : Int) ≤ 4)) = true)) (fun (k : Nat) => [(1, Value.slice altsA alts.length altsC), (2, Value.pointer (some ⟨b1, 0, none⟩)), (5, vI ((k : Nat) : Int))]) (fun (k : Nat) => [Ent.blk b1 24 (DataSet.enc base)]) (fun (k : Nat) => alts.length - k) (0 : Nat) ?_ ⟨rfl, rfl, rfl, trivial⟩ (fun _ h => h) ?_
  ·show (0 ≤ alts.length) ∧ (R27.Sph base alts 0) ∧ ((R27.isBase base && decide (((alts.length : Nat) : Int) ≤ 4)) = true)
   refine ⟨?_, ?_, ?_⟩
   ·first | rfl | omega | (simp_all; done) | (simp_all; omega)
   ·exact R27.sph_zero
   ·exact R27.sph_good (by assumption)
  intro k hI1
  obtain ⟨i1_0, i1_1, i1_2⟩ : (k ≤ alts.length) ∧ (R27.Sph base alts k) ∧ ((R27.isBase base && decide (((alts.length : Nat) : Int) ≤ 4)) = true) := hI1
  refine J_weaken (E' := [(1, Value.slice altsA alts.length altsC), (2, Value.pointer (some ⟨b1, 0, none⟩)), (5, vI ((k : Nat) : Int))]) (L' := [Ent.blk b1 24 (DataSet.enc base)]) ⟨rfl, rfl, rfl, trivial⟩ (fun _ h => h) ?_
  refine J_seq (J_seq (J_region ?_))
  refine jr_ (vI ((k : Nat) : Int)) ?_
  refine jr_ (Value.slice altsA alts.length altsC) ?_
  refine js_ (vI ((alts.length : Nat) : Int)) (x_len_sl Try.underlying25 rfl) ?_
  refine js_ (vB (decide (((k : Nat) : Int) < ((alts.length : Nat) : Int)))) (x_lss_i rfl rfl) ?_
  refine JO_nil (JX_then ?_)
  refine J_cond (decide (((k : Nat) : Int) < ((alts.length : Nat) : Int))) rfl rfl (fun h26 => ?_) (fun h26 => ?_)
  ·have h26w := h26
   have h26 := of_decide_eq_true h26
   refine J_skip (JX_then (J_seq (J_block (J_seq (J_seq ?_)))))
   refine J_draw [Ent.blk b1 24 (DataSet.enc base)] [] [Ent.blk b1 24 (DataSet.enc base)] 7 Ty.mixed rfl ?_
   refine jt_ 0 (Value.agg ((DataSet.enc base)).toArray) rfl (x_loadN 0 (DataSet.enc base) rfl rfl Ty.ag24 Ty.sz24 rfl) ?_
   refine jt_ 1 (Value.slice altsA alts.length altsC) rfl (fun _ _ => rfl) ?_
   refine jt_ 2 (vI ((k : Nat) : Int)) rfl (fun _ _ => rfl) ?_
   refine jt_ 3 (Value.pointer (some (adr altsA (k * 21)))) rfl (x_indexAddr_at (k := k) (off := k * 21) (cells_ro altsR) Try.underlying25 Ty.sz24 rfl rfl lt_ (by rw [flat_length DataSet.enc 21 DataSet.enc_len]; first | omega | (simp; omega) | (simp_all; omega) | (simp_all; done)) rfl) ?_
   refine jt_ 4 (Value.agg ((DataSet.enc (alts.getD k default))).toArray) rfl (x_loadN_at (DataSet.enc (alts.getD k default)) (cells_ro altsR) rfl Ty.ag24 Ty.sz24 (flat_drop DataSet.enc 21 DataSet.enc_len alts default k lt_)) ?_
   refine JA_one 5 (by kernel_rfl) (fun _ h => ⟨h, fun _ => h⟩) ?_
   refine JI_call [] [] [Ent.blk b1 24 (DataSet.enc base)] rfl rfl trivial (fun _ => x_call Ty.ca50 rfl) (fun _ h => h) (fun _ h => by cases h) (fun w hS => f50_ok base (alts.getD k default) w) ?_
   rintro _ _ ⟨rfl, rfl⟩
   refine jt_ 6 (vB (!(R26.valid base (alts.getD k default)))) rfl (fun _ _ => x_not rfl) ?_
   refine JA_done (by kernel_rfl) (fun _ h => ⟨h, fun _ => h⟩) ?_
   refine JX_then ?_
   refine J_cond (!(R26.valid base (alts.getD k default))) rfl rfl (fun h27 => ?_) (fun h27 => ?_)
   ·have h27w := h27
    have h27 : (R26.valid base (alts.getD k default)) = false := bnot_true h27
    refine J_seq (J_region ?_)
    refine jr_ (vB false) ?_
    refine JO_nil (JX_then (J_ret (JX_then_ret (JX_block_ret (JX_then_ret ?_)))))
    refine JX_round_ret (JX_block_ret (JX_then_ret ?_))
    first
     | have hd := R27.sph_base (base := base) (alts := alts) (by assumption)
     | have hd := R27.sph_valid (k := k) (base := base) (alts := alts) (by omega) (R27.not_t (by assumption))
     | have hd := R27.sph_twice (k := k) (base := base) (alts := alts) (by omega) (R27.ids_at (i := j) (by omega) (by omega) (by assumption))
     | have hd := (R27.sph_all i1_1 i1_0 (by assumption)).trans i1_2
    refine JX_rets [vB false] (vB false) Try.results30 (fun w h => ⟨rfl, trivial⟩) rfl [] (fun _ h => h.keep [false] rfl) ⟨?_, ?_⟩
    ·have e_x0 : (false : Bool) = (R27.isSphere base alts) := by rw [hd]
     exact congrArg (fun (x0 : Bool) => vB x0) e_x0
    ·rfl
   ·have h27w := h27
    have h27 : (R26.valid base (alts.getD k default)) = true := bnot_false h27
    have hi28 := R26.valid_facts h27
    refine J_skip (JX_then (J_seq (J_region ?_)))
    refine jr_ (vI 0) ?_
    refine JO_nil (JX_then (J_block ?_))
    refine J_loop (X := Nat) (fun (j : Nat) => (j ≤ k) ∧ (∀ i, i < j → (alts.getD i default).Id ≠ (alts.getD k default).Id)) (fun (j : Nat) => [(1, Value.slice altsA alts.length altsC), (2, Value.pointer (some ⟨b1, 0, none⟩)), (5, vI ((k : Nat) : Int)), (6, vI ((j : Nat) : Int))]) (fun (j : Nat) => [Ent.blk b1 24 (DataSet.enc base)]) (fun (j : Nat) => k - j) (0 : Nat) ?_ ⟨rfl, rfl, rfl, rfl, trivial⟩ (fun _ h => h) ?_
    ·show (0 ≤ k) ∧ (∀ i, i < 0 → (alts.getD i default).Id ≠ (alts.getD k default).Id)
     refine ⟨?_, ?_⟩
     ·first | rfl | omega | (simp_all; done) | (simp_all; omega)
     ·intro i hi; omega
    intro j hI2
    obtain ⟨i2_0, i2_1⟩ : (j ≤ k) ∧ (∀ i, i < j → (alts.getD i default).Id ≠ (alts.getD k default).Id) := hI2
    refine J_weaken (E' := [(1, Value.slice altsA alts.length altsC), (2, Value.pointer (some ⟨b1, 0, none⟩)), (5, vI ((k : Nat) : Int)), (6, vI ((j : Nat) : Int))]) (L' := [Ent.blk b1 24 (DataSet.enc base)]) ⟨rfl, rfl, rfl, rfl, trivial⟩ (fun _ h => h) ?_
    refine J_seq (J_seq (J_region ?_))
    refine jr_ (vI ((j : Nat) : Int)) ?_
    refine jr_ (vI ((k : Nat) : Int)) ?_
    refine js_ (vB (decide (((j : Nat) : Int) < ((k : Nat) : Int)))) (x_lss_i rfl rfl) ?_
    refine JO_nil (JX_then ?_)
    refine J_cond (decide (((j : Nat) : Int) < ((k : Nat) : Int))) rfl rfl (fun h29 => ?_) (fun h29 => ?_)
    ·have h29w := h29
     have h29 := of_decide_eq_true h29
     refine J_skip (JX_then (J_seq (J_block (J_seq ?_))))
     refine J_draw [Ent.blk b1 24 (DataSet.enc base)] [] [Ent.blk b1 24 (DataSet.enc base)] 11 Ty.mixed rfl ?_
     refine jt_ 0 (Value.slice altsA alts.length altsC) rfl (fun _ _ => rfl) ?_
     refine jt_ 1 (vI ((j : Nat) : Int)) rfl (fun _ _ => rfl) ?_
     refine jt_ 2 (Value.pointer (some (adr altsA (j * 21)))) rfl (x_indexAddr_at (k := j) (off := j * 21) (cells_ro altsR) Try.underlying25 Ty.sz24 rfl rfl lt_ (by rw [flat_length DataSet.enc 21 DataSet.enc_len]; first | omega | (simp; omega) | (simp_all; omega) | (simp_all; done)) rfl) ?_
     refine jt_ 3 (Value.pointer (some (adr altsA (j * 21)))) rfl (fun _ _ => x_fieldAddr Ty.fi24_0 rfl rfl) ?_
     refine jt_ 4 (vI ((alts.getD j default).Id)) rfl (x_load_at (cells_ro altsR) rfl Ty.sc3 (flat_at DataSet.enc 21 DataSet.enc_len alts default j 0 lt_ (by decide))) ?_
     refine jt_ 5 (Value.slice altsA alts.length altsC) rfl (fun _ _ => rfl) ?_
     refine jt_ 6 (vI ((k : Nat) : Int)) rfl (fun _ _ => rfl) ?_
     refine jt_ 7 (Value.pointer (some (adr altsA (k * 21)))) rfl (x_indexAddr_at (k := k) (off := k * 21) (cells_ro altsR) Try.underlying25 Ty.sz24 rfl rfl lt_ (by rw [flat_length DataSet.enc 21 DataSet.enc_len]; first | omega | (simp; omega) | (simp_all; omega) | (simp_all; done)) rfl) ?_
     refine jt_ 8 (Value.pointer (some (adr altsA (k * 21)))) rfl (fun _ _ => x_fieldAddr Ty.fi24_0 rfl rfl) ?_
     refine jt_ 9 (vI ((alts.getD k default).Id)) rfl (x_load_at (cells_ro altsR) rfl Ty.sc3 (flat_at DataSet.enc 21 DataSet.enc_len alts default k 0 lt_ (by decide))) ?_
     refine jt_ 10 (vB (decide ((alts.getD j default).Id = (alts.getD k default).Id))) rfl (fun _ _ => x_eql_i rfl rfl) ?_
     refine JA_done (by kernel_rfl) (fun _ h => ⟨h, fun _ => h⟩) ?_
     refine JX_then ?_
     refine J_cond (decide ((alts.getD j default).Id = (alts.getD k default).Id)) rfl rfl (fun h30 => ?_) (fun h30 => ?_)
     ·have h30w := h30
      have h30 := of_decide_eq_true h30
      refine J_seq (J_region ?_)
      refine jr_ (vB false) ?_
      refine JO_nil (JX_then (J_ret (JX_block_ret (JX_then_ret (JX_round_ret ?_)))))
      refine JX_block_ret (JX_block_ret (JX_then_ret (JX_round_ret (JX_block_ret (JX_then_ret ?_)))))
      first
       | have hd := R27.sph_base (base := base) (alts := alts) (by assumption)
       | have hd := R27.sph_valid (k := k) (base := base) (alts := alts) (by omega) (R27.not_t (by assumption))
       | have hd := R27.sph_twice (k := k) (base := base) (alts := alts) (by omega) (R27.ids_at (i := j) (by omega) (by omega) (by assumption))
       | have hd := (R27.sph_all i1_1 i1_0 (by assumption)).trans i1_2
      refine JX_rets [vB false] (vB false) Try.results30 (fun w h => ⟨rfl, trivial⟩) rfl [] (fun _ h => h.keep [false] rfl) ⟨?_, ?_⟩
      ·have e_x0 : (false : Bool) = (R27.isSphere base alts) := by rw [hd]
       exact congrArg (fun (x0 : Bool) => vB x0) e_x0
      ·rfl
     ·have h30w := h30
      have h30 := of_decide_eq_false h30
      refine J_skip (JX_block (JX_then (J_region ?_)))
      refine jr_ (vI ((j : Nat) : Int)) ?_
      refine js_ (vI ((j + 1 : Nat) : Int)) (x_add_n (a := j) (b := 1) rfl rfl (by omega)) ?_
      refine jr_ (vI ((j + 1 : Nat) : Int)) ?_
      refine JO_nil ?_
      refine JX_round (j + 1 : Nat) ?_ ?_ ⟨rfl, rfl, rfl, rfl, trivial⟩ (fun _ h => h)
      ·show ((j + 1) ≤ k) ∧ (∀ i, i < (j + 1) → (alts.getD i default).Id ≠ (alts.getD k default).Id)
       refine ⟨?_, ?_⟩
       ·first | rfl | omega | (simp_all; done) | (simp_all; omega)
       ·intro i hi; by_cases hij : i = j
        ·subst hij; assumption
        ·exact i2_1 i (by omega)
      ·show k - (j + 1) < k - j
       first | omega | (simp; omega) | (simp_all; omega)
    ·have h29w := h29
     have h29 := of_decide_eq_false h29
     refine J_exit (JX_then_exit (JX_round_exit (JX_block_hit (JX_block (JX_then ?_)))))
     refine J_region ?_
     refine jr_ (vI ((k : Nat) : Int)) ?_
     refine js_ (vI ((k + 1 : Nat) : Int)) (x_add_n (a := k) (b := 1) rfl rfl (by omega)) ?_
     refine jr_ (vI ((k + 1 : Nat) : Int)) ?_
     refine JO_nil ?_
     refine JX_round (k + 1 : Nat) ?_ ?_ ⟨rfl, rfl, rfl, trivial⟩ (fun _ h => h)
     ·show ((k + 1) ≤ alts.length) ∧ (R27.Sph base alts (k + 1)) ∧ ((R27.isBase base && decide (((alts.length : Nat) : Int) ≤ 4)) = true)
      refine ⟨?_, ?_, ?_⟩
      ·first | rfl | omega | (simp_all; done) | (simp_all; omega)
      ·exact R27.sph_step (by omega) i1_1 (fun hm => by obtain ⟨i, hi, e⟩ := R27.mem_ids (by omega) hm; exact i2_1 i (by omega) e) (R27.not_f (by assumption))
      ·exact i1_2
     ·show alts.length - (k + 1) < alts.length - k
      first | omega | (simp; omega) | (simp_all; omega)
  ·have h26w := h26
   have h26 := of_decide_eq_false h26
   refine J_exit (JX_then_exit (JX_round_exit (JX_block_hit (JX_then (J_seq ?_)))))
   refine J_region ?_
   refine jr_ (vB true) ?_
   refine JO_nil (JX_then (J_ret ?_))
   first
    | have hd := R27.sph_base (base := base) (alts := alts) (by assumption)
    | have hd := R27.sph_valid (k := k) (base := base) (alts := alts) (by omega) (R27.not_t (by assumption))
    | have hd := R27.sph_twice (k := k) (base := base) (alts := alts) (by omega) (R27.ids_at (i := j) (by omega) (by omega) (by assumption))
    | have hd := (R27.sph_all i1_1 i1_0 (by assumption)).trans i1_2
   refine JX_rets [vB true] (vB true) Try.results30 (fun w h => ⟨rfl, trivial⟩) rfl [] (fun _ h => h.keep [false] rfl) ⟨?_, ?_⟩
   ·have e_x0 : (true : Bool) = (R27.isSphere base alts) := by rw [hd]
    exact congrArg (fun (x0 : Bool) => vB x0) e_x0
   ·rfl
end Go.Proofs.Ytmbinhhlfbgiaaa
