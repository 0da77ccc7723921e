/- contracts C26b -/
import Derived.Test.YtmbinhhlfbgiaaaC26a
namespace Go.Proofs.Ytmbinhhlfbgiaaa
open Go.GV
set_option linter.unusedVariables false
set_option linter.unusedSimpArgs false
set_option maxRecDepth 20000 in
theorem f67_ok (n : Int) (w : World) : Calls Try.prog 67 #[vI n] w (Gives [] w fun v L => v = vB (R26.isId n) ∧ L = []) := by
 refine calls_J [] 9 Try.func67 rfl Try.ntmps67 [(0, vI n)] rfl rfl (Give.nil w) ?_
 refine J_seq (J_region ?_)
 refine jr_ (vB false) ?_
 refine JO_nil (JX_then (J_seq (J_region ?_)))
 refine jr_ (vI n) ?_
 refine js_ (vB (decide ((1 : Int) ≤ n))) (x_geq_i rfl rfl) ?_
 refine jr_ (vB (decide ((1 : Int) ≤ n))) ?_
 refine JO_cut 3 (fun z => z = ((decide ((1 : Int) ≤ n)) && (decide (n ≤ 1099511627776)))) (fun z => [(2, vB false), (8, vB z)]) (fun _ => []) ?_ ?_
 ·rcases Bool.eq_false_or_eq_true (decide ((1 : Int) ≤ n)) with g2 | g2
  ·have g2r := g2
   have g2r := of_decide_eq_true g2r
   refine jg_ g2 (vI n) (rfl) ?_
   refine jg_ g2 (vB (decide (n ≤ 1099511627776))) (x_leq_i rfl rfl) ?_
   refine js_ (vB (decide (n ≤ 1099511627776))) (x_pick_t rfl g2 rfl) ?_
   refine JO_nil (JX_cut (decide (n ≤ 1099511627776)) (by rw [g2]; simp) ⟨rfl, rfl, trivial⟩ (fun _ h => h))
  ·have g2r := g2
   have g2r := of_decide_eq_false g2r
   refine sh_ g2 ?_
   refine sh_ g2 ?_
   refine js_ (vB false) (x_pick_f rfl g2 rfl) ?_
   refine JO_nil (JX_cut (false) (by rw [g2]; simp) ⟨rfl, rfl, trivial⟩ (fun _ h => h))
 rintro z1 rfl
 refine jr_ (vB ((decide ((1 : Int) ≤ n)) && (decide (n ≤ 1099511627776)))) ?_
 refine JO_nil (JX_then (J_ret ?_))
 refine JX_rets [vB ((decide ((1 : Int) ≤ n)) && (decide (n ≤ 1099511627776)))] (vB ((decide ((1 : Int) ≤ n)) && (decide (n ≤ 1099511627776)))) Try.results67 (fun w h => ⟨rfl, trivial⟩) rfl [] (fun _ h => h) ⟨?_, ?_⟩
 ·have e_x0 : ((decide ((1 : Int) ≤ n)) && (decide (n ≤ 1099511627776)) : Bool) = (R26.isId n) := by first | rfl | omega | (simp_all; done) | (simp_all; omega)
  exact congrArg (fun (x0 : Bool) => vB x0) e_x0
 ·rfl
set_option maxRecDepth 20000 in
theorem f66_ok (d : DataSet) (w : World) : Calls Try.prog 66 #[Value.agg ((DataSet.enc d)).toArray] w (Gives [] w fun v L => v = vB (R26.isBase d) ∧ L = []) := by
 refine calls_J [] 25 Try.func66 rfl Try.ntmps66 [(0, Value.agg ((DataSet.enc d)).toArray)] rfl rfl (Give.nil w) ?_
 refine J_seq (J_region ?_)
 refine JO_op rfl trivial (O_box rfl rfl fun b1 => ?_)
 refine jr_ (vB false) ?_
 refine JO_nil (JX_then (J_seq (J_region ?_)))
 refine JO_read (Value.agg ((DataSet.enc d)).toArray) rfl trivial (x_loadN 0 (DataSet.enc d) rfl rfl Ty.ag24 Ty.sz24 rfl) ?_
 refine JO_call [] [] [Ent.blk b1 24 (DataSet.enc d)] rfl trivial (fun _ => x_call Ty.ca69 rfl) (fun _ h => h) (fun _ h => by cases h) (fun w hS => f69_ok d w) ?_
 rintro _ _ ⟨rfl, rfl⟩
 refine jr_ (vB (R16.valid d)) ?_
 refine JO_cut 4 (fun z => z = ((R16.valid d) && (R26.isId d.Id))) (fun z => [(1, Value.pointer (some ⟨b1, 0, none⟩)), (2, vB false), (9, vB z)]) (fun _ => [Ent.blk b1 24 (DataSet.enc d)]) ?_ ?_
 ·rcases Bool.eq_false_or_eq_true (R16.valid d) with g3 | g3
  ·have g3r := g3
   have hi4 := R16.valid_facts g3r
   refine jg_ g3 (Value.pointer (some ⟨b1, 0, none⟩)) (x_fieldAddr Ty.fi24_0 rfl rfl) ?_
   refine JO_read (vI d.Id) rfl ⟨_, rfl, g3⟩ (x_load 0 rfl rfl Ty.sc3 rfl) ?_
   refine JO_call [] [] [Ent.blk b1 24 (DataSet.enc d)] rfl ⟨_, rfl, g3⟩ (fun _ => x_call Ty.ca67 rfl) (fun _ h => h) (fun _ h => by cases h) (fun w hS => f67_ok d.Id w) ?_
   rintro _ _ ⟨rfl, rfl⟩
   refine js_ (vB (R26.isId d.Id)) (x_pick_t rfl g3 rfl) ?_
   refine JO_nil (JX_cut (R26.isId d.Id) (by rw [g3]; simp) ⟨rfl, rfl, rfl, trivial⟩ (fun _ h => h))
  ·have g3r := g3
   refine sh_ g3 ?_
   refine sh_ g3 ?_
   refine sh_ g3 ?_
   refine js_ (vB false) (x_pick_f rfl g3 rfl) ?_
   refine JO_nil (JX_cut (false) (by rw [g3]; simp) ⟨rfl, rfl, rfl, trivial⟩ (fun _ h => h))
 rintro z2 rfl
 refine jr_ (vB ((R16.valid d) && (R26.isId d.Id))) ?_
 refine JO_cut 4 (fun z => z = (((R16.valid d) && (R26.isId d.Id)) && (decide (d.Base = 0)))) (fun z => [(1, Value.pointer (some ⟨b1, 0, none⟩)), (2, vB false), (14, vB z)]) (fun _ => [Ent.blk b1 24 (DataSet.enc d)]) ?_ ?_
 ·rcases Bool.eq_false_or_eq_true ((R16.valid d) && (R26.isId d.Id)) with g6 | g6
  ·have g6r := g6
   have ⟨g6r, h7⟩ := band_true g6r
   have hi8 := R16.valid_facts g6r
   have hi9 := R26.isId_facts h7
   refine jg_ g6 (Value.pointer (some ⟨b1, 11, none⟩)) (x_fieldAddr Ty.fi24_11 rfl rfl) ?_
   refine JO_read (vI d.Base) rfl ⟨_, rfl, g6⟩ (x_load 0 rfl rfl Ty.sc3 rfl) ?_
   refine jg_ g6 (vB (decide (d.Base = 0))) (x_eql_i rfl rfl) ?_
   refine js_ (vB (decide (d.Base = 0))) (x_pick_t rfl g6 rfl) ?_
   refine JO_nil (JX_cut (decide (d.Base = 0)) (by rw [g6]; simp) ⟨rfl, rfl, rfl, trivial⟩ (fun _ h => h))
  ·have g6r := g6
   simp only [Bool.and_eq_true, Bool.or_eq_true, Bool.and_eq_false_iff, Bool.or_eq_false_iff, Bool.not_eq_true', Bool.not_eq_false', decide_eq_true_eq, decide_eq_false_iff_not] at g6r
   refine sh_ g6 ?_
   refine sh_ g6 ?_
   refine sh_ g6 ?_
   refine js_ (vB false) (x_pick_f rfl g6 rfl) ?_
   refine JO_nil (JX_cut (false) (by rw [g6]; simp) ⟨rfl, rfl, rfl, trivial⟩ (fun _ h => h))
 rintro z5 rfl
 refine jr_ (vB (((R16.valid d) && (R26.isId d.Id)) && (decide (d.Base = 0)))) ?_
 refine JO_cut 9 (fun z => z = ((((R16.valid d) && (R26.isId d.Id)) && (decide (d.Base = 0))) && ((decide (d.Org = 3)) || (decide (d.Org = 1))))) (fun z => [(2, vB false), (24, vB z)]) (fun _ => [Ent.blk b1 24 (DataSet.enc d)]) ?_ ?_
 ·rcases Bool.eq_false_or_eq_true (((R16.valid d) && (R26.isId d.Id)) && (decide (d.Base = 0))) with g11 | g11
  ·have g11r := g11
   have ⟨g11r, h12⟩ := band_true g11r
   have ⟨g11r, h13⟩ := band_true g11r
   have hi14 := R16.valid_facts g11r
   have hi15 := R26.isId_facts h13
   have h12 := of_decide_eq_true h12
   refine jg_ g11 (Value.pointer (some ⟨b1, 1, none⟩)) (x_fieldAddr Ty.fi24_1 rfl rfl) ?_
   refine JO_read (vI d.Org) rfl ⟨_, rfl, g11⟩ (x_load 0 rfl rfl Ty.sc3 rfl) ?_
   refine jg_ g11 (vB (decide (d.Org = 3))) (x_eql_i rfl rfl) ?_
   refine jg_ g11 (vB (decide (d.Org = 3))) (rfl) ?_
   refine JO_cut 4 (fun z => z = ((decide (d.Org = 3)) || (decide (d.Org = 1)))) (fun z => [(2, vB false), (15, vB (((R16.valid d) && (R26.isId d.Id)) && (decide (d.Base = 0)))), (23, vB z)]) (fun _ => [Ent.blk b1 24 (DataSet.enc d)]) ?_ ?_
   ·rcases Bool.eq_false_or_eq_true (decide (d.Org = 3)) with g17 | g17
    ·have g17r := g17
     have g17r := of_decide_eq_true g17r
     refine sh_ g17 ?_
     refine sh_ g17 ?_
     refine sh_ g17 ?_
     refine jg_ g11 (vB true) (x_pick_t rfl g17 rfl) ?_
     refine JO_nil (JX_cut (true) (by rw [g17]; simp) ⟨rfl, rfl, rfl, trivial⟩ (fun _ h => h))
    ·have g17r := g17
     have g17r := of_decide_eq_false g17r
     refine jg_ g17 (Value.pointer (some ⟨b1, 1, none⟩)) (x_fieldAddr Ty.fi24_1 rfl rfl) ?_
     refine JO_read (vI d.Org) rfl ⟨_, rfl, g17⟩ (x_load 0 rfl rfl Ty.sc3 rfl) ?_
     refine jg_ g17 (vB (decide (d.Org = 1))) (x_eql_i rfl rfl) ?_
     refine jg_ g11 (vB (decide (d.Org = 1))) (x_pick_f rfl g17 rfl) ?_
     refine JO_nil (JX_cut (decide (d.Org = 1)) (by rw [g17]; simp) ⟨rfl, rfl, rfl, trivial⟩ (fun _ h => h))
   rintro z16 rfl
   refine js_ (vB ((decide (d.Org = 3)) || (decide (d.Org = 1)))) (x_pick_t rfl g11 rfl) ?_
   refine JO_nil (JX_cut ((decide (d.Org = 3)) || (decide (d.Org = 1))) (by rw [g11]; simp) ⟨rfl, rfl, trivial⟩ (fun _ h => h))
  ·have g11r := g11
   simp only [Bool.and_eq_true, Bool.or_eq_true, Bool.and_eq_false_iff, Bool.or_eq_false_iff, Bool.not_eq_true', Bool.not_eq_false', decide_eq_true_eq, decide_eq_false_iff_not] at g11r
   refine sh_ g11 ?_
   refine sh_ g11 ?_
   refine sh_ g11 ?_
   refine sh_ g11 ?_
   refine JO_shunU rfl ⟨_, rfl, rfl⟩ ?_
   refine JO_shunU rfl ⟨_, rfl, rfl⟩ ?_
   refine JO_shunU rfl ⟨_, rfl, rfl⟩ ?_
   refine sh_ g11 ?_
   refine js_ (vB false) (x_pick_f rfl g11 rfl) ?_
   refine JO_nil (JX_cut (false) (by rw [g11]; simp) ⟨rfl, rfl, trivial⟩ (fun _ h => h))
 rintro z10 rfl
 refine jr_ (vB ((((R16.valid d) && (R26.isId d.Id)) && (decide (d.Base = 0))) && ((decide (d.Org = 3)) || (decide (d.Org = 1))))) ?_
 refine JO_nil (JX_then (J_ret ?_))
 refine JX_rets [vB ((((R16.valid d) && (R26.isId d.Id)) && (decide (d.Base = 0))) && ((decide (d.Org = 3)) || (decide (d.Org = 1))))] (vB ((((R16.valid d) && (R26.isId d.Id)) && (decide (d.Base = 0))) && ((decide (d.Org = 3)) || (decide (d.Org = 1))))) Try.results66 (fun w h => ⟨rfl, trivial⟩) rfl [] (fun _ h => h.keep [false] rfl) ⟨?_, ?_⟩
 ·have e_x0 : ((((R16.valid d) && (R26.isId d.Id)) && (decide (d.Base = 0))) && ((decide (d.Org = 3)) || (decide (d.Org = 1))) : Bool) = (R26.isBase d) := by first | rfl | omega | (simp_all; done) | (simp_all; omega)
  exact congrArg (fun (x0 : Bool) => vB x0) e_x0
 ·rfl
set_option maxRecDepth 20000 in
theorem f80_ok (d : DataSet) (w : World) : Calls Try.prog 80 #[Value.agg ((DataSet.enc d)).toArray] w (Gives [] w fun v L => v = vB (R26.isBase d) ∧ L = []) := by
 refine calls_J [] 20 Try.func80 rfl Try.ntmps80 [(0, Value.agg ((DataSet.enc d)).toArray)] rfl rfl (Give.nil w) ?_
 refine J_seq (J_region ?_)
 refine JO_op rfl trivial (O_box rfl rfl fun b1 => ?_)
 refine jr_ (vB false) ?_
 refine JO_nil (JX_then (J_seq (J_region ?_)))
 refine JO_read (Value.agg ((DataSet.enc d)).toArray) rfl trivial (x_loadN 0 (DataSet.enc d) rfl rfl Ty.ag24 Ty.sz24 rfl) ?_
 refine JO_call [] [] [Ent.blk b1 24 (DataSet.enc d)] rfl trivial (fun _ => x_call Ty.ca49 rfl) (fun _ h => h) (fun _ h => by cases h) (fun w hS => f49_ok d w) ?_
 rintro _ _ ⟨rfl, rfl⟩
 refine jr_ (vB (R16.valid d)) ?_
 refine JO_cut 4 (fun z => z = ((R16.valid d) && ((decide (1 ≤ d.Id)) && (decide (d.Id ≤ 1099511627776))))) (fun z => [(1, Value.pointer (some ⟨b1, 0, none⟩)), (2, vB false), (9, vB z)]) (fun _ => [Ent.blk b1 24 (DataSet.enc d)]) ?_ ?_
 ·rcases Bool.eq_false_or_eq_true (R16.valid d) with g3 | g3
  ·have g3r := g3
   have hi4 := R16.valid_facts g3r
   refine jg_ g3 (Value.pointer (some ⟨b1, 0, none⟩)) (x_fieldAddr Ty.fi24_0 rfl rfl) ?_
   refine JO_read (vI d.Id) rfl ⟨_, rfl, g3⟩ (x_load 0 rfl rfl Ty.sc3 rfl) ?_
   refine JO_call [] [] [Ent.blk b1 24 (DataSet.enc d)] rfl ⟨_, rfl, g3⟩ (fun _ => x_call Ty.ca61 rfl) (fun _ h => h) (fun _ h => by cases h) (fun w hS => f61_ok d.Id 1 1099511627776 w) ?_
   rintro _ _ ⟨rfl, rfl⟩
   refine js_ (vB ((decide (1 ≤ d.Id)) && (decide (d.Id ≤ 1099511627776)))) (x_pick_t rfl g3 rfl) ?_
   refine JO_nil (JX_cut ((decide (1 ≤ d.Id)) && (decide (d.Id ≤ 1099511627776))) (by rw [g3]; simp) ⟨rfl, rfl, rfl, trivial⟩ (fun _ h => h))
  ·have g3r := g3
   refine sh_ g3 ?_
   refine sh_ g3 ?_
   refine sh_ g3 ?_
   refine js_ (vB false) (x_pick_f rfl g3 rfl) ?_
   refine JO_nil (JX_cut (false) (by rw [g3]; simp) ⟨rfl, rfl, rfl, trivial⟩ (fun _ h => h))
 rintro z2 rfl
 refine jr_ (vB ((R16.valid d) && ((decide (1 ≤ d.Id)) && (decide (d.Id ≤ 1099511627776))))) ?_
 refine JO_cut 4 (fun z => z = (((R16.valid d) && ((decide (1 ≤ d.Id)) && (decide (d.Id ≤ 1099511627776)))) && (decide (d.Base = 0)))) (fun z => [(1, Value.pointer (some ⟨b1, 0, none⟩)), (2, vB false), (14, vB z)]) (fun _ => [Ent.blk b1 24 (DataSet.enc d)]) ?_ ?_
 ·rcases Bool.eq_false_or_eq_true ((R16.valid d) && ((decide (1 ≤ d.Id)) && (decide (d.Id ≤ 1099511627776)))) with g6 | g6
  ·have g6r := g6
   have ⟨g6r, h7⟩ := band_true g6r
   have hi8 := R16.valid_facts g6r
   have ⟨h7, h9⟩ := band_true h7
   have h7 := of_decide_eq_true h7
   have h9 := of_decide_eq_true h9
   refine jg_ g6 (Value.pointer (some ⟨b1, 11, none⟩)) (x_fieldAddr Ty.fi24_11 rfl rfl) ?_
   refine JO_read (vI d.Base) rfl ⟨_, rfl, g6⟩ (x_load 0 rfl rfl Ty.sc3 rfl) ?_
   refine jg_ g6 (vB (decide (d.Base = 0))) (x_eql_i rfl rfl) ?_
   refine js_ (vB (decide (d.Base = 0))) (x_pick_t rfl g6 rfl) ?_
   refine JO_nil (JX_cut (decide (d.Base = 0)) (by rw [g6]; simp) ⟨rfl, rfl, rfl, trivial⟩ (fun _ h => h))
  ·have g6r := g6
   simp only [Bool.and_eq_true, Bool.or_eq_true, Bool.and_eq_false_iff, Bool.or_eq_false_iff, Bool.not_eq_true', Bool.not_eq_false', decide_eq_true_eq, decide_eq_false_iff_not] at g6r
   refine sh_ g6 ?_
   refine sh_ g6 ?_
   refine sh_ g6 ?_
   refine js_ (vB false) (x_pick_f rfl g6 rfl) ?_
   refine JO_nil (JX_cut (false) (by rw [g6]; simp) ⟨rfl, rfl, rfl, trivial⟩ (fun _ h => h))
 rintro z5 rfl
 refine jr_ (vB (((R16.valid d) && ((decide (1 ≤ d.Id)) && (decide (d.Id ≤ 1099511627776)))) && (decide (d.Base = 0)))) ?_
 refine JO_cut 4 (fun z => z = ((((R16.valid d) && ((decide (1 ≤ d.Id)) && (decide (d.Id ≤ 1099511627776)))) && (decide (d.Base = 0))) && (decide (d.Org ≠ 2)))) (fun z => [(2, vB false), (19, vB z)]) (fun _ => [Ent.blk b1 24 (DataSet.enc d)]) ?_ ?_
 ·rcases Bool.eq_false_or_eq_true (((R16.valid d) && ((decide (1 ≤ d.Id)) && (decide (d.Id ≤ 1099511627776)))) && (decide (d.Base = 0))) with g11 | g11
  ·have g11r := g11
   have ⟨g11r, h12⟩ := band_true g11r
   have ⟨g11r, h13⟩ := band_true g11r
   have hi14 := R16.valid_facts g11r
   have ⟨h13, h15⟩ := band_true h13
   have h13 := of_decide_eq_true h13
   have h15 := of_decide_eq_true h15
   have h12 := of_decide_eq_true h12
   refine jg_ g11 (Value.pointer (some ⟨b1, 1, none⟩)) (x_fieldAddr Ty.fi24_1 rfl rfl) ?_
   refine JO_read (vI d.Org) rfl ⟨_, rfl, g11⟩ (x_load 0 rfl rfl Ty.sc3 rfl) ?_
   refine jg_ g11 (vB (decide (d.Org ≠ 2))) (x_neq_i rfl rfl) ?_
   refine js_ (vB (decide (d.Org ≠ 2))) (x_pick_t rfl g11 rfl) ?_
   refine JO_nil (JX_cut (decide (d.Org ≠ 2)) (by rw [g11]; simp) ⟨rfl, rfl, trivial⟩ (fun _ h => h))
  ·have g11r := g11
   simp only [Bool.and_eq_true, Bool.or_eq_true, Bool.and_eq_false_iff, Bool.or_eq_false_iff, Bool.not_eq_true', Bool.not_eq_false', decide_eq_true_eq, decide_eq_false_iff_not] at g11r
   refine sh_ g11 ?_
   refine sh_ g11 ?_
   refine sh_ g11 ?_
   refine js_ (vB false) (x_pick_f rfl g11 rfl) ?_
   refine JO_nil (JX_cut (false) (by rw [g11]; simp) ⟨rfl, rfl, trivial⟩ (fun _ h => h))
 rintro z10 rfl
 refine jr_ (vB ((((R16.valid d) && ((decide (1 ≤ d.Id)) && (decide (d.Id ≤ 1099511627776)))) && (decide (d.Base = 0))) && (decide (d.Org ≠ 2)))) ?_
 refine JO_nil (JX_then (J_ret ?_))
 refine JX_rets [vB ((((R16.valid d) && ((decide (1 ≤ d.Id)) && (decide (d.Id ≤ 1099511627776)))) && (decide (d.Base = 0))) && (decide (d.Org ≠ 2)))] (vB ((((R16.valid d) && ((decide (1 ≤ d.Id)) && (decide (d.Id ≤ 1099511627776)))) && (decide (d.Base = 0))) && (decide (d.Org ≠ 2)))) Try.results80 (fun w h => ⟨rfl, trivial⟩) rfl [] (fun _ h => h.keep [false] rfl) ⟨?_, ?_⟩
 ·have e_x0 : ((((R16.valid d) && ((decide (1 ≤ d.Id)) && (decide (d.Id ≤ 1099511627776)))) && (decide (d.Base = 0))) && (decide (d.Org ≠ 2)) : Bool) = (R26.isBase d) := by
   unfold R26.isBase R26.isId
   cases hv : R16.valid d with
   | false => simp
   | true =>
    have hf := R16.valid_facts hv
    rw [Bool.eq_iff_iff]
    simp only [Bool.and_eq_true, Bool.or_eq_true, decide_eq_true_eq, Bool.true_and, Bool.false_and, Bool.false_eq_true, false_iff, iff_false, true_iff, iff_true, true_and, and_true, false_and, and_false]
    omega
  exact congrArg (fun (x0 : Bool) => vB x0) e_x0
 ·rfl
set_option maxRecDepth 20000 in
theorem f68_ok (d : DataSet) (w : World) : Calls Try.prog 68 #[Value.agg ((DataSet.enc d)).toArray] w (Gives [] w fun v L => v = vI (R26.keys d) ∧ L = []) := by
 refine calls_J [] 8 Try.func68 rfl Try.ntmps68 [(0, Value.agg ((DataSet.enc d)).toArray)] rfl rfl (Give.nil w) ?_
 refine J_seq (J_region ?_)
 refine JO_op rfl trivial (O_box rfl rfl fun b1 => ?_)
 refine jr_ (vI 0) ?_
 refine JO_nil (JX_then (J_seq (J_seq (J_region ?_))))
 refine js_ (Value.pointer (some ⟨b1, 1, none⟩)) (x_fieldAddr Ty.fi24_1 rfl rfl) ?_
 refine JO_read (vI d.Org) rfl trivial (x_load 0 rfl rfl Ty.sc3 rfl) ?_
 refine js_ (vB (decide (d.Org = 3))) (x_eql_i rfl rfl) ?_
 refine JO_nil (JX_then ?_)
 refine J_cond (decide (d.Org = 3)) rfl rfl (fun h2 => ?_) (fun h2 => ?_)
 ·have h2 := of_decide_eq_true h2
  refine J_seq (J_region ?_)
  refine js_ (Value.pointer (some ⟨b1, 6, none⟩)) (x_fieldAddr Ty.fi24_6 rfl rfl) ?_
  refine JO_read (vI d.KeyLength) rfl trivial (x_load 0 rfl rfl Ty.sc3 rfl) ?_
  refine jr_ (vI d.KeyLength) ?_
  refine JO_nil (JX_then (J_ret (JX_then_ret ?_)))
  refine JX_rets [vI d.KeyLength] (vI d.KeyLength) Try.results68 (fun w h => ⟨rfl, trivial⟩) rfl [] (fun _ h => h.keep [false] rfl) ⟨?_, ?_⟩
  ·have e_x0 : (d.KeyLength : Int) = (R26.keys d) := by first | rfl | exact (if_pos (by omega)).symm | exact (if_neg (by omega)).symm
   exact congrArg (fun (x0 : Int) => vI x0) e_x0
  ·rfl
 ·have h2 := of_decide_eq_false h2
  refine J_skip (JX_then (J_seq (J_region ?_)))
  refine jr_ (vI 8) ?_
  refine JO_nil (JX_then (J_ret ?_))
  refine JX_rets [vI 8] (vI 8) Try.results68 (fun w h => ⟨rfl, trivial⟩) rfl [] (fun _ h => h.keep [false] rfl) ⟨?_, ?_⟩
  ·have e_x0 : (8 : Int) = (R26.keys d) := by first | rfl | exact (if_pos (by omega)).symm | exact (if_neg (by omega)).symm
   exact congrArg (fun (x0 : Int) => vI x0) e_x0
  ·rfl
set_option maxRecDepth 20000 in
theorem f81_ok (d : DataSet) (w : World) : Calls Try.prog 81 #[Value.agg ((DataSet.enc d)).toArray] w (Gives [] w fun v L => v = vI (R26.keys d) ∧ L = []) := by
 refine calls_J [] 8 Try.func81 rfl Try.ntmps81 [(0, Value.agg ((DataSet.enc d)).toArray)] rfl rfl (Give.nil w) ?_
 refine J_seq (J_region ?_)
 refine JO_op rfl trivial (O_box rfl rfl fun b1 => ?_)
 refine jr_ (vI 0) ?_
 refine JO_nil (JX_then (J_seq (J_seq (J_region ?_))))
 refine js_ (Value.pointer (some ⟨b1, 1, none⟩)) (x_fieldAddr Ty.fi24_1 rfl rfl) ?_
 refine JO_read (vI d.Org) rfl trivial (x_load 0 rfl rfl Ty.sc3 rfl) ?_
 refine js_ (vB (decide (d.Org = 3))) (x_eql_i rfl rfl) ?_
 refine JO_nil (JX_then ?_)
 refine J_cond (decide (d.Org = 3)) rfl rfl (fun h2 => ?_) (fun h2 => ?_)
 ·have h2 := of_decide_eq_true h2
  refine J_seq (J_region ?_)
  refine js_ (Value.pointer (some ⟨b1, 6, none⟩)) (x_fieldAddr Ty.fi24_6 rfl rfl) ?_
  refine JO_read (vI d.KeyLength) rfl trivial (x_load 0 rfl rfl Ty.sc3 rfl) ?_
  refine jr_ (vI d.KeyLength) ?_
  refine JO_nil (JX_then (J_ret (JX_then_ret ?_)))
  refine JX_rets [vI d.KeyLength] (vI d.KeyLength) Try.results81 (fun w h => ⟨rfl, trivial⟩) rfl [] (fun _ h => h.keep [false] rfl) ⟨?_, ?_⟩
  ·have e_x0 : (d.KeyLength : Int) = (R26.keys d) := by first | rfl | exact (if_pos (by omega)).symm | exact (if_neg (by omega)).symm
   exact congrArg (fun (x0 : Int) => vI x0) e_x0
  ·rfl
 ·have h2 := of_decide_eq_false h2
  refine J_skip (JX_then (J_seq (J_region ?_)))
  refine jr_ (vI 8) ?_
  refine JO_nil (JX_then (J_ret ?_))
  refine JX_rets [vI 8] (vI 8) Try.results81 (fun w h => ⟨rfl, trivial⟩) rfl [] (fun _ h => h.keep [false] rfl) ⟨?_, ?_⟩
  ·have e_x0 : (8 : Int) = (R26.keys d) := by first | rfl | exact (if_pos (by omega)).symm | exact (if_neg (by omega)).symm
   exact congrArg (fun (x0 : Int) => vI x0) e_x0
  ·rfl
set_option maxRecDepth 20000 in
theorem f70_ok (a : DataSet) (n : Int) (w : World) (q0 : n ≤ 9223372036854775807) : Calls Try.prog 70 #[Value.agg ((DataSet.enc a)).toArray, vI n] w (Gives [] w fun v L => v = vB (R26.shaped a n) ∧ L = []) := by
 refine calls_J [] 68 Try.func70 rfl Try.ntmps70 [(0, Value.agg ((DataSet.enc a)).toArray), (1, vI n)] rfl rfl (Give.nil w) ?_
 refine J_seq (J_region ?_)
 refine JO_op rfl trivial (O_box rfl rfl fun b1 => ?_)
 refine jr_ (vB false) ?_
 refine JO_nil (JX_then (J_seq (J_region ?_)))
 refine js_ (Value.pointer (some ⟨b1, 13, none⟩)) (x_fieldAddr Ty.fi24_13 rfl rfl) ?_
 refine JO_read (vI a.AltLength) rfl trivial (x_load 0 rfl rfl Ty.sc3 rfl) ?_
 refine js_ (vB (decide ((1 : Int) ≤ a.AltLength))) (x_geq_i rfl rfl) ?_
 refine jr_ (vB (decide ((1 : Int) ≤ a.AltLength))) ?_
 refine JO_cut 4 (fun z => z = ((decide ((1 : Int) ≤ a.AltLength)) && (decide ((0 : Int) ≤ a.AltAt)))) (fun z => [(1, vI n), (2, Value.pointer (some ⟨b1, 0, none⟩)), (4, vB false), (13, vB z)]) (fun _ => [Ent.blk b1 24 (DataSet.enc a)]) ?_ ?_
 ·rcases Bool.eq_false_or_eq_true (decide ((1 : Int) ≤ a.AltLength)) with g3 | g3
  ·have g3r := g3
   have g3r := of_decide_eq_true g3r
   refine jg_ g3 (Value.pointer (some ⟨b1, 12, none⟩)) (x_fieldAddr Ty.fi24_12 rfl rfl) ?_
   refine JO_read (vI a.AltAt) rfl ⟨_, rfl, g3⟩ (x_load 0 rfl rfl Ty.sc3 rfl) ?_
   refine jg_ g3 (vB (decide ((0 : Int) ≤ a.AltAt))) (x_geq_i rfl rfl) ?_
   refine js_ (vB (decide ((0 : Int) ≤ a.AltAt))) (x_pick_t rfl g3 rfl) ?_
   refine JO_nil (JX_cut (decide ((0 : Int) ≤ a.AltAt)) (by rw [g3]; simp) ⟨rfl, rfl, rfl, rfl, trivial⟩ (fun _ h => h))
  ·have g3r := g3
   have g3r := of_decide_eq_false g3r
   refine sh_ g3 ?_
   refine sh_ g3 ?_
   refine sh_ g3 ?_
   refine js_ (vB false) (x_pick_f rfl g3 rfl) ?_
   refine JO_nil (JX_cut (false) (by rw [g3]; simp) ⟨rfl, rfl, rfl, rfl, trivial⟩ (fun _ h => h))
 rintro z2 rfl
 refine jr_ (vB ((decide ((1 : Int) ≤ a.AltLength)) && (decide ((0 : Int) ≤ a.AltAt)))) ?_
 refine JO_cut 5 (fun z => z = (((decide ((1 : Int) ≤ a.AltLength)) && (decide ((0 : Int) ≤ a.AltAt))) && (decide (a.AltLength ≤ n)))) (fun z => [(1, vI n), (2, Value.pointer (some ⟨b1, 0, none⟩)), (4, vB false), (19, vB z)]) (fun _ => [Ent.blk b1 24 (DataSet.enc a)]) ?_ ?_
 ·rcases Bool.eq_false_or_eq_true ((decide ((1 : Int) ≤ a.AltLength)) && (decide ((0 : Int) ≤ a.AltAt))) with g5 | g5
  ·have g5r := g5
   have ⟨g5r, h6⟩ := band_true g5r
   have g5r := of_decide_eq_true g5r
   have h6 := of_decide_eq_true h6
   refine jg_ g5 (Value.pointer (some ⟨b1, 13, none⟩)) (x_fieldAddr Ty.fi24_13 rfl rfl) ?_
   refine JO_read (vI a.AltLength) rfl ⟨_, rfl, g5⟩ (x_load 0 rfl rfl Ty.sc3 rfl) ?_
   refine jg_ g5 (vI n) (rfl) ?_
   refine jg_ g5 (vB (decide (a.AltLength ≤ n))) (x_leq_i rfl rfl) ?_
   refine js_ (vB (decide (a.AltLength ≤ n))) (x_pick_t rfl g5 rfl) ?_
   refine JO_nil (JX_cut (decide (a.AltLength ≤ n)) (by rw [g5]; simp) ⟨rfl, rfl, rfl, rfl, trivial⟩ (fun _ h => h))
  ·have g5r := g5
   simp only [Bool.and_eq_true, Bool.or_eq_true, Bool.and_eq_false_iff, Bool.or_eq_false_iff, Bool.not_eq_true', Bool.not_eq_false', decide_eq_true_eq, decide_eq_false_iff_not] at g5r
   refine sh_ g5 ?_
   refine sh_ g5 ?_
   refine sh_ g5 ?_
   refine sh_ g5 ?_
   refine js_ (vB false) (x_pick_f rfl g5 rfl) ?_
   refine JO_nil (JX_cut (false) (by rw [g5]; simp) ⟨rfl, rfl, rfl, rfl, trivial⟩ (fun _ h => h))
 rintro z4 rfl
 refine jr_ (vB (((decide ((1 : Int) ≤ a.AltLength)) && (decide ((0 : Int) ≤ a.AltAt))) && (decide (a.AltLength ≤ n)))) ?_
 refine JO_cut 8 (fun z => z = ((((decide ((1 : Int) ≤ a.AltLength)) && (decide ((0 : Int) ≤ a.AltAt))) && (decide (a.AltLength ≤ n))) && (decide (a.AltAt ≤ n - a.AltLength)))) (fun z => [(2, Value.pointer (some ⟨b1, 0, none⟩)), (4, vB false), (28, vB z)]) (fun _ => [Ent.blk b1 24 (DataSet.enc a)]) ?_ ?_
 ·rcases Bool.eq_false_or_eq_true (((decide ((1 : Int) ≤ a.AltLength)) && (decide ((0 : Int) ≤ a.AltAt))) && (decide (a.AltLength ≤ n))) with g8 | g8
  ·have g8r := g8
   have ⟨g8r, h9⟩ := band_true g8r
   have ⟨g8r, h10⟩ := band_true g8r
   have g8r := of_decide_eq_true g8r
   have h10 := of_decide_eq_true h10
   have h9 := of_decide_eq_true h9
   refine jg_ g8 (Value.pointer (some ⟨b1, 12, none⟩)) (x_fieldAddr Ty.fi24_12 rfl rfl) ?_
   refine JO_read (vI a.AltAt) rfl ⟨_, rfl, g8⟩ (x_load 0 rfl rfl Ty.sc3 rfl) ?_
   refine jg_ g8 (vI n) (rfl) ?_
   refine jg_ g8 (Value.pointer (some ⟨b1, 13, none⟩)) (x_fieldAddr Ty.fi24_13 rfl rfl) ?_
   refine JO_read (vI a.AltLength) rfl ⟨_, rfl, g8⟩ (x_load 0 rfl rfl Ty.sc3 rfl) ?_
   refine jg_ g8 (vI (n - a.AltLength)) (x_sub_i (a := n) (b := a.AltLength) rfl rfl (by omega) (by omega)) ?_
   refine jg_ g8 (vB (decide (a.AltAt ≤ n - a.AltLength))) (x_leq_i rfl rfl) ?_
   refine js_ (vB (decide (a.AltAt ≤ n - a.AltLength))) (x_pick_t rfl g8 rfl) ?_
   refine JO_nil (JX_cut (decide (a.AltAt ≤ n - a.AltLength)) (by rw [g8]; simp) ⟨rfl, rfl, rfl, trivial⟩ (fun _ h => h))
  ·have g8r := g8
   simp only [Bool.and_eq_true, Bool.or_eq_true, Bool.and_eq_false_iff, Bool.or_eq_false_iff, Bool.not_eq_true', Bool.not_eq_false', decide_eq_true_eq, decide_eq_false_iff_not] at g8r
   refine sh_ g8 ?_
   refine sh_ g8 ?_
   refine sh_ g8 ?_
   refine sh_ g8 ?_
   refine sh_ g8 ?_
   refine sh_ g8 ?_
   refine sh_ g8 ?_
   refine js_ (vB false) (x_pick_f rfl g8 rfl) ?_
   refine JO_nil (JX_cut (false) (by rw [g8]; simp) ⟨rfl, rfl, rfl, trivial⟩ (fun _ h => h))
 rintro z7 rfl
 refine jr_ (vB ((((decide ((1 : Int) ≤ a.AltLength)) && (decide ((0 : Int) ≤ a.AltAt))) && (decide (a.AltLength ≤ n))) && (decide (a.AltAt ≤ n - a.AltLength)))) ?_
 refine JO_nil (JX_then (J_seq (J_region ?_)))
 refine JO_read (Value.agg ((DataSet.enc a)).toArray) rfl trivial (x_loadN 0 (DataSet.enc a) rfl rfl Ty.ag24 Ty.sz24 rfl) ?_
 refine JO_call [] [] [Ent.blk b1 24 (DataSet.enc a)] rfl trivial (fun _ => x_call Ty.ca69 rfl) (fun _ h => h) (fun _ h => by cases h) (fun w hS => f69_ok a w) ?_
 rintro _ _ ⟨rfl, rfl⟩
 refine jr_ (vB (R16.valid a)) ?_
 refine JO_cut 4 (fun z => z = ((R16.valid a) && (decide (a.Org = 3)))) (fun z => [(2, Value.pointer (some ⟨b1, 0, none⟩)), (4, vB false), (5, vB ((((decide ((1 : Int) ≤ a.AltLength)) && (decide ((0 : Int) ≤ a.AltAt))) && (decide (a.AltLength ≤ n))) && (decide (a.AltAt ≤ n - a.AltLength)))), (35, vB z)]) (fun _ => [Ent.blk b1 24 (DataSet.enc a)]) ?_ ?_
 ·rcases Bool.eq_false_or_eq_true (R16.valid a) with g12 | g12
  ·have g12r := g12
   have hi13 := R16.valid_facts g12r
   refine jg_ g12 (Value.pointer (some ⟨b1, 1, none⟩)) (x_fieldAddr Ty.fi24_1 rfl rfl) ?_
   refine JO_read (vI a.Org) rfl ⟨_, rfl, g12⟩ (x_load 0 rfl rfl Ty.sc3 rfl) ?_
   refine jg_ g12 (vB (decide (a.Org = 3))) (x_eql_i rfl rfl) ?_
   refine js_ (vB (decide (a.Org = 3))) (x_pick_t rfl g12 rfl) ?_
   refine JO_nil (JX_cut (decide (a.Org = 3)) (by rw [g12]; simp) ⟨rfl, rfl, rfl, rfl, trivial⟩ (fun _ h => h))
  ·have g12r := g12
   refine sh_ g12 ?_
   refine sh_ g12 ?_
   refine sh_ g12 ?_
   refine js_ (vB false) (x_pick_f rfl g12 rfl) ?_
   refine JO_nil (JX_cut (false) (by rw [g12]; simp) ⟨rfl, rfl, rfl, rfl, trivial⟩ (fun _ h => h))
 rintro z11 rfl
 refine jr_ (vB ((R16.valid a) && (decide (a.Org = 3)))) ?_
 refine JO_cut 4 (fun z => z = (((R16.valid a) && (decide (a.Org = 3))) && (R26.isId a.Id))) (fun z => [(2, Value.pointer (some ⟨b1, 0, none⟩)), (4, vB false), (5, vB ((((decide ((1 : Int) ≤ a.AltLength)) && (decide ((0 : Int) ≤ a.AltAt))) && (decide (a.AltLength ≤ n))) && (decide (a.AltAt ≤ n - a.AltLength)))), (40, vB z)]) (fun _ => [Ent.blk b1 24 (DataSet.enc a)]) ?_ ?_
 ·rcases Bool.eq_false_or_eq_true ((R16.valid a) && (decide (a.Org = 3))) with g15 | g15
  ·have g15r := g15
   have ⟨g15r, h16⟩ := band_true g15r
   have hi17 := R16.valid_facts g15r
   have h16 := of_decide_eq_true h16
   refine jg_ g15 (Value.pointer (some ⟨b1, 0, none⟩)) (x_fieldAddr Ty.fi24_0 rfl rfl) ?_
   refine JO_read (vI a.Id) rfl ⟨_, rfl, g15⟩ (x_load 0 rfl rfl Ty.sc3 rfl) ?_
   refine JO_call [] [] [Ent.blk b1 24 (DataSet.enc a)] rfl ⟨_, rfl, g15⟩ (fun _ => x_call Ty.ca67 rfl) (fun _ h => h) (fun _ h => by cases h) (fun w hS => f67_ok a.Id w) ?_
   rintro _ _ ⟨rfl, rfl⟩
   refine js_ (vB (R26.isId a.Id)) (x_pick_t rfl g15 rfl) ?_
   refine JO_nil (JX_cut (R26.isId a.Id) (by rw [g15]; simp) ⟨rfl, rfl, rfl, rfl, trivial⟩ (fun _ h => h))
  ·have g15r := g15
   simp only [Bool.and_eq_true, Bool.or_eq_true, Bool.and_eq_false_iff, Bool.or_eq_false_iff, Bool.not_eq_true', Bool.not_eq_false', decide_eq_true_eq, decide_eq_false_iff_not] at g15r
   refine sh_ g15 ?_
   refine sh_ g15 ?_
   refine sh_ g15 ?_
   refine js_ (vB false) (x_pick_f rfl g15 rfl) ?_
   refine JO_nil (JX_cut (false) (by rw [g15]; simp) ⟨rfl, rfl, rfl, rfl, trivial⟩ (fun _ h => h))
 rintro z14 rfl
 refine jr_ (vB (((R16.valid a) && (decide (a.Org = 3))) && (R26.isId a.Id))) ?_
 refine JO_cut 4 (fun z => z = ((((R16.valid a) && (decide (a.Org = 3))) && (R26.isId a.Id)) && (R26.isId a.Base))) (fun z => [(2, Value.pointer (some ⟨b1, 0, none⟩)), (4, vB false), (5, vB ((((decide ((1 : Int) ≤ a.AltLength)) && (decide ((0 : Int) ≤ a.AltAt))) && (decide (a.AltLength ≤ n))) && (decide (a.AltAt ≤ n - a.AltLength)))), (45, vB z)]) (fun _ => [Ent.blk b1 24 (DataSet.enc a)]) ?_ ?_
 ·rcases Bool.eq_false_or_eq_true (((R16.valid a) && (decide (a.Org = 3))) && (R26.isId a.Id)) with g19 | g19
  ·have g19r := g19
   have ⟨g19r, h20⟩ := band_true g19r
   have ⟨g19r, h21⟩ := band_true g19r
   have hi22 := R16.valid_facts g19r
   have h21 := of_decide_eq_true h21
   have hi23 := R26.isId_facts h20
   refine jg_ g19 (Value.pointer (some ⟨b1, 11, none⟩)) (x_fieldAddr Ty.fi24_11 rfl rfl) ?_
   refine JO_read (vI a.Base) rfl ⟨_, rfl, g19⟩ (x_load 0 rfl rfl Ty.sc3 rfl) ?_
   refine JO_call [] [] [Ent.blk b1 24 (DataSet.enc a)] rfl ⟨_, rfl, g19⟩ (fun _ => x_call Ty.ca67 rfl) (fun _ h => h) (fun _ h => by cases h) (fun w hS => f67_ok a.Base w) ?_
   rintro _ _ ⟨rfl, rfl⟩
   refine js_ (vB (R26.isId a.Base)) (x_pick_t rfl g19 rfl) ?_
   refine JO_nil (JX_cut (R26.isId a.Base) (by rw [g19]; simp) ⟨rfl, rfl, rfl, rfl, trivial⟩ (fun _ h => h))
  ·have g19r := g19
   simp only [Bool.and_eq_true, Bool.or_eq_true, Bool.and_eq_false_iff, Bool.or_eq_false_iff, Bool.not_eq_true', Bool.not_eq_false', decide_eq_true_eq, decide_eq_false_iff_not] at g19r
   refine sh_ g19 ?_
   refine sh_ g19 ?_
   refine sh_ g19 ?_
   refine js_ (vB false) (x_pick_f rfl g19 rfl) ?_
   refine JO_nil (JX_cut (false) (by rw [g19]; simp) ⟨rfl, rfl, rfl, rfl, trivial⟩ (fun _ h => h))
 rintro z18 rfl
 refine jr_ (vB ((((R16.valid a) && (decide (a.Org = 3))) && (R26.isId a.Id)) && (R26.isId a.Base))) ?_
 refine JO_cut 6 (fun z => z = (((((R16.valid a) && (decide (a.Org = 3))) && (R26.isId a.Id)) && (R26.isId a.Base)) && (decide (a.Base ≠ a.Id)))) (fun z => [(2, Value.pointer (some ⟨b1, 0, none⟩)), (4, vB false), (5, vB ((((decide ((1 : Int) ≤ a.AltLength)) && (decide ((0 : Int) ≤ a.AltAt))) && (decide (a.AltLength ≤ n))) && (decide (a.AltAt ≤ n - a.AltLength)))), (52, vB z)]) (fun _ => [Ent.blk b1 24 (DataSet.enc a)]) ?_ ?_
 ·rcases Bool.eq_false_or_eq_true ((((R16.valid a) && (decide (a.Org = 3))) && (R26.isId a.Id)) && (R26.isId a.Base)) with g25 | g25
  ·have g25r := g25
   have ⟨g25r, h26⟩ := band_true g25r
   have ⟨g25r, h27⟩ := band_true g25r
   have ⟨g25r, h28⟩ := band_true g25r
   have hi29 := R16.valid_facts g25r
   have h28 := of_decide_eq_true h28
   have hi30 := R26.isId_facts h27
   have hi31 := R26.isId_facts h26
   refine jg_ g25 (Value.pointer (some ⟨b1, 11, none⟩)) (x_fieldAddr Ty.fi24_11 rfl rfl) ?_
   refine JO_read (vI a.Base) rfl ⟨_, rfl, g25⟩ (x_load 0 rfl rfl Ty.sc3 rfl) ?_
   refine jg_ g25 (Value.pointer (some ⟨b1, 0, none⟩)) (x_fieldAddr Ty.fi24_0 rfl rfl) ?_
   refine JO_read (vI a.Id) rfl ⟨_, rfl, g25⟩ (x_load 0 rfl rfl Ty.sc3 rfl) ?_
   refine jg_ g25 (vB (decide (a.Base ≠ a.Id))) (x_neq_i rfl rfl) ?_
   refine js_ (vB (decide (a.Base ≠ a.Id))) (x_pick_t rfl g25 rfl) ?_
   refine JO_nil (JX_cut (decide (a.Base ≠ a.Id)) (by rw [g25]; simp) ⟨rfl, rfl, rfl, rfl, trivial⟩ (fun _ h => h))
  ·have g25r := g25
   simp only [Bool.and_eq_true, Bool.or_eq_true, Bool.and_eq_false_iff, Bool.or_eq_false_iff, Bool.not_eq_true', Bool.not_eq_false', decide_eq_true_eq, decide_eq_false_iff_not] at g25r
   refine sh_ g25 ?_
   refine sh_ g25 ?_
   refine sh_ g25 ?_
   refine sh_ g25 ?_
   refine sh_ g25 ?_
   refine js_ (vB false) (x_pick_f rfl g25 rfl) ?_
   refine JO_nil (JX_cut (false) (by rw [g25]; simp) ⟨rfl, rfl, rfl, rfl, trivial⟩ (fun _ h => h))
 rintro z24 rfl
 refine jr_ (vB (((((R16.valid a) && (decide (a.Org = 3))) && (R26.isId a.Id)) && (R26.isId a.Base)) && (decide (a.Base ≠ a.Id)))) ?_
 refine JO_cut 2 (fun z => z = ((((((R16.valid a) && (decide (a.Org = 3))) && (R26.isId a.Id)) && (R26.isId a.Base)) && (decide (a.Base ≠ a.Id))) && ((((decide ((1 : Int) ≤ a.AltLength)) && (decide ((0 : Int) ≤ a.AltAt))) && (decide (a.AltLength ≤ n))) && (decide (a.AltAt ≤ n - a.AltLength))))) (fun z => [(2, Value.pointer (some ⟨b1, 0, none⟩)), (4, vB false), (55, vB z)]) (fun _ => [Ent.blk b1 24 (DataSet.enc a)]) ?_ ?_
 ·rcases Bool.eq_false_or_eq_true (((((R16.valid a) && (decide (a.Org = 3))) && (R26.isId a.Id)) && (R26.isId a.Base)) && (decide (a.Base ≠ a.Id))) with g33 | g33
  ·have g33r := g33
   have ⟨g33r, h34⟩ := band_true g33r
   have ⟨g33r, h35⟩ := band_true g33r
   have ⟨g33r, h36⟩ := band_true g33r
   have ⟨g33r, h37⟩ := band_true g33r
   have hi38 := R16.valid_facts g33r
   have h37 := of_decide_eq_true h37
   have hi39 := R26.isId_facts h36
   have hi40 := R26.isId_facts h35
   have h34 := of_decide_eq_true h34
   refine jg_ g33 (vB ((((decide ((1 : Int) ≤ a.AltLength)) && (decide ((0 : Int) ≤ a.AltAt))) && (decide (a.AltLength ≤ n))) && (decide (a.AltAt ≤ n - a.AltLength)))) (rfl) ?_
   refine js_ (vB ((((decide ((1 : Int) ≤ a.AltLength)) && (decide ((0 : Int) ≤ a.AltAt))) && (decide (a.AltLength ≤ n))) && (decide (a.AltAt ≤ n - a.AltLength)))) (x_pick_t rfl g33 rfl) ?_
   refine JO_nil (JX_cut ((((decide ((1 : Int) ≤ a.AltLength)) && (decide ((0 : Int) ≤ a.AltAt))) && (decide (a.AltLength ≤ n))) && (decide (a.AltAt ≤ n - a.AltLength))) (by rw [g33]; simp) ⟨rfl, rfl, rfl, trivial⟩ (fun _ h => h))
  ·have g33r := g33
   simp only [Bool.and_eq_true, Bool.or_eq_true, Bool.and_eq_false_iff, Bool.or_eq_false_iff, Bool.not_eq_true', Bool.not_eq_false', decide_eq_true_eq, decide_eq_false_iff_not] at g33r
   refine sh_ g33 ?_
   refine js_ (vB false) (x_pick_f rfl g33 rfl) ?_
   refine JO_nil (JX_cut (false) (by rw [g33]; simp) ⟨rfl, rfl, rfl, trivial⟩ (fun _ h => h))
 rintro z32 rfl
 refine jr_ (vB ((((((R16.valid a) && (decide (a.Org = 3))) && (R26.isId a.Id)) && (R26.isId a.Base)) && (decide (a.Base ≠ a.Id))) && ((((decide ((1 : Int) ≤ a.AltLength)) && (decide ((0 : Int) ≤ a.AltAt))) && (decide (a.AltLength ≤ n))) && (decide (a.AltAt ≤ n - a.AltLength))))) ?_
 refine JO_cut 4 (fun z => z = (((((((R16.valid a) && (decide (a.Org = 3))) && (R26.isId a.Id)) && (R26.isId a.Base)) && (decide (a.Base ≠ a.Id))) && ((((decide ((1 : Int) ≤ a.AltLength)) && (decide ((0 : Int) ≤ a.AltAt))) && (decide (a.AltLength ≤ n))) && (decide (a.AltAt ≤ n - a.AltLength)))) && (decide (a.KeyAt = 0)))) (fun z => [(2, Value.pointer (some ⟨b1, 0, none⟩)), (4, vB false), (60, vB z)]) (fun _ => [Ent.blk b1 24 (DataSet.enc a)]) ?_ ?_
 ·rcases Bool.eq_false_or_eq_true ((((((R16.valid a) && (decide (a.Org = 3))) && (R26.isId a.Id)) && (R26.isId a.Base)) && (decide (a.Base ≠ a.Id))) && ((((decide ((1 : Int) ≤ a.AltLength)) && (decide ((0 : Int) ≤ a.AltAt))) && (decide (a.AltLength ≤ n))) && (decide (a.AltAt ≤ n - a.AltLength)))) with g42 | g42
  ·have g42r := g42
   have ⟨g42r, h43⟩ := band_true g42r
   have ⟨g42r, h44⟩ := band_true g42r
   have ⟨g42r, h45⟩ := band_true g42r
   have ⟨g42r, h46⟩ := band_true g42r
   have ⟨g42r, h47⟩ := band_true g42r
   have hi48 := R16.valid_facts g42r
   have h47 := of_decide_eq_true h47
   have hi49 := R26.isId_facts h46
   have hi50 := R26.isId_facts h45
   have h44 := of_decide_eq_true h44
   have ⟨h43, h51⟩ := band_true h43
   have ⟨h43, h52⟩ := band_true h43
   have ⟨h43, h53⟩ := band_true h43
   have h43 := of_decide_eq_true h43
   have h53 := of_decide_eq_true h53
   have h52 := of_decide_eq_true h52
   have h51 := of_decide_eq_true h51
   refine jg_ g42 (Value.pointer (some ⟨b1, 5, none⟩)) (x_fieldAddr Ty.fi24_5 rfl rfl) ?_
   refine JO_read (vI a.KeyAt) rfl ⟨_, rfl, g42⟩ (x_load 0 rfl rfl Ty.sc3 rfl) ?_
   refine jg_ g42 (vB (decide (a.KeyAt = 0))) (x_eql_i rfl rfl) ?_
   refine js_ (vB (decide (a.KeyAt = 0))) (x_pick_t rfl g42 rfl) ?_
   refine JO_nil (JX_cut (decide (a.KeyAt = 0)) (by rw [g42]; simp) ⟨rfl, rfl, rfl, trivial⟩ (fun _ h => h))
  ·have g42r := g42
   simp only [Bool.and_eq_true, Bool.or_eq_true, Bool.and_eq_false_iff, Bool.or_eq_false_iff, Bool.not_eq_true', Bool.not_eq_false', decide_eq_true_eq, decide_eq_false_iff_not] at g42r
   refine sh_ g42 ?_
   refine sh_ g42 ?_
   refine sh_ g42 ?_
   refine js_ (vB false) (x_pick_f rfl g42 rfl) ?_
   refine JO_nil (JX_cut (false) (by rw [g42]; simp) ⟨rfl, rfl, rfl, trivial⟩ (fun _ h => h))
 rintro z41 rfl
 refine jr_ (vB (((((((R16.valid a) && (decide (a.Org = 3))) && (R26.isId a.Id)) && (R26.isId a.Base)) && (decide (a.Base ≠ a.Id))) && ((((decide ((1 : Int) ≤ a.AltLength)) && (decide ((0 : Int) ≤ a.AltAt))) && (decide (a.AltLength ≤ n))) && (decide (a.AltAt ≤ n - a.AltLength)))) && (decide (a.KeyAt = 0)))) ?_
 refine JO_cut 6 (fun z => z = ((((((((R16.valid a) && (decide (a.Org = 3))) && (R26.isId a.Id)) && (R26.isId a.Base)) && (decide (a.Base ≠ a.Id))) && ((((decide ((1 : Int) ≤ a.AltLength)) && (decide ((0 : Int) ≤ a.AltAt))) && (decide (a.AltLength ≤ n))) && (decide (a.AltAt ≤ n - a.AltLength)))) && (decide (a.KeyAt = 0))) && (decide (a.Length = a.KeyLength)))) (fun z => [(4, vB false), (67, vB z)]) (fun _ => [Ent.blk b1 24 (DataSet.enc a)]) ?_ ?_
 ·rcases Bool.eq_false_or_eq_true (((((((R16.valid a) && (decide (a.Org = 3))) && (R26.isId a.Id)) && (R26.isId a.Base)) && (decide (a.Base ≠ a.Id))) && ((((decide ((1 : Int) ≤ a.AltLength)) && (decide ((0 : Int) ≤ a.AltAt))) && (decide (a.AltLength ≤ n))) && (decide (a.AltAt ≤ n - a.AltLength)))) && (decide (a.KeyAt = 0))) with g55 | g55
  ·have g55r := g55
   have ⟨g55r, h56⟩ := band_true g55r
   have ⟨g55r, h57⟩ := band_true g55r
   have ⟨g55r, h58⟩ := band_true g55r
   have ⟨g55r, h59⟩ := band_true g55r
   have ⟨g55r, h60⟩ := band_true g55r
   have ⟨g55r, h61⟩ := band_true g55r
   have hi62 := R16.valid_facts g55r
   have h61 := of_decide_eq_true h61
   have hi63 := R26.isId_facts h60
   have hi64 := R26.isId_facts h59
   have h58 := of_decide_eq_true h58
   have ⟨h57, h65⟩ := band_true h57
   have ⟨h57, h66⟩ := band_true h57
   have ⟨h57, h67⟩ := band_true h57
   have h57 := of_decide_eq_true h57
   have h67 := of_decide_eq_true h67
   have h66 := of_decide_eq_true h66
   have h65 := of_decide_eq_true h65
   have h56 := of_decide_eq_true h56
   refine jg_ g55 (Value.pointer (some ⟨b1, 3, none⟩)) (x_fieldAddr Ty.fi24_3 rfl rfl) ?_
   refine JO_read (vI a.Length) rfl ⟨_, rfl, g55⟩ (x_load 0 rfl rfl Ty.sc3 rfl) ?_
   refine jg_ g55 (Value.pointer (some ⟨b1, 6, none⟩)) (x_fieldAddr Ty.fi24_6 rfl rfl) ?_
   refine JO_read (vI a.KeyLength) rfl ⟨_, rfl, g55⟩ (x_load 0 rfl rfl Ty.sc3 rfl) ?_
   refine jg_ g55 (vB (decide (a.Length = a.KeyLength))) (x_eql_i rfl rfl) ?_
   refine js_ (vB (decide (a.Length = a.KeyLength))) (x_pick_t rfl g55 rfl) ?_
   refine JO_nil (JX_cut (decide (a.Length = a.KeyLength)) (by rw [g55]; simp) ⟨rfl, rfl, trivial⟩ (fun _ h => h))
  ·have g55r := g55
   simp only [Bool.and_eq_true, Bool.or_eq_true, Bool.and_eq_false_iff, Bool.or_eq_false_iff, Bool.not_eq_true', Bool.not_eq_false', decide_eq_true_eq, decide_eq_false_iff_not] at g55r
   refine sh_ g55 ?_
   refine sh_ g55 ?_
   refine sh_ g55 ?_
   refine sh_ g55 ?_
   refine sh_ g55 ?_
   refine js_ (vB false) (x_pick_f rfl g55 rfl) ?_
   refine JO_nil (JX_cut (false) (by rw [g55]; simp) ⟨rfl, rfl, trivial⟩ (fun _ h => h))
 rintro z54 rfl
 refine jr_ (vB ((((((((R16.valid a) && (decide (a.Org = 3))) && (R26.isId a.Id)) && (R26.isId a.Base)) && (decide (a.Base ≠ a.Id))) && ((((decide ((1 : Int) ≤ a.AltLength)) && (decide ((0 : Int) ≤ a.AltAt))) && (decide (a.AltLength ≤ n))) && (decide (a.AltAt ≤ n - a.AltLength)))) && (decide (a.KeyAt = 0))) && (decide (a.Length = a.KeyLength)))) ?_
 refine JO_nil (JX_then (J_ret ?_))
 refine JX_rets [vB ((((((((R16.valid a) && (decide (a.Org = 3))) && (R26.isId a.Id)) && (R26.isId a.Base)) && (decide (a.Base ≠ a.Id))) && ((((decide ((1 : Int) ≤ a.AltLength)) && (decide ((0 : Int) ≤ a.AltAt))) && (decide (a.AltLength ≤ n))) && (decide (a.AltAt ≤ n - a.AltLength)))) && (decide (a.KeyAt = 0))) && (decide (a.Length = a.KeyLength)))] (vB ((((((((R16.valid a) && (decide (a.Org = 3))) && (R26.isId a.Id)) && (R26.isId a.Base)) && (decide (a.Base ≠ a.Id))) && ((((decide ((1 : Int) ≤ a.AltLength)) && (decide ((0 : Int) ≤ a.AltAt))) && (decide (a.AltLength ≤ n))) && (decide (a.AltAt ≤ n - a.AltLength)))) && (decide (a.KeyAt = 0))) && (decide (a.Length = a.KeyLength)))) Try.results70 (fun w h => ⟨rfl, trivial⟩) rfl [] (fun _ h => h.keep [false] rfl) ⟨?_, ?_⟩
 ·have e_x0 : ((((((((R16.valid a) && (decide (a.Org = 3))) && (R26.isId a.Id)) && (R26.isId a.Base)) && (decide (a.Base ≠ a.Id))) && ((((decide ((1 : Int) ≤ a.AltLength)) && (decide ((0 : Int) ≤ a.AltAt))) && (decide (a.AltLength ≤ n))) && (decide (a.AltAt ≤ n - a.AltLength)))) && (decide (a.KeyAt = 0))) && (decide (a.Length = a.KeyLength)) : Bool) = (R26.shaped a n) := by first | rfl | omega | (simp_all; done) | (simp_all; omega)
  exact congrArg (fun (x0 : Bool) => vB x0) e_x0
 ·rfl
set_option maxRecDepth 20000 in
theorem f57_ok (a : DataSet) (w : World) : Calls Try.prog 57 #[Value.agg ((DataSet.enc a)).toArray] w (Gives [] w fun v L => v = vB (R26.isAlt a) ∧ L = []) := by
 refine calls_J [] 12 Try.func57 rfl Try.ntmps57 [(0, Value.agg ((DataSet.enc a)).toArray)] rfl rfl (Give.nil w) ?_
 refine J_seq (J_region ?_)
 refine JO_op rfl trivial (O_box rfl rfl fun b1 => ?_)
 refine jr_ (vB false) ?_
 refine JO_nil (JX_then (J_seq (J_region ?_)))
 refine JO_read (Value.agg ((DataSet.enc a)).toArray) rfl trivial (x_loadN 0 (DataSet.enc a) rfl rfl Ty.ag24 Ty.sz24 rfl) ?_
 refine JO_call [] [] [Ent.blk b1 24 (DataSet.enc a)] rfl trivial (fun _ => x_call Ty.ca70 rfl) (fun _ h => h) (fun _ h => by cases h) (fun w hS => f70_ok a 200 w hy_) ?_
 rintro _ _ ⟨rfl, rfl⟩
 refine jr_ (vB (R26.shaped a 200)) ?_
 refine JO_cut 6 (fun z => z = ((R26.shaped a 200) && (decide (a.AltLength < a.KeyLength)))) (fun z => [(2, vB false), (11, vB z)]) (fun _ => [Ent.blk b1 24 (DataSet.enc a)]) ?_ ?_
 ·rcases Bool.eq_false_or_eq_true (R26.shaped a 200) with g3 | g3
  ·have g3r := g3
   have hi4 := R26.shaped_facts g3r
   refine jg_ g3 (Value.pointer (some ⟨b1, 6, none⟩)) (x_fieldAddr Ty.fi24_6 rfl rfl) ?_
   refine JO_read (vI a.KeyLength) rfl ⟨_, rfl, g3⟩ (x_load 0 rfl rfl Ty.sc3 rfl) ?_
   refine jg_ g3 (Value.pointer (some ⟨b1, 13, none⟩)) (x_fieldAddr Ty.fi24_13 rfl rfl) ?_
   refine JO_read (vI a.AltLength) rfl ⟨_, rfl, g3⟩ (x_load 0 rfl rfl Ty.sc3 rfl) ?_
   refine jg_ g3 (vB (decide (a.AltLength < a.KeyLength))) (x_gtr_i rfl rfl) ?_
   refine js_ (vB (decide (a.AltLength < a.KeyLength))) (x_pick_t rfl g3 rfl) ?_
   refine JO_nil (JX_cut (decide (a.AltLength < a.KeyLength)) (by rw [g3]; simp) ⟨rfl, rfl, trivial⟩ (fun _ h => h))
  ·have g3r := g3
   refine sh_ g3 ?_
   refine sh_ g3 ?_
   refine sh_ g3 ?_
   refine sh_ g3 ?_
   refine sh_ g3 ?_
   refine js_ (vB false) (x_pick_f rfl g3 rfl) ?_
   refine JO_nil (JX_cut (false) (by rw [g3]; simp) ⟨rfl, rfl, trivial⟩ (fun _ h => h))
 rintro z2 rfl
 refine jr_ (vB ((R26.shaped a 200) && (decide (a.AltLength < a.KeyLength)))) ?_
 refine JO_nil (JX_then (J_ret ?_))
 refine JX_rets [vB ((R26.shaped a 200) && (decide (a.AltLength < a.KeyLength)))] (vB ((R26.shaped a 200) && (decide (a.AltLength < a.KeyLength)))) Try.results57 (fun w h => ⟨rfl, trivial⟩) rfl [] (fun _ h => h.keep [false] rfl) ⟨?_, ?_⟩
 ·have e_x0 : ((R26.shaped a 200) && (decide (a.AltLength < a.KeyLength)) : Bool) = (R26.isAlt a) := by first | rfl | omega | (simp_all; done) | (simp_all; omega)
  exact congrArg (fun (x0 : Bool) => vB x0) e_x0
 ·rfl
set_option maxRecDepth 20000 in
theorem f39_ok (a : DataSet) (w : World) : Calls Try.prog 39 #[Value.agg ((DataSet.enc a)).toArray] w (Gives [] w fun v L => v = vB (R26.isAlt a) ∧ L = []) := by
 refine calls_J [] 64 Try.func39 rfl Try.ntmps39 [(0, Value.agg ((DataSet.enc a)).toArray)] rfl rfl (Give.nil w) ?_
 refine J_seq (J_region ?_)
 refine JO_op rfl trivial (O_box rfl rfl fun b1 => ?_)
 refine jr_ (vB false) ?_
 refine JO_nil (JX_then (J_seq (J_region ?_)))
 refine JO_read (Value.agg ((DataSet.enc a)).toArray) rfl trivial (x_loadN 0 (DataSet.enc a) rfl rfl Ty.ag24 Ty.sz24 rfl) ?_
 refine JO_call [] [] [Ent.blk b1 24 (DataSet.enc a)] rfl trivial (fun _ => x_call Ty.ca49 rfl) (fun _ h => h) (fun _ h => by cases h) (fun w hS => f49_ok a w) ?_
 rintro _ _ ⟨rfl, rfl⟩
 refine jr_ (vB (R16.valid a)) ?_
 refine JO_cut 4 (fun z => z = ((R16.valid a) && (decide (a.Org = 3)))) (fun z => [(1, Value.pointer (some ⟨b1, 0, none⟩)), (2, vB false), (9, vB z)]) (fun _ => [Ent.blk b1 24 (DataSet.enc a)]) ?_ ?_
 ·rcases Bool.eq_false_or_eq_true (R16.valid a) with g3 | g3
  ·have g3r := g3
   have hi4 := R16.valid_facts g3r
   refine jg_ g3 (Value.pointer (some ⟨b1, 1, none⟩)) (x_fieldAddr Ty.fi24_1 rfl rfl) ?_
   refine JO_read (vI a.Org) rfl ⟨_, rfl, g3⟩ (x_load 0 rfl rfl Ty.sc3 rfl) ?_
   refine jg_ g3 (vB (decide (a.Org = 3))) (x_eql_i rfl rfl) ?_
   refine js_ (vB (decide (a.Org = 3))) (x_pick_t rfl g3 rfl) ?_
   refine JO_nil (JX_cut (decide (a.Org = 3)) (by rw [g3]; simp) ⟨rfl, rfl, rfl, trivial⟩ (fun _ h => h))
  ·have g3r := g3
   refine sh_ g3 ?_
   refine sh_ g3 ?_
   refine sh_ g3 ?_
   refine js_ (vB false) (x_pick_f rfl g3 rfl) ?_
   refine JO_nil (JX_cut (false) (by rw [g3]; simp) ⟨rfl, rfl, rfl, trivial⟩ (fun _ h => h))
 rintro z2 rfl
 refine jr_ (vB ((R16.valid a) && (decide (a.Org = 3)))) ?_
 refine JO_cut 4 (fun z => z = (((R16.valid a) && (decide (a.Org = 3))) && ((decide (1 ≤ a.Id)) && (decide (a.Id ≤ 1099511627776))))) (fun z => [(1, Value.pointer (some ⟨b1, 0, none⟩)), (2, vB false), (14, vB z)]) (fun _ => [Ent.blk b1 24 (DataSet.enc a)]) ?_ ?_
 ·rcases Bool.eq_false_or_eq_true ((R16.valid a) && (decide (a.Org = 3))) with g6 | g6
  ·have g6r := g6
   have ⟨g6r, h7⟩ := band_true g6r
   have hi8 := R16.valid_facts g6r
   have h7 := of_decide_eq_true h7
   refine jg_ g6 (Value.pointer (some ⟨b1, 0, none⟩)) (x_fieldAddr Ty.fi24_0 rfl rfl) ?_
   refine JO_read (vI a.Id) rfl ⟨_, rfl, g6⟩ (x_load 0 rfl rfl Ty.sc3 rfl) ?_
   refine JO_call [] [] [Ent.blk b1 24 (DataSet.enc a)] rfl ⟨_, rfl, g6⟩ (fun _ => x_call Ty.ca61 rfl) (fun _ h => h) (fun _ h => by cases h) (fun w hS => f61_ok a.Id 1 1099511627776 w) ?_
   rintro _ _ ⟨rfl, rfl⟩
   refine js_ (vB ((decide (1 ≤ a.Id)) && (decide (a.Id ≤ 1099511627776)))) (x_pick_t rfl g6 rfl) ?_
   refine JO_nil (JX_cut ((decide (1 ≤ a.Id)) && (decide (a.Id ≤ 1099511627776))) (by rw [g6]; simp) ⟨rfl, rfl, rfl, trivial⟩ (fun _ h => h))
  ·have g6r := g6
   simp only [Bool.and_eq_true, Bool.or_eq_true, Bool.and_eq_false_iff, Bool.or_eq_false_iff, Bool.not_eq_true', Bool.not_eq_false', decide_eq_true_eq, decide_eq_false_iff_not] at g6r
   refine sh_ g6 ?_
   refine sh_ g6 ?_
   refine sh_ g6 ?_
   refine js_ (vB false) (x_pick_f rfl g6 rfl) ?_
   refine JO_nil (JX_cut (false) (by rw [g6]; simp) ⟨rfl, rfl, rfl, trivial⟩ (fun _ h => h))
 rintro z5 rfl
 refine jr_ (vB (((R16.valid a) && (decide (a.Org = 3))) && ((decide (1 ≤ a.Id)) && (decide (a.Id ≤ 1099511627776))))) ?_
 refine JO_cut 4 (fun z => z = ((((R16.valid a) && (decide (a.Org = 3))) && ((decide (1 ≤ a.Id)) && (decide (a.Id ≤ 1099511627776)))) && ((decide (1 ≤ a.Base)) && (decide (a.Base ≤ 1099511627776))))) (fun z => [(1, Value.pointer (some ⟨b1, 0, none⟩)), (2, vB false), (19, vB z)]) (fun _ => [Ent.blk b1 24 (DataSet.enc a)]) ?_ ?_
 ·rcases Bool.eq_false_or_eq_true (((R16.valid a) && (decide (a.Org = 3))) && ((decide (1 ≤ a.Id)) && (decide (a.Id ≤ 1099511627776)))) with g10 | g10
  ·have g10r := g10
   have ⟨g10r, h11⟩ := band_true g10r
   have ⟨g10r, h12⟩ := band_true g10r
   have hi13 := R16.valid_facts g10r
   have h12 := of_decide_eq_true h12
   have ⟨h11, h14⟩ := band_true h11
   have h11 := of_decide_eq_true h11
   have h14 := of_decide_eq_true h14
   refine jg_ g10 (Value.pointer (some ⟨b1, 11, none⟩)) (x_fieldAddr Ty.fi24_11 rfl rfl) ?_
   refine JO_read (vI a.Base) rfl ⟨_, rfl, g10⟩ (x_load 0 rfl rfl Ty.sc3 rfl) ?_
   refine JO_call [] [] [Ent.blk b1 24 (DataSet.enc a)] rfl ⟨_, rfl, g10⟩ (fun _ => x_call Ty.ca61 rfl) (fun _ h => h) (fun _ h => by cases h) (fun w hS => f61_ok a.Base 1 1099511627776 w) ?_
   rintro _ _ ⟨rfl, rfl⟩
   refine js_ (vB ((decide (1 ≤ a.Base)) && (decide (a.Base ≤ 1099511627776)))) (x_pick_t rfl g10 rfl) ?_
   refine JO_nil (JX_cut ((decide (1 ≤ a.Base)) && (decide (a.Base ≤ 1099511627776))) (by rw [g10]; simp) ⟨rfl, rfl, rfl, trivial⟩ (fun _ h => h))
  ·have g10r := g10
   simp only [Bool.and_eq_true, Bool.or_eq_true, Bool.and_eq_false_iff, Bool.or_eq_false_iff, Bool.not_eq_true', Bool.not_eq_false', decide_eq_true_eq, decide_eq_false_iff_not] at g10r
   refine sh_ g10 ?_
   refine sh_ g10 ?_
   refine sh_ g10 ?_
   refine js_ (vB false) (x_pick_f rfl g10 rfl) ?_
   refine JO_nil (JX_cut (false) (by rw [g10]; simp) ⟨rfl, rfl, rfl, trivial⟩ (fun _ h => h))
 rintro z9 rfl
 refine jr_ (vB ((((R16.valid a) && (decide (a.Org = 3))) && ((decide (1 ≤ a.Id)) && (decide (a.Id ≤ 1099511627776)))) && ((decide (1 ≤ a.Base)) && (decide (a.Base ≤ 1099511627776))))) ?_
 refine JO_cut 6 (fun z => z = (((((R16.valid a) && (decide (a.Org = 3))) && ((decide (1 ≤ a.Id)) && (decide (a.Id ≤ 1099511627776)))) && ((decide (1 ≤ a.Base)) && (decide (a.Base ≤ 1099511627776)))) && (decide (a.Base ≠ a.Id)))) (fun z => [(1, Value.pointer (some ⟨b1, 0, none⟩)), (2, vB false), (26, vB z)]) (fun _ => [Ent.blk b1 24 (DataSet.enc a)]) ?_ ?_
 ·rcases Bool.eq_false_or_eq_true ((((R16.valid a) && (decide (a.Org = 3))) && ((decide (1 ≤ a.Id)) && (decide (a.Id ≤ 1099511627776)))) && ((decide (1 ≤ a.Base)) && (decide (a.Base ≤ 1099511627776)))) with g16 | g16
  ·have g16r := g16
   have ⟨g16r, h17⟩ := band_true g16r
   have ⟨g16r, h18⟩ := band_true g16r
   have ⟨g16r, h19⟩ := band_true g16r
   have hi20 := R16.valid_facts g16r
   have h19 := of_decide_eq_true h19
   have ⟨h18, h21⟩ := band_true h18
   have h18 := of_decide_eq_true h18
   have h21 := of_decide_eq_true h21
   have ⟨h17, h22⟩ := band_true h17
   have h17 := of_decide_eq_true h17
   have h22 := of_decide_eq_true h22
   refine jg_ g16 (Value.pointer (some ⟨b1, 11, none⟩)) (x_fieldAddr Ty.fi24_11 rfl rfl) ?_
   refine JO_read (vI a.Base) rfl ⟨_, rfl, g16⟩ (x_load 0 rfl rfl Ty.sc3 rfl) ?_
   refine jg_ g16 (Value.pointer (some ⟨b1, 0, none⟩)) (x_fieldAddr Ty.fi24_0 rfl rfl) ?_
   refine JO_read (vI a.Id) rfl ⟨_, rfl, g16⟩ (x_load 0 rfl rfl Ty.sc3 rfl) ?_
   refine jg_ g16 (vB (decide (a.Base ≠ a.Id))) (x_neq_i rfl rfl) ?_
   refine js_ (vB (decide (a.Base ≠ a.Id))) (x_pick_t rfl g16 rfl) ?_
   refine JO_nil (JX_cut (decide (a.Base ≠ a.Id)) (by rw [g16]; simp) ⟨rfl, rfl, rfl, trivial⟩ (fun _ h => h))
  ·have g16r := g16
   simp only [Bool.and_eq_true, Bool.or_eq_true, Bool.and_eq_false_iff, Bool.or_eq_false_iff, Bool.not_eq_true', Bool.not_eq_false', decide_eq_true_eq, decide_eq_false_iff_not] at g16r
   refine sh_ g16 ?_
   refine sh_ g16 ?_
   refine sh_ g16 ?_
   refine sh_ g16 ?_
   refine sh_ g16 ?_
   refine js_ (vB false) (x_pick_f rfl g16 rfl) ?_
   refine JO_nil (JX_cut (false) (by rw [g16]; simp) ⟨rfl, rfl, rfl, trivial⟩ (fun _ h => h))
 rintro z15 rfl
 refine jr_ (vB (((((R16.valid a) && (decide (a.Org = 3))) && ((decide (1 ≤ a.Id)) && (decide (a.Id ≤ 1099511627776)))) && ((decide (1 ≤ a.Base)) && (decide (a.Base ≤ 1099511627776)))) && (decide (a.Base ≠ a.Id)))) ?_
 refine JO_cut 4 (fun z => z = ((((((R16.valid a) && (decide (a.Org = 3))) && ((decide (1 ≤ a.Id)) && (decide (a.Id ≤ 1099511627776)))) && ((decide (1 ≤ a.Base)) && (decide (a.Base ≤ 1099511627776)))) && (decide (a.Base ≠ a.Id))) && ((decide (0 ≤ a.AltAt)) && (decide (a.AltAt ≤ 200))))) (fun z => [(1, Value.pointer (some ⟨b1, 0, none⟩)), (2, vB false), (31, vB z)]) (fun _ => [Ent.blk b1 24 (DataSet.enc a)]) ?_ ?_
 ·rcases Bool.eq_false_or_eq_true (((((R16.valid a) && (decide (a.Org = 3))) && ((decide (1 ≤ a.Id)) && (decide (a.Id ≤ 1099511627776)))) && ((decide (1 ≤ a.Base)) && (decide (a.Base ≤ 1099511627776)))) && (decide (a.Base ≠ a.Id))) with g24 | g24
  ·have g24r := g24
   have ⟨g24r, h25⟩ := band_true g24r
   have ⟨g24r, h26⟩ := band_true g24r
   have ⟨g24r, h27⟩ := band_true g24r
   have ⟨g24r, h28⟩ := band_true g24r
   have hi29 := R16.valid_facts g24r
   have h28 := of_decide_eq_true h28
   have ⟨h27, h30⟩ := band_true h27
   have h27 := of_decide_eq_true h27
   have h30 := of_decide_eq_true h30
   have ⟨h26, h31⟩ := band_true h26
   have h26 := of_decide_eq_true h26
   have h31 := of_decide_eq_true h31
   have h25 := of_decide_eq_true h25
   refine jg_ g24 (Value.pointer (some ⟨b1, 12, none⟩)) (x_fieldAddr Ty.fi24_12 rfl rfl) ?_
   refine JO_read (vI a.AltAt) rfl ⟨_, rfl, g24⟩ (x_load 0 rfl rfl Ty.sc3 rfl) ?_
   refine JO_call [] [] [Ent.blk b1 24 (DataSet.enc a)] rfl ⟨_, rfl, g24⟩ (fun _ => x_call Ty.ca61 rfl) (fun _ h => h) (fun _ h => by cases h) (fun w hS => f61_ok a.AltAt 0 200 w) ?_
   rintro _ _ ⟨rfl, rfl⟩
   refine js_ (vB ((decide (0 ≤ a.AltAt)) && (decide (a.AltAt ≤ 200)))) (x_pick_t rfl g24 rfl) ?_
   refine JO_nil (JX_cut ((decide (0 ≤ a.AltAt)) && (decide (a.AltAt ≤ 200))) (by rw [g24]; simp) ⟨rfl, rfl, rfl, trivial⟩ (fun _ h => h))
  ·have g24r := g24
   simp only [Bool.and_eq_true, Bool.or_eq_true, Bool.and_eq_false_iff, Bool.or_eq_false_iff, Bool.not_eq_true', Bool.not_eq_false', decide_eq_true_eq, decide_eq_false_iff_not] at g24r
   refine sh_ g24 ?_
   refine sh_ g24 ?_
   refine sh_ g24 ?_
   refine js_ (vB false) (x_pick_f rfl g24 rfl) ?_
   refine JO_nil (JX_cut (false) (by rw [g24]; simp) ⟨rfl, rfl, rfl, trivial⟩ (fun _ h => h))
 rintro z23 rfl
 refine jr_ (vB ((((((R16.valid a) && (decide (a.Org = 3))) && ((decide (1 ≤ a.Id)) && (decide (a.Id ≤ 1099511627776)))) && ((decide (1 ≤ a.Base)) && (decide (a.Base ≤ 1099511627776)))) && (decide (a.Base ≠ a.Id))) && ((decide (0 ≤ a.AltAt)) && (decide (a.AltAt ≤ 200))))) ?_
 refine JO_cut 4 (fun z => z = (((((((R16.valid a) && (decide (a.Org = 3))) && ((decide (1 ≤ a.Id)) && (decide (a.Id ≤ 1099511627776)))) && ((decide (1 ≤ a.Base)) && (decide (a.Base ≤ 1099511627776)))) && (decide (a.Base ≠ a.Id))) && ((decide (0 ≤ a.AltAt)) && (decide (a.AltAt ≤ 200)))) && ((decide (1 ≤ a.AltLength)) && (decide (a.AltLength ≤ 32))))) (fun z => [(1, Value.pointer (some ⟨b1, 0, none⟩)), (2, vB false), (36, vB z)]) (fun _ => [Ent.blk b1 24 (DataSet.enc a)]) ?_ ?_
 ·rcases Bool.eq_false_or_eq_true ((((((R16.valid a) && (decide (a.Org = 3))) && ((decide (1 ≤ a.Id)) && (decide (a.Id ≤ 1099511627776)))) && ((decide (1 ≤ a.Base)) && (decide (a.Base ≤ 1099511627776)))) && (decide (a.Base ≠ a.Id))) && ((decide (0 ≤ a.AltAt)) && (decide (a.AltAt ≤ 200)))) with g33 | g33
  ·have g33r := g33
   have ⟨g33r, h34⟩ := band_true g33r
   have ⟨g33r, h35⟩ := band_true g33r
   have ⟨g33r, h36⟩ := band_true g33r
   have ⟨g33r, h37⟩ := band_true g33r
   have ⟨g33r, h38⟩ := band_true g33r
   have hi39 := R16.valid_facts g33r
   have h38 := of_decide_eq_true h38
   have ⟨h37, h40⟩ := band_true h37
   have h37 := of_decide_eq_true h37
   have h40 := of_decide_eq_true h40
   have ⟨h36, h41⟩ := band_true h36
   have h36 := of_decide_eq_true h36
   have h41 := of_decide_eq_true h41
   have h35 := of_decide_eq_true h35
   have ⟨h34, h42⟩ := band_true h34
   have h34 := of_decide_eq_true h34
   have h42 := of_decide_eq_true h42
   refine jg_ g33 (Value.pointer (some ⟨b1, 13, none⟩)) (x_fieldAddr Ty.fi24_13 rfl rfl) ?_
   refine JO_read (vI a.AltLength) rfl ⟨_, rfl, g33⟩ (x_load 0 rfl rfl Ty.sc3 rfl) ?_
   refine JO_call [] [] [Ent.blk b1 24 (DataSet.enc a)] rfl ⟨_, rfl, g33⟩ (fun _ => x_call Ty.ca61 rfl) (fun _ h => h) (fun _ h => by cases h) (fun w hS => f61_ok a.AltLength 1 32 w) ?_
   rintro _ _ ⟨rfl, rfl⟩
   refine js_ (vB ((decide (1 ≤ a.AltLength)) && (decide (a.AltLength ≤ 32)))) (x_pick_t rfl g33 rfl) ?_
   refine JO_nil (JX_cut ((decide (1 ≤ a.AltLength)) && (decide (a.AltLength ≤ 32))) (by rw [g33]; simp) ⟨rfl, rfl, rfl, trivial⟩ (fun _ h => h))
  ·have g33r := g33
   simp only [Bool.and_eq_true, Bool.or_eq_true, Bool.and_eq_false_iff, Bool.or_eq_false_iff, Bool.not_eq_true', Bool.not_eq_false', decide_eq_true_eq, decide_eq_false_iff_not] at g33r
   refine sh_ g33 ?_
   refine sh_ g33 ?_
   refine sh_ g33 ?_
   refine js_ (vB false) (x_pick_f rfl g33 rfl) ?_
   refine JO_nil (JX_cut (false) (by rw [g33]; simp) ⟨rfl, rfl, rfl, trivial⟩ (fun _ h => h))
 rintro z32 rfl
 refine jr_ (vB (((((((R16.valid a) && (decide (a.Org = 3))) && ((decide (1 ≤ a.Id)) && (decide (a.Id ≤ 1099511627776)))) && ((decide (1 ≤ a.Base)) && (decide (a.Base ≤ 1099511627776)))) && (decide (a.Base ≠ a.Id))) && ((decide (0 ≤ a.AltAt)) && (decide (a.AltAt ≤ 200)))) && ((decide (1 ≤ a.AltLength)) && (decide (a.AltLength ≤ 32))))) ?_
 refine JO_cut 7 (fun z => z = ((((((((R16.valid a) && (decide (a.Org = 3))) && ((decide (1 ≤ a.Id)) && (decide (a.Id ≤ 1099511627776)))) && ((decide (1 ≤ a.Base)) && (decide (a.Base ≤ 1099511627776)))) && (decide (a.Base ≠ a.Id))) && ((decide (0 ≤ a.AltAt)) && (decide (a.AltAt ≤ 200)))) && ((decide (1 ≤ a.AltLength)) && (decide (a.AltLength ≤ 32)))) && (decide (a.AltAt + a.AltLength ≤ 200)))) (fun z => [(1, Value.pointer (some ⟨b1, 0, none⟩)), (2, vB false), (44, vB z)]) (fun _ => [Ent.blk b1 24 (DataSet.enc a)]) ?_ ?_
 ·rcases Bool.eq_false_or_eq_true (((((((R16.valid a) && (decide (a.Org = 3))) && ((decide (1 ≤ a.Id)) && (decide (a.Id ≤ 1099511627776)))) && ((decide (1 ≤ a.Base)) && (decide (a.Base ≤ 1099511627776)))) && (decide (a.Base ≠ a.Id))) && ((decide (0 ≤ a.AltAt)) && (decide (a.AltAt ≤ 200)))) && ((decide (1 ≤ a.AltLength)) && (decide (a.AltLength ≤ 32)))) with g44 | g44
  ·have g44r := g44
   have ⟨g44r, h45⟩ := band_true g44r
   have ⟨g44r, h46⟩ := band_true g44r
   have ⟨g44r, h47⟩ := band_true g44r
   have ⟨g44r, h48⟩ := band_true g44r
   have ⟨g44r, h49⟩ := band_true g44r
   have ⟨g44r, h50⟩ := band_true g44r
   have hi51 := R16.valid_facts g44r
   have h50 := of_decide_eq_true h50
   have ⟨h49, h52⟩ := band_true h49
   have h49 := of_decide_eq_true h49
   have h52 := of_decide_eq_true h52
   have ⟨h48, h53⟩ := band_true h48
   have h48 := of_decide_eq_true h48
   have h53 := of_decide_eq_true h53
   have h47 := of_decide_eq_true h47
   have ⟨h46, h54⟩ := band_true h46
   have h46 := of_decide_eq_true h46
   have h54 := of_decide_eq_true h54
   have ⟨h45, h55⟩ := band_true h45
   have h45 := of_decide_eq_true h45
   have h55 := of_decide_eq_true h55
   refine jg_ g44 (Value.pointer (some ⟨b1, 12, none⟩)) (x_fieldAddr Ty.fi24_12 rfl rfl) ?_
   refine JO_read (vI a.AltAt) rfl ⟨_, rfl, g44⟩ (x_load 0 rfl rfl Ty.sc3 rfl) ?_
   refine jg_ g44 (Value.pointer (some ⟨b1, 13, none⟩)) (x_fieldAddr Ty.fi24_13 rfl rfl) ?_
   refine JO_read (vI a.AltLength) rfl ⟨_, rfl, g44⟩ (x_load 0 rfl rfl Ty.sc3 rfl) ?_
   refine jg_ g44 (vI (a.AltAt + a.AltLength)) (x_add_i (a := a.AltAt) (b := a.AltLength) rfl rfl (by omega) (by omega)) ?_
   refine jg_ g44 (vB (decide (a.AltAt + a.AltLength ≤ 200))) (x_leq_i rfl rfl) ?_
   refine js_ (vB (decide (a.AltAt + a.AltLength ≤ 200))) (x_pick_t rfl g44 rfl) ?_
   refine JO_nil (JX_cut (decide (a.AltAt + a.AltLength ≤ 200)) (by rw [g44]; simp) ⟨rfl, rfl, rfl, trivial⟩ (fun _ h => h))
  ·have g44r := g44
   simp only [Bool.and_eq_true, Bool.or_eq_true, Bool.and_eq_false_iff, Bool.or_eq_false_iff, Bool.not_eq_true', Bool.not_eq_false', decide_eq_true_eq, decide_eq_false_iff_not] at g44r
   refine sh_ g44 ?_
   refine sh_ g44 ?_
   refine sh_ g44 ?_
   refine sh_ g44 ?_
   refine sh_ g44 ?_
   refine sh_ g44 ?_
   refine js_ (vB false) (x_pick_f rfl g44 rfl) ?_
   refine JO_nil (JX_cut (false) (by rw [g44]; simp) ⟨rfl, rfl, rfl, trivial⟩ (fun _ h => h))
 rintro z43 rfl
 refine jr_ (vB ((((((((R16.valid a) && (decide (a.Org = 3))) && ((decide (1 ≤ a.Id)) && (decide (a.Id ≤ 1099511627776)))) && ((decide (1 ≤ a.Base)) && (decide (a.Base ≤ 1099511627776)))) && (decide (a.Base ≠ a.Id))) && ((decide (0 ≤ a.AltAt)) && (decide (a.AltAt ≤ 200)))) && ((decide (1 ≤ a.AltLength)) && (decide (a.AltLength ≤ 32)))) && (decide (a.AltAt + a.AltLength ≤ 200)))) ?_
 refine JO_cut 4 (fun z => z = (((((((((R16.valid a) && (decide (a.Org = 3))) && ((decide (1 ≤ a.Id)) && (decide (a.Id ≤ 1099511627776)))) && ((decide (1 ≤ a.Base)) && (decide (a.Base ≤ 1099511627776)))) && (decide (a.Base ≠ a.Id))) && ((decide (0 ≤ a.AltAt)) && (decide (a.AltAt ≤ 200)))) && ((decide (1 ≤ a.AltLength)) && (decide (a.AltLength ≤ 32)))) && (decide (a.AltAt + a.AltLength ≤ 200))) && (decide (a.KeyAt = 0)))) (fun z => [(1, Value.pointer (some ⟨b1, 0, none⟩)), (2, vB false), (49, vB z)]) (fun _ => [Ent.blk b1 24 (DataSet.enc a)]) ?_ ?_
 ·rcases Bool.eq_false_or_eq_true ((((((((R16.valid a) && (decide (a.Org = 3))) && ((decide (1 ≤ a.Id)) && (decide (a.Id ≤ 1099511627776)))) && ((decide (1 ≤ a.Base)) && (decide (a.Base ≤ 1099511627776)))) && (decide (a.Base ≠ a.Id))) && ((decide (0 ≤ a.AltAt)) && (decide (a.AltAt ≤ 200)))) && ((decide (1 ≤ a.AltLength)) && (decide (a.AltLength ≤ 32)))) && (decide (a.AltAt + a.AltLength ≤ 200))) with g57 | g57
  ·have g57r := g57
   have ⟨g57r, h58⟩ := band_true g57r
   have ⟨g57r, h59⟩ := band_true g57r
   have ⟨g57r, h60⟩ := band_true g57r
   have ⟨g57r, h61⟩ := band_true g57r
   have ⟨g57r, h62⟩ := band_true g57r
   have ⟨g57r, h63⟩ := band_true g57r
   have ⟨g57r, h64⟩ := band_true g57r
   have hi65 := R16.valid_facts g57r
   have h64 := of_decide_eq_true h64
   have ⟨h63, h66⟩ := band_true h63
   have h63 := of_decide_eq_true h63
   have h66 := of_decide_eq_true h66
   have ⟨h62, h67⟩ := band_true h62
   have h62 := of_decide_eq_true h62
   have h67 := of_decide_eq_true h67
   have h61 := of_decide_eq_true h61
   have ⟨h60, h68⟩ := band_true h60
   have h60 := of_decide_eq_true h60
   have h68 := of_decide_eq_true h68
   have ⟨h59, h69⟩ := band_true h59
   have h59 := of_decide_eq_true h59
   have h69 := of_decide_eq_true h69
   have h58 := of_decide_eq_true h58
   refine jg_ g57 (Value.pointer (some ⟨b1, 5, none⟩)) (x_fieldAddr Ty.fi24_5 rfl rfl) ?_
   refine JO_read (vI a.KeyAt) rfl ⟨_, rfl, g57⟩ (x_load 0 rfl rfl Ty.sc3 rfl) ?_
   refine jg_ g57 (vB (decide (a.KeyAt = 0))) (x_eql_i rfl rfl) ?_
   refine js_ (vB (decide (a.KeyAt = 0))) (x_pick_t rfl g57 rfl) ?_
   refine JO_nil (JX_cut (decide (a.KeyAt = 0)) (by rw [g57]; simp) ⟨rfl, rfl, rfl, trivial⟩ (fun _ h => h))
  ·have g57r := g57
   simp only [Bool.and_eq_true, Bool.or_eq_true, Bool.and_eq_false_iff, Bool.or_eq_false_iff, Bool.not_eq_true', Bool.not_eq_false', decide_eq_true_eq, decide_eq_false_iff_not] at g57r
   refine sh_ g57 ?_
   refine sh_ g57 ?_
   refine sh_ g57 ?_
   refine js_ (vB false) (x_pick_f rfl g57 rfl) ?_
   refine JO_nil (JX_cut (false) (by rw [g57]; simp) ⟨rfl, rfl, rfl, trivial⟩ (fun _ h => h))
 rintro z56 rfl
 refine jr_ (vB (((((((((R16.valid a) && (decide (a.Org = 3))) && ((decide (1 ≤ a.Id)) && (decide (a.Id ≤ 1099511627776)))) && ((decide (1 ≤ a.Base)) && (decide (a.Base ≤ 1099511627776)))) && (decide (a.Base ≠ a.Id))) && ((decide (0 ≤ a.AltAt)) && (decide (a.AltAt ≤ 200)))) && ((decide (1 ≤ a.AltLength)) && (decide (a.AltLength ≤ 32)))) && (decide (a.AltAt + a.AltLength ≤ 200))) && (decide (a.KeyAt = 0)))) ?_
 refine JO_cut 6 (fun z => z = ((((((((((R16.valid a) && (decide (a.Org = 3))) && ((decide (1 ≤ a.Id)) && (decide (a.Id ≤ 1099511627776)))) && ((decide (1 ≤ a.Base)) && (decide (a.Base ≤ 1099511627776)))) && (decide (a.Base ≠ a.Id))) && ((decide (0 ≤ a.AltAt)) && (decide (a.AltAt ≤ 200)))) && ((decide (1 ≤ a.AltLength)) && (decide (a.AltLength ≤ 32)))) && (decide (a.AltAt + a.AltLength ≤ 200))) && (decide (a.KeyAt = 0))) && (decide (a.Length = a.KeyLength)))) (fun z => [(1, Value.pointer (some ⟨b1, 0, none⟩)), (2, vB false), (56, vB z)]) (fun _ => [Ent.blk b1 24 (DataSet.enc a)]) ?_ ?_
 ·rcases Bool.eq_false_or_eq_true (((((((((R16.valid a) && (decide (a.Org = 3))) && ((decide (1 ≤ a.Id)) && (decide (a.Id ≤ 1099511627776)))) && ((decide (1 ≤ a.Base)) && (decide (a.Base ≤ 1099511627776)))) && (decide (a.Base ≠ a.Id))) && ((decide (0 ≤ a.AltAt)) && (decide (a.AltAt ≤ 200)))) && ((decide (1 ≤ a.AltLength)) && (decide (a.AltLength ≤ 32)))) && (decide (a.AltAt + a.AltLength ≤ 200))) && (decide (a.KeyAt = 0))) with g71 | g71
  ·have g71r := g71
   have ⟨g71r, h72⟩ := band_true g71r
   have ⟨g71r, h73⟩ := band_true g71r
   have ⟨g71r, h74⟩ := band_true g71r
   have ⟨g71r, h75⟩ := band_true g71r
   have ⟨g71r, h76⟩ := band_true g71r
   have ⟨g71r, h77⟩ := band_true g71r
   have ⟨g71r, h78⟩ := band_true g71r
   have ⟨g71r, h79⟩ := band_true g71r
   have hi80 := R16.valid_facts g71r
   have h79 := of_decide_eq_true h79
   have ⟨h78, h81⟩ := band_true h78
   have h78 := of_decide_eq_true h78
   have h81 := of_decide_eq_true h81
   have ⟨h77, h82⟩ := band_true h77
   have h77 := of_decide_eq_true h77
   have h82 := of_decide_eq_true h82
   have h76 := of_decide_eq_true h76
   have ⟨h75, h83⟩ := band_true h75
   have h75 := of_decide_eq_true h75
   have h83 := of_decide_eq_true h83
   have ⟨h74, h84⟩ := band_true h74
   have h74 := of_decide_eq_true h74
   have h84 := of_decide_eq_true h84
   have h73 := of_decide_eq_true h73
   have h72 := of_decide_eq_true h72
   refine jg_ g71 (Value.pointer (some ⟨b1, 3, none⟩)) (x_fieldAddr Ty.fi24_3 rfl rfl) ?_
   refine JO_read (vI a.Length) rfl ⟨_, rfl, g71⟩ (x_load 0 rfl rfl Ty.sc3 rfl) ?_
   refine jg_ g71 (Value.pointer (some ⟨b1, 6, none⟩)) (x_fieldAddr Ty.fi24_6 rfl rfl) ?_
   refine JO_read (vI a.KeyLength) rfl ⟨_, rfl, g71⟩ (x_load 0 rfl rfl Ty.sc3 rfl) ?_
   refine jg_ g71 (vB (decide (a.Length = a.KeyLength))) (x_eql_i rfl rfl) ?_
   refine js_ (vB (decide (a.Length = a.KeyLength))) (x_pick_t rfl g71 rfl) ?_
   refine JO_nil (JX_cut (decide (a.Length = a.KeyLength)) (by rw [g71]; simp) ⟨rfl, rfl, rfl, trivial⟩ (fun _ h => h))
  ·have g71r := g71
   simp only [Bool.and_eq_true, Bool.or_eq_true, Bool.and_eq_false_iff, Bool.or_eq_false_iff, Bool.not_eq_true', Bool.not_eq_false', decide_eq_true_eq, decide_eq_false_iff_not] at g71r
   refine sh_ g71 ?_
   refine sh_ g71 ?_
   refine sh_ g71 ?_
   refine sh_ g71 ?_
   refine sh_ g71 ?_
   refine js_ (vB false) (x_pick_f rfl g71 rfl) ?_
   refine JO_nil (JX_cut (false) (by rw [g71]; simp) ⟨rfl, rfl, rfl, trivial⟩ (fun _ h => h))
 rintro z70 rfl
 refine jr_ (vB ((((((((((R16.valid a) && (decide (a.Org = 3))) && ((decide (1 ≤ a.Id)) && (decide (a.Id ≤ 1099511627776)))) && ((decide (1 ≤ a.Base)) && (decide (a.Base ≤ 1099511627776)))) && (decide (a.Base ≠ a.Id))) && ((decide (0 ≤ a.AltAt)) && (decide (a.AltAt ≤ 200)))) && ((decide (1 ≤ a.AltLength)) && (decide (a.AltLength ≤ 32)))) && (decide (a.AltAt + a.AltLength ≤ 200))) && (decide (a.KeyAt = 0))) && (decide (a.Length = a.KeyLength)))) ?_
 refine JO_cut 6 (fun z => z = (((((((((((R16.valid a) && (decide (a.Org = 3))) && ((decide (1 ≤ a.Id)) && (decide (a.Id ≤ 1099511627776)))) && ((decide (1 ≤ a.Base)) && (decide (a.Base ≤ 1099511627776)))) && (decide (a.Base ≠ a.Id))) && ((decide (0 ≤ a.AltAt)) && (decide (a.AltAt ≤ 200)))) && ((decide (1 ≤ a.AltLength)) && (decide (a.AltLength ≤ 32)))) && (decide (a.AltAt + a.AltLength ≤ 200))) && (decide (a.KeyAt = 0))) && (decide (a.Length = a.KeyLength))) && (decide (a.AltLength < a.KeyLength)))) (fun z => [(2, vB false), (63, vB z)]) (fun _ => [Ent.blk b1 24 (DataSet.enc a)]) ?_ ?_
 ·rcases Bool.eq_false_or_eq_true ((((((((((R16.valid a) && (decide (a.Org = 3))) && ((decide (1 ≤ a.Id)) && (decide (a.Id ≤ 1099511627776)))) && ((decide (1 ≤ a.Base)) && (decide (a.Base ≤ 1099511627776)))) && (decide (a.Base ≠ a.Id))) && ((decide (0 ≤ a.AltAt)) && (decide (a.AltAt ≤ 200)))) && ((decide (1 ≤ a.AltLength)) && (decide (a.AltLength ≤ 32)))) && (decide (a.AltAt + a.AltLength ≤ 200))) && (decide (a.KeyAt = 0))) && (decide (a.Length = a.KeyLength))) with g86 | g86
  ·have g86r := g86
   have ⟨g86r, h87⟩ := band_true g86r
   have ⟨g86r, h88⟩ := band_true g86r
   have ⟨g86r, h89⟩ := band_true g86r
   have ⟨g86r, h90⟩ := band_true g86r
   have ⟨g86r, h91⟩ := band_true g86r
   have ⟨g86r, h92⟩ := band_true g86r
   have ⟨g86r, h93⟩ := band_true g86r
   have ⟨g86r, h94⟩ := band_true g86r
   have ⟨g86r, h95⟩ := band_true g86r
   have hi96 := R16.valid_facts g86r
   have h95 := of_decide_eq_true h95
   have ⟨h94, h97⟩ := band_true h94
   have h94 := of_decide_eq_true h94
   have h97 := of_decide_eq_true h97
   have ⟨h93, h98⟩ := band_true h93
   have h93 := of_decide_eq_true h93
   have h98 := of_decide_eq_true h98
   have h92 := of_decide_eq_true h92
   have ⟨h91, h99⟩ := band_true h91
   have h91 := of_decide_eq_true h91
   have h99 := of_decide_eq_true h99
   have ⟨h90, h100⟩ := band_true h90
   have h90 := of_decide_eq_true h90
   have h100 := of_decide_eq_true h100
   have h89 := of_decide_eq_true h89
   have h88 := of_decide_eq_true h88
   have h87 := of_decide_eq_true h87
   refine jg_ g86 (Value.pointer (some ⟨b1, 6, none⟩)) (x_fieldAddr Ty.fi24_6 rfl rfl) ?_
   refine JO_read (vI a.KeyLength) rfl ⟨_, rfl, g86⟩ (x_load 0 rfl rfl Ty.sc3 rfl) ?_
   refine jg_ g86 (Value.pointer (some ⟨b1, 13, none⟩)) (x_fieldAddr Ty.fi24_13 rfl rfl) ?_
   refine JO_read (vI a.AltLength) rfl ⟨_, rfl, g86⟩ (x_load 0 rfl rfl Ty.sc3 rfl) ?_
   refine jg_ g86 (vB (decide (a.AltLength < a.KeyLength))) (x_gtr_i rfl rfl) ?_
   refine js_ (vB (decide (a.AltLength < a.KeyLength))) (x_pick_t rfl g86 rfl) ?_
   refine JO_nil (JX_cut (decide (a.AltLength < a.KeyLength)) (by rw [g86]; simp) ⟨rfl, rfl, trivial⟩ (fun _ h => h))
  ·have g86r := g86
   simp only [Bool.and_eq_true, Bool.or_eq_true, Bool.and_eq_false_iff, Bool.or_eq_false_iff, Bool.not_eq_true', Bool.not_eq_false', decide_eq_true_eq, decide_eq_false_iff_not] at g86r
   refine sh_ g86 ?_
   refine sh_ g86 ?_
   refine sh_ g86 ?_
   refine sh_ g86 ?_
   refine sh_ g86 ?_
   refine js_ (vB false) (x_pick_f rfl g86 rfl) ?_
   refine JO_nil (JX_cut (false) (by rw [g86]; simp) ⟨rfl, rfl, trivial⟩ (fun _ h => h))
 rintro z85 rfl
 refine jr_ (vB (((((((((((R16.valid a) && (decide (a.Org = 3))) && ((decide (1 ≤ a.Id)) && (decide (a.Id ≤ 1099511627776)))) && ((decide (1 ≤ a.Base)) && (decide (a.Base ≤ 1099511627776)))) && (decide (a.Base ≠ a.Id))) && ((decide (0 ≤ a.AltAt)) && (decide (a.AltAt ≤ 200)))) && ((decide (1 ≤ a.AltLength)) && (decide (a.AltLength ≤ 32)))) && (decide (a.AltAt + a.AltLength ≤ 200))) && (decide (a.KeyAt = 0))) && (decide (a.Length = a.KeyLength))) && (decide (a.AltLength < a.KeyLength)))) ?_
 refine JO_nil (JX_then (J_ret ?_))
 refine JX_rets [vB (((((((((((R16.valid a) && (decide (a.Org = 3))) && ((decide (1 ≤ a.Id)) && (decide (a.Id ≤ 1099511627776)))) && ((decide (1 ≤ a.Base)) && (decide (a.Base ≤ 1099511627776)))) && (decide (a.Base ≠ a.Id))) && ((decide (0 ≤ a.AltAt)) && (decide (a.AltAt ≤ 200)))) && ((decide (1 ≤ a.AltLength)) && (decide (a.AltLength ≤ 32)))) && (decide (a.AltAt + a.AltLength ≤ 200))) && (decide (a.KeyAt = 0))) && (decide (a.Length = a.KeyLength))) && (decide (a.AltLength < a.KeyLength)))] (vB (((((((((((R16.valid a) && (decide (a.Org = 3))) && ((decide (1 ≤ a.Id)) && (decide (a.Id ≤ 1099511627776)))) && ((decide (1 ≤ a.Base)) && (decide (a.Base ≤ 1099511627776)))) && (decide (a.Base ≠ a.Id))) && ((decide (0 ≤ a.AltAt)) && (decide (a.AltAt ≤ 200)))) && ((decide (1 ≤ a.AltLength)) && (decide (a.AltLength ≤ 32)))) && (decide (a.AltAt + a.AltLength ≤ 200))) && (decide (a.KeyAt = 0))) && (decide (a.Length = a.KeyLength))) && (decide (a.AltLength < a.KeyLength)))) Try.results39 (fun w h => ⟨rfl, trivial⟩) rfl [] (fun _ h => h.keep [false] rfl) ⟨?_, ?_⟩
 ·have e_x0 : (((((((((((R16.valid a) && (decide (a.Org = 3))) && ((decide (1 ≤ a.Id)) && (decide (a.Id ≤ 1099511627776)))) && ((decide (1 ≤ a.Base)) && (decide (a.Base ≤ 1099511627776)))) && (decide (a.Base ≠ a.Id))) && ((decide (0 ≤ a.AltAt)) && (decide (a.AltAt ≤ 200)))) && ((decide (1 ≤ a.AltLength)) && (decide (a.AltLength ≤ 32)))) && (decide (a.AltAt + a.AltLength ≤ 200))) && (decide (a.KeyAt = 0))) && (decide (a.Length = a.KeyLength))) && (decide (a.AltLength < a.KeyLength)) : Bool) = (R26.isAlt a) := by
   unfold R26.isAlt R26.shaped R26.isId
   cases hv : R16.valid a with
   | false => simp
   | true =>
    have hf := R16.valid_facts hv
    rw [Bool.eq_iff_iff]
    simp only [Bool.and_eq_true, Bool.or_eq_true, decide_eq_true_eq, Bool.true_and, Bool.false_and, Bool.false_eq_true, false_iff, iff_false, true_iff, iff_true, true_and, and_true, false_and, and_false]
    omega
  exact congrArg (fun (x0 : Bool) => vB x0) e_x0
 ·rfl
set_option maxRecDepth 20000 in
theorem f45_ok (b : DataSet) (a : DataSet) (w : World) : Calls Try.prog 45 #[Value.agg ((DataSet.enc b)).toArray, Value.agg ((DataSet.enc a)).toArray] w (Gives [] w fun v L => v = vB (R26.valid b a) ∧ L = []) := by
 refine calls_J [] 30 Try.func45 rfl Try.ntmps45 [(0, Value.agg ((DataSet.enc b)).toArray), (1, Value.agg ((DataSet.enc a)).toArray)] rfl rfl (Give.nil w) ?_
 refine J_seq (J_region ?_)
 refine JO_op rfl trivial (O_box rfl rfl fun b1 => ?_)
 refine JO_op rfl trivial (O_box rfl rfl fun b2 => ?_)
 refine jr_ (vB false) ?_
 refine JO_nil (JX_then (J_seq ?_))
 refine J_draw [Ent.blk b2 24 (DataSet.enc a), Ent.blk b1 24 (DataSet.enc b)] [] [Ent.blk b2 24 (DataSet.enc a), Ent.blk b1 24 (DataSet.enc b)] 26 Ty.mixed rfl ?_
 refine jt_ 0 (Value.agg ((DataSet.enc b)).toArray) rfl (x_loadN 1 (DataSet.enc b) rfl rfl Ty.ag24 Ty.sz24 rfl) ?_
 refine JA_one 1 (by kernel_rfl) (fun _ h => ⟨h, fun _ => h⟩) ?_
 refine JI_call [] [] [Ent.blk b2 24 (DataSet.enc a), Ent.blk b1 24 (DataSet.enc b)] rfl rfl trivial (fun _ => x_call Ty.ca66 rfl) (fun _ h => h) (fun _ h => by cases h) (fun w hS => f66_ok b w) ?_
 rintro _ _ ⟨rfl, rfl⟩
 refine jt_ 2 (vB (R26.isBase b)) rfl (fun _ _ => rfl) ?_
 refine JA_bool (R26.isBase b) [(0, Value.agg ((DataSet.enc b)).toArray), (1, Value.agg ((DataSet.enc a)).toArray), (2, Value.pointer (some ⟨b1, 0, none⟩)), (3, Value.pointer (some ⟨b2, 0, none⟩)), (4, vB false), (5, Value.agg ((DataSet.enc b)).toArray), (6, vB (R26.isBase b)), (7, vB true)] [(0, Value.agg ((DataSet.enc b)).toArray), (1, Value.agg ((DataSet.enc a)).toArray), (2, Value.pointer (some ⟨b1, 0, none⟩)), (3, Value.pointer (some ⟨b2, 0, none⟩)), (4, vB false), (5, Value.agg ((DataSet.enc b)).toArray), (6, vB (R26.isBase b)), (7, vB false)] (fun hb => ⟨rfl, rfl, rfl, rfl, rfl, rfl, rfl, congrArg (fun b => some (vB b)) hb, trivial⟩) (fun hb => ⟨rfl, rfl, rfl, rfl, rfl, rfl, rfl, congrArg (fun b => some (vB b)) hb, trivial⟩) (fun h3 => ?_) (fun h3 => ?_)
 ·have hi4 := R26.isBase_facts h3
  refine JA_take 3 (Value.pointer (some ⟨b2, 11, none⟩)) rfl (by kernel_rfl) (by kernel_rfl) (by kernel_rfl) rfl (fun _ _ _ h => h) rfl ⟨_, rfl, rfl⟩ (fun _ _ => x_fieldAddr Ty.fi24_11 rfl rfl) ?_
  refine JA_take 4 (vI a.Base) rfl (by kernel_rfl) (by kernel_rfl) (by kernel_rfl) rfl (fun _ _ _ h => h) rfl ⟨_, rfl, rfl⟩ (x_load 0 rfl rfl Ty.sc3 rfl) ?_
  refine JA_take 5 (Value.pointer (some ⟨b1, 0, none⟩)) rfl (by kernel_rfl) (by kernel_rfl) (by kernel_rfl) rfl (fun _ _ _ h => h) rfl ⟨_, rfl, rfl⟩ (fun _ _ => x_fieldAddr Ty.fi24_0 rfl rfl) ?_
  refine JA_take 6 (vI b.Id) rfl (by kernel_rfl) (by kernel_rfl) (by kernel_rfl) rfl (fun _ _ _ h => h) rfl ⟨_, rfl, rfl⟩ (x_load 1 rfl rfl Ty.sc3 rfl) ?_
  refine JA_take 7 (vB (decide (a.Base = b.Id))) rfl (by kernel_rfl) (by kernel_rfl) (by kernel_rfl) rfl (fun _ _ _ h => h) rfl ⟨_, rfl, rfl⟩ (fun _ _ => x_eql_i rfl rfl) ?_
  refine jt_ 8 (vB (decide (a.Base = b.Id))) rfl (fun _ _ => rfl) ?_
  refine jt_ 9 (vB (decide (a.Base = b.Id))) rfl (fun _ _ => rfl) ?_
  refine JA_bool (decide (a.Base = b.Id)) [(0, Value.agg ((DataSet.enc b)).toArray), (1, Value.agg ((DataSet.enc a)).toArray), (2, Value.pointer (some ⟨b1, 0, none⟩)), (3, Value.pointer (some ⟨b2, 0, none⟩)), (4, vB false), (5, Value.agg ((DataSet.enc b)).toArray), (6, vB (R26.isBase b)), (7, vB true), (8, Value.pointer (some ⟨b2, 11, none⟩)), (9, vI a.Base), (10, Value.pointer (some ⟨b1, 0, none⟩)), (11, vI b.Id), (12, vB (decide (a.Base = b.Id))), (13, vB (decide (a.Base = b.Id))), (14, vB true)] [(0, Value.agg ((DataSet.enc b)).toArray), (1, Value.agg ((DataSet.enc a)).toArray), (2, Value.pointer (some ⟨b1, 0, none⟩)), (3, Value.pointer (some ⟨b2, 0, none⟩)), (4, vB false), (5, Value.agg ((DataSet.enc b)).toArray), (6, vB (R26.isBase b)), (7, vB true), (8, Value.pointer (some ⟨b2, 11, none⟩)), (9, vI a.Base), (10, Value.pointer (some ⟨b1, 0, none⟩)), (11, vI b.Id), (12, vB (decide (a.Base = b.Id))), (13, vB (decide (a.Base = b.Id))), (14, vB false)] (fun hb => ⟨rfl, rfl, rfl, rfl, rfl, rfl, rfl, rfl, rfl, rfl, rfl, rfl, rfl, rfl, congrArg (fun b => some (vB b)) hb, trivial⟩) (fun hb => ⟨rfl, rfl, rfl, rfl, rfl, rfl, rfl, rfl, rfl, rfl, rfl, rfl, rfl, rfl, congrArg (fun b => some (vB b)) hb, trivial⟩) (fun h5 => ?_) (fun h5 => ?_)
  ·have h5 := of_decide_eq_true h5
   refine JA_take 10 (Value.agg ((DataSet.enc a)).toArray) rfl (by kernel_rfl) (by kernel_rfl) (by kernel_rfl) rfl (fun _ _ _ h => h) rfl ⟨_, rfl, rfl⟩ (x_loadN 0 (DataSet.enc a) rfl rfl Ty.ag24 Ty.sz24 rfl) ?_
   refine JA_take 11 (Value.pointer (some ⟨b1, 3, none⟩)) rfl (by kernel_rfl) (by kernel_rfl) (by kernel_rfl) rfl (fun _ _ _ h => h) rfl ⟨_, rfl, rfl⟩ (fun _ _ => x_fieldAddr Ty.fi24_3 rfl rfl) ?_
   refine JA_take 12 (vI b.Length) rfl (by kernel_rfl) (by kernel_rfl) (by kernel_rfl) rfl (fun _ _ _ h => h) rfl ⟨_, rfl, rfl⟩ (x_load 1 rfl rfl Ty.sc3 rfl) ?_
   refine JA_one 13 (by kernel_rfl) (fun _ h => ⟨h, fun _ => h⟩) ?_
   refine JI_call [] [] [Ent.blk b2 24 (DataSet.enc a), Ent.blk b1 24 (DataSet.enc b)] rfl rfl ⟨_, rfl, rfl⟩ (fun _ => x_call Ty.ca70 rfl) (fun _ h => h) (fun _ h => by cases h) (fun w hS => f70_ok a b.Length w hy_) ?_
   rintro _ _ ⟨rfl, rfl⟩
   refine jt_ 14 (vB (R26.shaped a b.Length)) rfl (fun _ _ => rfl) ?_
   refine jt_ 15 (vB (R26.shaped a b.Length)) rfl (fun _ _ => rfl) ?_
   refine JA_bool (R26.shaped a b.Length) [(0, Value.agg ((DataSet.enc b)).toArray), (1, Value.agg ((DataSet.enc a)).toArray), (2, Value.pointer (some ⟨b1, 0, none⟩)), (3, Value.pointer (some ⟨b2, 0, none⟩)), (4, vB false), (5, Value.agg ((DataSet.enc b)).toArray), (6, vB (R26.isBase b)), (7, vB true), (8, Value.pointer (some ⟨b2, 11, none⟩)), (9, vI a.Base), (10, Value.pointer (some ⟨b1, 0, none⟩)), (11, vI b.Id), (12, vB (decide (a.Base = b.Id))), (13, vB (decide (a.Base = b.Id))), (14, vB true), (15, Value.agg ((DataSet.enc a)).toArray), (16, Value.pointer (some ⟨b1, 3, none⟩)), (17, vI b.Length), (18, vB (R26.shaped a b.Length)), (19, vB (R26.shaped a b.Length)), (20, vB true)] [(0, Value.agg ((DataSet.enc b)).toArray), (1, Value.agg ((DataSet.enc a)).toArray), (2, Value.pointer (some ⟨b1, 0, none⟩)), (3, Value.pointer (some ⟨b2, 0, none⟩)), (4, vB false), (5, Value.agg ((DataSet.enc b)).toArray), (6, vB (R26.isBase b)), (7, vB true), (8, Value.pointer (some ⟨b2, 11, none⟩)), (9, vI a.Base), (10, Value.pointer (some ⟨b1, 0, none⟩)), (11, vI b.Id), (12, vB (decide (a.Base = b.Id))), (13, vB (decide (a.Base = b.Id))), (14, vB true), (15, Value.agg ((DataSet.enc a)).toArray), (16, Value.pointer (some ⟨b1, 3, none⟩)), (17, vI b.Length), (18, vB (R26.shaped a b.Length)), (19, vB (R26.shaped a b.Length)), (20, vB false)] (fun hb => ⟨rfl, rfl, rfl, rfl, rfl, rfl, rfl, rfl, rfl, rfl, rfl, rfl, rfl, rfl, rfl, rfl, rfl, rfl, rfl, rfl, congrArg (fun b => some (vB b)) hb, trivial⟩) (fun hb => ⟨rfl, rfl, rfl, rfl, rfl, rfl, rfl, rfl, rfl, rfl, rfl, rfl, rfl, rfl, rfl, rfl, rfl, rfl, rfl, rfl, congrArg (fun b => some (vB b)) hb, trivial⟩) (fun h6 => ?_) (fun h6 => ?_)
   ·have hi7 := R26.shaped_facts h6
    refine JA_take 16 (Value.pointer (some ⟨b2, 6, none⟩)) rfl (by kernel_rfl) (by kernel_rfl) (by kernel_rfl) rfl (fun _ _ _ h => h) rfl ⟨_, rfl, rfl⟩ (fun _ _ => x_fieldAddr Ty.fi24_6 rfl rfl) ?_
    refine JA_take 17 (vI a.KeyLength) rfl (by kernel_rfl) (by kernel_rfl) (by kernel_rfl) rfl (fun _ _ _ h => h) rfl ⟨_, rfl, rfl⟩ (x_load 0 rfl rfl Ty.sc3 rfl) ?_
    refine JA_take 18 (Value.pointer (some ⟨b2, 13, none⟩)) rfl (by kernel_rfl) (by kernel_rfl) (by kernel_rfl) rfl (fun _ _ _ h => h) rfl ⟨_, rfl, rfl⟩ (fun _ _ => x_fieldAddr Ty.fi24_13 rfl rfl) ?_
    refine JA_take 19 (vI a.AltLength) rfl (by kernel_rfl) (by kernel_rfl) (by kernel_rfl) rfl (fun _ _ _ h => h) rfl ⟨_, rfl, rfl⟩ (x_load 0 rfl rfl Ty.sc3 rfl) ?_
    refine JA_take 20 (Value.agg ((DataSet.enc b)).toArray) rfl (by kernel_rfl) (by kernel_rfl) (by kernel_rfl) rfl (fun _ _ _ h => h) rfl ⟨_, rfl, rfl⟩ (x_loadN 1 (DataSet.enc b) rfl rfl Ty.ag24 Ty.sz24 rfl) ?_
    refine JA_one 21 (by kernel_rfl) (fun _ h => ⟨h, fun _ => h⟩) ?_
    refine JI_call [] [] [Ent.blk b2 24 (DataSet.enc a), Ent.blk b1 24 (DataSet.enc b)] rfl rfl ⟨_, rfl, rfl⟩ (fun _ => x_call Ty.ca68 rfl) (fun _ h => h) (fun _ h => by cases h) (fun w hS => f68_ok b w) ?_
    rintro _ _ ⟨rfl, rfl⟩
    refine JA_take 22 (vI (a.AltLength + (R26.keys b))) rfl (by kernel_rfl) (by kernel_rfl) (by kernel_rfl) rfl (fun _ _ _ h => h) rfl ⟨_, rfl, rfl⟩ (fun _ _ => x_add_i (a := a.AltLength) (b := R26.keys b) rfl rfl (by omega) (by omega)) ?_
    refine JA_take 23 (vB (decide (a.KeyLength = a.AltLength + (R26.keys b)))) rfl (by kernel_rfl) (by kernel_rfl) (by kernel_rfl) rfl (fun _ _ _ h => h) rfl ⟨_, rfl, rfl⟩ (fun _ _ => x_eql_i rfl rfl) ?_
    refine jt_ 24 (vB (decide (a.KeyLength = a.AltLength + (R26.keys b)))) rfl (fun _ _ => rfl) ?_
    refine jt_ 25 (vB (decide (a.KeyLength = a.AltLength + (R26.keys b)))) rfl (fun _ _ => rfl) ?_
    refine JA_done (by kernel_rfl) (fun _ h => ⟨h, fun _ => h⟩) ?_
    refine JX_then (J_ret ?_)
    refine JX_rets [vB (decide (a.KeyLength = a.AltLength + (R26.keys b)))] (vB (decide (a.KeyLength = a.AltLength + (R26.keys b)))) Try.results45 (fun w h => ⟨rfl, trivial⟩) rfl [] (fun _ h => h.keep [false, false] rfl) ⟨?_, ?_⟩
    ·have e_x0 : (decide (a.KeyLength = a.AltLength + (R26.keys b)) : Bool) = (R26.valid b a) := by first | rfl | (simp only [R26.valid, *]; done) | (simp [R26.valid, *]; done)
     exact congrArg (fun (x0 : Bool) => vB x0) e_x0
    ·rfl
   ·refine JA_shun 16 rfl (by kernel_rfl) (by kernel_rfl) (by kernel_rfl) rfl (fun _ _ _ h => h) rfl ⟨_, rfl, rfl⟩ ?_
    refine JA_shun 17 rfl (by kernel_rfl) (by kernel_rfl) (by kernel_rfl) rfl (fun _ _ _ h => h) rfl ⟨_, rfl, rfl⟩ ?_
    refine JA_shun 18 rfl (by kernel_rfl) (by kernel_rfl) (by kernel_rfl) rfl (fun _ _ _ h => h) rfl ⟨_, rfl, rfl⟩ ?_
    refine JA_shun 19 rfl (by kernel_rfl) (by kernel_rfl) (by kernel_rfl) rfl (fun _ _ _ h => h) rfl ⟨_, rfl, rfl⟩ ?_
    refine JA_shun 20 rfl (by kernel_rfl) (by kernel_rfl) (by kernel_rfl) rfl (fun _ _ _ h => h) rfl ⟨_, rfl, rfl⟩ ?_
    refine JA_shun 21 rfl (by kernel_rfl) (by kernel_rfl) (by kernel_rfl) rfl (fun _ _ _ h => h) rfl ⟨_, rfl, rfl⟩ ?_
    refine JA_shun 22 rfl (by kernel_rfl) (by kernel_rfl) (by kernel_rfl) rfl (fun _ _ _ h => h) rfl ⟨_, rfl, rfl⟩ ?_
    refine JA_shun 23 rfl (by kernel_rfl) (by kernel_rfl) (by kernel_rfl) rfl (fun _ _ _ h => h) rfl ⟨_, rfl, rfl⟩ ?_
    refine jt_ 24 (vB false) rfl (fun _ _ => rfl) ?_
    refine jt_ 25 (vB false) rfl (fun _ _ => rfl) ?_
    refine JA_done (by kernel_rfl) (fun _ h => ⟨h, fun _ => h⟩) ?_
    refine JX_then (J_ret ?_)
    refine JX_rets [vB false] (vB false) Try.results45 (fun w h => ⟨rfl, trivial⟩) rfl [] (fun _ h => h.keep [false, false] rfl) ⟨?_, ?_⟩
    ·have e_x0 : (false : Bool) = (R26.valid b a) := by first | rfl | (simp only [R26.valid, *]; done) | (simp [R26.valid, *]; done)
     exact congrArg (fun (x0 : Bool) => vB x0) e_x0
    ·rfl
  ·have h5 := of_decide_eq_false h5
   refine JA_shun 10 rfl (by kernel_rfl) (by kernel_rfl) (by kernel_rfl) rfl (fun _ _ _ h => h) rfl ⟨_, rfl, rfl⟩ ?_
   refine JA_shun 11 rfl (by kernel_rfl) (by kernel_rfl) (by kernel_rfl) rfl (fun _ _ _ h => h) rfl ⟨_, rfl, rfl⟩ ?_
   refine JA_shun 12 rfl (by kernel_rfl) (by kernel_rfl) (by kernel_rfl) rfl (fun _ _ _ h => h) rfl ⟨_, rfl, rfl⟩ ?_
   refine JA_shun 13 rfl (by kernel_rfl) (by kernel_rfl) (by kernel_rfl) rfl (fun _ _ _ h => h) rfl ⟨_, rfl, rfl⟩ ?_
   refine jt_ 14 (vB false) rfl (fun _ _ => rfl) ?_
   refine jt_ 15 (vB false) rfl (fun _ _ => rfl) ?_
   refine JA_shun 16 rfl (by kernel_rfl) (by kernel_rfl) (by kernel_rfl) rfl (fun _ _ _ h => h) rfl ⟨_, rfl, rfl⟩ ?_
   refine JA_shun 17 rfl (by kernel_rfl) (by kernel_rfl) (by kernel_rfl) rfl (fun _ _ _ h => h) rfl ⟨_, rfl, rfl⟩ ?_
   refine JA_shun 18 rfl (by kernel_rfl) (by kernel_rfl) (by kernel_rfl) rfl (fun _ _ _ h => h) rfl ⟨_, rfl, rfl⟩ ?_
   refine JA_shun 19 rfl (by kernel_rfl) (by kernel_rfl) (by kernel_rfl) rfl (fun _ _ _ h => h) rfl ⟨_, rfl, rfl⟩ ?_
   refine JA_shun 20 rfl (by kernel_rfl) (by kernel_rfl) (by kernel_rfl) rfl (fun _ _ _ h => h) rfl ⟨_, rfl, rfl⟩ ?_
   refine JA_shun 21 rfl (by kernel_rfl) (by kernel_rfl) (by kernel_rfl) rfl (fun _ _ _ h => h) rfl ⟨_, rfl, rfl⟩ ?_
   refine JA_shun 22 rfl (by kernel_rfl) (by kernel_rfl) (by kernel_rfl) rfl (fun _ _ _ h => h) rfl ⟨_, rfl, rfl⟩ ?_
   refine JA_shun 23 rfl (by kernel_rfl) (by kernel_rfl) (by kernel_rfl) rfl (fun _ _ _ h => h) rfl ⟨_, rfl, rfl⟩ ?_
   refine jt_ 24 (vB false) rfl (fun _ _ => rfl) ?_
   refine jt_ 25 (vB false) rfl (fun _ _ => rfl) ?_
   refine JA_done (by kernel_rfl) (fun _ h => ⟨h, fun _ => h⟩) ?_
   refine JX_then (J_ret ?_)
   refine JX_rets [vB false] (vB false) Try.results45 (fun w h => ⟨rfl, trivial⟩) rfl [] (fun _ h => h.keep [false, false] rfl) ⟨?_, ?_⟩
   ·have e_x0 : (false : Bool) = (R26.valid b a) := by first | rfl | (simp only [R26.valid, *]; done) | (simp [R26.valid, *]; done)
    exact congrArg (fun (x0 : Bool) => vB x0) e_x0
   ·rfl
 ·refine JA_shun 3 rfl (by kernel_rfl) (by kernel_rfl) (by kernel_rfl) rfl (fun _ _ _ h => h) rfl ⟨_, rfl, rfl⟩ ?_
  refine JA_shun 4 rfl (by kernel_rfl) (by kernel_rfl) (by kernel_rfl) rfl (fun _ _ _ h => h) rfl ⟨_, rfl, rfl⟩ ?_
  refine JA_shun 5 rfl (by kernel_rfl) (by kernel_rfl) (by kernel_rfl) rfl (fun _ _ _ h => h) rfl ⟨_, rfl, rfl⟩ ?_
  refine JA_shun 6 rfl (by kernel_rfl) (by kernel_rfl) (by kernel_rfl) rfl (fun _ _ _ h => h) rfl ⟨_, rfl, rfl⟩ ?_
  refine JA_shun 7 rfl (by kernel_rfl) (by kernel_rfl) (by kernel_rfl) rfl (fun _ _ _ h => h) rfl ⟨_, rfl, rfl⟩ ?_
  refine jt_ 8 (vB false) rfl (fun _ _ => rfl) ?_
  refine jt_ 9 (vB false) rfl (fun _ _ => rfl) ?_
  refine JA_shun 10 rfl (by kernel_rfl) (by kernel_rfl) (by kernel_rfl) rfl (fun _ _ _ h => h) rfl ⟨_, rfl, rfl⟩ ?_
  refine JA_shun 11 rfl (by kernel_rfl) (by kernel_rfl) (by kernel_rfl) rfl (fun _ _ _ h => h) rfl ⟨_, rfl, rfl⟩ ?_
  refine JA_shun 12 rfl (by kernel_rfl) (by kernel_rfl) (by kernel_rfl) rfl (fun _ _ _ h => h) rfl ⟨_, rfl, rfl⟩ ?_
  refine JA_shun 13 rfl (by kernel_rfl) (by kernel_rfl) (by kernel_rfl) rfl (fun _ _ _ h => h) rfl ⟨_, rfl, rfl⟩ ?_
  refine jt_ 14 (vB false) rfl (fun _ _ => rfl) ?_
  refine jt_ 15 (vB false) rfl (fun _ _ => rfl) ?_
  refine JA_shun 16 rfl (by kernel_rfl) (by kernel_rfl) (by kernel_rfl) rfl (fun _ _ _ h => h) rfl ⟨_, rfl, rfl⟩ ?_
  refine JA_shun 17 rfl (by kernel_rfl) (by kernel_rfl) (by kernel_rfl) rfl (fun _ _ _ h => h) rfl ⟨_, rfl, rfl⟩ ?_
  refine JA_shun 18 rfl (by kernel_rfl) (by kernel_rfl) (by kernel_rfl) rfl (fun _ _ _ h => h) rfl ⟨_, rfl, rfl⟩ ?_
  refine JA_shun 19 rfl (by kernel_rfl) (by kernel_rfl) (by kernel_rfl) rfl (fun _ _ _ h => h) rfl ⟨_, rfl, rfl⟩ ?_
  refine JA_shun 20 rfl (by kernel_rfl) (by kernel_rfl) (by kernel_rfl) rfl (fun _ _ _ h => h) rfl ⟨_, rfl, rfl⟩ ?_
  refine JA_shun 21 rfl (by kernel_rfl) (by kernel_rfl) (by kernel_rfl) rfl (fun _ _ _ h => h) rfl ⟨_, rfl, rfl⟩ ?_
  refine JA_shun 22 rfl (by kernel_rfl) (by kernel_rfl) (by kernel_rfl) rfl (fun _ _ _ h => h) rfl ⟨_, rfl, rfl⟩ ?_
  refine JA_shun 23 rfl (by kernel_rfl) (by kernel_rfl) (by kernel_rfl) rfl (fun _ _ _ h => h) rfl ⟨_, rfl, rfl⟩ ?_
  refine jt_ 24 (vB false) rfl (fun _ _ => rfl) ?_
  refine jt_ 25 (vB false) rfl (fun _ _ => rfl) ?_
  refine JA_done (by kernel_rfl) (fun _ h => ⟨h, fun _ => h⟩) ?_
  refine JX_then (J_ret ?_)
  refine JX_rets [vB false] (vB false) Try.results45 (fun w h => ⟨rfl, trivial⟩) rfl [] (fun _ h => h.keep [false, false] rfl) ⟨?_, ?_⟩
  ·have e_x0 : (false : Bool) = (R26.valid b a) := by first | rfl | (simp only [R26.valid, *]; done) | (simp [R26.valid, *]; done)
   exact congrArg (fun (x0 : Bool) => vB x0) e_x0
  ·rfl
set_option maxRecDepth 20000 in
theorem f50_ok (b : DataSet) (a : DataSet) (w : World) : Calls Try.prog 50 #[Value.agg ((DataSet.enc b)).toArray, Value.agg ((DataSet.enc a)).toArray] w (Gives [] w fun v L => v = vB (R26.valid b a) ∧ L = []) := by
 refine calls_J [] 38 Try.func50 rfl Try.ntmps50 [(0, Value.agg ((DataSet.enc b)).toArray), (1, Value.agg ((DataSet.enc a)).toArray)] rfl rfl (Give.nil w) ?_
 refine J_seq (J_region ?_)
 refine JO_op rfl trivial (O_box rfl rfl fun b1 => ?_)
 refine JO_op rfl trivial (O_box rfl rfl fun b2 => ?_)
 refine jr_ (vB false) ?_
 refine JO_nil (JX_then (J_seq ?_))
 refine J_draw [Ent.blk b2 24 (DataSet.enc a), Ent.blk b1 24 (DataSet.enc b)] [] [Ent.blk b2 24 (DataSet.enc a), Ent.blk b1 24 (DataSet.enc b)] 34 Ty.mixed rfl ?_
 refine jt_ 0 (Value.agg ((DataSet.enc b)).toArray) rfl (x_loadN 1 (DataSet.enc b) rfl rfl Ty.ag24 Ty.sz24 rfl) ?_
 refine JA_one 1 (by kernel_rfl) (fun _ h => ⟨h, fun _ => h⟩) ?_
 refine JI_call [] [] [Ent.blk b2 24 (DataSet.enc a), Ent.blk b1 24 (DataSet.enc b)] rfl rfl trivial (fun _ => x_call Ty.ca80 rfl) (fun _ h => h) (fun _ h => by cases h) (fun w hS => f80_ok b w) ?_
 rintro _ _ ⟨rfl, rfl⟩
 refine jt_ 2 (vB (R26.isBase b)) rfl (fun _ _ => rfl) ?_
 refine JA_bool (R26.isBase b) [(0, Value.agg ((DataSet.enc b)).toArray), (1, Value.agg ((DataSet.enc a)).toArray), (2, Value.pointer (some ⟨b1, 0, none⟩)), (3, Value.pointer (some ⟨b2, 0, none⟩)), (4, vB false), (5, Value.agg ((DataSet.enc b)).toArray), (6, vB (R26.isBase b)), (7, vB true)] [(0, Value.agg ((DataSet.enc b)).toArray), (1, Value.agg ((DataSet.enc a)).toArray), (2, Value.pointer (some ⟨b1, 0, none⟩)), (3, Value.pointer (some ⟨b2, 0, none⟩)), (4, vB false), (5, Value.agg ((DataSet.enc b)).toArray), (6, vB (R26.isBase b)), (7, vB false)] (fun hb => ⟨rfl, rfl, rfl, rfl, rfl, rfl, rfl, congrArg (fun b => some (vB b)) hb, trivial⟩) (fun hb => ⟨rfl, rfl, rfl, rfl, rfl, rfl, rfl, congrArg (fun b => some (vB b)) hb, trivial⟩) (fun h3 => ?_) (fun h3 => ?_)
 ·have hi4 := R26.isBase_facts h3
  refine JA_take 3 (Value.agg ((DataSet.enc a)).toArray) rfl (by kernel_rfl) (by kernel_rfl) (by kernel_rfl) rfl (fun _ _ _ h => h) rfl ⟨_, rfl, rfl⟩ (x_loadN 0 (DataSet.enc a) rfl rfl Ty.ag24 Ty.sz24 rfl) ?_
  refine JA_one 4 (by kernel_rfl) (fun _ h => ⟨h, fun _ => h⟩) ?_
  refine JI_call [] [] [Ent.blk b2 24 (DataSet.enc a), Ent.blk b1 24 (DataSet.enc b)] rfl rfl ⟨_, rfl, rfl⟩ (fun _ => x_call Ty.ca39 rfl) (fun _ h => h) (fun _ h => by cases h) (fun w hS => f39_ok a w) ?_
  rintro _ _ ⟨rfl, rfl⟩
  refine jt_ 5 (vB (R26.isAlt a)) rfl (fun _ _ => rfl) ?_
  refine jt_ 6 (vB (R26.isAlt a)) rfl (fun _ _ => rfl) ?_
  refine JA_bool (R26.isAlt a) [(0, Value.agg ((DataSet.enc b)).toArray), (1, Value.agg ((DataSet.enc a)).toArray), (2, Value.pointer (some ⟨b1, 0, none⟩)), (3, Value.pointer (some ⟨b2, 0, none⟩)), (4, vB false), (5, Value.agg ((DataSet.enc b)).toArray), (6, vB (R26.isBase b)), (7, vB true), (8, Value.agg ((DataSet.enc a)).toArray), (9, vB (R26.isAlt a)), (10, vB (R26.isAlt a)), (11, vB true)] [(0, Value.agg ((DataSet.enc b)).toArray), (1, Value.agg ((DataSet.enc a)).toArray), (2, Value.pointer (some ⟨b1, 0, none⟩)), (3, Value.pointer (some ⟨b2, 0, none⟩)), (4, vB false), (5, Value.agg ((DataSet.enc b)).toArray), (6, vB (R26.isBase b)), (7, vB true), (8, Value.agg ((DataSet.enc a)).toArray), (9, vB (R26.isAlt a)), (10, vB (R26.isAlt a)), (11, vB false)] (fun hb => ⟨rfl, rfl, rfl, rfl, rfl, rfl, rfl, rfl, rfl, rfl, rfl, congrArg (fun b => some (vB b)) hb, trivial⟩) (fun hb => ⟨rfl, rfl, rfl, rfl, rfl, rfl, rfl, rfl, rfl, rfl, rfl, congrArg (fun b => some (vB b)) hb, trivial⟩) (fun h5 => ?_) (fun h5 => ?_)
  ·have hi6 := R26.isAlt_facts h5
   refine JA_take 7 (Value.pointer (some ⟨b2, 11, none⟩)) rfl (by kernel_rfl) (by kernel_rfl) (by kernel_rfl) rfl (fun _ _ _ h => h) rfl ⟨_, rfl, rfl⟩ (fun _ _ => x_fieldAddr Ty.fi24_11 rfl rfl) ?_
   refine JA_take 8 (vI a.Base) rfl (by kernel_rfl) (by kernel_rfl) (by kernel_rfl) rfl (fun _ _ _ h => h) rfl ⟨_, rfl, rfl⟩ (x_load 0 rfl rfl Ty.sc3 rfl) ?_
   refine JA_take 9 (Value.pointer (some ⟨b1, 0, none⟩)) rfl (by kernel_rfl) (by kernel_rfl) (by kernel_rfl) rfl (fun _ _ _ h => h) rfl ⟨_, rfl, rfl⟩ (fun _ _ => x_fieldAddr Ty.fi24_0 rfl rfl) ?_
   refine JA_take 10 (vI b.Id) rfl (by kernel_rfl) (by kernel_rfl) (by kernel_rfl) rfl (fun _ _ _ h => h) rfl ⟨_, rfl, rfl⟩ (x_load 1 rfl rfl Ty.sc3 rfl) ?_
   refine JA_take 11 (vB (decide (a.Base = b.Id))) rfl (by kernel_rfl) (by kernel_rfl) (by kernel_rfl) rfl (fun _ _ _ h => h) rfl ⟨_, rfl, rfl⟩ (fun _ _ => x_eql_i rfl rfl) ?_
   refine jt_ 12 (vB (decide (a.Base = b.Id))) rfl (fun _ _ => rfl) ?_
   refine jt_ 13 (vB (decide (a.Base = b.Id))) rfl (fun _ _ => rfl) ?_
   refine JA_bool (decide (a.Base = b.Id)) [(0, Value.agg ((DataSet.enc b)).toArray), (1, Value.agg ((DataSet.enc a)).toArray), (2, Value.pointer (some ⟨b1, 0, none⟩)), (3, Value.pointer (some ⟨b2, 0, none⟩)), (4, vB false), (5, Value.agg ((DataSet.enc b)).toArray), (6, vB (R26.isBase b)), (7, vB true), (8, Value.agg ((DataSet.enc a)).toArray), (9, vB (R26.isAlt a)), (10, vB (R26.isAlt a)), (11, vB true), (12, Value.pointer (some ⟨b2, 11, none⟩)), (13, vI a.Base), (14, Value.pointer (some ⟨b1, 0, none⟩)), (15, vI b.Id), (16, vB (decide (a.Base = b.Id))), (17, vB (decide (a.Base = b.Id))), (18, vB true)] [(0, Value.agg ((DataSet.enc b)).toArray), (1, Value.agg ((DataSet.enc a)).toArray), (2, Value.pointer (some ⟨b1, 0, none⟩)), (3, Value.pointer (some ⟨b2, 0, none⟩)), (4, vB false), (5, Value.agg ((DataSet.enc b)).toArray), (6, vB (R26.isBase b)), (7, vB true), (8, Value.agg ((DataSet.enc a)).toArray), (9, vB (R26.isAlt a)), (10, vB (R26.isAlt a)), (11, vB true), (12, Value.pointer (some ⟨b2, 11, none⟩)), (13, vI a.Base), (14, Value.pointer (some ⟨b1, 0, none⟩)), (15, vI b.Id), (16, vB (decide (a.Base = b.Id))), (17, vB (decide (a.Base = b.Id))), (18, vB false)] (fun hb => ⟨rfl, rfl, rfl, rfl, rfl, rfl, rfl, rfl, rfl, rfl, rfl, rfl, rfl, rfl, rfl, rfl, rfl, rfl, congrArg (fun b => some (vB b)) hb, trivial⟩) (fun hb => ⟨rfl, rfl, rfl, rfl, rfl, rfl, rfl, rfl, rfl, rfl, rfl, rfl, rfl, rfl, rfl, rfl, rfl, rfl, congrArg (fun b => some (vB b)) hb, trivial⟩) (fun h7 => ?_) (fun h7 => ?_)
   ·have h7 := of_decide_eq_true h7
    refine JA_take 14 (Value.pointer (some ⟨b2, 12, none⟩)) rfl (by kernel_rfl) (by kernel_rfl) (by kernel_rfl) rfl (fun _ _ _ h => h) rfl ⟨_, rfl, rfl⟩ (fun _ _ => x_fieldAddr Ty.fi24_12 rfl rfl) ?_
    refine JA_take 15 (vI a.AltAt) rfl (by kernel_rfl) (by kernel_rfl) (by kernel_rfl) rfl (fun _ _ _ h => h) rfl ⟨_, rfl, rfl⟩ (x_load 0 rfl rfl Ty.sc3 rfl) ?_
    refine JA_take 16 (Value.pointer (some ⟨b2, 13, none⟩)) rfl (by kernel_rfl) (by kernel_rfl) (by kernel_rfl) rfl (fun _ _ _ h => h) rfl ⟨_, rfl, rfl⟩ (fun _ _ => x_fieldAddr Ty.fi24_13 rfl rfl) ?_
    refine JA_take 17 (vI a.AltLength) rfl (by kernel_rfl) (by kernel_rfl) (by kernel_rfl) rfl (fun _ _ _ h => h) rfl ⟨_, rfl, rfl⟩ (x_load 0 rfl rfl Ty.sc3 rfl) ?_
    refine JA_take 18 (vI (a.AltAt + a.AltLength)) rfl (by kernel_rfl) (by kernel_rfl) (by kernel_rfl) rfl (fun _ _ _ h => h) rfl ⟨_, rfl, rfl⟩ (fun _ _ => x_add_i (a := a.AltAt) (b := a.AltLength) rfl rfl (by omega) (by omega)) ?_
    refine JA_take 19 (Value.pointer (some ⟨b1, 3, none⟩)) rfl (by kernel_rfl) (by kernel_rfl) (by kernel_rfl) rfl (fun _ _ _ h => h) rfl ⟨_, rfl, rfl⟩ (fun _ _ => x_fieldAddr Ty.fi24_3 rfl rfl) ?_
    refine JA_take 20 (vI b.Length) rfl (by kernel_rfl) (by kernel_rfl) (by kernel_rfl) rfl (fun _ _ _ h => h) rfl ⟨_, rfl, rfl⟩ (x_load 1 rfl rfl Ty.sc3 rfl) ?_
    refine JA_take 21 (vB (decide (a.AltAt + a.AltLength ≤ b.Length))) rfl (by kernel_rfl) (by kernel_rfl) (by kernel_rfl) rfl (fun _ _ _ h => h) rfl ⟨_, rfl, rfl⟩ (fun _ _ => x_leq_i rfl rfl) ?_
    refine jt_ 22 (vB (decide (a.AltAt + a.AltLength ≤ b.Length))) rfl (fun _ _ => rfl) ?_
    refine jt_ 23 (vB (decide (a.AltAt + a.AltLength ≤ b.Length))) rfl (fun _ _ => rfl) ?_
    refine JA_bool (decide (a.AltAt + a.AltLength ≤ b.Length)) [(0, Value.agg ((DataSet.enc b)).toArray), (1, Value.agg ((DataSet.enc a)).toArray), (2, Value.pointer (some ⟨b1, 0, none⟩)), (3, Value.pointer (some ⟨b2, 0, none⟩)), (4, vB false), (5, Value.agg ((DataSet.enc b)).toArray), (6, vB (R26.isBase b)), (7, vB true), (8, Value.agg ((DataSet.enc a)).toArray), (9, vB (R26.isAlt a)), (10, vB (R26.isAlt a)), (11, vB true), (12, Value.pointer (some ⟨b2, 11, none⟩)), (13, vI a.Base), (14, Value.pointer (some ⟨b1, 0, none⟩)), (15, vI b.Id), (16, vB (decide (a.Base = b.Id))), (17, vB (decide (a.Base = b.Id))), (18, vB true), (19, Value.pointer (some ⟨b2, 12, none⟩)), (20, vI a.AltAt), (21, Value.pointer (some ⟨b2, 13, none⟩)), (22, vI a.AltLength), (23, vI (a.AltAt + a.AltLength)), (24, Value.pointer (some ⟨b1, 3, none⟩)), (25, vI b.Length), (26, vB (decide (a.AltAt + a.AltLength ≤ b.Length))), (27, vB (decide (a.AltAt + a.AltLength ≤ b.Length))), (28, vB true)] [(0, Value.agg ((DataSet.enc b)).toArray), (1, Value.agg ((DataSet.enc a)).toArray), (2, Value.pointer (some ⟨b1, 0, none⟩)), (3, Value.pointer (some ⟨b2, 0, none⟩)), (4, vB false), (5, Value.agg ((DataSet.enc b)).toArray), (6, vB (R26.isBase b)), (7, vB true), (8, Value.agg ((DataSet.enc a)).toArray), (9, vB (R26.isAlt a)), (10, vB (R26.isAlt a)), (11, vB true), (12, Value.pointer (some ⟨b2, 11, none⟩)), (13, vI a.Base), (14, Value.pointer (some ⟨b1, 0, none⟩)), (15, vI b.Id), (16, vB (decide (a.Base = b.Id))), (17, vB (decide (a.Base = b.Id))), (18, vB true), (19, Value.pointer (some ⟨b2, 12, none⟩)), (20, vI a.AltAt), (21, Value.pointer (some ⟨b2, 13, none⟩)), (22, vI a.AltLength), (23, vI (a.AltAt + a.AltLength)), (24, Value.pointer (some ⟨b1, 3, none⟩)), (25, vI b.Length), (26, vB (decide (a.AltAt + a.AltLength ≤ b.Length))), (27, vB (decide (a.AltAt + a.AltLength ≤ b.Length))), (28, vB false)] (fun hb => ⟨rfl, rfl, rfl, rfl, rfl, rfl, rfl, rfl, rfl, rfl, rfl, rfl, rfl, rfl, rfl, rfl, rfl, rfl, rfl, rfl, rfl, rfl, rfl, rfl, rfl, rfl, rfl, rfl, congrArg (fun b => some (vB b)) hb, trivial⟩) (fun hb => ⟨rfl, rfl, rfl, rfl, rfl, rfl, rfl, rfl, rfl, rfl, rfl, rfl, rfl, rfl, rfl, rfl, rfl, rfl, rfl, rfl, rfl, rfl, rfl, rfl, rfl, rfl, rfl, rfl, congrArg (fun b => some (vB b)) hb, trivial⟩) (fun h8 => ?_) (fun h8 => ?_)
    ·have h8 := of_decide_eq_true h8
     refine JA_take 24 (Value.pointer (some ⟨b2, 6, none⟩)) rfl (by kernel_rfl) (by kernel_rfl) (by kernel_rfl) rfl (fun _ _ _ h => h) rfl ⟨_, rfl, rfl⟩ (fun _ _ => x_fieldAddr Ty.fi24_6 rfl rfl) ?_
     refine JA_take 25 (vI a.KeyLength) rfl (by kernel_rfl) (by kernel_rfl) (by kernel_rfl) rfl (fun _ _ _ h => h) rfl ⟨_, rfl, rfl⟩ (x_load 0 rfl rfl Ty.sc3 rfl) ?_
     refine JA_take 26 (Value.pointer (some ⟨b2, 13, none⟩)) rfl (by kernel_rfl) (by kernel_rfl) (by kernel_rfl) rfl (fun _ _ _ h => h) rfl ⟨_, rfl, rfl⟩ (fun _ _ => x_fieldAddr Ty.fi24_13 rfl rfl) ?_
     refine JA_take 27 (vI a.AltLength) rfl (by kernel_rfl) (by kernel_rfl) (by kernel_rfl) rfl (fun _ _ _ h => h) rfl ⟨_, rfl, rfl⟩ (x_load 0 rfl rfl Ty.sc3 rfl) ?_
     refine JA_take 28 (Value.agg ((DataSet.enc b)).toArray) rfl (by kernel_rfl) (by kernel_rfl) (by kernel_rfl) rfl (fun _ _ _ h => h) rfl ⟨_, rfl, rfl⟩ (x_loadN 1 (DataSet.enc b) rfl rfl Ty.ag24 Ty.sz24 rfl) ?_
     refine JA_one 29 (by kernel_rfl) (fun _ h => ⟨h, fun _ => h⟩) ?_
     refine JI_call [] [] [Ent.blk b2 24 (DataSet.enc a), Ent.blk b1 24 (DataSet.enc b)] rfl rfl ⟨_, rfl, rfl⟩ (fun _ => x_call Ty.ca81 rfl) (fun _ h => h) (fun _ h => by cases h) (fun w hS => f81_ok b w) ?_
     rintro _ _ ⟨rfl, rfl⟩
     refine JA_take 30 (vI (a.AltLength + (R26.keys b))) rfl (by kernel_rfl) (by kernel_rfl) (by kernel_rfl) rfl (fun _ _ _ h => h) rfl ⟨_, rfl, rfl⟩ (fun _ _ => x_add_i (a := a.AltLength) (b := R26.keys b) rfl rfl (by omega) (by omega)) ?_
     refine JA_take 31 (vB (decide (a.KeyLength = a.AltLength + (R26.keys b)))) rfl (by kernel_rfl) (by kernel_rfl) (by kernel_rfl) rfl (fun _ _ _ h => h) rfl ⟨_, rfl, rfl⟩ (fun _ _ => x_eql_i rfl rfl) ?_
     refine jt_ 32 (vB (decide (a.KeyLength = a.AltLength + (R26.keys b)))) rfl (fun _ _ => rfl) ?_
     refine jt_ 33 (vB (decide (a.KeyLength = a.AltLength + (R26.keys b)))) rfl (fun _ _ => rfl) ?_
     refine JA_done (by kernel_rfl) (fun _ h => ⟨h, fun _ => h⟩) ?_
     refine JX_then (J_ret ?_)
     refine JX_rets [vB (decide (a.KeyLength = a.AltLength + (R26.keys b)))] (vB (decide (a.KeyLength = a.AltLength + (R26.keys b)))) Try.results50 (fun w h => ⟨rfl, trivial⟩) rfl [] (fun _ h => h.keep [false, false] rfl) ⟨?_, ?_⟩
     ·have e_x0 : (decide (a.KeyLength = a.AltLength + (R26.keys b)) : Bool) = (R26.valid b a) := by
       rw [R26.valid_iff]
       first | rfl | (simp only [*]; done) | (simp [*]; done)
      exact congrArg (fun (x0 : Bool) => vB x0) e_x0
     ·rfl
    ·have h8 := of_decide_eq_false h8
     refine JA_shun 24 rfl (by kernel_rfl) (by kernel_rfl) (by kernel_rfl) rfl (fun _ _ _ h => h) rfl ⟨_, rfl, rfl⟩ ?_
     refine JA_shun 25 rfl (by kernel_rfl) (by kernel_rfl) (by kernel_rfl) rfl (fun _ _ _ h => h) rfl ⟨_, rfl, rfl⟩ ?_
     refine JA_shun 26 rfl (by kernel_rfl) (by kernel_rfl) (by kernel_rfl) rfl (fun _ _ _ h => h) rfl ⟨_, rfl, rfl⟩ ?_
     refine JA_shun 27 rfl (by kernel_rfl) (by kernel_rfl) (by kernel_rfl) rfl (fun _ _ _ h => h) rfl ⟨_, rfl, rfl⟩ ?_
     refine JA_shun 28 rfl (by kernel_rfl) (by kernel_rfl) (by kernel_rfl) rfl (fun _ _ _ h => h) rfl ⟨_, rfl, rfl⟩ ?_
     refine JA_shun 29 rfl (by kernel_rfl) (by kernel_rfl) (by kernel_rfl) rfl (fun _ _ _ h => h) rfl ⟨_, rfl, rfl⟩ ?_
     refine JA_shun 30 rfl (by kernel_rfl) (by kernel_rfl) (by kernel_rfl) rfl (fun _ _ _ h => h) rfl ⟨_, rfl, rfl⟩ ?_
     refine JA_shun 31 rfl (by kernel_rfl) (by kernel_rfl) (by kernel_rfl) rfl (fun _ _ _ h => h) rfl ⟨_, rfl, rfl⟩ ?_
     refine jt_ 32 (vB false) rfl (fun _ _ => rfl) ?_
     refine jt_ 33 (vB false) rfl (fun _ _ => rfl) ?_
     refine JA_done (by kernel_rfl) (fun _ h => ⟨h, fun _ => h⟩) ?_
     refine JX_then (J_ret ?_)
     refine JX_rets [vB false] (vB false) Try.results50 (fun w h => ⟨rfl, trivial⟩) rfl [] (fun _ h => h.keep [false, false] rfl) ⟨?_, ?_⟩
     ·have e_x0 : (false : Bool) = (R26.valid b a) := by
       rw [R26.valid_iff]
       first | rfl | (simp only [*]; done) | (simp [*]; done)
      exact congrArg (fun (x0 : Bool) => vB x0) e_x0
     ·rfl
   ·have h7 := of_decide_eq_false h7
    refine JA_shun 14 rfl (by kernel_rfl) (by kernel_rfl) (by kernel_rfl) rfl (fun _ _ _ h => h) rfl ⟨_, rfl, rfl⟩ ?_
    refine JA_shun 15 rfl (by kernel_rfl) (by kernel_rfl) (by kernel_rfl) rfl (fun _ _ _ h => h) rfl ⟨_, rfl, rfl⟩ ?_
    refine JA_shun 16 rfl (by kernel_rfl) (by kernel_rfl) (by kernel_rfl) rfl (fun _ _ _ h => h) rfl ⟨_, rfl, rfl⟩ ?_
    refine JA_shun 17 rfl (by kernel_rfl) (by kernel_rfl) (by kernel_rfl) rfl (fun _ _ _ h => h) rfl ⟨_, rfl, rfl⟩ ?_
    refine JA_shun 18 rfl (by kernel_rfl) (by kernel_rfl) (by kernel_rfl) rfl (fun _ _ _ h => h) rfl ⟨_, rfl, rfl⟩ ?_
    refine JA_shun 19 rfl (by kernel_rfl) (by kernel_rfl) (by kernel_rfl) rfl (fun _ _ _ h => h) rfl ⟨_, rfl, rfl⟩ ?_
    refine JA_shun 20 rfl (by kernel_rfl) (by kernel_rfl) (by kernel_rfl) rfl (fun _ _ _ h => h) rfl ⟨_, rfl, rfl⟩ ?_
    refine JA_shun 21 rfl (by kernel_rfl) (by kernel_rfl) (by kernel_rfl) rfl (fun _ _ _ h => h) rfl ⟨_, rfl, rfl⟩ ?_
    refine jt_ 22 (vB false) rfl (fun _ _ => rfl) ?_
    refine jt_ 23 (vB false) rfl (fun _ _ => rfl) ?_
    refine JA_shun 24 rfl (by kernel_rfl) (by kernel_rfl) (by kernel_rfl) rfl (fun _ _ _ h => h) rfl ⟨_, rfl, rfl⟩ ?_
    refine JA_shun 25 rfl (by kernel_rfl) (by kernel_rfl) (by kernel_rfl) rfl (fun _ _ _ h => h) rfl ⟨_, rfl, rfl⟩ ?_
    refine JA_shun 26 rfl (by kernel_rfl) (by kernel_rfl) (by kernel_rfl) rfl (fun _ _ _ h => h) rfl ⟨_, rfl, rfl⟩ ?_
    refine JA_shun 27 rfl (by kernel_rfl) (by kernel_rfl) (by kernel_rfl) rfl (fun _ _ _ h => h) rfl ⟨_, rfl, rfl⟩ ?_
    refine JA_shun 28 rfl (by kernel_rfl) (by kernel_rfl) (by kernel_rfl) rfl (fun _ _ _ h => h) rfl ⟨_, rfl, rfl⟩ ?_
    refine JA_shun 29 rfl (by kernel_rfl) (by kernel_rfl) (by kernel_rfl) rfl (fun _ _ _ h => h) rfl ⟨_, rfl, rfl⟩ ?_
    refine JA_shun 30 rfl (by kernel_rfl) (by kernel_rfl) (by kernel_rfl) rfl (fun _ _ _ h => h) rfl ⟨_, rfl, rfl⟩ ?_
    refine JA_shun 31 rfl (by kernel_rfl) (by kernel_rfl) (by kernel_rfl) rfl (fun _ _ _ h => h) rfl ⟨_, rfl, rfl⟩ ?_
    refine jt_ 32 (vB false) rfl (fun _ _ => rfl) ?_
    refine jt_ 33 (vB false) rfl (fun _ _ => rfl) ?_
    refine JA_done (by kernel_rfl) (fun _ h => ⟨h, fun _ => h⟩) ?_
    refine JX_then (J_ret ?_)
    refine JX_rets [vB false] (vB false) Try.results50 (fun w h => ⟨rfl, trivial⟩) rfl [] (fun _ h => h.keep [false, false] rfl) ⟨?_, ?_⟩
    ·have e_x0 : (false : Bool) = (R26.valid b a) := by
      rw [R26.valid_iff]
      first | rfl | (simp only [*]; done) | (simp [*]; done)
     exact congrArg (fun (x0 : Bool) => vB x0) e_x0
    ·rfl
  ·refine JA_shun 7 rfl (by kernel_rfl) (by kernel_rfl) (by kernel_rfl) rfl (fun _ _ _ h => h) rfl ⟨_, rfl, rfl⟩ ?_
   refine JA_shun 8 rfl (by kernel_rfl) (by kernel_rfl) (by kernel_rfl) rfl (fun _ _ _ h => h) rfl ⟨_, rfl, rfl⟩ ?_
   refine JA_shun 9 rfl (by kernel_rfl) (by kernel_rfl) (by kernel_rfl) rfl (fun _ _ _ h => h) rfl ⟨_, rfl, rfl⟩ ?_
   refine JA_shun 10 rfl (by kernel_rfl) (by kernel_rfl) (by kernel_rfl) rfl (fun _ _ _ h => h) rfl ⟨_, rfl, rfl⟩ ?_
   refine JA_shun 11 rfl (by kernel_rfl) (by kernel_rfl) (by kernel_rfl) rfl (fun _ _ _ h => h) rfl ⟨_, rfl, rfl⟩ ?_
   refine jt_ 12 (vB false) rfl (fun _ _ => rfl) ?_
   refine jt_ 13 (vB false) rfl (fun _ _ => rfl) ?_
   refine JA_shun 14 rfl (by kernel_rfl) (by kernel_rfl) (by kernel_rfl) rfl (fun _ _ _ h => h) rfl ⟨_, rfl, rfl⟩ ?_
   refine JA_shun 15 rfl (by kernel_rfl) (by kernel_rfl) (by kernel_rfl) rfl (fun _ _ _ h => h) rfl ⟨_, rfl, rfl⟩ ?_
   refine JA_shun 16 rfl (by kernel_rfl) (by kernel_rfl) (by kernel_rfl) rfl (fun _ _ _ h => h) rfl ⟨_, rfl, rfl⟩ ?_
   refine JA_shun 17 rfl (by kernel_rfl) (by kernel_rfl) (by kernel_rfl) rfl (fun _ _ _ h => h) rfl ⟨_, rfl, rfl⟩ ?_
   refine JA_shun 18 rfl (by kernel_rfl) (by kernel_rfl) (by kernel_rfl) rfl (fun _ _ _ h => h) rfl ⟨_, rfl, rfl⟩ ?_
   refine JA_shun 19 rfl (by kernel_rfl) (by kernel_rfl) (by kernel_rfl) rfl (fun _ _ _ h => h) rfl ⟨_, rfl, rfl⟩ ?_
   refine JA_shun 20 rfl (by kernel_rfl) (by kernel_rfl) (by kernel_rfl) rfl (fun _ _ _ h => h) rfl ⟨_, rfl, rfl⟩ ?_
   refine JA_shun 21 rfl (by kernel_rfl) (by kernel_rfl) (by kernel_rfl) rfl (fun _ _ _ h => h) rfl ⟨_, rfl, rfl⟩ ?_
   refine jt_ 22 (vB false) rfl (fun _ _ => rfl) ?_
   refine jt_ 23 (vB false) rfl (fun _ _ => rfl) ?_
   refine JA_shun 24 rfl (by kernel_rfl) (by kernel_rfl) (by kernel_rfl) rfl (fun _ _ _ h => h) rfl ⟨_, rfl, rfl⟩ ?_
   refine JA_shun 25 rfl (by kernel_rfl) (by kernel_rfl) (by kernel_rfl) rfl (fun _ _ _ h => h) rfl ⟨_, rfl, rfl⟩ ?_
   refine JA_shun 26 rfl (by kernel_rfl) (by kernel_rfl) (by kernel_rfl) rfl (fun _ _ _ h => h) rfl ⟨_, rfl, rfl⟩ ?_
   refine JA_shun 27 rfl (by kernel_rfl) (by kernel_rfl) (by kernel_rfl) rfl (fun _ _ _ h => h) rfl ⟨_, rfl, rfl⟩ ?_
   refine JA_shun 28 rfl (by kernel_rfl) (by kernel_rfl) (by kernel_rfl) rfl (fun _ _ _ h => h) rfl ⟨_, rfl, rfl⟩ ?_
   refine JA_shun 29 rfl (by kernel_rfl) (by kernel_rfl) (by kernel_rfl) rfl (fun _ _ _ h => h) rfl ⟨_, rfl, rfl⟩ ?_
   refine JA_shun 30 rfl (by kernel_rfl) (by kernel_rfl) (by kernel_rfl) rfl (fun _ _ _ h => h) rfl ⟨_, rfl, rfl⟩ ?_
   refine JA_shun 31 rfl (by kernel_rfl) (by kernel_rfl) (by kernel_rfl) rfl (fun _ _ _ h => h) rfl ⟨_, rfl, rfl⟩ ?_
   refine jt_ 32 (vB false) rfl (fun _ _ => rfl) ?_
   refine jt_ 33 (vB false) rfl (fun _ _ => rfl) ?_
   refine JA_done (by kernel_rfl) (fun _ h => ⟨h, fun _ => h⟩) ?_
   refine JX_then (J_ret ?_)
   refine JX_rets [vB false] (vB false) Try.results50 (fun w h => ⟨rfl, trivial⟩) rfl [] (fun _ h => h.keep [false, false] rfl) ⟨?_, ?_⟩
   ·have e_x0 : (false : Bool) = (R26.valid b a) := by
     rw [R26.valid_iff]
     first | rfl | (simp only [*]; done) | (simp [*]; done)
    exact congrArg (fun (x0 : Bool) => vB x0) e_x0
   ·rfl
 ·refine JA_shun 3 rfl (by kernel_rfl) (by kernel_rfl) (by kernel_rfl) rfl (fun _ _ _ h => h) rfl ⟨_, rfl, rfl⟩ ?_
  refine JA_shun 4 rfl (by kernel_rfl) (by kernel_rfl) (by kernel_rfl) rfl (fun _ _ _ h => h) rfl ⟨_, rfl, rfl⟩ ?_
  refine jt_ 5 (vB false) rfl (fun _ _ => rfl) ?_
  refine jt_ 6 (vB false) rfl (fun _ _ => rfl) ?_
  refine JA_shun 7 rfl (by kernel_rfl) (by kernel_rfl) (by kernel_rfl) rfl (fun _ _ _ h => h) rfl ⟨_, rfl, rfl⟩ ?_
  refine JA_shun 8 rfl (by kernel_rfl) (by kernel_rfl) (by kernel_rfl) rfl (fun _ _ _ h => h) rfl ⟨_, rfl, rfl⟩ ?_
  refine JA_shun 9 rfl (by kernel_rfl) (by kernel_rfl) (by kernel_rfl) rfl (fun _ _ _ h => h) rfl ⟨_, rfl, rfl⟩ ?_
  refine JA_shun 10 rfl (by kernel_rfl) (by kernel_rfl) (by kernel_rfl) rfl (fun _ _ _ h => h) rfl ⟨_, rfl, rfl⟩ ?_
  refine JA_shun 11 rfl (by kernel_rfl) (by kernel_rfl) (by kernel_rfl) rfl (fun _ _ _ h => h) rfl ⟨_, rfl, rfl⟩ ?_
  refine jt_ 12 (vB false) rfl (fun _ _ => rfl) ?_
  refine jt_ 13 (vB false) rfl (fun _ _ => rfl) ?_
  refine JA_shun 14 rfl (by kernel_rfl) (by kernel_rfl) (by kernel_rfl) rfl (fun _ _ _ h => h) rfl ⟨_, rfl, rfl⟩ ?_
  refine JA_shun 15 rfl (by kernel_rfl) (by kernel_rfl) (by kernel_rfl) rfl (fun _ _ _ h => h) rfl ⟨_, rfl, rfl⟩ ?_
  refine JA_shun 16 rfl (by kernel_rfl) (by kernel_rfl) (by kernel_rfl) rfl (fun _ _ _ h => h) rfl ⟨_, rfl, rfl⟩ ?_
  refine JA_shun 17 rfl (by kernel_rfl) (by kernel_rfl) (by kernel_rfl) rfl (fun _ _ _ h => h) rfl ⟨_, rfl, rfl⟩ ?_
  refine JA_shun 18 rfl (by kernel_rfl) (by kernel_rfl) (by kernel_rfl) rfl (fun _ _ _ h => h) rfl ⟨_, rfl, rfl⟩ ?_
  refine JA_shun 19 rfl (by kernel_rfl) (by kernel_rfl) (by kernel_rfl) rfl (fun _ _ _ h => h) rfl ⟨_, rfl, rfl⟩ ?_
  refine JA_shun 20 rfl (by kernel_rfl) (by kernel_rfl) (by kernel_rfl) rfl (fun _ _ _ h => h) rfl ⟨_, rfl, rfl⟩ ?_
  refine JA_shun 21 rfl (by kernel_rfl) (by kernel_rfl) (by kernel_rfl) rfl (fun _ _ _ h => h) rfl ⟨_, rfl, rfl⟩ ?_
  refine jt_ 22 (vB false) rfl (fun _ _ => rfl) ?_
  refine jt_ 23 (vB false) rfl (fun _ _ => rfl) ?_
  refine JA_shun 24 rfl (by kernel_rfl) (by kernel_rfl) (by kernel_rfl) rfl (fun _ _ _ h => h) rfl ⟨_, rfl, rfl⟩ ?_
  refine JA_shun 25 rfl (by kernel_rfl) (by kernel_rfl) (by kernel_rfl) rfl (fun _ _ _ h => h) rfl ⟨_, rfl, rfl⟩ ?_
  refine JA_shun 26 rfl (by kernel_rfl) (by kernel_rfl) (by kernel_rfl) rfl (fun _ _ _ h => h) rfl ⟨_, rfl, rfl⟩ ?_
  refine JA_shun 27 rfl (by kernel_rfl) (by kernel_rfl) (by kernel_rfl) rfl (fun _ _ _ h => h) rfl ⟨_, rfl, rfl⟩ ?_
  refine JA_shun 28 rfl (by kernel_rfl) (by kernel_rfl) (by kernel_rfl) rfl (fun _ _ _ h => h) rfl ⟨_, rfl, rfl⟩ ?_
  refine JA_shun 29 rfl (by kernel_rfl) (by kernel_rfl) (by kernel_rfl) rfl (fun _ _ _ h => h) rfl ⟨_, rfl, rfl⟩ ?_
  refine JA_shun 30 rfl (by kernel_rfl) (by kernel_rfl) (by kernel_rfl) rfl (fun _ _ _ h => h) rfl ⟨_, rfl, rfl⟩ ?_
  refine JA_shun 31 rfl (by kernel_rfl) (by kernel_rfl) (by kernel_rfl) rfl (fun _ _ _ h => h) rfl ⟨_, rfl, rfl⟩ ?_
  refine jt_ 32 (vB false) rfl (fun _ _ => rfl) ?_
  refine jt_ 33 (vB false) rfl (fun _ _ => rfl) ?_
  refine JA_done (by kernel_rfl) (fun _ h => ⟨h, fun _ => h⟩) ?_
  refine JX_then (J_ret ?_)
  refine JX_rets [vB false] (vB false) Try.results50 (fun w h => ⟨rfl, trivial⟩) rfl [] (fun _ h => h.keep [false, false] rfl) ⟨?_, ?_⟩
  ·have e_x0 : (false : Bool) = (R26.valid b a) := by
    rw [R26.valid_iff]
    first | rfl | (simp only [*]; done) | (simp [*]; done)
   exact congrArg (fun (x0 : Bool) => vB x0) e_x0
  ·rfl
end Go.Proofs.Ytmbinhhlfbgiaaa
