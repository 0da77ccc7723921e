/- contracts C26c -/
import Derived.Test.YtmbinhhlfbgiaaaC26b
namespace Go.Proofs.Ytmbinhhlfbgiaaa
open Go.GV
set_option linter.unusedVariables false
set_option linter.unusedSimpArgs false
set_option maxRecDepth 20000 in
theorem f44_ok (base : DataSet) (id : Int) (pos : Int) (len : Int) (u : Bool) (w : World) : Calls Try.prog 44 #[Value.agg ((DataSet.enc base)).toArray, vI id, vI pos, vI len, vB u] w (Gives [] w fun v L => v = Value.tuple #[Value.agg ((DataSet.enc ((R26.describe base id pos len u).1))).toArray, vI ((R26.describe base id pos len u).2)] ∧ L = []) := by
 refine calls_J [] 98 Try.func44 rfl Try.ntmps44 [(0, Value.agg ((DataSet.enc base)).toArray), (1, vI id), (2, vI pos), (3, vI len), (4, vB u)] rfl rfl (Give.nil w) ?_
 refine J_seq (J_region ?_)
 refine JO_op rfl trivial (O_box rfl rfl fun b1 => ?_)
 refine JO_op rfl trivial (O_alloc Ty.ze24 rfl fun b2 => ?_)
 refine jr_ (vI 0) ?_
 refine JO_nil (JX_then (J_seq (J_seq (J_region ?_))))
 refine JO_read (Value.agg ((DataSet.enc base)).toArray) rfl trivial (x_loadN 1 (DataSet.enc base) rfl rfl Ty.ag24 Ty.sz24 rfl) ?_
 refine JO_call [] [] [Ent.blk b2 24 [vI 0, vI 0, vI 0, vI 0, vI 0, vI 0, vI 0, vI 0, vI 0, vI 0, vI 0, vI 0, vI 0, vI 0, vB false, vI 0, vS [], vS [], vI 0, vI 0, vB false], Ent.blk b1 24 (DataSet.enc base)] rfl trivial (fun _ => x_call Ty.ca66 rfl) (fun _ h => h) (fun _ h => by cases h) (fun w hS => f66_ok base w) ?_
 rintro _ _ ⟨rfl, rfl⟩
 refine js_ (vB (!(R26.isBase base))) (x_not rfl) ?_
 refine jr_ (vB (!(R26.isBase base))) ?_
 refine JO_cut 4 (fun z => z = ((!(R26.isBase base)) || (!(R26.isId id)))) (fun z => [(1, vI id), (2, vI pos), (3, vI len), (4, vB u), (5, Value.pointer (some ⟨b1, 0, none⟩)), (10, Value.pointer (some ⟨b2, 0, none⟩)), (11, vI 0), (21, vB z)]) (fun _ => [Ent.blk b2 24 [vI 0, vI 0, vI 0, vI 0, vI 0, vI 0, vI 0, vI 0, vI 0, vI 0, vI 0, vI 0, vI 0, vI 0, vB false, vI 0, vS [], vS [], vI 0, vI 0, vB false], Ent.blk b1 24 (DataSet.enc base)]) ?_ ?_
 ·rcases Bool.eq_false_or_eq_true (!(R26.isBase base)) with g4 | g4
  ·have g4r := g4
   have g4r : (R26.isBase base) = false := bnot_true g4r
   refine sh_ g4 ?_
   refine sh_ g4 ?_
   refine sh_ g4 ?_
   refine js_ (vB true) (x_pick_t rfl g4 rfl) ?_
   refine JO_nil (JX_cut (true) (by rw [g4]; simp) ⟨rfl, rfl, rfl, rfl, rfl, rfl, rfl, rfl, trivial⟩ (fun _ h => h))
  ·have g4r := g4
   have g4r : (R26.isBase base) = true := bnot_false g4r
   have hi5 := R26.isBase_facts g4r
   refine jg_ g4 (vI id) (rfl) ?_
   refine JO_call [] [] [Ent.blk b2 24 [vI 0, vI 0, vI 0, vI 0, vI 0, vI 0, vI 0, vI 0, vI 0, vI 0, vI 0, vI 0, vI 0, vI 0, vB false, vI 0, vS [], vS [], vI 0, vI 0, vB false], Ent.blk b1 24 (DataSet.enc base)] rfl ⟨_, rfl, g4⟩ (fun _ => x_call Ty.ca67 rfl) (fun _ h => h) (fun _ h => by cases h) (fun w hS => f67_ok id w) ?_
   rintro _ _ ⟨rfl, rfl⟩
   refine jg_ g4 (vB (!(R26.isId id))) (x_not rfl) ?_
   refine js_ (vB (!(R26.isId id))) (x_pick_f rfl g4 rfl) ?_
   refine JO_nil (JX_cut (!(R26.isId id)) (by rw [g4]; simp) ⟨rfl, rfl, rfl, rfl, rfl, rfl, rfl, rfl, trivial⟩ (fun _ h => h))
 rintro z3 rfl
 refine jr_ (vB ((!(R26.isBase base)) || (!(R26.isId id)))) ?_
 refine JO_cut 5 (fun z => z = (((!(R26.isBase base)) || (!(R26.isId id))) || (decide (id = base.Id)))) (fun z => [(1, vI id), (2, vI pos), (3, vI len), (4, vB u), (5, Value.pointer (some ⟨b1, 0, none⟩)), (10, Value.pointer (some ⟨b2, 0, none⟩)), (11, vI 0), (27, vB z)]) (fun _ => [Ent.blk b2 24 [vI 0, vI 0, vI 0, vI 0, vI 0, vI 0, vI 0, vI 0, vI 0, vI 0, vI 0, vI 0, vI 0, vI 0, vB false, vI 0, vS [], vS [], vI 0, vI 0, vB false], Ent.blk b1 24 (DataSet.enc base)]) ?_ ?_
 ·rcases Bool.eq_false_or_eq_true ((!(R26.isBase base)) || (!(R26.isId id))) with g7 | g7
  ·have g7r := g7
   simp only [Bool.and_eq_true, Bool.or_eq_true, Bool.and_eq_false_iff, Bool.or_eq_false_iff, Bool.not_eq_true', Bool.not_eq_false', decide_eq_true_eq, decide_eq_false_iff_not] at g7r
   refine sh_ g7 ?_
   refine sh_ g7 ?_
   refine sh_ g7 ?_
   refine sh_ g7 ?_
   refine js_ (vB true) (x_pick_t rfl g7 rfl) ?_
   refine JO_nil (JX_cut (true) (by rw [g7]; simp) ⟨rfl, rfl, rfl, rfl, rfl, rfl, rfl, rfl, trivial⟩ (fun _ h => h))
  ·have g7r := g7
   have ⟨g7r, h8⟩ := bor_false g7r
   have g7r : (R26.isBase base) = true := bnot_false g7r
   have hi9 := R26.isBase_facts g7r
   have h8 : (R26.isId id) = true := bnot_false h8
   have hi10 := R26.isId_facts h8
   refine jg_ g7 (vI id) (rfl) ?_
   refine jg_ g7 (Value.pointer (some ⟨b1, 0, none⟩)) (x_fieldAddr Ty.fi24_0 rfl rfl) ?_
   refine JO_read (vI base.Id) rfl ⟨_, rfl, g7⟩ (x_load 1 rfl rfl Ty.sc3 rfl) ?_
   refine jg_ g7 (vB (decide (id = base.Id))) (x_eql_i rfl rfl) ?_
   refine js_ (vB (decide (id = base.Id))) (x_pick_f rfl g7 rfl) ?_
   refine JO_nil (JX_cut (decide (id = base.Id)) (by rw [g7]; simp) ⟨rfl, rfl, rfl, rfl, rfl, rfl, rfl, rfl, trivial⟩ (fun _ h => h))
 rintro z6 rfl
 refine jr_ (vB (((!(R26.isBase base)) || (!(R26.isId id))) || (decide (id = base.Id)))) ?_
 refine JO_cut 3 (fun z => z = ((((!(R26.isBase base)) || (!(R26.isId id))) || (decide (id = base.Id))) || (decide (pos < 0)))) (fun z => [(1, vI id), (2, vI pos), (3, vI len), (4, vB u), (5, Value.pointer (some ⟨b1, 0, none⟩)), (10, Value.pointer (some ⟨b2, 0, none⟩)), (11, vI 0), (31, vB z)]) (fun _ => [Ent.blk b2 24 [vI 0, vI 0, vI 0, vI 0, vI 0, vI 0, vI 0, vI 0, vI 0, vI 0, vI 0, vI 0, vI 0, vI 0, vB false, vI 0, vS [], vS [], vI 0, vI 0, vB false], Ent.blk b1 24 (DataSet.enc base)]) ?_ ?_
 ·rcases Bool.eq_false_or_eq_true (((!(R26.isBase base)) || (!(R26.isId id))) || (decide (id = base.Id))) with g12 | g12
  ·have g12r := g12
   simp only [Bool.and_eq_true, Bool.or_eq_true, Bool.and_eq_false_iff, Bool.or_eq_false_iff, Bool.not_eq_true', Bool.not_eq_false', decide_eq_true_eq, decide_eq_false_iff_not] at g12r
   refine sh_ g12 ?_
   refine sh_ g12 ?_
   refine js_ (vB true) (x_pick_t rfl g12 rfl) ?_
   refine JO_nil (JX_cut (true) (by rw [g12]; simp) ⟨rfl, rfl, rfl, rfl, rfl, rfl, rfl, rfl, trivial⟩ (fun _ h => h))
  ·have g12r := g12
   have ⟨g12r, h13⟩ := bor_false g12r
   have ⟨g12r, h14⟩ := bor_false g12r
   have g12r : (R26.isBase base) = true := bnot_false g12r
   have hi15 := R26.isBase_facts g12r
   have h14 : (R26.isId id) = true := bnot_false h14
   have hi16 := R26.isId_facts h14
   have h13 := of_decide_eq_false h13
   refine jg_ g12 (vI pos) (rfl) ?_
   refine jg_ g12 (vB (decide (pos < 0))) (x_lss_i rfl rfl) ?_
   refine js_ (vB (decide (pos < 0))) (x_pick_f rfl g12 rfl) ?_
   refine JO_nil (JX_cut (decide (pos < 0)) (by rw [g12]; simp) ⟨rfl, rfl, rfl, rfl, rfl, rfl, rfl, rfl, trivial⟩ (fun _ h => h))
 rintro z11 rfl
 refine jr_ (vB ((((!(R26.isBase base)) || (!(R26.isId id))) || (decide (id = base.Id))) || (decide (pos < 0)))) ?_
 refine JO_cut 3 (fun z => z = (((((!(R26.isBase base)) || (!(R26.isId id))) || (decide (id = base.Id))) || (decide (pos < 0))) || (decide (len < 1)))) (fun z => [(1, vI id), (2, vI pos), (3, vI len), (4, vB u), (5, Value.pointer (some ⟨b1, 0, none⟩)), (10, Value.pointer (some ⟨b2, 0, none⟩)), (11, vI 0), (35, vB z)]) (fun _ => [Ent.blk b2 24 [vI 0, vI 0, vI 0, vI 0, vI 0, vI 0, vI 0, vI 0, vI 0, vI 0, vI 0, vI 0, vI 0, vI 0, vB false, vI 0, vS [], vS [], vI 0, vI 0, vB false], Ent.blk b1 24 (DataSet.enc base)]) ?_ ?_
 ·rcases Bool.eq_false_or_eq_true ((((!(R26.isBase base)) || (!(R26.isId id))) || (decide (id = base.Id))) || (decide (pos < 0))) with g18 | g18
  ·have g18r := g18
   simp only [Bool.and_eq_true, Bool.or_eq_true, Bool.and_eq_false_iff, Bool.or_eq_false_iff, Bool.not_eq_true', Bool.not_eq_false', decide_eq_true_eq, decide_eq_false_iff_not] at g18r
   refine sh_ g18 ?_
   refine sh_ g18 ?_
   refine js_ (vB true) (x_pick_t rfl g18 rfl) ?_
   refine JO_nil (JX_cut (true) (by rw [g18]; simp) ⟨rfl, rfl, rfl, rfl, rfl, rfl, rfl, rfl, trivial⟩ (fun _ h => h))
  ·have g18r := g18
   have ⟨g18r, h19⟩ := bor_false g18r
   have ⟨g18r, h20⟩ := bor_false g18r
   have ⟨g18r, h21⟩ := bor_false g18r
   have g18r : (R26.isBase base) = true := bnot_false g18r
   have hi22 := R26.isBase_facts g18r
   have h21 : (R26.isId id) = true := bnot_false h21
   have hi23 := R26.isId_facts h21
   have h20 := of_decide_eq_false h20
   have h19 := of_decide_eq_false h19
   refine jg_ g18 (vI len) (rfl) ?_
   refine jg_ g18 (vB (decide (len < 1))) (x_lss_i rfl rfl) ?_
   refine js_ (vB (decide (len < 1))) (x_pick_f rfl g18 rfl) ?_
   refine JO_nil (JX_cut (decide (len < 1)) (by rw [g18]; simp) ⟨rfl, rfl, rfl, rfl, rfl, rfl, rfl, rfl, trivial⟩ (fun _ h => h))
 rintro z17 rfl
 refine jr_ (vB (((((!(R26.isBase base)) || (!(R26.isId id))) || (decide (id = base.Id))) || (decide (pos < 0))) || (decide (len < 1)))) ?_
 refine JO_cut 5 (fun z => z = ((((((!(R26.isBase base)) || (!(R26.isId id))) || (decide (id = base.Id))) || (decide (pos < 0))) || (decide (len < 1))) || (decide (base.Length < len)))) (fun z => [(1, vI id), (2, vI pos), (3, vI len), (4, vB u), (5, Value.pointer (some ⟨b1, 0, none⟩)), (10, Value.pointer (some ⟨b2, 0, none⟩)), (11, vI 0), (41, vB z)]) (fun _ => [Ent.blk b2 24 [vI 0, vI 0, vI 0, vI 0, vI 0, vI 0, vI 0, vI 0, vI 0, vI 0, vI 0, vI 0, vI 0, vI 0, vB false, vI 0, vS [], vS [], vI 0, vI 0, vB false], Ent.blk b1 24 (DataSet.enc base)]) ?_ ?_
 ·rcases Bool.eq_false_or_eq_true (((((!(R26.isBase base)) || (!(R26.isId id))) || (decide (id = base.Id))) || (decide (pos < 0))) || (decide (len < 1))) with g25 | g25
  ·have g25r := g25
   simp only [Bool.and_eq_true, Bool.or_eq_true, Bool.and_eq_false_iff, Bool.or_eq_false_iff, Bool.not_eq_true', Bool.not_eq_false', decide_eq_true_eq, decide_eq_false_iff_not] at g25r
   refine sh_ g25 ?_
   refine sh_ g25 ?_
   refine sh_ g25 ?_
   refine sh_ g25 ?_
   refine js_ (vB true) (x_pick_t rfl g25 rfl) ?_
   refine JO_nil (JX_cut (true) (by rw [g25]; simp) ⟨rfl, rfl, rfl, rfl, rfl, rfl, rfl, rfl, trivial⟩ (fun _ h => h))
  ·have g25r := g25
   have ⟨g25r, h26⟩ := bor_false g25r
   have ⟨g25r, h27⟩ := bor_false g25r
   have ⟨g25r, h28⟩ := bor_false g25r
   have ⟨g25r, h29⟩ := bor_false g25r
   have g25r : (R26.isBase base) = true := bnot_false g25r
   have hi30 := R26.isBase_facts g25r
   have h29 : (R26.isId id) = true := bnot_false h29
   have hi31 := R26.isId_facts h29
   have h28 := of_decide_eq_false h28
   have h27 := of_decide_eq_false h27
   have h26 := of_decide_eq_false h26
   refine jg_ g25 (vI len) (rfl) ?_
   refine jg_ g25 (Value.pointer (some ⟨b1, 3, none⟩)) (x_fieldAddr Ty.fi24_3 rfl rfl) ?_
   refine JO_read (vI base.Length) rfl ⟨_, rfl, g25⟩ (x_load 1 rfl rfl Ty.sc3 rfl) ?_
   refine jg_ g25 (vB (decide (base.Length < len))) (x_gtr_i rfl rfl) ?_
   refine js_ (vB (decide (base.Length < len))) (x_pick_f rfl g25 rfl) ?_
   refine JO_nil (JX_cut (decide (base.Length < len)) (by rw [g25]; simp) ⟨rfl, rfl, rfl, rfl, rfl, rfl, rfl, rfl, trivial⟩ (fun _ h => h))
 rintro z24 rfl
 refine jr_ (vB ((((((!(R26.isBase base)) || (!(R26.isId id))) || (decide (id = base.Id))) || (decide (pos < 0))) || (decide (len < 1))) || (decide (base.Length < len)))) ?_
 refine JO_cut 7 (fun z => z = (((((((!(R26.isBase base)) || (!(R26.isId id))) || (decide (id = base.Id))) || (decide (pos < 0))) || (decide (len < 1))) || (decide (base.Length < len))) || (decide (base.Length - len < pos)))) (fun z => [(1, vI id), (2, vI pos), (3, vI len), (4, vB u), (5, Value.pointer (some ⟨b1, 0, none⟩)), (10, Value.pointer (some ⟨b2, 0, none⟩)), (11, vI 0), (49, vB z)]) (fun _ => [Ent.blk b2 24 [vI 0, vI 0, vI 0, vI 0, vI 0, vI 0, vI 0, vI 0, vI 0, vI 0, vI 0, vI 0, vI 0, vI 0, vB false, vI 0, vS [], vS [], vI 0, vI 0, vB false], Ent.blk b1 24 (DataSet.enc base)]) ?_ ?_
 ·rcases Bool.eq_false_or_eq_true ((((((!(R26.isBase base)) || (!(R26.isId id))) || (decide (id = base.Id))) || (decide (pos < 0))) || (decide (len < 1))) || (decide (base.Length < len))) with g33 | g33
  ·have g33r := g33
   simp only [Bool.and_eq_true, Bool.or_eq_true, Bool.and_eq_false_iff, Bool.or_eq_false_iff, Bool.not_eq_true', Bool.not_eq_false', decide_eq_true_eq, decide_eq_false_iff_not] at g33r
   refine sh_ g33 ?_
   refine sh_ g33 ?_
   refine sh_ g33 ?_
   refine sh_ g33 ?_
   refine sh_ g33 ?_
   refine sh_ g33 ?_
   refine js_ (vB true) (x_pick_t rfl g33 rfl) ?_
   refine JO_nil (JX_cut (true) (by rw [g33]; simp) ⟨rfl, rfl, rfl, rfl, rfl, rfl, rfl, rfl, trivial⟩ (fun _ h => h))
  ·have g33r := g33
   have ⟨g33r, h34⟩ := bor_false g33r
   have ⟨g33r, h35⟩ := bor_false g33r
   have ⟨g33r, h36⟩ := bor_false g33r
   have ⟨g33r, h37⟩ := bor_false g33r
   have ⟨g33r, h38⟩ := bor_false g33r
   have g33r : (R26.isBase base) = true := bnot_false g33r
   have hi39 := R26.isBase_facts g33r
   have h38 : (R26.isId id) = true := bnot_false h38
   have hi40 := R26.isId_facts h38
   have h37 := of_decide_eq_false h37
   have h36 := of_decide_eq_false h36
   have h35 := of_decide_eq_false h35
   have h34 := of_decide_eq_false h34
   refine jg_ g33 (vI pos) (rfl) ?_
   refine jg_ g33 (Value.pointer (some ⟨b1, 3, none⟩)) (x_fieldAddr Ty.fi24_3 rfl rfl) ?_
   refine JO_read (vI base.Length) rfl ⟨_, rfl, g33⟩ (x_load 1 rfl rfl Ty.sc3 rfl) ?_
   refine jg_ g33 (vI len) (rfl) ?_
   refine jg_ g33 (vI (base.Length - len)) (x_sub_i (a := base.Length) (b := len) rfl rfl (by omega) (by omega)) ?_
   refine jg_ g33 (vB (decide (base.Length - len < pos))) (x_gtr_i rfl rfl) ?_
   refine js_ (vB (decide (base.Length - len < pos))) (x_pick_f rfl g33 rfl) ?_
   refine JO_nil (JX_cut (decide (base.Length - len < pos)) (by rw [g33]; simp) ⟨rfl, rfl, rfl, rfl, rfl, rfl, rfl, rfl, trivial⟩ (fun _ h => h))
 rintro z32 rfl
 refine JO_nil (JX_then ?_)
 refine J_cond (((((((!(R26.isBase base)) || (!(R26.isId id))) || (decide (id = base.Id))) || (decide (pos < 0))) || (decide (len < 1))) || (decide (base.Length < len))) || (decide (base.Length - len < pos))) rfl rfl (fun h41 => ?_) (fun h41 => ?_)
 ·simp only [Bool.and_eq_true, Bool.or_eq_true, Bool.and_eq_false_iff, Bool.or_eq_false_iff, Bool.not_eq_true', Bool.not_eq_false', decide_eq_true_eq, decide_eq_false_iff_not] at h41
  refine J_seq (J_region ?_)
  refine js_ (Value.agg #[vI 0, vI 0, vI 0, vI 0, vI 0, vI 0, vI 0, vI 0, vI 0, vI 0, vI 0, vI 0, vI 0, vI 0, vB false, vI 0, vS [], vS [], vI 0, vI 0, vB false]) (x_build (by kernel_rfl)) ?_
  refine JO_op rfl trivial (O_storeS (vs := [vI 0, vI 0, vI 0, vI 0, vI 0, vI 0, vI 0, vI 0, vI 0, vI 0, vI 0, vI 0, vI 0, vI 0, vB false, vI 0, vS [], vS [], vI 0, vI 0, vB false]) 0 [vI 0, vI 0, vI 0, vI 0, vI 0, vI 0, vI 0, vI 0, vI 0, vI 0, vI 0, vI 0, vI 0, vI 0, vB false, vI 0, vS [], vS [], vI 0, vI 0, vB false] [Ent.blk b2 24 [vI 0, vI 0, vI 0, vI 0, vI 0, vI 0, vI 0, vI 0, vI 0, vI 0, vI 0, vI 0, vI 0, vI 0, vB false, vI 0, vS [], vS [], vI 0, vI 0, vB false], Ent.blk b1 24 (DataSet.enc base)] rfl rfl rfl Ty.sz24 rfl (Nat.le_of_ble_eq_true rfl) rfl (st_all rfl) rfl ?_)
  refine jr_ (vI 1) ?_
  refine JO_nil (JX_then (J_ret (JX_then_ret ?_)))
  first
   | have hd := R26.describe_none (base := base) (id := id) (pos := pos) (len := len) (u := u) i1_0 (by rw [← i1_3]; first | exact R26.pick_end (by omega) | exact R26.pick_last (by omega) (by show R16.valid (R26.mk base id pos len u iv) = false; unfold R26.mk; first | assumption | (rw [← hA]; assumption)))
   | have hd := R26.describe_some (base := base) (id := id) (pos := pos) (len := len) (u := u) (iv := iv) i1_0 (by rw [← i1_3]; exact R26.pick_hit (by omega) (by show R16.valid (R26.mk base id pos len u iv) = true; unfold R26.mk; first | assumption | (rw [← hA]; assumption)))
   | have hd := R26.describe_bad (base := base) (id := id) (pos := pos) (len := len) (u := u) (by rw [Bool.eq_false_iff]; intro hg; obtain ⟨ga, gb, gc, gd, ge, gf⟩ := R26.good_facts hg; have gg := R26.isId_facts gb; have gh := R26.isBase_facts ga; simp only [ga, gb, Bool.true_eq_false, false_or] at *; omega)
  refine JX_rets [Value.agg #[vI 0, vI 0, vI 0, vI 0, vI 0, vI 0, vI 0, vI 0, vI 0, vI 0, vI 0, vI 0, vI 0, vI 0, vB false, vI 0, vS [], vS [], vI 0, vI 0, vB false], vI 1] (Value.tuple #[Value.agg #[vI 0, vI 0, vI 0, vI 0, vI 0, vI 0, vI 0, vI 0, vI 0, vI 0, vI 0, vI 0, vI 0, vI 0, vB false, vI 0, vS [], vS [], vI 0, vI 0, vB false], vI 1]) Try.results44 (fun w h => ⟨⟨_, rfl, load_blkN 0 [vI 0, vI 0, vI 0, vI 0, vI 0, vI 0, vI 0, vI 0, vI 0, vI 0, vI 0, vI 0, vI 0, vI 0, vB false, vI 0, vS [], vS [], vI 0, vI 0, vB false] h rfl Ty.ag24 Ty.sz24 rfl⟩, rfl, trivial⟩) rfl [] (fun _ h => h.keep [false, false] rfl) ⟨?_, ?_⟩
  ·have e_x0 : ((DataSet.mk 0 0 0 0 0 0 0 0 0 0 0 0 0 0 false 0 [] [] 0 0 false) : DataSet) = ((R26.describe base id pos len u).1) := by first | (rw [hd]; done) | (rw [hd]; rfl) | (rw [hd]; unfold R26.mk; rw [← hA])
   have e_x1 : (1 : Int) = ((R26.describe base id pos len u).2) := by first | (rw [hd]; done) | (rw [hd]; rfl) | (rw [hd]; unfold R26.mk; rw [← hA])
   have e_all := (congr (congrArg (fun (x0 : DataSet) (x1 : Int) => Value.tuple #[Value.agg ((DataSet.enc x0)).toArray, vI x1]) e_x0) e_x1)
   exact e_all
  ·rfl
 ·have ⟨h41, h42⟩ := bor_false h41
  have ⟨h41, h43⟩ := bor_false h41
  have ⟨h41, h44⟩ := bor_false h41
  have ⟨h41, h45⟩ := bor_false h41
  have ⟨h41, h46⟩ := bor_false h41
  have ⟨h41, h47⟩ := bor_false h41
  have h41 : (R26.isBase base) = true := bnot_false h41
  have hi48 := R26.isBase_facts h41
  have h47 : (R26.isId id) = true := bnot_false h47
  have hi49 := R26.isId_facts h47
  have h46 := of_decide_eq_false h46
  have h45 := of_decide_eq_false h45
  have h44 := of_decide_eq_false h44
  have h43 := of_decide_eq_false h43
  have h42 := of_decide_eq_false h42
  refine J_skip (JX_then (J_seq (J_region ?_)))
  refine jr_ (vI len) ?_
  refine JO_read (Value.agg ((DataSet.enc base)).toArray) rfl trivial (x_loadN 1 (DataSet.enc base) rfl rfl Ty.ag24 Ty.sz24 rfl) ?_
  refine JO_call [] [] [Ent.blk b2 24 [vI 0, vI 0, vI 0, vI 0, vI 0, vI 0, vI 0, vI 0, vI 0, vI 0, vI 0, vI 0, vI 0, vI 0, vB false, vI 0, vS [], vS [], vI 0, vI 0, vB false], Ent.blk b1 24 (DataSet.enc base)] rfl trivial (fun _ => x_call Ty.ca68 rfl) (fun _ h => h) (fun _ h => by cases h) (fun w hS => f68_ok base w) ?_
  rintro _ _ ⟨rfl, rfl⟩
  refine js_ (vI (len + (R26.keys base))) (x_add_i (a := len) (b := R26.keys base) rfl rfl (by omega) (by omega)) ?_
  refine jr_ (vI (len + (R26.keys base))) ?_
  refine JO_nil (JX_then (J_seq (J_region ?_)))
  refine jr_ (vI id) ?_
  refine js_ (Value.pointer (some ⟨b1, 0, none⟩)) (x_fieldAddr Ty.fi24_0 rfl rfl) ?_
  refine JO_read (vI base.Id) rfl trivial (x_load 1 rfl rfl Ty.sc3 rfl) ?_
  refine jr_ (vI pos) ?_
  refine jr_ (vI len) ?_
  refine jr_ (vB u) ?_
  refine jr_ (vI (len + (R26.keys base))) ?_
  refine jr_ (vI (len + (R26.keys base))) ?_
  refine js_ (Value.pointer (some ⟨b1, 8, none⟩)) (x_fieldAddr Ty.fi24_8 rfl rfl) ?_
  refine JO_read (vI base.Area) rfl trivial (x_load 1 rfl rfl Ty.sc3 rfl) ?_
  refine js_ (Value.pointer (some ⟨b1, 9, none⟩)) (x_fieldAddr Ty.fi24_9 rfl rfl) ?_
  refine JO_read (vI base.FreeInterval) rfl trivial (x_load 1 rfl rfl Ty.sc3 rfl) ?_
  refine js_ (Value.pointer (some ⟨b1, 10, none⟩)) (x_fieldAddr Ty.fi24_10 rfl rfl) ?_
  refine JO_read (vI base.FreeArea) rfl trivial (x_load 1 rfl rfl Ty.sc3 rfl) ?_
  refine js_ (Value.pointer (some ⟨b1, 15, none⟩)) (x_fieldAddr Ty.fi24_15 rfl rfl) ?_
  refine JO_read (vI base.Class) rfl trivial (x_load 1 rfl rfl Ty.sc3 rfl) ?_
  refine js_ (Value.pointer (some ⟨b1, 16, none⟩)) (x_fieldAddr Ty.fi24_16 rfl rfl) ?_
  refine JO_read (vS base.Volume) rfl trivial (x_load 1 rfl rfl Ty.sc9 rfl) ?_
  refine js_ (Value.pointer (some ⟨b1, 17, none⟩)) (x_fieldAddr Ty.fi24_17 rfl rfl) ?_
  refine JO_read (vS base.Owner) rfl trivial (x_load 1 rfl rfl Ty.sc9 rfl) ?_
  refine js_ (Value.pointer (some ⟨b1, 18, none⟩)) (x_fieldAddr Ty.fi24_18 rfl rfl) ?_
  refine JO_read (vI base.Created) rfl trivial (x_load 1 rfl rfl Ty.sc3 rfl) ?_
  refine js_ (Value.pointer (some ⟨b1, 19, none⟩)) (x_fieldAddr Ty.fi24_19 rfl rfl) ?_
  refine JO_read (vI base.Expires) rfl trivial (x_load 1 rfl rfl Ty.sc3 rfl) ?_
  refine js_ (Value.agg #[vI id, vI 3, vI 0, vI (len + (R26.keys base)), vI 0, vI 0, vI (len + (R26.keys base)), vI 0, vI base.Area, vI base.FreeInterval, vI base.FreeArea, vI base.Id, vI pos, vI len, vB u, vI base.Class, vS base.Volume, vS base.Owner, vI base.Created, vI base.Expires, vB false]) (x_build (by kernel_rfl)) ?_
  refine JO_op rfl trivial (O_alloc Ty.ze24 rfl fun b50 => ?_)
  refine JO_op rfl trivial (O_storeS (vs := [vI id, vI 3, vI 0, vI (len + (R26.keys base)), vI 0, vI 0, vI (len + (R26.keys base)), vI 0, vI base.Area, vI base.FreeInterval, vI base.FreeArea, vI base.Id, vI pos, vI len, vB u, vI base.Class, vS base.Volume, vS base.Owner, vI base.Created, vI base.Expires, vB false]) 0 [vI id, vI 3, vI 0, vI (len + (R26.keys base)), vI 0, vI 0, vI (len + (R26.keys base)), vI 0, vI base.Area, vI base.FreeInterval, vI base.FreeArea, vI base.Id, vI pos, vI len, vB u, vI base.Class, vS base.Volume, vS base.Owner, vI base.Created, vI base.Expires, vB false] [Ent.blk b50 24 [vI id, vI 3, vI 0, vI (len + (R26.keys base)), vI 0, vI 0, vI (len + (R26.keys base)), vI 0, vI base.Area, vI base.FreeInterval, vI base.FreeArea, vI base.Id, vI pos, vI len, vB u, vI base.Class, vS base.Volume, vS base.Owner, vI base.Created, vI base.Expires, vB false], Ent.blk b2 24 [vI 0, vI 0, vI 0, vI 0, vI 0, vI 0, vI 0, vI 0, vI 0, vI 0, vI 0, vI 0, vI 0, vI 0, vB false, vI 0, vS [], vS [], vI 0, vI 0, vB false], Ent.blk b1 24 (DataSet.enc base)] rfl rfl rfl Ty.sz24 rfl (Nat.le_of_ble_eq_true rfl) rfl (st_all rfl) rfl ?_)
  refine JO_nil (JX_then (J_seq (J_seq (J_region ?_))))
  refine js_ (Value.pointer (some ⟨b1, 1, none⟩)) (x_fieldAddr Ty.fi24_1 rfl rfl) ?_
  refine JO_read (vI base.Org) rfl trivial (x_load 2 rfl rfl Ty.sc3 rfl) ?_
  refine js_ (vB (decide (base.Org = 1))) (x_eql_i rfl rfl) ?_
  refine JO_nil (JX_then ?_)
  refine J_cutK (X := Int) (fun (m51 : Int) => m51 = (if base.Org = 1 then (4 : Int) else base.Area)) (fun (m51 : Int) => [(5, Value.pointer (some ⟨b1, 0, none⟩)), (10, Value.pointer (some ⟨b2, 0, none⟩)), (11, vI 0), (13, Value.pointer (some ⟨b50, 0, none⟩))]) (fun (m51 : Int) => [Ent.blk b50 24 [vI id, vI 3, vI 0, vI (len + (R26.keys base)), vI 0, vI 0, vI (len + (R26.keys base)), vI 0, vI m51, vI base.FreeInterval, vI base.FreeArea, vI base.Id, vI pos, vI len, vB u, vI base.Class, vS base.Volume, vS base.Owner, vI base.Created, vI base.Expires, vB false], Ent.blk b2 24 [vI 0, vI 0, vI 0, vI 0, vI 0, vI 0, vI 0, vI 0, vI 0, vI 0, vI 0, vI 0, vI 0, vI 0, vB false, vI 0, vS [], vS [], vI 0, vI 0, vB false], Ent.blk b1 24 (DataSet.enc base)]) ?_ ?_
  ·refine J_cond (decide (base.Org = 1)) rfl rfl (fun h52 => ?_) (fun h52 => ?_)
   ·have h52r := h52
    have h52r := of_decide_eq_true h52r
    have h52 : (base.Org = 1) := by exact h52r
    refine J_region ?_
    refine js_ (Value.pointer (some ⟨b50, 8, none⟩)) (x_fieldAddr Ty.fi24_8 rfl rfl) ?_
    refine JO_op rfl trivial (O_store 0 [vI id, vI 3, vI 0, vI (len + (R26.keys base)), vI 0, vI 0, vI (len + (R26.keys base)), vI 0, vI 4, vI base.FreeInterval, vI base.FreeArea, vI base.Id, vI pos, vI len, vB u, vI base.Class, vS base.Volume, vS base.Owner, vI base.Created, vI base.Expires, vB false] [Ent.blk b50 24 [vI id, vI 3, vI 0, vI (len + (R26.keys base)), vI 0, vI 0, vI (len + (R26.keys base)), vI 0, vI 4, vI base.FreeInterval, vI base.FreeArea, vI base.Id, vI pos, vI len, vB u, vI base.Class, vS base.Volume, vS base.Owner, vI base.Created, vI base.Expires, vB false], Ent.blk b2 24 [vI 0, vI 0, vI 0, vI 0, vI 0, vI 0, vI 0, vI 0, vI 0, vI 0, vI 0, vI 0, vI 0, vI 0, vB false, vI 0, vS [], vS [], vI 0, vI 0, vB false], Ent.blk b1 24 (DataSet.enc base)] rfl rfl rfl Ty.sz3 rfl (Nat.le_of_ble_eq_true rfl) rfl rfl rfl ?_)
    refine JO_nil ?_
    exact JX_cut ((4 : Int)) (if_pos h52).symm ⟨rfl, rfl, rfl, rfl, trivial⟩ (fun _ h => h)
   ·have h52r := h52
    have h52r := of_decide_eq_false h52r
    have h52 : ¬ (base.Org = 1) := by exact h52r
    refine J_skip ?_
    exact JX_cut (base.Area) (if_neg h52).symm ⟨rfl, rfl, rfl, rfl, trivial⟩ (fun _ h => h)
  rintro m51 rfl
  refine JX_then (J_seq (J_seq (J_region ?_)))
  refine js_ (Value.pointer (some ⟨b1, 7, none⟩)) (x_fieldAddr Ty.fi24_7 rfl rfl) ?_
  refine JO_read (vI base.Interval) rfl trivial (x_load 2 rfl rfl Ty.sc3 rfl) ?_
  refine js_ (Value.pointer (some ⟨b50, 7, none⟩)) (x_fieldAddr Ty.fi24_7 rfl rfl) ?_
  refine JO_op rfl trivial (O_store 0 [vI id, vI 3, vI 0, vI (len + (R26.keys base)), vI 0, vI 0, vI (len + (R26.keys base)), vI base.Interval, vI (if base.Org = 1 then (4 : Int) else base.Area), vI base.FreeInterval, vI base.FreeArea, vI base.Id, vI pos, vI len, vB u, vI base.Class, vS base.Volume, vS base.Owner, vI base.Created, vI base.Expires, vB false] [Ent.blk b50 24 [vI id, vI 3, vI 0, vI (len + (R26.keys base)), vI 0, vI 0, vI (len + (R26.keys base)), vI base.Interval, vI (if base.Org = 1 then (4 : Int) else base.Area), vI base.FreeInterval, vI base.FreeArea, vI base.Id, vI pos, vI len, vB u, vI base.Class, vS base.Volume, vS base.Owner, vI base.Created, vI base.Expires, vB false], Ent.blk b2 24 [vI 0, vI 0, vI 0, vI 0, vI 0, vI 0, vI 0, vI 0, vI 0, vI 0, vI 0, vI 0, vI 0, vI 0, vB false, vI 0, vS [], vS [], vI 0, vI 0, vB false], Ent.blk b1 24 (DataSet.enc base)] rfl rfl rfl Ty.sz3 rfl (Nat.le_of_ble_eq_true rfl) rfl rfl rfl ?_)
  refine JO_nil (JX_then (J_block ?_))
  refine J_loop (X := Int) (fun (iv : Int) => (R26.good base id pos len = true) ∧ (128 ≤ iv) ∧ (iv = 128 ∨ iv = 256 ∨ iv = 512 ∨ iv = 1024) ∧ (R26.pick (fun x => R16.valid (R26.mk base id pos len u x)) iv = R26.pick (fun x => R16.valid (R26.mk base id pos len u x)) base.Interval)) (fun (iv : Int) => [(10, Value.pointer (some ⟨b2, 0, none⟩)), (13, Value.pointer (some ⟨b50, 0, none⟩))]) (fun (iv : Int) => [Ent.blk b50 24 [vI id, vI 3, vI 0, vI (len + (R26.keys base)), vI 0, vI 0, vI (len + (R26.keys base)), vI iv, vI (if base.Org = 1 then (4 : Int) else base.Area), vI base.FreeInterval, vI base.FreeArea, vI base.Id, vI pos, vI len, vB u, vI base.Class, vS base.Volume, vS base.Owner, vI base.Created, vI base.Expires, vB false], Ent.blk b2 24 [vI 0, vI 0, vI 0, vI 0, vI 0, vI 0, vI 0, vI 0, vI 0, vI 0, vI 0, vI 0, vI 0, vI 0, vB false, vI 0, vS [], vS [], vI 0, vI 0, vB false]]) (fun (iv : Int) => (1024 - iv).toNat) (base.Interval : Int) ?_ ⟨rfl, rfl, trivial⟩ (fun _ h => h.keep [true, true, false] rfl) ?_
  ·show (R26.good base id pos len = true) ∧ (128 ≤ base.Interval) ∧ (base.Interval = 128 ∨ base.Interval = 256 ∨ base.Interval = 512 ∨ base.Interval = 1024) ∧ (R26.pick (fun x => R16.valid (R26.mk base id pos len u x)) base.Interval = R26.pick (fun x => R16.valid (R26.mk base id pos len u x)) base.Interval)
   refine ⟨?_, ?_, ?_, ?_⟩
   ·unfold R26.good
    simp only [Bool.and_eq_true, decide_eq_true_eq]
    refine ⟨⟨⟨⟨⟨by assumption, ?_⟩, ?_⟩, ?_⟩, ?_⟩, ?_⟩
    ·first | assumption | (unfold R26.isId; simp only [Bool.and_eq_true, decide_eq_true_eq]; omega)
    ·omega
    ·omega
    ·omega
    ·omega
   ·first | rfl | omega | (simp_all; done) | (simp_all; omega)
   ·first | rfl | omega | (simp_all; done) | (simp_all; omega)
   ·rfl
  intro iv hI1
  obtain ⟨i1_0, i1_1, i1_2, i1_3⟩ : (R26.good base id pos len = true) ∧ (128 ≤ iv) ∧ (iv = 128 ∨ iv = 256 ∨ iv = 512 ∨ iv = 1024) ∧ (R26.pick (fun x => R16.valid (R26.mk base id pos len u x)) iv = R26.pick (fun x => R16.valid (R26.mk base id pos len u x)) base.Interval) := hI1
  have hA : (if base.Org ≠ 3 then (4 : Int) else base.Area) = if base.Org = 1 then 4 else base.Area := R26.area_eq i1_0
  refine J_weaken (E' := [(10, Value.pointer (some ⟨b2, 0, none⟩)), (13, Value.pointer (some ⟨b50, 0, none⟩))]) (L' := [Ent.blk b50 24 [vI id, vI 3, vI 0, vI (len + (R26.keys base)), vI 0, vI 0, vI (len + (R26.keys base)), vI iv, vI (if base.Org = 1 then (4 : Int) else base.Area), vI base.FreeInterval, vI base.FreeArea, vI base.Id, vI pos, vI len, vB u, vI base.Class, vS base.Volume, vS base.Owner, vI base.Created, vI base.Expires, vB false], Ent.blk b2 24 [vI 0, vI 0, vI 0, vI 0, vI 0, vI 0, vI 0, vI 0, vI 0, vI 0, vI 0, vI 0, vI 0, vI 0, vB false, vI 0, vS [], vS [], vI 0, vI 0, vB false]]) ⟨rfl, rfl, trivial⟩ (fun _ h => h) ?_
  refine J_seq (J_seq (J_region ?_))
  refine js_ (Value.pointer (some ⟨b50, 7, none⟩)) (x_fieldAddr Ty.fi24_7 rfl rfl) ?_
  refine JO_read (vI iv) rfl trivial (x_load 0 rfl rfl Ty.sc3 rfl) ?_
  refine js_ (vB (decide (iv ≤ 512))) (x_leq_i rfl rfl) ?_
  refine JO_nil (JX_then ?_)
  refine J_cond (decide (iv ≤ 512)) rfl rfl (fun h53 => ?_) (fun h53 => ?_)
  ·have h53 := of_decide_eq_true h53
   refine J_skip (JX_then (J_seq (J_block (J_seq (J_region ?_)))))
   refine JO_read (Value.agg #[vI id, vI 3, vI 0, vI (len + (R26.keys base)), vI 0, vI 0, vI (len + (R26.keys base)), vI iv, vI (if base.Org = 1 then (4 : Int) else base.Area), vI base.FreeInterval, vI base.FreeArea, vI base.Id, vI pos, vI len, vB u, vI base.Class, vS base.Volume, vS base.Owner, vI base.Created, vI base.Expires, vB false]) rfl trivial (x_loadN 0 [vI id, vI 3, vI 0, vI (len + (R26.keys base)), vI 0, vI 0, vI (len + (R26.keys base)), vI iv, vI (if base.Org = 1 then (4 : Int) else base.Area), vI base.FreeInterval, vI base.FreeArea, vI base.Id, vI pos, vI len, vB u, vI base.Class, vS base.Volume, vS base.Owner, vI base.Created, vI base.Expires, vB false] rfl rfl Ty.ag24 Ty.sz24 rfl) ?_
   refine JO_call [] [] [Ent.blk b50 24 [vI id, vI 3, vI 0, vI (len + (R26.keys base)), vI 0, vI 0, vI (len + (R26.keys base)), vI iv, vI (if base.Org = 1 then (4 : Int) else base.Area), vI base.FreeInterval, vI base.FreeArea, vI base.Id, vI pos, vI len, vB u, vI base.Class, vS base.Volume, vS base.Owner, vI base.Created, vI base.Expires, vB false], Ent.blk b2 24 [vI 0, vI 0, vI 0, vI 0, vI 0, vI 0, vI 0, vI 0, vI 0, vI 0, vI 0, vI 0, vI 0, vI 0, vB false, vI 0, vS [], vS [], vI 0, vI 0, vB false]] rfl trivial (fun _ => x_call Ty.ca69 rfl) (fun _ h => h) (fun _ h => by cases h) (fun w hS => f69_ok (DataSet.mk id 3 0 (len + (R26.keys base)) 0 0 (len + (R26.keys base)) iv (if base.Org = 1 then (4 : Int) else base.Area) base.FreeInterval base.FreeArea base.Id pos len u base.Class base.Volume base.Owner base.Created base.Expires false) w) ?_
   rintro _ _ ⟨rfl, rfl⟩
   refine JO_nil (JX_then ?_)
   refine J_cond (R16.valid (DataSet.mk id 3 0 (len + (R26.keys base)) 0 0 (len + (R26.keys base)) iv (if base.Org = 1 then (4 : Int) else base.Area) base.FreeInterval base.FreeArea base.Id pos len u base.Class base.Volume base.Owner base.Created base.Expires false)) rfl rfl (fun h54 => ?_) (fun h54 => ?_)
   ·have hi55 := R16.valid_facts h54
    refine J_seq (J_region ?_)
    refine JO_read (Value.agg #[vI id, vI 3, vI 0, vI (len + (R26.keys base)), vI 0, vI 0, vI (len + (R26.keys base)), vI iv, vI (if base.Org = 1 then (4 : Int) else base.Area), vI base.FreeInterval, vI base.FreeArea, vI base.Id, vI pos, vI len, vB u, vI base.Class, vS base.Volume, vS base.Owner, vI base.Created, vI base.Expires, vB false]) rfl trivial (x_loadN 0 [vI id, vI 3, vI 0, vI (len + (R26.keys base)), vI 0, vI 0, vI (len + (R26.keys base)), vI iv, vI (if base.Org = 1 then (4 : Int) else base.Area), vI base.FreeInterval, vI base.FreeArea, vI base.Id, vI pos, vI len, vB u, vI base.Class, vS base.Volume, vS base.Owner, vI base.Created, vI base.Expires, vB false] rfl rfl Ty.ag24 Ty.sz24 rfl) ?_
    refine JO_op rfl trivial (O_storeS (vs := [vI id, vI 3, vI 0, vI (len + (R26.keys base)), vI 0, vI 0, vI (len + (R26.keys base)), vI iv, vI (if base.Org = 1 then (4 : Int) else base.Area), vI base.FreeInterval, vI base.FreeArea, vI base.Id, vI pos, vI len, vB u, vI base.Class, vS base.Volume, vS base.Owner, vI base.Created, vI base.Expires, vB false]) 1 [vI id, vI 3, vI 0, vI (len + (R26.keys base)), vI 0, vI 0, vI (len + (R26.keys base)), vI iv, vI (if base.Org = 1 then (4 : Int) else base.Area), vI base.FreeInterval, vI base.FreeArea, vI base.Id, vI pos, vI len, vB u, vI base.Class, vS base.Volume, vS base.Owner, vI base.Created, vI base.Expires, vB false] [Ent.blk b50 24 [vI id, vI 3, vI 0, vI (len + (R26.keys base)), vI 0, vI 0, vI (len + (R26.keys base)), vI iv, vI (if base.Org = 1 then (4 : Int) else base.Area), vI base.FreeInterval, vI base.FreeArea, vI base.Id, vI pos, vI len, vB u, vI base.Class, vS base.Volume, vS base.Owner, vI base.Created, vI base.Expires, vB false], Ent.blk b2 24 [vI id, vI 3, vI 0, vI (len + (R26.keys base)), vI 0, vI 0, vI (len + (R26.keys base)), vI iv, vI (if base.Org = 1 then (4 : Int) else base.Area), vI base.FreeInterval, vI base.FreeArea, vI base.Id, vI pos, vI len, vB u, vI base.Class, vS base.Volume, vS base.Owner, vI base.Created, vI base.Expires, vB false]] rfl rfl rfl Ty.sz24 rfl (Nat.le_of_ble_eq_true rfl) rfl (st_all rfl) rfl ?_)
    refine jr_ (vI 0) ?_
    refine JO_nil (JX_then (J_ret (JX_block_ret (JX_then_ret (JX_round_ret ?_)))))
    refine JX_block_ret (JX_then_ret ?_)
    first
     | have hd := R26.describe_none (base := base) (id := id) (pos := pos) (len := len) (u := u) i1_0 (by rw [← i1_3]; first | exact R26.pick_end (by omega) | exact R26.pick_last (by omega) (by show R16.valid (R26.mk base id pos len u iv) = false; unfold R26.mk; first | assumption | (rw [← hA]; assumption)))
     | have hd := R26.describe_some (base := base) (id := id) (pos := pos) (len := len) (u := u) (iv := iv) i1_0 (by rw [← i1_3]; exact R26.pick_hit (by omega) (by show R16.valid (R26.mk base id pos len u iv) = true; unfold R26.mk; first | assumption | (rw [← hA]; assumption)))
     | have hd := R26.describe_bad (base := base) (id := id) (pos := pos) (len := len) (u := u) (by rw [Bool.eq_false_iff]; intro hg; obtain ⟨ga, gb, gc, gd, ge, gf⟩ := R26.good_facts hg; have gg := R26.isId_facts gb; have gh := R26.isBase_facts ga; simp only [ga, gb, Bool.true_eq_false, false_or] at *; omega)
    refine JX_rets [Value.agg #[vI id, vI 3, vI 0, vI (len + (R26.keys base)), vI 0, vI 0, vI (len + (R26.keys base)), vI iv, vI (if base.Org = 1 then (4 : Int) else base.Area), vI base.FreeInterval, vI base.FreeArea, vI base.Id, vI pos, vI len, vB u, vI base.Class, vS base.Volume, vS base.Owner, vI base.Created, vI base.Expires, vB false], vI 0] (Value.tuple #[Value.agg #[vI id, vI 3, vI 0, vI (len + (R26.keys base)), vI 0, vI 0, vI (len + (R26.keys base)), vI iv, vI (if base.Org = 1 then (4 : Int) else base.Area), vI base.FreeInterval, vI base.FreeArea, vI base.Id, vI pos, vI len, vB u, vI base.Class, vS base.Volume, vS base.Owner, vI base.Created, vI base.Expires, vB false], vI 0]) Try.results44 (fun w h => ⟨⟨_, rfl, load_blkN 1 [vI id, vI 3, vI 0, vI (len + (R26.keys base)), vI 0, vI 0, vI (len + (R26.keys base)), vI iv, vI (if base.Org = 1 then (4 : Int) else base.Area), vI base.FreeInterval, vI base.FreeArea, vI base.Id, vI pos, vI len, vB u, vI base.Class, vS base.Volume, vS base.Owner, vI base.Created, vI base.Expires, vB false] h rfl Ty.ag24 Ty.sz24 rfl⟩, rfl, trivial⟩) rfl [] (fun _ h => h.keep [false, false] rfl) ⟨?_, ?_⟩
    ·have e_x0 : ((DataSet.mk id 3 0 (len + (R26.keys base)) 0 0 (len + (R26.keys base)) iv (if base.Org = 1 then (4 : Int) else base.Area) base.FreeInterval base.FreeArea base.Id pos len u base.Class base.Volume base.Owner base.Created base.Expires false) : DataSet) = ((R26.describe base id pos len u).1) := by first | (rw [hd]; done) | (rw [hd]; rfl) | (rw [hd]; unfold R26.mk; rw [← hA])
     have e_x1 : (0 : Int) = ((R26.describe base id pos len u).2) := by first | (rw [hd]; done) | (rw [hd]; rfl) | (rw [hd]; unfold R26.mk; rw [← hA])
     have e_all := (congr (congrArg (fun (x0 : DataSet) (x1 : Int) => Value.tuple #[Value.agg ((DataSet.enc x0)).toArray, vI x1]) e_x0) e_x1)
     exact e_all
    ·rfl
   ·refine J_skip (JX_block (JX_then (J_region ?_)))
    refine js_ (Value.pointer (some ⟨b50, 7, none⟩)) (x_fieldAddr Ty.fi24_7 rfl rfl) ?_
    refine JO_read (vI iv) rfl trivial (x_load 0 rfl rfl Ty.sc3 rfl) ?_
    refine js_ (vI (iv * 2)) (x_mul_i (a := iv) (b := 2) rfl rfl (by omega) (by omega)) ?_
    refine js_ (Value.pointer (some ⟨b50, 7, none⟩)) (x_fieldAddr Ty.fi24_7 rfl rfl) ?_
    refine JO_op rfl trivial (O_store 0 [vI id, vI 3, vI 0, vI (len + (R26.keys base)), vI 0, vI 0, vI (len + (R26.keys base)), vI (iv * 2), vI (if base.Org = 1 then (4 : Int) else base.Area), vI base.FreeInterval, vI base.FreeArea, vI base.Id, vI pos, vI len, vB u, vI base.Class, vS base.Volume, vS base.Owner, vI base.Created, vI base.Expires, vB false] [Ent.blk b50 24 [vI id, vI 3, vI 0, vI (len + (R26.keys base)), vI 0, vI 0, vI (len + (R26.keys base)), vI (iv * 2), vI (if base.Org = 1 then (4 : Int) else base.Area), vI base.FreeInterval, vI base.FreeArea, vI base.Id, vI pos, vI len, vB u, vI base.Class, vS base.Volume, vS base.Owner, vI base.Created, vI base.Expires, vB false], Ent.blk b2 24 [vI 0, vI 0, vI 0, vI 0, vI 0, vI 0, vI 0, vI 0, vI 0, vI 0, vI 0, vI 0, vI 0, vI 0, vB false, vI 0, vS [], vS [], vI 0, vI 0, vB false]] rfl rfl rfl Ty.sz3 rfl (Nat.le_of_ble_eq_true rfl) rfl rfl rfl ?_)
    refine JO_nil ?_
    refine JX_round (iv * 2 : Int) ?_ ?_ ⟨rfl, rfl, trivial⟩ (fun _ h => h)
    ·show (R26.good base id pos len = true) ∧ (128 ≤ (iv * 2)) ∧ ((iv * 2) = 128 ∨ (iv * 2) = 256 ∨ (iv * 2) = 512 ∨ (iv * 2) = 1024) ∧ (R26.pick (fun x => R16.valid (R26.mk base id pos len u x)) (iv * 2) = R26.pick (fun x => R16.valid (R26.mk base id pos len u x)) base.Interval)
     refine ⟨?_, ?_, ?_, ?_⟩
     ·exact i1_0
     ·first | rfl | omega | (simp_all; done) | (simp_all; omega)
     ·first | rfl | omega | (simp_all; done) | (simp_all; omega)
     ·rw [← i1_3]
      first | exact (R26.pick_step (by omega) (by show R16.valid (R26.mk base id pos len u iv) = false; unfold R26.mk; first | assumption | (rw [← hA]; assumption))).symm | (rw [show (2 * iv : Int) = iv * 2 by omega]; exact (R26.pick_step (by omega) (by show R16.valid (R26.mk base id pos len u iv) = false; unfold R26.mk; first | assumption | (rw [← hA]; assumption))).symm)
    ·show (1024 - (iv * 2)).toNat < (1024 - iv).toNat
     first | omega | (simp; omega) | (simp_all; omega)
  ·have h53 := of_decide_eq_false h53
   refine J_exit (JX_then_exit (JX_round_exit (JX_block_hit (JX_then (J_seq ?_)))))
   refine J_region ?_
   refine js_ (Value.agg #[vI 0, vI 0, vI 0, vI 0, vI 0, vI 0, vI 0, vI 0, vI 0, vI 0, vI 0, vI 0, vI 0, vI 0, vB false, vI 0, vS [], vS [], vI 0, vI 0, vB false]) (x_build (by kernel_rfl)) ?_
   refine JO_op rfl trivial (O_storeS (vs := [vI 0, vI 0, vI 0, vI 0, vI 0, vI 0, vI 0, vI 0, vI 0, vI 0, vI 0, vI 0, vI 0, vI 0, vB false, vI 0, vS [], vS [], vI 0, vI 0, vB false]) 1 [vI 0, vI 0, vI 0, vI 0, vI 0, vI 0, vI 0, vI 0, vI 0, vI 0, vI 0, vI 0, vI 0, vI 0, vB false, vI 0, vS [], vS [], vI 0, vI 0, vB false] [Ent.blk b50 24 [vI id, vI 3, vI 0, vI (len + (R26.keys base)), vI 0, vI 0, vI (len + (R26.keys base)), vI iv, vI (if base.Org = 1 then (4 : Int) else base.Area), vI base.FreeInterval, vI base.FreeArea, vI base.Id, vI pos, vI len, vB u, vI base.Class, vS base.Volume, vS base.Owner, vI base.Created, vI base.Expires, vB false], Ent.blk b2 24 [vI 0, vI 0, vI 0, vI 0, vI 0, vI 0, vI 0, vI 0, vI 0, vI 0, vI 0, vI 0, vI 0, vI 0, vB false, vI 0, vS [], vS [], vI 0, vI 0, vB false]] rfl rfl rfl Ty.sz24 rfl (Nat.le_of_ble_eq_true rfl) rfl (st_all rfl) rfl ?_)
   refine jr_ (vI 8) ?_
   refine JO_nil (JX_then (J_ret ?_))
   first
    | have hd := R26.describe_none (base := base) (id := id) (pos := pos) (len := len) (u := u) i1_0 (by rw [← i1_3]; first | exact R26.pick_end (by omega) | exact R26.pick_last (by omega) (by show R16.valid (R26.mk base id pos len u iv) = false; unfold R26.mk; first | assumption | (rw [← hA]; assumption)))
    | have hd := R26.describe_some (base := base) (id := id) (pos := pos) (len := len) (u := u) (iv := iv) i1_0 (by rw [← i1_3]; exact R26.pick_hit (by omega) (by show R16.valid (R26.mk base id pos len u iv) = true; unfold R26.mk; first | assumption | (rw [← hA]; assumption)))
    | have hd := R26.describe_bad (base := base) (id := id) (pos := pos) (len := len) (u := u) (by rw [Bool.eq_false_iff]; intro hg; obtain ⟨ga, gb, gc, gd, ge, gf⟩ := R26.good_facts hg; have gg := R26.isId_facts gb; have gh := R26.isBase_facts ga; simp only [ga, gb, Bool.true_eq_false, false_or] at *; omega)
   refine JX_rets [Value.agg #[vI 0, vI 0, vI 0, vI 0, vI 0, vI 0, vI 0, vI 0, vI 0, vI 0, vI 0, vI 0, vI 0, vI 0, vB false, vI 0, vS [], vS [], vI 0, vI 0, vB false], vI 8] (Value.tuple #[Value.agg #[vI 0, vI 0, vI 0, vI 0, vI 0, vI 0, vI 0, vI 0, vI 0, vI 0, vI 0, vI 0, vI 0, vI 0, vB false, vI 0, vS [], vS [], vI 0, vI 0, vB false], vI 8]) Try.results44 (fun w h => ⟨⟨_, rfl, load_blkN 1 [vI 0, vI 0, vI 0, vI 0, vI 0, vI 0, vI 0, vI 0, vI 0, vI 0, vI 0, vI 0, vI 0, vI 0, vB false, vI 0, vS [], vS [], vI 0, vI 0, vB false] h rfl Ty.ag24 Ty.sz24 rfl⟩, rfl, trivial⟩) rfl [] (fun _ h => h.keep [false, false] rfl) ⟨?_, ?_⟩
   ·have e_x0 : ((DataSet.mk 0 0 0 0 0 0 0 0 0 0 0 0 0 0 false 0 [] [] 0 0 false) : DataSet) = ((R26.describe base id pos len u).1) := by first | (rw [hd]; done) | (rw [hd]; rfl) | (rw [hd]; unfold R26.mk; rw [← hA])
    have e_x1 : (8 : Int) = ((R26.describe base id pos len u).2) := by first | (rw [hd]; done) | (rw [hd]; rfl) | (rw [hd]; unfold R26.mk; rw [← hA])
    have e_all := (congr (congrArg (fun (x0 : DataSet) (x1 : Int) => Value.tuple #[Value.agg ((DataSet.enc x0)).toArray, vI x1]) e_x0) e_x1)
    exact e_all
   ·rfl
end Go.Proofs.Ytmbinhhlfbgiaaa
