/- contracts C27i -/
import Derived.Test.YtmbinhhlfbgiaaaC27g
import Derived.Test.YtmbinhhlfbgiaaaPl26c
namespace Go.Proofs.Ytmbinhhlfbgiaaa
open Go.GV
set_option linter.unusedVariables false
set_option linter.unusedSimpArgs false
set_option maxRecDepth 20000 in
theorem f18_ok (a : List Bytes) (aA : Option Addr) (aC : Nat) (b : List Bytes) (bA : Option Addr) (bC : Nat) (w : World) (aR : RO [] w aA (a.map vS)) (bR : RO [] w bA (b.map vS)) (q0 : a.length ≤ 9223372036854775807) : Calls Try.prog 18 #[Value.slice aA a.length aC, Value.slice bA b.length bC] w (Gives [] w fun v L => v = vB (decide (a = b)) ∧ L = []) := by
 refine calls_J [] 26 Try.func18 rfl Try.ntmps18 [(0, Value.slice aA a.length aC), (1, Value.slice bA b.length bC)] rfl rfl (Give.nil w) ?_
 refine J_seq (J_region ?_)
 refine jr_ (vB false) ?_
 refine JO_nil (JX_then (J_seq (J_seq (J_region ?_))))
 refine jr_ (Value.slice aA a.length aC) ?_
 refine js_ (vI ((a.length : Nat) : Int)) (x_len_sl Try.underlying47 rfl) ?_
 refine jr_ (Value.slice bA b.length bC) ?_
 refine js_ (vI ((b.length : Nat) : Int)) (x_len_sl Try.underlying47 rfl) ?_
 refine js_ (vB (decide (((a.length : Nat) : Int) ≠ ((b.length : Nat) : Int)))) (x_neq_i rfl rfl) ?_
 refine JO_nil (JX_then ?_)
 refine J_cond (decide (((a.length : Nat) : Int) ≠ ((b.length : Nat) : Int))) rfl rfl (fun h1 => ?_) (fun h1 => ?_)
 ·have h1 := of_decide_eq_true h1
  refine J_seq (J_region ?_)
  refine jr_ (vB false) ?_
  refine JO_nil (JX_then (J_ret (JX_then_ret ?_)))
  refine JX_rets [vB false] (vB false) Try.results18 (fun w h => ⟨rfl, trivial⟩) rfl [] (fun _ h => h) ⟨?_, ?_⟩
  ·have e_x0 : (false : Bool) = (decide (a = b)) := by first | exact (R26.same_no (by omega)).symm | exact (R26.same_bad (k := k) (by assumption)).symm | exact (R26.same_all i1_1 (fun i hi => i1_2 i (by omega))).symm
   exact congrArg (fun (x0 : Bool) => vB x0) e_x0
  ·rfl
 ·have h1 := of_decide_eq_false h1
  refine J_skip (JX_then (J_seq (J_seq (J_region ?_))))
  refine jr_ (vI 0) ?_
  refine JO_nil (JX_then (J_block ?_))
  refine J_loop (X := Nat) (fun (k : Nat) => (k ≤ a.length) ∧ (a.length = b.length) ∧ (∀ i, i < k → a.getD i [] = b.getD i [])) (fun (k : Nat) => [(0, Value.slice aA a.length aC), (1, Value.slice bA b.length bC), (5, vI ((k : Nat) : Int))]) (fun (k : Nat) => []) (fun (k : Nat) => a.length - k) (0 : Nat) ?_ ⟨rfl, rfl, rfl, trivial⟩ (fun _ h => h) ?_
  ·show (0 ≤ a.length) ∧ (a.length = b.length) ∧ (∀ i, i < 0 → a.getD i [] = b.getD i [])
   refine ⟨?_, ?_, ?_⟩
   ·first | rfl | omega | (simp_all; done) | (simp_all; omega)
   ·first | rfl | omega | (simp_all; done) | (simp_all; omega)
   ·intro i hi; omega
  intro k hI1
  obtain ⟨i1_0, i1_1, i1_2⟩ : (k ≤ a.length) ∧ (a.length = b.length) ∧ (∀ i, i < k → a.getD i [] = b.getD i []) := hI1
  refine J_weaken (E' := [(0, Value.slice aA a.length aC), (1, Value.slice bA b.length bC), (5, vI ((k : Nat) : Int))]) (L' := []) ⟨rfl, rfl, rfl, trivial⟩ (fun _ h => h) ?_
  refine J_seq (J_seq (J_region ?_))
  refine jr_ (vI ((k : Nat) : Int)) ?_
  refine jr_ (Value.slice aA a.length aC) ?_
  refine js_ (vI ((a.length : Nat) : Int)) (x_len_sl Try.underlying47 rfl) ?_
  refine js_ (vB (decide (((k : Nat) : Int) < ((a.length : Nat) : Int)))) (x_lss_i rfl rfl) ?_
  refine JO_nil (JX_then ?_)
  refine J_cond (decide (((k : Nat) : Int) < ((a.length : Nat) : Int))) rfl rfl (fun h2 => ?_) (fun h2 => ?_)
  ·have h2 := of_decide_eq_true h2
   refine J_skip (JX_then (J_seq (J_block (J_seq ?_))))
   refine J_draw [] [] [] 9 Ty.mixed rfl ?_
   refine jt_ 0 (Value.slice aA a.length aC) rfl (fun _ _ => rfl) ?_
   refine jt_ 1 (vI ((k : Nat) : Int)) rfl (fun _ _ => rfl) ?_
   refine jt_ 2 (Value.pointer (some (adr aA k))) rfl (x_indexAddr_at (k := k) (off := k) (cells_ro aR) Try.underlying47 Ty.sz9 rfl rfl lt_ (by rw [List.length_map]; first | omega | (simp; omega) | (simp_all; omega) | (simp_all; done)) (Nat.mul_one _)) ?_
   refine jt_ 3 (vS (a.getD k [])) rfl (x_load_at (cells_ro aR) rfl Ty.sc9 (map_at vS a [] lt_)) ?_
   refine jt_ 4 (Value.slice bA b.length bC) rfl (fun _ _ => rfl) ?_
   refine jt_ 5 (vI ((k : Nat) : Int)) rfl (fun _ _ => rfl) ?_
   refine jt_ 6 (Value.pointer (some (adr bA k))) rfl (x_indexAddr_at (k := k) (off := k) (cells_ro bR) Try.underlying47 Ty.sz9 rfl rfl lt_ (by rw [List.length_map]; first | omega | (simp; omega) | (simp_all; omega) | (simp_all; done)) (Nat.mul_one _)) ?_
   refine jt_ 7 (vS (b.getD k [])) rfl (x_load_at (cells_ro bR) rfl Ty.sc9 (map_at vS b [] lt_)) ?_
   refine jt_ 8 (vB (decide ((a.getD k []) ≠ (b.getD k [])))) rfl (fun _ _ => x_neq_s rfl rfl) ?_
   refine JA_done (by kernel_rfl) (fun _ h => ⟨h, fun _ => h⟩) ?_
   refine JX_then ?_
   refine J_cond (decide ((a.getD k []) ≠ (b.getD k []))) rfl rfl (fun h3 => ?_) (fun h3 => ?_)
   ·have h3 := of_decide_eq_true h3
    refine J_seq (J_region ?_)
    refine jr_ (vB false) ?_
    refine JO_nil (JX_then (J_ret (JX_block_ret (JX_then_ret (JX_round_ret ?_)))))
    refine JX_block_ret (JX_then_ret ?_)
    refine JX_rets [vB false] (vB false) Try.results18 (fun w h => ⟨rfl, trivial⟩) rfl [] (fun _ h => h) ⟨?_, ?_⟩
    ·have e_x0 : (false : Bool) = (decide (a = b)) := by first | exact (R26.same_no (by omega)).symm | exact (R26.same_bad (k := k) (by assumption)).symm | exact (R26.same_all i1_1 (fun i hi => i1_2 i (by omega))).symm
     exact congrArg (fun (x0 : Bool) => vB x0) e_x0
    ·rfl
   ·have h3 := of_decide_eq_false h3
    refine J_skip (JX_block (JX_then (J_region ?_)))
    refine jr_ (vI ((k : Nat) : Int)) ?_
    refine js_ (vI ((k + 1 : Nat) : Int)) (x_add_n (a := k) (b := 1) rfl rfl (by omega)) ?_
    refine jr_ (vI ((k + 1 : Nat) : Int)) ?_
    refine JO_nil ?_
    refine JX_round (k + 1 : Nat) ?_ ?_ ⟨rfl, rfl, rfl, trivial⟩ (fun _ h => h)
    ·show ((k + 1) ≤ a.length) ∧ (a.length = b.length) ∧ (∀ i, i < (k + 1) → a.getD i [] = b.getD i [])
     refine ⟨?_, ?_, ?_⟩
     ·first | rfl | omega | (simp_all; done) | (simp_all; omega)
     ·exact i1_1
     ·intro i hi
      by_cases hik : i = k
      ·subst hik; exact Decidable.not_not.1 (by assumption)
      ·exact i1_2 i (by omega)
    ·show a.length - (k + 1) < a.length - k
     first | omega | (simp; omega) | (simp_all; omega)
  ·have h2 := of_decide_eq_false h2
   refine J_exit (JX_then_exit (JX_round_exit (JX_block_hit (JX_then (J_seq ?_)))))
   refine J_region ?_
   refine jr_ (vB true) ?_
   refine JO_nil (JX_then (J_ret ?_))
   refine JX_rets [vB true] (vB true) Try.results18 (fun w h => ⟨rfl, trivial⟩) rfl [] (fun _ h => h) ⟨?_, ?_⟩
   ·have e_x0 : (true : Bool) = (decide (a = b)) := by first | exact (R26.same_no (by omega)).symm | exact (R26.same_bad (k := k) (by assumption)).symm | exact (R26.same_all i1_1 (fun i hi => i1_2 i (by omega))).symm
    exact congrArg (fun (x0 : Bool) => vB x0) e_x0
   ·rfl
set_option maxRecDepth 20000 in
theorem f15_ok (ds : List Data) (dsA : Option Addr) (dsC : Nat) (a : DataSet) (k : Bytes) (most : Int) (w : World) (dsR : RO [] w dsA (ds.flatMap Data.enc)) (dsN : ∀ i : Nat, RO [] w (ds.getD i default).PairsA (((ds.getD i default).Pairs).flatMap Pair.enc)) (q0 : ds.length ≤ 1000) (q1 : ∀ i, (ds.getD i default).Pairs.length ≤ 1000) (q2 : k.length ≤ 1000000) (q3 : R27.Shorts ds) : Calls Try.prog 15 #[Value.iface 34 (Value.agg #[Value.slice dsA ds.length dsC, Value.pointer none]), Value.agg ((DataSet.enc a)).toArray, vS k, vI most] w (Gives [] w fun v L => ∃ A : Option Addr, ∃ cc : Nat, v = Value.tuple #[Value.slice A ((R27.find ds a k most).1.length) cc, vI ((R27.find ds a k most).2)] ∧ L = [Ent.row (.slice A ((R27.find ds a k most).1).length cc) 9 1 ((R27.find ds a k most).1).length (((R27.find ds a k most).1).map vS)]) := by
 refine calls_J [] 86 Try.func15 rfl Try.ntmps15 [(0, Value.iface 34 (Value.agg #[Value.slice dsA ds.length dsC, Value.pointer none])), (1, Value.agg ((DataSet.enc a)).toArray), (2, vS k), (3, vI most)] rfl rfl (Give.nil w) ?_
 refine J_seq (J_region ?_)
 refine JO_op rfl trivial (O_box rfl rfl fun b1 => ?_)
 refine jr_ (Value.slice none 0 0) ?_
 refine jr_ (vI 0) ?_
 refine JO_nil (JX_then (J_seq (J_region ?_)))
 refine JO_read (Value.agg ((DataSet.enc a)).toArray) rfl trivial (x_loadN 0 (DataSet.enc a) rfl rfl Ty.ag24 Ty.sz24 rfl) ?_
 refine jr_ (vS k) ?_
 refine JO_call [] [] [Ent.blk b1 24 (DataSet.enc a)] rfl trivial (fun _ => x_call Ty.ca36 rfl) (fun _ h => h) (fun _ h => by cases h) (fun w hS => f36_ok a k w) ?_
 rintro _ _ ⟨rfl, rfl⟩
 refine jr_ (Value.tuple #[Value.agg #[vS (((R26.span a k).1).Low), vS (((R26.span a k).1).High), vB (((R26.span a k).1).End)], vI ((R26.span a k).2)]) ?_
 refine jr_ (Value.agg #[vS (((R26.span a k).1).Low), vS (((R26.span a k).1).High), vB (((R26.span a k).1).End)]) ?_
 refine jr_ (vI ((R26.span a k).2)) ?_
 refine JO_op rfl trivial (O_alloc Ty.ze85 rfl fun b2 => ?_)
 refine JO_op rfl trivial (O_store 0 [vS (((R26.span a k).1).Low), vS (((R26.span a k).1).High), vB (((R26.span a k).1).End)] [Ent.blk b2 85 [vS (((R26.span a k).1).Low), vS (((R26.span a k).1).High), vB (((R26.span a k).1).End)], Ent.blk b1 24 (DataSet.enc a)] rfl rfl rfl Ty.sz85 rfl (Nat.le_of_ble_eq_true rfl) rfl rfl rfl ?_)
 refine jr_ (vI ((R26.span a k).2)) ?_
 refine JO_nil (JX_then (J_seq (J_block (J_seq (J_region ?_)))))
 refine jr_ (vI ((R26.span a k).2)) ?_
 refine js_ (vB (decide ((R26.span a k).2 = 1))) (x_eql_i rfl rfl) ?_
 refine jr_ (vB (decide ((R26.span a k).2 = 1))) ?_
 refine JO_cut 3 (fun z => z = ((decide ((R26.span a k).2 = 1)) || (decide (most < 0)))) (fun z => [(0, Value.iface 34 (Value.agg #[Value.slice dsA ds.length dsC, Value.pointer none])), (2, vS k), (3, vI most), (5, Value.pointer (some ⟨b1, 0, none⟩)), (8, Value.slice none 0 0), (9, vI 0), (11, vI ((R26.span a k).2)), (29, vB z)]) (fun _ => [Ent.blk b2 85 [vS (((R26.span a k).1).Low), vS (((R26.span a k).1).High), vB (((R26.span a k).1).End)], Ent.blk b1 24 (DataSet.enc a)]) ?_ ?_
 ·rcases Bool.eq_false_or_eq_true (decide ((R26.span a k).2 = 1)) with g4 | g4
  ·have g4r := g4
   have g4r := of_decide_eq_true g4r
   refine sh_ g4 ?_
   refine sh_ g4 ?_
   refine js_ (vB true) (x_pick_t rfl g4 rfl) ?_
   refine JO_nil (JX_cut (true) (by rw [g4]; simp) ⟨rfl, rfl, rfl, rfl, rfl, rfl, rfl, rfl, trivial⟩ (fun _ h => h))
  ·have g4r := g4
   have g4r := of_decide_eq_false g4r
   refine jg_ g4 (vI most) (rfl) ?_
   refine jg_ g4 (vB (decide (most < 0))) (x_lss_i rfl rfl) ?_
   refine js_ (vB (decide (most < 0))) (x_pick_f rfl g4 rfl) ?_
   refine JO_nil (JX_cut (decide (most < 0)) (by rw [g4]; simp) ⟨rfl, rfl, rfl, rfl, rfl, rfl, rfl, rfl, trivial⟩ (fun _ h => h))
 rintro z3 rfl
 refine jr_ (vB ((decide ((R26.span a k).2 = 1)) || (decide (most < 0)))) ?_
 refine JO_cut 3 (fun z => z = (((decide ((R26.span a k).2 = 1)) || (decide (most < 0))) || (decide ((1024 : Int) < most)))) (fun z => [(0, Value.iface 34 (Value.agg #[Value.slice dsA ds.length dsC, Value.pointer none])), (2, vS k), (3, vI most), (5, Value.pointer (some ⟨b1, 0, none⟩)), (8, Value.slice none 0 0), (9, vI 0), (11, vI ((R26.span a k).2)), (33, vB z)]) (fun _ => [Ent.blk b2 85 [vS (((R26.span a k).1).Low), vS (((R26.span a k).1).High), vB (((R26.span a k).1).End)], Ent.blk b1 24 (DataSet.enc a)]) ?_ ?_
 ·rcases Bool.eq_false_or_eq_true ((decide ((R26.span a k).2 = 1)) || (decide (most < 0))) with g6 | g6
  ·have g6r := g6
   simp only [Bool.and_eq_true, Bool.or_eq_true, Bool.and_eq_false_iff, Bool.or_eq_false_iff, Bool.not_eq_true', Bool.not_eq_false', decide_eq_true_eq, decide_eq_false_iff_not] at g6r
   refine sh_ g6 ?_
   refine sh_ g6 ?_
   refine js_ (vB true) (x_pick_t rfl g6 rfl) ?_
   refine JO_nil (JX_cut (true) (by rw [g6]; simp) ⟨rfl, rfl, rfl, rfl, rfl, rfl, rfl, rfl, trivial⟩ (fun _ h => h))
  ·have g6r := g6
   have ⟨g6r, h7⟩ := bor_false g6r
   have g6r := of_decide_eq_false g6r
   have h7 := of_decide_eq_false h7
   refine jg_ g6 (vI most) (rfl) ?_
   refine jg_ g6 (vB (decide ((1024 : Int) < most))) (x_gtr_i rfl rfl) ?_
   refine js_ (vB (decide ((1024 : Int) < most))) (x_pick_f rfl g6 rfl) ?_
   refine JO_nil (JX_cut (decide ((1024 : Int) < most)) (by rw [g6]; simp) ⟨rfl, rfl, rfl, rfl, rfl, rfl, rfl, rfl, trivial⟩ (fun _ h => h))
 rintro z5 rfl
 refine jr_ (vB (((decide ((R26.span a k).2 = 1)) || (decide (most < 0))) || (decide ((1024 : Int) < most)))) ?_
 refine JO_nil (JX_then ?_)
 refine J_cond (((decide ((R26.span a k).2 = 1)) || (decide (most < 0))) || (decide ((1024 : Int) < most))) rfl rfl (fun h8 => ?_) (fun h8 => ?_)
 ·have h8w := h8
  simp only [Bool.and_eq_true, Bool.or_eq_true, Bool.and_eq_false_iff, Bool.or_eq_false_iff, Bool.not_eq_true', Bool.not_eq_false', decide_eq_true_eq, decide_eq_false_iff_not] at h8
  refine J_seq (J_region ?_)
  refine jr_ (Value.slice none 0 0) ?_
  refine jr_ (vI 1) ?_
  refine JO_nil (JX_then (J_ret (JX_block_ret (JX_then_ret ?_))))
  first
   | have hd := R27.fd_pre i1_0 (by assumption) (by assumption) no_such_condition (R27.not_t no_such_condition)
   | have hd := R27.fd_corrupt i1_0 (by assumption) (by assumption) no_such_condition
   | have hd := R27.fd_nf i1_0 (by assumption) (by assumption)
   | have hd := R27.fd_full i1_0 (by assumption)
   | have hd := R27.fd_len (ds := ds) h8w (by assumption)
   | have hd := R27.fd_arg (ds := ds) h8w
   | have hd : False := R27.fd_er (ds := ds) (a := a) (cur := cur) (by assumption) (by assumption)
  refine JX_rets [Value.slice none 0 0, vI 1] (Value.tuple #[Value.slice none 0 0, vI 1]) Try.results15 (fun w h => ⟨rfl, rfl, trivial⟩) rfl [Ent.row (.slice none ([] : List Bytes).length 0) 9 1 ([] : List Bytes).length (([] : List Bytes).map vS)] (fun _ h => (h.nilrow 9 1).keep [true, false, false] rfl) ⟨none, 0, ?_, ?_⟩
  ·have e_x0 : (0 : Nat) = ((R27.find ds a k most).1.length) := by first | exact hd.elim | (rw [hd]; done) | (rw [hd]; rfl)
   have e_x1 : (1 : Int) = ((R27.find ds a k most).2) := by first | exact hd.elim | (rw [hd]; done) | (rw [hd]; rfl)
   have e_all := (congr (congrArg (fun (x0 : Nat) (x1 : Int) => Value.tuple #[Value.slice none x0 0, vI x1]) e_x0) e_x1)
   exact e_all
  ·have e_y0 : (([] : List Bytes) : List Bytes) = (R27.find ds a k most).1 := by
    first | exact hd.elim | (rw [hd]; done) | (rw [hd]; rfl)
   have e_all := (congrArg (fun (y0 : List Bytes) => [Ent.row (.slice none y0.length 0) 9 1 y0.length (y0.map vS)]) e_y0)
   exact e_all
 ·have h8w := h8
  have ⟨h8, h9⟩ := bor_false h8
  have ⟨h8, h10⟩ := bor_false h8
  have h8 := of_decide_eq_false h8
  have h10 := of_decide_eq_false h10
  have h9 := of_decide_eq_false h9
  refine J_seq (J_region ?_)
  refine jr_ (vI ((R26.span a k).2)) ?_
  refine js_ (vB (decide ((R26.span a k).2 ≠ 0))) (x_neq_i rfl rfl) ?_
  refine jr_ (vB (decide ((R26.span a k).2 ≠ 0))) ?_
  refine JO_nil (JX_then ?_)
  refine J_cond (decide ((R26.span a k).2 ≠ 0)) rfl rfl (fun h11 => ?_) (fun h11 => ?_)
  ·have h11w := h11
   have h11 := of_decide_eq_true h11
   refine J_seq (J_region ?_)
   refine jr_ (vI ((R26.span a k).2)) ?_
   refine jr_ (Value.slice none 0 0) ?_
   refine jr_ (vI ((R26.span a k).2)) ?_
   refine JO_nil (JX_then (J_ret (JX_block_ret (JX_then_ret ?_))))
   first
    | have hd := R27.fd_pre i1_0 (by assumption) (by assumption) no_such_condition (R27.not_t no_such_condition)
    | have hd := R27.fd_corrupt i1_0 (by assumption) (by assumption) no_such_condition
    | have hd := R27.fd_nf i1_0 (by assumption) (by assumption)
    | have hd := R27.fd_full i1_0 (by assumption)
    | have hd := R27.fd_len (ds := ds) h8w (by assumption)
    | have hd := R27.fd_arg (ds := ds) h8w
    | have hd : False := R27.fd_er (ds := ds) (a := a) (cur := cur) (by assumption) (by assumption)
   refine JX_rets [Value.slice none 0 0, vI ((R26.span a k).2)] (Value.tuple #[Value.slice none 0 0, vI ((R26.span a k).2)]) Try.results15 (fun w h => ⟨rfl, rfl, trivial⟩) rfl [Ent.row (.slice none ([] : List Bytes).length 0) 9 1 ([] : List Bytes).length (([] : List Bytes).map vS)] (fun _ h => (h.nilrow 9 1).keep [true, false, false] rfl) ⟨none, 0, ?_, ?_⟩
   ·have e_x0 : (0 : Nat) = ((R27.find ds a k most).1.length) := by first | exact hd.elim | (rw [hd]; done) | (rw [hd]; rfl)
    have e_x1 : ((R26.span a k).2 : Int) = ((R27.find ds a k most).2) := by first | exact hd.elim | (rw [hd]; done) | (rw [hd]; rfl)
    have e_all := (congr (congrArg (fun (x0 : Nat) (x1 : Int) => Value.tuple #[Value.slice none x0 0, vI x1]) e_x0) e_x1)
    exact e_all
   ·have e_y0 : (([] : List Bytes) : List Bytes) = (R27.find ds a k most).1 := by
     first | exact hd.elim | (rw [hd]; done) | (rw [hd]; rfl)
    have e_all := (congrArg (fun (y0 : List Bytes) => [Ent.row (.slice none y0.length 0) 9 1 y0.length (y0.map vS)]) e_y0)
    exact e_all
  ·have h11w := h11
   have h11 := of_decide_eq_false h11
   refine J_skip (JX_block (JX_then (J_seq (J_region ?_))))
   refine jr_ (Value.slice none 0 0) ?_
   refine JO_nil (JX_then (J_seq (J_seq (J_region ?_))))
   refine jr_ (vS k) ?_
   refine jr_ (vS k) ?_
   refine JO_nil (JX_then (J_block ?_))
   refine J_loop (X := Bytes × (List Bytes) × (Option Addr) × Nat) (fun (⟨cur, out, outA, outC⟩ : Bytes × (List Bytes) × (Option Addr) × Nat) => (R27.FindAt ds a k most cur out) ∧ (((out.length : Nat) : Int) ≤ most) ∧ (most ≤ 1024)) (fun (⟨cur, out, outA, outC⟩ : Bytes × (List Bytes) × (Option Addr) × Nat) => [(0, Value.iface 34 (Value.agg #[Value.slice dsA ds.length dsC, Value.pointer none])), (2, vS k), (3, vI most), (5, Value.pointer (some ⟨b1, 0, none⟩)), (12, Value.slice outA out.length outC), (13, vS cur)]) (fun (⟨cur, out, outA, outC⟩ : Bytes × (List Bytes) × (Option Addr) × Nat) => [Ent.blk b1 24 (DataSet.enc a), Ent.row (.slice outA out.length outC) 9 1 out.length (out.map vS)]) (fun (⟨cur, out, outA, outC⟩ : Bytes × (List Bytes) × (Option Addr) × Nat) => (most - out.length).toNat) ((k, ([] : List Bytes), none, 0) : Bytes × (List Bytes) × (Option Addr) × Nat) ?_ ⟨rfl, rfl, rfl, rfl, rfl, rfl, trivial⟩ (fun _ h => ((h.nilrow 9 1).front 2 _ rfl).keep [true, true, false] rfl) ?_
   ·show (R27.FindAt ds a k most k ([] : List Bytes)) ∧ (((([] : List Bytes).length : Nat) : Int) ≤ most) ∧ (most ≤ 1024)
    refine ⟨?_, ?_, ?_⟩
    ·exact R27.fd_start h8w (by assumption)
    ·(simp only [List.length_nil]; omega)
    ·omega
   rintro ⟨cur, out, outA, outC⟩ hI1
   obtain ⟨i1_0, i1_1, i1_2⟩ : (R27.FindAt ds a k most cur out) ∧ (((out.length : Nat) : Int) ≤ most) ∧ (most ≤ 1024) := hI1
   refine J_weaken (E' := [(0, Value.iface 34 (Value.agg #[Value.slice dsA ds.length dsC, Value.pointer none])), (2, vS k), (3, vI most), (5, Value.pointer (some ⟨b1, 0, none⟩)), (12, Value.slice outA out.length outC), (13, vS cur)]) (L' := [Ent.blk b1 24 (DataSet.enc a), Ent.row (.slice outA out.length outC) 9 1 out.length (out.map vS)]) ⟨rfl, rfl, rfl, rfl, rfl, rfl, trivial⟩ (fun _ h => h) ?_
   refine J_seq (J_seq (J_region ?_))
   refine jr_ (Value.slice outA out.length outC) ?_
   refine js_ (vI ((out.length : Nat) : Int)) (x_len_sl Try.underlying47 rfl) ?_
   refine jr_ (vI most) ?_
   refine js_ (vB (decide (((out.length : Nat) : Int) < most))) (x_lss_i rfl rfl) ?_
   refine JO_nil (JX_then ?_)
   refine J_cond (decide (((out.length : Nat) : Int) < most)) rfl rfl (fun h12 => ?_) (fun h12 => ?_)
   ·have h12w := h12
    have h12 := of_decide_eq_true h12
    refine J_skip (JX_then (J_block (J_seq (J_region ?_))))
    refine jr_ (Value.iface 34 (Value.agg #[Value.slice dsA ds.length dsC, Value.pointer none])) ?_
    refine js_ (Value.pointer (some ⟨b1, 0, none⟩)) (x_fieldAddr Ty.fi24_0 rfl rfl) ?_
    refine JO_read (vI a.Id) rfl trivial (x_load 0 rfl rfl Ty.sc3 rfl) ?_
    refine jr_ (vS cur) ?_
    refine JO_call [] [] [Ent.blk b1 24 (DataSet.enc a), Ent.row (.slice outA out.length outC) 9 1 out.length (out.map vS)] rfl trivial (fun _ => x_invoke rfl Ty.mt54 Ty.ca54 Ty.mtd rfl) (fun _ h => h) (fun _ h => by cases h) (fun w hS => f54_ok ds dsA dsC a.Id cur w (dsR.on hS (fun _ h => by cases h)) (fun i => (dsN i).on hS (fun _ h => by cases h)) hy_ hy_) ?_
    rintro _ _ ⟨rfl, rfl⟩
    have ha13 := R27.next_err (R27.ofD ds a.Id).Pairs cur
    have ha14 := R27.nextR_len (by assumption) a.Id cur
    refine jr_ (Value.tuple #[vS ((R27.nextR (R27.ofD ds a.Id).Pairs cur).1), vS ((R27.nextR (R27.ofD ds a.Id).Pairs cur).2.1), vI ((R27.nextR (R27.ofD ds a.Id).Pairs cur).2.2)]) ?_
    refine jr_ (vS ((R27.nextR (R27.ofD ds a.Id).Pairs cur).1)) ?_
    refine jr_ (vS ((R27.nextR (R27.ofD ds a.Id).Pairs cur).2.1)) ?_
    refine jr_ (vI ((R27.nextR (R27.ofD ds a.Id).Pairs cur).2.2)) ?_
    refine jr_ (vS ((R27.nextR (R27.ofD ds a.Id).Pairs cur).1)) ?_
    refine jr_ (vS ((R27.nextR (R27.ofD ds a.Id).Pairs cur).2.1)) ?_
    refine jr_ (vI ((R27.nextR (R27.ofD ds a.Id).Pairs cur).2.2)) ?_
    refine JO_nil (JX_then (J_seq (J_block (J_seq (J_region ?_)))))
    refine jr_ (vI ((R27.nextR (R27.ofD ds a.Id).Pairs cur).2.2)) ?_
    refine js_ (vB (decide ((R27.nextR (R27.ofD ds a.Id).Pairs cur).2.2 = 6))) (x_eql_i rfl rfl) ?_
    refine jr_ (vB (decide ((R27.nextR (R27.ofD ds a.Id).Pairs cur).2.2 = 6))) ?_
    refine JO_nil (JX_then ?_)
    refine J_cond (decide ((R27.nextR (R27.ofD ds a.Id).Pairs cur).2.2 = 6)) rfl rfl (fun h15 => ?_) (fun h15 => ?_)
    ·have h15w := h15
     have h15 := of_decide_eq_true h15
     refine J_seq (J_region ?_)
     refine jr_ (Value.slice outA out.length outC) ?_
     refine jr_ (Value.slice outA out.length outC) ?_
     refine jr_ (vI 0) ?_
     refine JO_nil (JX_then (J_ret (JX_block_ret (JX_then_ret (JX_block_ret ?_)))))
     refine JX_round_ret (JX_block_ret (JX_then_ret ?_))
     first
      | have hd := R27.fd_pre i1_0 (by assumption) (by assumption) no_such_condition (R27.not_t no_such_condition)
      | have hd := R27.fd_corrupt i1_0 (by assumption) (by assumption) no_such_condition
      | have hd := R27.fd_nf i1_0 (by assumption) (by assumption)
      | have hd := R27.fd_full i1_0 (by assumption)
      | have hd := R27.fd_len (ds := ds) h8w (by assumption)
      | have hd := R27.fd_arg (ds := ds) h8w
      | have hd : False := R27.fd_er (ds := ds) (a := a) (cur := cur) (by assumption) (by assumption)
     refine JX_rets [Value.slice outA out.length outC, vI 0] (Value.tuple #[Value.slice outA out.length outC, vI 0]) Try.results15 (fun w h => ⟨rfl, rfl, trivial⟩) rfl [Ent.row (.slice outA out.length outC) 9 1 out.length (out.map vS)] (fun _ h => h.keep [false, true] rfl) ⟨outA, outC, ?_, ?_⟩
     ·have e_x0 : (out.length : Nat) = ((R27.find ds a k most).1.length) := by first | exact hd.elim | (rw [hd]; done) | (rw [hd]; rfl)
      have e_x1 : (0 : Int) = ((R27.find ds a k most).2) := by first | exact hd.elim | (rw [hd]; done) | (rw [hd]; rfl)
      have e_all := (congr (congrArg (fun (x0 : Nat) (x1 : Int) => Value.tuple #[Value.slice outA x0 outC, vI x1]) e_x0) e_x1)
      exact e_all
     ·have e_y0 : (out : List Bytes) = (R27.find ds a k most).1 := by
       first | exact hd.elim | (rw [hd]; done) | (rw [hd]; rfl)
      have e_all := (congrArg (fun (y0 : List Bytes) => [Ent.row (.slice outA y0.length outC) 9 1 y0.length (y0.map vS)]) e_y0)
      exact e_all
    ·have h15w := h15
     have h15 := of_decide_eq_false h15
     refine J_seq (J_region ?_)
     refine jr_ (vI ((R27.nextR (R27.ofD ds a.Id).Pairs cur).2.2)) ?_
     refine js_ (vB (decide ((R27.nextR (R27.ofD ds a.Id).Pairs cur).2.2 ≠ 0))) (x_neq_i rfl rfl) ?_
     refine jr_ (vB (decide ((R27.nextR (R27.ofD ds a.Id).Pairs cur).2.2 ≠ 0))) ?_
     refine JO_nil (JX_then ?_)
     refine J_cond (decide ((R27.nextR (R27.ofD ds a.Id).Pairs cur).2.2 ≠ 0)) rfl rfl (fun h16 => ?_) (fun h16 => ?_)
     ·have h16w := h16
      have h16 := of_decide_eq_true h16
      refine J_seq (J_region ?_)
      refine jr_ (vI ((R27.nextR (R27.ofD ds a.Id).Pairs cur).2.2)) ?_
      refine jr_ (Value.slice none 0 0) ?_
      refine jr_ (vI ((R27.nextR (R27.ofD ds a.Id).Pairs cur).2.2)) ?_
      refine JO_nil (JX_then (J_ret (JX_block_ret (JX_then_ret (JX_block_ret ?_)))))
      refine JX_round_ret (JX_block_ret (JX_then_ret ?_))
      first
       | have hd := R27.fd_pre i1_0 (by assumption) (by assumption) no_such_condition (R27.not_t no_such_condition)
       | have hd := R27.fd_corrupt i1_0 (by assumption) (by assumption) no_such_condition
       | have hd := R27.fd_nf i1_0 (by assumption) (by assumption)
       | have hd := R27.fd_full i1_0 (by assumption)
       | have hd := R27.fd_len (ds := ds) h8w (by assumption)
       | have hd := R27.fd_arg (ds := ds) h8w
       | have hd : False := R27.fd_er (ds := ds) (a := a) (cur := cur) (by assumption) (by assumption)
      refine JX_rets [Value.slice none 0 0, vI ((R27.nextR (R27.ofD ds a.Id).Pairs cur).2.2)] (Value.tuple #[Value.slice none 0 0, vI ((R27.nextR (R27.ofD ds a.Id).Pairs cur).2.2)]) Try.results15 (fun w h => ⟨rfl, rfl, trivial⟩) rfl [Ent.row (.slice none ([] : List Bytes).length 0) 9 1 ([] : List Bytes).length (([] : List Bytes).map vS)] (fun _ h => (h.nilrow 9 1).keep [true, false, false] rfl) ⟨none, 0, ?_, ?_⟩
      ·have e_x0 : (0 : Nat) = ((R27.find ds a k most).1.length) := by first | exact hd.elim | (rw [hd]; done) | (rw [hd]; rfl)
       have e_x1 : ((R27.nextR (R27.ofD ds a.Id).Pairs cur).2.2 : Int) = ((R27.find ds a k most).2) := by first | exact hd.elim | (rw [hd]; done) | (rw [hd]; rfl)
       have e_all := (congr (congrArg (fun (x0 : Nat) (x1 : Int) => Value.tuple #[Value.slice none x0 0, vI x1]) e_x0) e_x1)
       exact e_all
      ·have e_y0 : (([] : List Bytes) : List Bytes) = (R27.find ds a k most).1 := by
        first | exact hd.elim | (rw [hd]; done) | (rw [hd]; rfl)
       have e_all := (congrArg (fun (y0 : List Bytes) => [Ent.row (.slice none y0.length 0) 9 1 y0.length (y0.map vS)]) e_y0)
       exact e_all
     ·have h16w := h16
      have h16 := of_decide_eq_false h16
      refine J_seq (J_region ?_)
      refine jr_ (vS ((R27.nextR (R27.ofD ds a.Id).Pairs cur).1)) ?_
      refine jr_ (vS cur) ?_
      refine js_ (vB ((Op.bytesLess ((R27.nextR (R27.ofD ds a.Id).Pairs cur).1) cur) || (decide ((R27.nextR (R27.ofD ds a.Id).Pairs cur).1 = cur)))) (x_leq_s rfl rfl) ?_
      refine jr_ (vB ((Op.bytesLess ((R27.nextR (R27.ofD ds a.Id).Pairs cur).1) cur) || (decide ((R27.nextR (R27.ofD ds a.Id).Pairs cur).1 = cur)))) ?_
      refine JO_cut 6 (fun z => z = (((Op.bytesLess ((R27.nextR (R27.ofD ds a.Id).Pairs cur).1) cur) || (decide ((R27.nextR (R27.ofD ds a.Id).Pairs cur).1 = cur))) || (decide (((((R27.nextR (R27.ofD ds a.Id).Pairs cur).1).length : Nat) : Int) ≠ a.KeyLength)))) (fun z => [(0, Value.iface 34 (Value.agg #[Value.slice dsA ds.length dsC, Value.pointer none])), (2, vS k), (3, vI most), (5, Value.pointer (some ⟨b1, 0, none⟩)), (12, Value.slice outA out.length outC), (13, vS cur), (14, vS ((R27.nextR (R27.ofD ds a.Id).Pairs cur).1)), (70, vB z)]) (fun _ => [Ent.blk b1 24 (DataSet.enc a), Ent.row (.slice outA out.length outC) 9 1 out.length (out.map vS)]) ?_ ?_
      ·rcases Bool.eq_false_or_eq_true ((Op.bytesLess ((R27.nextR (R27.ofD ds a.Id).Pairs cur).1) cur) || (decide ((R27.nextR (R27.ofD ds a.Id).Pairs cur).1 = cur))) with g18 | g18
       ·have g18r := g18
        simp only [Bool.and_eq_true, Bool.or_eq_true, Bool.and_eq_false_iff, Bool.or_eq_false_iff, Bool.not_eq_true', Bool.not_eq_false', decide_eq_true_eq, decide_eq_false_iff_not] at g18r
        refine sh_ g18 ?_
        refine sh_ g18 ?_
        refine sh_ g18 ?_
        refine sh_ g18 ?_
        refine sh_ g18 ?_
        refine js_ (vB true) (x_pick_t rfl g18 rfl) ?_
        refine JO_nil (JX_cut (true) (by rw [g18]; simp) ⟨rfl, rfl, rfl, rfl, rfl, rfl, rfl, rfl, trivial⟩ (fun _ h => h))
       ·have g18r := g18
        have ⟨g18r, h19⟩ := bor_false g18r
        have h19 := of_decide_eq_false h19
        refine jg_ g18 (vS ((R27.nextR (R27.ofD ds a.Id).Pairs cur).1)) (rfl) ?_
        refine jg_ g18 (vI ((((R27.nextR (R27.ofD ds a.Id).Pairs cur).1).length : Nat) : Int)) (x_len_s rfl Try.underlying9) ?_
        refine jg_ g18 (Value.pointer (some ⟨b1, 6, none⟩)) (x_fieldAddr Ty.fi24_6 rfl rfl) ?_
        refine JO_read (vI a.KeyLength) rfl ⟨_, rfl, g18⟩ (x_load 0 rfl rfl Ty.sc3 rfl) ?_
        refine jg_ g18 (vB (decide (((((R27.nextR (R27.ofD ds a.Id).Pairs cur).1).length : Nat) : Int) ≠ a.KeyLength))) (x_neq_i rfl rfl) ?_
        refine js_ (vB (decide (((((R27.nextR (R27.ofD ds a.Id).Pairs cur).1).length : Nat) : Int) ≠ a.KeyLength))) (x_pick_f rfl g18 rfl) ?_
        refine JO_nil (JX_cut (decide (((((R27.nextR (R27.ofD ds a.Id).Pairs cur).1).length : Nat) : Int) ≠ a.KeyLength)) (by rw [g18]; simp) ⟨rfl, rfl, rfl, rfl, rfl, rfl, rfl, rfl, trivial⟩ (fun _ h => h))
      rintro z17 rfl
      refine jr_ (vB (((Op.bytesLess ((R27.nextR (R27.ofD ds a.Id).Pairs cur).1) cur) || (decide ((R27.nextR (R27.ofD ds a.Id).Pairs cur).1 = cur))) || (decide (((((R27.nextR (R27.ofD ds a.Id).Pairs cur).1).length : Nat) : Int) ≠ a.KeyLength)))) ?_
      refine JO_nil (JX_then ?_)
      refine J_cond (((Op.bytesLess ((R27.nextR (R27.ofD ds a.Id).Pairs cur).1) cur) || (decide ((R27.nextR (R27.ofD ds a.Id).Pairs cur).1 = cur))) || (decide (((((R27.nextR (R27.ofD ds a.Id).Pairs cur).1).length : Nat) : Int) ≠ a.KeyLength))) rfl rfl (fun h20 => ?_) (fun h20 => ?_)
      ·have h20w := h20
       simp only [Bool.and_eq_true, Bool.or_eq_true, Bool.and_eq_false_iff, Bool.or_eq_false_iff, Bool.not_eq_true', Bool.not_eq_false', decide_eq_true_eq, decide_eq_false_iff_not] at h20
       refine J_seq (J_region ?_)
       refine jr_ (Value.slice none 0 0) ?_
       refine jr_ (vI 11) ?_
       refine JO_nil (JX_then (J_ret (JX_block_ret (JX_then_ret (JX_block_ret ?_)))))
       refine JX_round_ret (JX_block_ret (JX_then_ret ?_))
       first
        | have hd := R27.fd_pre i1_0 (by assumption) (by assumption) h20w (R27.not_t no_such_condition)
        | have hd := R27.fd_corrupt i1_0 (by assumption) (by assumption) h20w
        | have hd := R27.fd_nf i1_0 (by assumption) (by assumption)
        | have hd := R27.fd_full i1_0 (by assumption)
        | have hd := R27.fd_len (ds := ds) h8w (by assumption)
        | have hd := R27.fd_arg (ds := ds) h8w
        | have hd : False := R27.fd_er (ds := ds) (a := a) (cur := cur) (by assumption) (by assumption)
       refine JX_rets [Value.slice none 0 0, vI 11] (Value.tuple #[Value.slice none 0 0, vI 11]) Try.results15 (fun w h => ⟨rfl, rfl, trivial⟩) rfl [Ent.row (.slice none ([] : List Bytes).length 0) 9 1 ([] : List Bytes).length (([] : List Bytes).map vS)] (fun _ h => (h.nilrow 9 1).keep [true, false, false] rfl) ⟨none, 0, ?_, ?_⟩
       ·have e_x0 : (0 : Nat) = ((R27.find ds a k most).1.length) := by first | exact hd.elim | (rw [hd]; done) | (rw [hd]; rfl)
        have e_x1 : (11 : Int) = ((R27.find ds a k most).2) := by first | exact hd.elim | (rw [hd]; done) | (rw [hd]; rfl)
        have e_all := (congr (congrArg (fun (x0 : Nat) (x1 : Int) => Value.tuple #[Value.slice none x0 0, vI x1]) e_x0) e_x1)
        exact e_all
       ·have e_y0 : (([] : List Bytes) : List Bytes) = (R27.find ds a k most).1 := by
         first | exact hd.elim | (rw [hd]; done) | (rw [hd]; rfl)
        have e_all := (congrArg (fun (y0 : List Bytes) => [Ent.row (.slice none y0.length 0) 9 1 y0.length (y0.map vS)]) e_y0)
        exact e_all
      ·have h20w := h20
       have ⟨h20, h21⟩ := bor_false h20
       have ⟨h20, h22⟩ := bor_false h20
       have h22 := of_decide_eq_false h22
       have h21 := of_decide_eq_false h21
       refine J_seq (J_region ?_)
       refine jr_ (vS ((R27.nextR (R27.ofD ds a.Id).Pairs cur).1)) ?_
       refine jr_ (vS k) ?_
       refine JO_call [] [] [Ent.blk b1 24 (DataSet.enc a), Ent.row (.slice outA out.length outC) 9 1 out.length (out.map vS)] rfl trivial (fun _ => x_call Ty.ca37 rfl) (fun _ h => h) (fun _ h => by cases h) (fun w hS => f37_ok ((R27.nextR (R27.ofD ds a.Id).Pairs cur).1) k w) ?_
       rintro _ _ ⟨rfl, rfl⟩
       refine js_ (vB (!(R27.begins ((R27.nextR (R27.ofD ds a.Id).Pairs cur).1) k))) (x_not rfl) ?_
       refine jr_ (vB (!(R27.begins ((R27.nextR (R27.ofD ds a.Id).Pairs cur).1) k))) ?_
       refine JO_nil (JX_then ?_)
       refine J_cond (!(R27.begins ((R27.nextR (R27.ofD ds a.Id).Pairs cur).1) k)) rfl rfl (fun h23 => ?_) (fun h23 => ?_)
       ·have h23w := h23
        have h23 : (R27.begins ((R27.nextR (R27.ofD ds a.Id).Pairs cur).1) k) = false := bnot_true h23
        refine J_seq (J_region ?_)
        refine jr_ (Value.slice outA out.length outC) ?_
        refine jr_ (Value.slice outA out.length outC) ?_
        refine jr_ (vI 0) ?_
        refine JO_nil (JX_then (J_ret (JX_block_ret (JX_then_ret (JX_block_ret ?_)))))
        refine JX_round_ret (JX_block_ret (JX_then_ret ?_))
        first
         | have hd := R27.fd_pre i1_0 (by assumption) (by assumption) h20w (R27.not_t h23w)
         | have hd := R27.fd_corrupt i1_0 (by assumption) (by assumption) h20w
         | have hd := R27.fd_nf i1_0 (by assumption) (by assumption)
         | have hd := R27.fd_full i1_0 (by assumption)
         | have hd := R27.fd_len (ds := ds) h8w (by assumption)
         | have hd := R27.fd_arg (ds := ds) h8w
         | have hd : False := R27.fd_er (ds := ds) (a := a) (cur := cur) (by assumption) (by assumption)
        refine JX_rets [Value.slice outA out.length outC, vI 0] (Value.tuple #[Value.slice outA out.length outC, vI 0]) Try.results15 (fun w h => ⟨rfl, rfl, trivial⟩) rfl [Ent.row (.slice outA out.length outC) 9 1 out.length (out.map vS)] (fun _ h => h.keep [false, true] rfl) ⟨outA, outC, ?_, ?_⟩
        ·have e_x0 : (out.length : Nat) = ((R27.find ds a k most).1.length) := by first | exact hd.elim | (rw [hd]; done) | (rw [hd]; rfl)
         have e_x1 : (0 : Int) = ((R27.find ds a k most).2) := by first | exact hd.elim | (rw [hd]; done) | (rw [hd]; rfl)
         have e_all := (congr (congrArg (fun (x0 : Nat) (x1 : Int) => Value.tuple #[Value.slice outA x0 outC, vI x1]) e_x0) e_x1)
         exact e_all
        ·have e_y0 : (out : List Bytes) = (R27.find ds a k most).1 := by
          first | exact hd.elim | (rw [hd]; done) | (rw [hd]; rfl)
         have e_all := (congrArg (fun (y0 : List Bytes) => [Ent.row (.slice outA y0.length outC) 9 1 y0.length (y0.map vS)]) e_y0)
         exact e_all
       ·have h23w := h23
        have h23 : (R27.begins ((R27.nextR (R27.ofD ds a.Id).Pairs cur).1) k) = true := bnot_false h23
        have hi24 := R27.begins_len h23
        refine J_skip (JX_block (JX_then (J_seq (J_region ?_))))
        refine jr_ (Value.slice outA out.length outC) ?_
        refine jr_ (vS ((R27.nextR (R27.ofD ds a.Id).Pairs cur).1)) ?_
        refine jr_ (vS k) ?_
        refine js_ (vI ((k.length : Nat) : Int)) (x_len_s rfl Try.underlying9) ?_
        refine js_ (vS (sub ((R27.nextR (R27.ofD ds a.Id).Pairs cur).1) k.length (((R27.nextR (R27.ofD ds a.Id).Pairs cur).1).length))) (x_sub_s (lo := k.length) (hi := ((R27.nextR (R27.ofD ds a.Id).Pairs cur).1).length) rfl Try.underlying9 (.inl rfl) (.inr ⟨rfl, rfl⟩) lt_ (by first | omega | (simp only [sub, List.length_drop, List.length_take]; omega) | (simp; omega) | (simp_all; omega))) ?_
        refine JO_op rfl trivial (O_buildSlice (cs := [vS (sub ((R27.nextR (R27.ofD ds a.Id).Pairs cur).1) k.length (((R27.nextR (R27.ofD ds a.Id).Pairs cur).1).length))]) Try.underlying47 Ty.sz9 Ty.ze9 (by decide) (by decide) (by kernel_rfl) fun b25 => ?_)
        refine JO_op rfl trivial (O_append_m 2 vS out [sub ((R27.nextR (R27.ofD ds a.Id).Pairs cur).1) k.length (((R27.nextR (R27.ofD ds a.Id).Pairs cur).1).length)] Try.underlying47 Ty.sz9 Ty.by9 Ty.ze9 rfl rfl rfl rfl rfl (fun _ => rfl) (cells_blk 0 (off := 0) (m := 1) rfl rfl) lt_ lt_ fun A26 c27 => ?_)
        refine jr_ (Value.slice A26 ((out ++ [sub ((R27.nextR (R27.ofD ds a.Id).Pairs cur).1) k.length (((R27.nextR (R27.ofD ds a.Id).Pairs cur).1).length)]).length) c27) ?_
        refine JO_nil (JX_then (J_region ?_))
        refine jr_ (vS ((R27.nextR (R27.ofD ds a.Id).Pairs cur).1)) ?_
        refine jr_ (vS ((R27.nextR (R27.ofD ds a.Id).Pairs cur).1)) ?_
        refine JO_nil (JX_block ?_)
        refine JX_round (((R27.nextR (R27.ofD ds a.Id).Pairs cur).1, out ++ [sub ((R27.nextR (R27.ofD ds a.Id).Pairs cur).1) k.length (((R27.nextR (R27.ofD ds a.Id).Pairs cur).1).length)], A26, c27) : Bytes × (List Bytes) × (Option Addr) × Nat) ?_ ?_ ⟨rfl, rfl, rfl, rfl, rfl, rfl, trivial⟩ (fun _ h => h.keep [false, true, true] rfl)
        ·show (R27.FindAt ds a k most ((R27.nextR (R27.ofD ds a.Id).Pairs cur).1) (out ++ [sub ((R27.nextR (R27.ofD ds a.Id).Pairs cur).1) k.length (((R27.nextR (R27.ofD ds a.Id).Pairs cur).1).length)])) ∧ ((((out ++ [sub ((R27.nextR (R27.ofD ds a.Id).Pairs cur).1) k.length (((R27.nextR (R27.ofD ds a.Id).Pairs cur).1).length)]).length : Nat) : Int) ≤ most) ∧ (most ≤ 1024)
         refine ⟨?_, ?_, ?_⟩
         ·exact R27.fd_next i1_0 (by assumption) (by assumption) h20w (R27.not_f h23w)
         ·rw [List.length_append]; simp only [List.length_cons, List.length_nil]; omega
         ·omega
        ·show (most - (out ++ [sub ((R27.nextR (R27.ofD ds a.Id).Pairs cur).1) k.length (((R27.nextR (R27.ofD ds a.Id).Pairs cur).1).length)]).length).toNat < (most - out.length).toNat
         rw [List.length_append]; simp only [List.length_cons, List.length_nil]; omega
   ·have h12w := h12
    have h12 := of_decide_eq_false h12
    refine J_exit (JX_then_exit (JX_round_exit (JX_block_hit (JX_then (J_seq ?_)))))
    refine J_region ?_
    refine jr_ (Value.slice outA out.length outC) ?_
    refine jr_ (Value.slice outA out.length outC) ?_
    refine jr_ (vI 0) ?_
    refine JO_nil (JX_then (J_ret ?_))
    first
     | have hd := R27.fd_pre i1_0 (by assumption) (by assumption) no_such_condition (R27.not_t no_such_condition)
     | have hd := R27.fd_corrupt i1_0 (by assumption) (by assumption) no_such_condition
     | have hd := R27.fd_nf i1_0 (by assumption) (by assumption)
     | have hd := R27.fd_full i1_0 (by assumption)
     | have hd := R27.fd_len (ds := ds) h8w (by assumption)
     | have hd := R27.fd_arg (ds := ds) h8w
     | have hd : False := R27.fd_er (ds := ds) (a := a) (cur := cur) (by assumption) (by assumption)
    refine JX_rets [Value.slice outA out.length outC, vI 0] (Value.tuple #[Value.slice outA out.length outC, vI 0]) Try.results15 (fun w h => ⟨rfl, rfl, trivial⟩) rfl [Ent.row (.slice outA out.length outC) 9 1 out.length (out.map vS)] (fun _ h => h.keep [false, true] rfl) ⟨outA, outC, ?_, ?_⟩
    ·have e_x0 : (out.length : Nat) = ((R27.find ds a k most).1.length) := by first | exact hd.elim | (rw [hd]; done) | (rw [hd]; rfl)
     have e_x1 : (0 : Int) = ((R27.find ds a k most).2) := by first | exact hd.elim | (rw [hd]; done) | (rw [hd]; rfl)
     have e_all := (congr (congrArg (fun (x0 : Nat) (x1 : Int) => Value.tuple #[Value.slice outA x0 outC, vI x1]) e_x0) e_x1)
     exact e_all
    ·have e_y0 : (out : List Bytes) = (R27.find ds a k most).1 := by
      first | exact hd.elim | (rw [hd]; done) | (rw [hd]; rfl)
     have e_all := (congrArg (fun (y0 : List Bytes) => [Ent.row (.slice outA y0.length outC) 9 1 y0.length (y0.map vS)]) e_y0)
     exact e_all
set_option maxRecDepth 20000 in
theorem f9_ok (l : List Change) (lA : Option Addr) (lC : Nat) (m : Int) (w : World) (lR : RO [] w lA (l.flatMap Change.enc)) (q0 : l.length ≤ 9223372036854775807) : Calls Try.prog 9 #[Value.slice lA l.length lC, vI m] w (Gives [] w fun v L => v = vB (R27.short l m) ∧ L = []) := by
 refine calls_J [] 41 Try.func9 rfl Try.ntmps9 [(0, Value.slice lA l.length lC), (1, vI m)] rfl rfl (Give.nil w) ?_
 refine J_seq (J_region ?_)
 refine jr_ (vB false) ?_
 refine JO_nil (JX_then (J_seq (J_seq (J_region ?_))))
 refine jr_ (vI 0) ?_
 refine JO_nil (JX_then (J_block ?_))
 refine J_loop (X := Nat) (fun (k : Nat) => (k ≤ l.length) ∧ (∀ i, i < k → R27.longC (l.getD i default) = false)) (fun (k : Nat) => [(0, Value.slice lA l.length lC), (1, vI m), (5, vI ((k : Nat) : Int))]) (fun (k : Nat) => []) (fun (k : Nat) => l.length - k) (0 : Nat) ?_ ⟨rfl, rfl, rfl, trivial⟩ (fun _ h => h) ?_
 ·show (0 ≤ l.length) ∧ (∀ i, i < 0 → R27.longC (l.getD i default) = false)
  refine ⟨?_, ?_⟩
  ·first | rfl | omega | (simp_all; done) | (simp_all; omega)
  ·intro i hi; omega
 intro k hI1
 obtain ⟨i1_0, i1_1⟩ : (k ≤ l.length) ∧ (∀ i, i < k → R27.longC (l.getD i default) = false) := hI1
 refine J_weaken (E' := [(0, Value.slice lA l.length lC), (1, vI m), (5, vI ((k : Nat) : Int))]) (L' := []) ⟨rfl, rfl, rfl, trivial⟩ (fun _ h => h) ?_
 refine J_seq (J_seq (J_region ?_))
 refine jr_ (vI ((k : Nat) : Int)) ?_
 refine jr_ (Value.slice lA l.length lC) ?_
 refine js_ (vI ((l.length : Nat) : Int)) (x_len_sl Try.underlying31 rfl) ?_
 refine js_ (vB (decide (((k : Nat) : Int) < ((l.length : Nat) : Int)))) (x_lss_i rfl rfl) ?_
 refine JO_nil (JX_then ?_)
 refine J_cond (decide (((k : Nat) : Int) < ((l.length : Nat) : Int))) rfl rfl (fun h1 => ?_) (fun h1 => ?_)
 ·have h1w := h1
  have h1 := of_decide_eq_true h1
  refine J_skip (JX_then (J_seq (J_block (J_seq (J_region ?_)))))
  refine jr_ (Value.slice lA l.length lC) ?_
  refine jr_ (vI ((k : Nat) : Int)) ?_
  refine JO_read (Value.pointer (some (adr lA (k * 5)))) rfl trivial (x_indexAddr_at (k := k) (off := k * 5) (cells_ro lR) Try.underlying31 Ty.sz27 rfl rfl lt_ (by rw [flat_length Change.enc 5 Change.enc_len]; first | omega | (simp; omega) | (simp_all; omega) | (simp_all; done)) rfl) ?_
  refine js_ (Value.pointer (some (adr lA (k * 5 + 2)))) (x_fieldAddr Ty.fi27_2 rfl (adr_add _ _ _)) ?_
  refine JO_read (vS ((l.getD k default).Key)) rfl trivial (x_load_at (cells_ro lR) rfl Ty.sc9 (flat_at Change.enc 5 Change.enc_len l default k 2 lt_ (by decide))) ?_
  refine js_ (vI ((((l.getD k default).Key).length : Nat) : Int)) (x_len_s rfl Try.underlying9) ?_
  refine js_ (vB (decide ((100 : Int) < ((((l.getD k default).Key).length : Nat) : Int)))) (x_gtr_i rfl rfl) ?_
  refine jr_ (vB (decide ((100 : Int) < ((((l.getD k default).Key).length : Nat) : Int)))) ?_
  refine JO_cut 8 (fun z => z = ((decide ((100 : Int) < ((((l.getD k default).Key).length : Nat) : Int))) || (decide ((300 : Int) < ((((l.getD k default).Record).length : Nat) : Int))))) (fun z => [(0, Value.slice lA l.length lC), (1, vI m), (5, vI ((k : Nat) : Int)), (27, vB z)]) (fun _ => []) ?_ ?_
  ·rcases Bool.eq_false_or_eq_true (decide ((100 : Int) < ((((l.getD k default).Key).length : Nat) : Int))) with g3 | g3
   ·have g3r := g3
    have g3r := of_decide_eq_true g3r
    refine sh_ g3 ?_
    refine sh_ g3 ?_
    refine sh_ g3 ?_
    refine sh_ g3 ?_
    refine sh_ g3 ?_
    refine sh_ g3 ?_
    refine sh_ g3 ?_
    refine js_ (vB true) (x_pick_t rfl g3 rfl) ?_
    refine JO_nil (JX_cut (true) (by rw [g3]; simp) ⟨rfl, rfl, rfl, rfl, trivial⟩ (fun _ h => h))
   ·have g3r := g3
    have g3r := of_decide_eq_false g3r
    refine jg_ g3 (Value.slice lA l.length lC) (rfl) ?_
    refine jg_ g3 (vI ((k : Nat) : Int)) (rfl) ?_
    refine JO_read (Value.pointer (some (adr lA (k * 5)))) rfl ⟨_, rfl, g3⟩ (x_indexAddr_at (k := k) (off := k * 5) (cells_ro lR) Try.underlying31 Ty.sz27 rfl rfl lt_ (by rw [flat_length Change.enc 5 Change.enc_len]; first | omega | (simp; omega) | (simp_all; omega) | (simp_all; done)) rfl) ?_
    refine jg_ g3 (Value.pointer (some (adr lA (k * 5 + 3)))) (x_fieldAddr Ty.fi27_3 rfl (adr_add _ _ _)) ?_
    refine JO_read (vS ((l.getD k default).Record)) rfl ⟨_, rfl, g3⟩ (x_load_at (cells_ro lR) rfl Ty.sc9 (flat_at Change.enc 5 Change.enc_len l default k 3 lt_ (by decide))) ?_
    refine jg_ g3 (vI ((((l.getD k default).Record).length : Nat) : Int)) (x_len_s rfl Try.underlying9) ?_
    refine jg_ g3 (vB (decide ((300 : Int) < ((((l.getD k default).Record).length : Nat) : Int)))) (x_gtr_i rfl rfl) ?_
    refine js_ (vB (decide ((300 : Int) < ((((l.getD k default).Record).length : Nat) : Int)))) (x_pick_f rfl g3 rfl) ?_
    refine JO_nil (JX_cut (decide ((300 : Int) < ((((l.getD k default).Record).length : Nat) : Int))) (by rw [g3]; simp) ⟨rfl, rfl, rfl, rfl, trivial⟩ (fun _ h => h))
  rintro z2 rfl
  refine jr_ (vB ((decide ((100 : Int) < ((((l.getD k default).Key).length : Nat) : Int))) || (decide ((300 : Int) < ((((l.getD k default).Record).length : Nat) : Int))))) ?_
  refine JO_cut 8 (fun z => z = (((decide ((100 : Int) < ((((l.getD k default).Key).length : Nat) : Int))) || (decide ((300 : Int) < ((((l.getD k default).Record).length : Nat) : Int)))) || (decide ((100 : Int) < ((((l.getD k default).Volume).length : Nat) : Int))))) (fun z => [(0, Value.slice lA l.length lC), (1, vI m), (5, vI ((k : Nat) : Int)), (36, vB z)]) (fun _ => []) ?_ ?_
  ·rcases Bool.eq_false_or_eq_true ((decide ((100 : Int) < ((((l.getD k default).Key).length : Nat) : Int))) || (decide ((300 : Int) < ((((l.getD k default).Record).length : Nat) : Int)))) with g5 | g5
   ·have g5r := g5
    simp only [Bool.and_eq_true, Bool.or_eq_true, Bool.and_eq_false_iff, Bool.or_eq_false_iff, Bool.not_eq_true', Bool.not_eq_false', decide_eq_true_eq, decide_eq_false_iff_not] at g5r
    refine sh_ g5 ?_
    refine sh_ g5 ?_
    refine sh_ g5 ?_
    refine sh_ g5 ?_
    refine sh_ g5 ?_
    refine sh_ g5 ?_
    refine sh_ g5 ?_
    refine js_ (vB true) (x_pick_t rfl g5 rfl) ?_
    refine JO_nil (JX_cut (true) (by rw [g5]; simp) ⟨rfl, rfl, rfl, rfl, trivial⟩ (fun _ h => h))
   ·have g5r := g5
    have ⟨g5r, h6⟩ := bor_false g5r
    have g5r := of_decide_eq_false g5r
    have h6 := of_decide_eq_false h6
    refine jg_ g5 (Value.slice lA l.length lC) (rfl) ?_
    refine jg_ g5 (vI ((k : Nat) : Int)) (rfl) ?_
    refine JO_read (Value.pointer (some (adr lA (k * 5)))) rfl ⟨_, rfl, g5⟩ (x_indexAddr_at (k := k) (off := k * 5) (cells_ro lR) Try.underlying31 Ty.sz27 rfl rfl lt_ (by rw [flat_length Change.enc 5 Change.enc_len]; first | omega | (simp; omega) | (simp_all; omega) | (simp_all; done)) rfl) ?_
    refine jg_ g5 (Value.pointer (some (adr lA (k * 5 + 4)))) (x_fieldAddr Ty.fi27_4 rfl (adr_add _ _ _)) ?_
    refine JO_read (vS ((l.getD k default).Volume)) rfl ⟨_, rfl, g5⟩ (x_load_at (cells_ro lR) rfl Ty.sc9 (flat_at Change.enc 5 Change.enc_len l default k 4 lt_ (by decide))) ?_
    refine jg_ g5 (vI ((((l.getD k default).Volume).length : Nat) : Int)) (x_len_s rfl Try.underlying9) ?_
    refine jg_ g5 (vB (decide ((100 : Int) < ((((l.getD k default).Volume).length : Nat) : Int)))) (x_gtr_i rfl rfl) ?_
    refine js_ (vB (decide ((100 : Int) < ((((l.getD k default).Volume).length : Nat) : Int)))) (x_pick_f rfl g5 rfl) ?_
    refine JO_nil (JX_cut (decide ((100 : Int) < ((((l.getD k default).Volume).length : Nat) : Int))) (by rw [g5]; simp) ⟨rfl, rfl, rfl, rfl, trivial⟩ (fun _ h => h))
  rintro z4 rfl
  refine JO_nil (JX_then ?_)
  refine J_cond (((decide ((100 : Int) < ((((l.getD k default).Key).length : Nat) : Int))) || (decide ((300 : Int) < ((((l.getD k default).Record).length : Nat) : Int)))) || (decide ((100 : Int) < ((((l.getD k default).Volume).length : Nat) : Int)))) rfl rfl (fun h7 => ?_) (fun h7 => ?_)
  ·have h7w := h7
   simp only [Bool.and_eq_true, Bool.or_eq_true, Bool.and_eq_false_iff, Bool.or_eq_false_iff, Bool.not_eq_true', Bool.not_eq_false', decide_eq_true_eq, decide_eq_false_iff_not] at h7
   refine J_seq (J_region ?_)
   refine jr_ (vB false) ?_
   refine JO_nil (JX_then (J_ret (JX_block_ret (JX_then_ret (JX_round_ret ?_)))))
   refine JX_block_ret (JX_then_ret ?_)
   refine JX_rets [vB false] (vB false) Try.results9 (fun w h => ⟨rfl, trivial⟩) rfl [] (fun _ h => h) ⟨?_, ?_⟩
   ·have e_x0 : (false : Bool) = (R27.short l m) := by first | exact R27.short_bad (k := k) (by omega) h7w | exact R27.short_end (by assumption) i1_1
    exact congrArg (fun (x0 : Bool) => vB x0) e_x0
   ·rfl
  ·have h7w := h7
   have ⟨h7, h8⟩ := bor_false h7
   have ⟨h7, h9⟩ := bor_false h7
   have h7 := of_decide_eq_false h7
   have h9 := of_decide_eq_false h9
   have h8 := of_decide_eq_false h8
   refine J_skip (JX_block (JX_then (J_region ?_)))
   refine jr_ (vI ((k : Nat) : Int)) ?_
   refine js_ (vI ((k + 1 : Nat) : Int)) (x_add_n (a := k) (b := 1) rfl rfl (by omega)) ?_
   refine jr_ (vI ((k + 1 : Nat) : Int)) ?_
   refine JO_nil ?_
   refine JX_round (k + 1 : Nat) ?_ ?_ ⟨rfl, rfl, rfl, trivial⟩ (fun _ h => h)
   ·show ((k + 1) ≤ l.length) ∧ (∀ i, i < (k + 1) → R27.longC (l.getD i default) = false)
    refine ⟨?_, ?_⟩
    ·first | rfl | omega | (simp_all; done) | (simp_all; omega)
    ·intro i hi; by_cases hik : i = k
     ·subst hik; exact h7w
     ·exact i1_1 i (by omega)
   ·show l.length - (k + 1) < l.length - k
    first | omega | (simp; omega) | (simp_all; omega)
 ·have h1w := h1
  have h1 := of_decide_eq_false h1
  refine J_exit (JX_then_exit (JX_round_exit (JX_block_hit (JX_then (J_seq ?_)))))
  refine J_region ?_
  refine jr_ (Value.slice lA l.length lC) ?_
  refine js_ (vI ((l.length : Nat) : Int)) (x_len_sl Try.underlying31 rfl) ?_
  refine jr_ (vI m) ?_
  refine js_ (vB (decide (((l.length : Nat) : Int) ≤ m))) (x_leq_i rfl rfl) ?_
  refine jr_ (vB (decide (((l.length : Nat) : Int) ≤ m))) ?_
  refine JO_nil (JX_then (J_ret ?_))
  refine JX_rets [vB (decide (((l.length : Nat) : Int) ≤ m))] (vB (decide (((l.length : Nat) : Int) ≤ m))) Try.results9 (fun w h => ⟨rfl, trivial⟩) rfl [] (fun _ h => h) ⟨?_, ?_⟩
  ·have e_x0 : (decide (((l.length : Nat) : Int) ≤ m) : Bool) = (R27.short l m) := by first | exact R27.short_bad (k := k) (by omega) no_such_condition | exact R27.short_end (by assumption) i1_1
   exact congrArg (fun (x0 : Bool) => vB x0) e_x0
  ·rfl
set_option maxRecDepth 20000 in
theorem f12_ok (a : List Change) (aA : Option Addr) (aC : Nat) (b : List Change) (bA : Option Addr) (bC : Nat) (w : World) (aR : RO [] w aA (a.flatMap Change.enc)) (bR : RO [] w bA (b.flatMap Change.enc)) (q0 : a.length ≤ 9223372036854775807) : Calls Try.prog 12 #[Value.slice aA a.length aC, Value.slice bA b.length bC] w (Gives [] w fun v L => v = vB (decide (a = b)) ∧ L = []) := by
 refine calls_J [] 26 Try.func12 rfl Try.ntmps12 [(0, Value.slice aA a.length aC), (1, Value.slice bA b.length bC)] rfl rfl (Give.nil w) ?_
 refine J_seq (J_region ?_)
 refine jr_ (vB false) ?_
 refine JO_nil (JX_then (J_seq (J_seq (J_region ?_))))
 refine jr_ (Value.slice aA a.length aC) ?_
 refine js_ (vI ((a.length : Nat) : Int)) (x_len_sl Try.underlying31 rfl) ?_
 refine jr_ (Value.slice bA b.length bC) ?_
 refine js_ (vI ((b.length : Nat) : Int)) (x_len_sl Try.underlying31 rfl) ?_
 refine js_ (vB (decide (((a.length : Nat) : Int) ≠ ((b.length : Nat) : Int)))) (x_neq_i rfl rfl) ?_
 refine JO_nil (JX_then ?_)
 refine J_cond (decide (((a.length : Nat) : Int) ≠ ((b.length : Nat) : Int))) rfl rfl (fun h1 => ?_) (fun h1 => ?_)
 ·have h1w := h1
  have h1 := of_decide_eq_true h1
  refine J_seq (J_region ?_)
  refine jr_ (vB false) ?_
  refine JO_nil (JX_then (J_ret (JX_then_ret ?_)))
  refine JX_rets [vB false] (vB false) Try.results12 (fun w h => ⟨rfl, trivial⟩) rfl [] (fun _ h => h) ⟨?_, ?_⟩
  ·have e_x0 : (false : Bool) = (decide (a = b)) := by first | exact (decide_eq_false (fun hh => by subst hh; simp_all)).symm | exact R27.same_lists (by assumption) (by assumption) i1_2 | exact R27.same_lists (by omega) (by assumption) i1_2
   exact congrArg (fun (x0 : Bool) => vB x0) e_x0
  ·rfl
 ·have h1w := h1
  have h1 := of_decide_eq_false h1
  refine J_skip (JX_then (J_seq (J_seq (J_region ?_))))
  refine jr_ (vI 0) ?_
  refine JO_nil (JX_then (J_block ?_))
  refine J_loop (X := Nat) (fun (k : Nat) => (k ≤ a.length) ∧ (a.length = b.length) ∧ (∀ i, i < k → a.getD i default = b.getD i default)) (fun (k : Nat) => [(0, Value.slice aA a.length aC), (1, Value.slice bA b.length bC), (5, vI ((k : Nat) : Int))]) (fun (k : Nat) => []) (fun (k : Nat) => a.length - k) (0 : Nat) ?_ ⟨rfl, rfl, rfl, trivial⟩ (fun _ h => h) ?_
  ·show (0 ≤ a.length) ∧ (a.length = b.length) ∧ (∀ i, i < 0 → a.getD i default = b.getD i default)
   refine ⟨?_, ?_, ?_⟩
   ·first | rfl | omega | (simp_all; done) | (simp_all; omega)
   ·first | rfl | omega | (simp_all; done) | (simp_all; omega)
   ·intro i hi; omega
  intro k hI1
  obtain ⟨i1_0, i1_1, i1_2⟩ : (k ≤ a.length) ∧ (a.length = b.length) ∧ (∀ i, i < k → a.getD i default = b.getD i default) := hI1
  refine J_weaken (E' := [(0, Value.slice aA a.length aC), (1, Value.slice bA b.length bC), (5, vI ((k : Nat) : Int))]) (L' := []) ⟨rfl, rfl, rfl, trivial⟩ (fun _ h => h) ?_
  refine J_seq (J_seq (J_region ?_))
  refine jr_ (vI ((k : Nat) : Int)) ?_
  refine jr_ (Value.slice aA a.length aC) ?_
  refine js_ (vI ((a.length : Nat) : Int)) (x_len_sl Try.underlying31 rfl) ?_
  refine js_ (vB (decide (((k : Nat) : Int) < ((a.length : Nat) : Int)))) (x_lss_i rfl rfl) ?_
  refine JO_nil (JX_then ?_)
  refine J_cond (decide (((k : Nat) : Int) < ((a.length : Nat) : Int))) rfl rfl (fun h2 => ?_) (fun h2 => ?_)
  ·have h2w := h2
   have h2 := of_decide_eq_true h2
   refine J_skip (JX_then (J_seq (J_block (J_seq ?_))))
   refine J_draw [] [] [] 9 Ty.mixed rfl ?_
   refine jt_ 0 (Value.slice aA a.length aC) rfl (fun _ _ => rfl) ?_
   refine jt_ 1 (vI ((k : Nat) : Int)) rfl (fun _ _ => rfl) ?_
   refine jt_ 2 (Value.pointer (some (adr aA (k * 5)))) rfl (x_indexAddr_at (k := k) (off := k * 5) (cells_ro aR) Try.underlying31 Ty.sz27 rfl rfl lt_ (by rw [flat_length Change.enc 5 Change.enc_len]; first | omega | (simp; omega) | (simp_all; omega) | (simp_all; done)) rfl) ?_
   refine jt_ 3 (Value.agg ((Change.enc (a.getD k default))).toArray) rfl (x_loadN_at (Change.enc (a.getD k default)) (cells_ro aR) rfl Ty.ag27 Ty.sz27 (flat_drop Change.enc 5 Change.enc_len a default k lt_)) ?_
   refine jt_ 4 (Value.slice bA b.length bC) rfl (fun _ _ => rfl) ?_
   refine jt_ 5 (vI ((k : Nat) : Int)) rfl (fun _ _ => rfl) ?_
   refine jt_ 6 (Value.pointer (some (adr bA (k * 5)))) rfl (x_indexAddr_at (k := k) (off := k * 5) (cells_ro bR) Try.underlying31 Ty.sz27 rfl rfl lt_ (by rw [flat_length Change.enc 5 Change.enc_len]; first | omega | (simp; omega) | (simp_all; omega) | (simp_all; done)) rfl) ?_
   refine jt_ 7 (Value.agg ((Change.enc (b.getD k default))).toArray) rfl (x_loadN_at (Change.enc (b.getD k default)) (cells_ro bR) rfl Ty.ag27 Ty.sz27 (flat_drop Change.enc 5 Change.enc_len b default k lt_)) ?_
   refine jt_ 8 (vB (!(decide (((a.getD k default) : Change) = (b.getD k default))))) rfl (fun _ _ => x_neq_agg rfl rfl Ty.eg27 (Ty.eq27 9998 (a.getD k default) (b.getD k default))) ?_
   refine JA_done (by kernel_rfl) (fun _ h => ⟨h, fun _ => h⟩) ?_
   refine JX_then ?_
   refine J_cond (!(decide (((a.getD k default) : Change) = (b.getD k default)))) rfl rfl (fun h3 => ?_) (fun h3 => ?_)
   ·have h3w := h3
    have h3 : (decide (((a.getD k default) : Change) = (b.getD k default))) = false := bnot_true h3
    have h3 := of_decide_eq_false h3
    refine J_seq (J_region ?_)
    refine jr_ (vB false) ?_
    refine JO_nil (JX_then (J_ret (JX_block_ret (JX_then_ret (JX_round_ret ?_)))))
    refine JX_block_ret (JX_then_ret ?_)
    refine JX_rets [vB false] (vB false) Try.results12 (fun w h => ⟨rfl, trivial⟩) rfl [] (fun _ h => h) ⟨?_, ?_⟩
    ·have e_x0 : (false : Bool) = (decide (a = b)) := by first | exact (decide_eq_false (fun hh => by subst hh; simp_all)).symm | exact R27.same_lists (by assumption) (by assumption) i1_2 | exact R27.same_lists (by omega) (by assumption) i1_2
     exact congrArg (fun (x0 : Bool) => vB x0) e_x0
    ·rfl
   ·have h3w := h3
    have h3 : (decide (((a.getD k default) : Change) = (b.getD k default))) = true := bnot_false h3
    have h3 := of_decide_eq_true h3
    refine J_skip (JX_block (JX_then (J_region ?_)))
    refine jr_ (vI ((k : Nat) : Int)) ?_
    refine js_ (vI ((k + 1 : Nat) : Int)) (x_add_n (a := k) (b := 1) rfl rfl (by omega)) ?_
    refine jr_ (vI ((k + 1 : Nat) : Int)) ?_
    refine JO_nil ?_
    refine JX_round (k + 1 : Nat) ?_ ?_ ⟨rfl, rfl, rfl, trivial⟩ (fun _ h => h)
    ·show ((k + 1) ≤ a.length) ∧ (a.length = b.length) ∧ (∀ i, i < (k + 1) → a.getD i default = b.getD i default)
     refine ⟨?_, ?_, ?_⟩
     ·first | rfl | omega | (simp_all; done) | (simp_all; omega)
     ·first | rfl | omega | (simp_all; done) | (simp_all; omega)
     ·intro i hi; by_cases hik : i = k
      ·subst hik; first | assumption | exact Decidable.not_not.1 (by assumption) | simp_all
      ·exact i1_2 i (by omega)
    ·show a.length - (k + 1) < a.length - k
     first | omega | (simp; omega) | (simp_all; omega)
  ·have h2w := h2
   have h2 := of_decide_eq_false h2
   refine J_exit (JX_then_exit (JX_round_exit (JX_block_hit (JX_then (J_seq ?_)))))
   refine J_region ?_
   refine jr_ (vB true) ?_
   refine JO_nil (JX_then (J_ret ?_))
   refine JX_rets [vB true] (vB true) Try.results12 (fun w h => ⟨rfl, trivial⟩) rfl [] (fun _ h => h) ⟨?_, ?_⟩
   ·have e_x0 : (true : Bool) = (decide (a = b)) := by first | exact (decide_eq_false (fun hh => by subst hh; simp_all)).symm | exact R27.same_lists (by assumption) (by assumption) i1_2 | exact R27.same_lists (by omega) (by assumption) i1_2
    exact congrArg (fun (x0 : Bool) => vB x0) e_x0
   ·rfl
end Go.Proofs.Ytmbinhhlfbgiaaa
