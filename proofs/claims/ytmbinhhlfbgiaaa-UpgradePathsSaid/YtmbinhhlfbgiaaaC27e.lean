/- contracts C27e -/
import Derived.Test.YtmbinhhlfbgiaaaC27d
import Derived.Test.YtmbinhhlfbgiaaaGvW
namespace Go.Proofs.Ytmbinhhlfbgiaaa
open Go.GV
set_option linter.unusedVariables false
set_option linter.unusedSimpArgs false
set_option maxRecDepth 20000 in
theorem f28_ok (a : DataSet) (r : Bytes) (t : Bool) (w : World) : Calls Try.prog 28 #[Value.agg ((DataSet.enc a)).toArray, vS r, vB t] w (Gives [] w fun v L => v = Value.agg #[vS ((R27.sideV a r t).key), vB ((R27.sideV a r t).has)] ∧ L = []) := by
 refine calls_J [] 24 Try.func28 rfl Try.ntmps28 [(0, Value.agg ((DataSet.enc a)).toArray), (1, vS r), (2, vB t)] rfl rfl (Give.nil w) ?_
 refine J_seq (J_region ?_)
 refine JO_op rfl trivial (O_box rfl rfl fun b1 => ?_)
 refine JO_op rfl trivial (O_alloc Ty.ze78 rfl fun b2 => ?_)
 refine JO_nil (JX_then (J_seq (J_region ?_)))
 refine JO_read (Value.agg ((DataSet.enc a)).toArray) rfl trivial (x_loadN 1 (DataSet.enc a) rfl rfl Ty.ag24 Ty.sz24 rfl) ?_
 refine jr_ (vS r) ?_
 refine JO_call [] [] [Ent.blk b2 78 [vS [], vB false], Ent.blk b1 24 (DataSet.enc a)] rfl trivial (fun _ => x_call Ty.ca48 rfl) (fun _ h => h) (fun _ h => by cases h) (fun w hS => f48_ok a r w) ?_
 rintro _ _ ⟨rfl, rfl⟩
 refine jr_ (Value.tuple #[vS ((R26.key a r).1), vB ((R26.key a r).2)]) ?_
 refine jr_ (vS ((R26.key a r).1)) ?_
 refine jr_ (vB ((R26.key a r).2)) ?_
 refine jr_ (vS ((R26.key a r).1)) ?_
 refine jr_ (vB ((R26.key a r).2)) ?_
 refine JO_nil (JX_then (J_seq (J_seq (J_region ?_))))
 refine jr_ (vB ((R26.key a r).2)) ?_
 refine js_ (vB (!((R26.key a r).2))) (x_not rfl) ?_
 refine jr_ (vB (!((R26.key a r).2))) ?_
 refine JO_cut 3 (fun z => z = ((!((R26.key a r).2)) || (!t))) (fun z => [(6, Value.pointer (some ⟨b2, 0, none⟩)), (7, vS ((R26.key a r).1)), (20, vB z)]) (fun _ => [Ent.blk b2 78 [vS [], vB false], Ent.blk b1 24 (DataSet.enc a)]) ?_ ?_
 ·rcases Bool.eq_false_or_eq_true (!((R26.key a r).2)) with g4 | g4
  ·have g4r := g4
   have g4r : ((R26.key a r).2) = false := bnot_true g4r
   refine sh_ g4 ?_
   refine sh_ g4 ?_
   refine js_ (vB true) (x_pick_t rfl g4 rfl) ?_
   refine JO_nil (JX_cut (true) (by rw [g4]; simp) ⟨rfl, rfl, rfl, trivial⟩ (fun _ h => h))
  ·have g4r := g4
   have g4r : ((R26.key a r).2) = true := bnot_false g4r
   have hi5 := R26.key_facts g4r
   refine jg_ g4 (vB t) (rfl) ?_
   refine jg_ g4 (vB (!t)) (x_not rfl) ?_
   refine js_ (vB (!t)) (x_pick_f rfl g4 rfl) ?_
   refine JO_nil (JX_cut (!t) (by rw [g4]; simp) ⟨rfl, rfl, rfl, trivial⟩ (fun _ h => h))
 rintro z3 rfl
 refine JO_nil (JX_then ?_)
 refine J_cond ((!((R26.key a r).2)) || (!t)) rfl rfl (fun h6 => ?_) (fun h6 => ?_)
 ·have h6w := h6
  simp only [Bool.and_eq_true, Bool.or_eq_true, Bool.and_eq_false_iff, Bool.or_eq_false_iff, Bool.not_eq_true', Bool.not_eq_false', decide_eq_true_eq, decide_eq_false_iff_not] at h6
  refine J_seq (J_region ?_)
  refine js_ (Value.agg #[vS [], vB false]) (x_build (by kernel_rfl)) ?_
  refine JO_op rfl trivial (O_store 0 [vS [], vB false] [Ent.blk b2 78 [vS [], vB false], Ent.blk b1 24 (DataSet.enc a)] rfl rfl rfl Ty.sz78 rfl (Nat.le_of_ble_eq_true rfl) rfl rfl rfl ?_)
  refine JO_nil (JX_then (J_ret (JX_then_ret ?_)))
  first
   | have hd := R27.side_no (a := a) (r := r) (t := t) (by assumption)
   | have hd := R27.side_yes (a := a) (r := r) (t := t) (by assumption)
  refine JX_rets [Value.agg #[vS [], vB false]] (Value.agg #[vS [], vB false]) Try.results28 (fun w h => ⟨⟨_, rfl, load_blkN 0 [vS [], vB false] h rfl Ty.ag78 Ty.sz78 rfl⟩, trivial⟩) rfl [] (fun _ h => h.keep [false, false] rfl) ⟨?_, ?_⟩
  ·have e_x0 : ([] : Bytes) = ((R27.sideV a r t).key) := by rw [hd]
   have e_x1 : (false : Bool) = ((R27.sideV a r t).has) := by rw [hd]
   have e_all := (congr (congrArg (fun (x0 : Bytes) (x1 : Bool) => Value.agg #[vS x0, vB x1]) e_x0) e_x1)
   exact e_all
  ·rfl
 ·have h6w := h6
  have ⟨h6, h7⟩ := bor_false h6
  have h6 : ((R26.key a r).2) = true := bnot_false h6
  have hi8 := R26.key_facts h6
  have h7 : (t) = true := bnot_false h7
  refine J_skip (JX_then (J_seq (J_region ?_)))
  refine jr_ (vS ((R26.key a r).1)) ?_
  refine js_ (Value.agg #[vS ((R26.key a r).1), vB true]) (x_build (by kernel_rfl)) ?_
  refine JO_op rfl trivial (O_store 0 [vS ((R26.key a r).1), vB true] [Ent.blk b2 78 [vS ((R26.key a r).1), vB true], Ent.blk b1 24 (DataSet.enc a)] rfl rfl rfl Ty.sz78 rfl (Nat.le_of_ble_eq_true rfl) rfl rfl rfl ?_)
  refine JO_nil (JX_then (J_ret ?_))
  first
   | have hd := R27.side_no (a := a) (r := r) (t := t) (by assumption)
   | have hd := R27.side_yes (a := a) (r := r) (t := t) (by assumption)
  refine JX_rets [Value.agg #[vS ((R26.key a r).1), vB true]] (Value.agg #[vS ((R26.key a r).1), vB true]) Try.results28 (fun w h => ⟨⟨_, rfl, load_blkN 0 [vS ((R26.key a r).1), vB true] h rfl Ty.ag78 Ty.sz78 rfl⟩, trivial⟩) rfl [] (fun _ h => h.keep [false, false] rfl) ⟨?_, ?_⟩
  ·have e_x0 : ((R26.key a r).1 : Bytes) = ((R27.sideV a r t).key) := by rw [hd]
   have e_x1 : (true : Bool) = ((R27.sideV a r t).has) := by rw [hd]
   have e_all := (congr (congrArg (fun (x0 : Bytes) (x1 : Bool) => Value.agg #[vS x0, vB x1]) e_x0) e_x1)
   exact e_all
  ·rfl
set_option maxRecDepth 20000 in
theorem f29_ok (ds : List Data) (dsA : Option Addr) (dsC : Nat) (a : DataSet) (k : Bytes) (base : Bytes) (w : World) (dsR : RO [] w dsA (ds.flatMap Data.enc)) (dsN : ∀ i : Nat, RO [] w (ds.getD i default).PairsA (((ds.getD i default).Pairs).flatMap Pair.enc)) (q0 : ds.length ≤ 1000) (q1 : ∀ i, (ds.getD i default).Pairs.length ≤ 1000) (q2 : k.length ≤ 1000) (q3 : base.length ≤ 1000) : Calls Try.prog 29 #[Value.iface 34 (Value.agg #[Value.slice dsA ds.length dsC, Value.pointer none]), Value.agg ((DataSet.enc a)).toArray, vS k, vS base] w (Gives [] w fun v L => v = vI (R27.dup (R27.ofD ds a.Id).Pairs k base) ∧ L = []) := by
 refine calls_J [] 47 Try.func29 rfl Try.ntmps29 [(0, Value.iface 34 (Value.agg #[Value.slice dsA ds.length dsC, Value.pointer none])), (1, Value.agg ((DataSet.enc a)).toArray), (2, vS k), (3, vS base)] rfl rfl (Give.nil w) ?_
 refine J_seq (J_region ?_)
 refine JO_op rfl trivial (O_box rfl rfl fun b1 => ?_)
 refine jr_ (vI 0) ?_
 refine JO_nil (JX_then (J_seq (J_region ?_)))
 refine jr_ (vS k) ?_
 refine jr_ (vS k) ?_
 refine JO_nil (JX_then (J_block ?_))
 refine J_loop (X := Bytes × Nat) (fun (⟨cur, j⟩ : Bytes × Nat) => (j ≤ 1) ∧ (R27.DupAt (R27.ofD ds a.Id).Pairs k base j cur)) (fun (⟨cur, j⟩ : Bytes × Nat) => [(0, Value.iface 34 (Value.agg #[Value.slice dsA ds.length dsC, Value.pointer none])), (2, vS k), (3, vS base), (5, Value.pointer (some ⟨b1, 0, none⟩)), (9, vS cur)]) (fun (⟨cur, j⟩ : Bytes × Nat) => [Ent.blk b1 24 (DataSet.enc a)]) (fun (⟨cur, j⟩ : Bytes × Nat) => 1 - j) ((k, 0) : Bytes × Nat) ?_ ⟨rfl, rfl, rfl, rfl, rfl, trivial⟩ (fun _ h => h) ?_
 ·show (0 ≤ 1) ∧ (R27.DupAt (R27.ofD ds a.Id).Pairs k base 0 k)
  refine ⟨?_, ?_⟩
  ·first | rfl | omega | (simp_all; done) | (simp_all; omega)
  ·exact .inl ⟨rfl, rfl⟩
 rintro ⟨cur, j⟩ hI1
 obtain ⟨i1_0, i1_1⟩ : (j ≤ 1) ∧ (R27.DupAt (R27.ofD ds a.Id).Pairs k base j cur) := hI1
 refine J_weaken (E' := [(0, Value.iface 34 (Value.agg #[Value.slice dsA ds.length dsC, Value.pointer none])), (2, vS k), (3, vS base), (5, Value.pointer (some ⟨b1, 0, none⟩)), (9, vS cur)]) (L' := [Ent.blk b1 24 (DataSet.enc a)]) ⟨rfl, rfl, rfl, rfl, rfl, trivial⟩ (fun _ h => h) ?_
 refine J_block (J_seq (J_region ?_))
 refine jr_ (Value.iface 34 (Value.agg #[Value.slice dsA ds.length dsC, Value.pointer none])) ?_
 refine js_ (Value.pointer (some ⟨b1, 0, none⟩)) (x_fieldAddr Ty.fi24_0 rfl rfl) ?_
 refine JO_read (vI a.Id) rfl trivial (x_load 0 rfl rfl Ty.sc3 rfl) ?_
 refine jr_ (vS cur) ?_
 refine JO_call [] [] [Ent.blk b1 24 (DataSet.enc a)] rfl trivial (fun _ => x_invoke rfl Ty.mt54 Ty.ca54 Ty.mtd rfl) (fun _ h => h) (fun _ h => by cases h) (fun w hS => f54_ok ds dsA dsC a.Id cur w (dsR.on hS (fun _ h => by cases h)) (fun i => (dsN i).on hS (fun _ h => by cases h)) hy_ hy_) ?_
 rintro _ _ ⟨rfl, rfl⟩
 have ha2 := R27.next_err (R27.ofD ds a.Id).Pairs cur
 refine jr_ (Value.tuple #[vS ((R27.nextR (R27.ofD ds a.Id).Pairs cur).1), vS ((R27.nextR (R27.ofD ds a.Id).Pairs cur).2.1), vI ((R27.nextR (R27.ofD ds a.Id).Pairs cur).2.2)]) ?_
 refine jr_ (vS ((R27.nextR (R27.ofD ds a.Id).Pairs cur).1)) ?_
 refine jr_ (vS ((R27.nextR (R27.ofD ds a.Id).Pairs cur).2.1)) ?_
 refine jr_ (vI ((R27.nextR (R27.ofD ds a.Id).Pairs cur).2.2)) ?_
 refine jr_ (vS ((R27.nextR (R27.ofD ds a.Id).Pairs cur).1)) ?_
 refine jr_ (vS ((R27.nextR (R27.ofD ds a.Id).Pairs cur).2.1)) ?_
 refine jr_ (vI ((R27.nextR (R27.ofD ds a.Id).Pairs cur).2.2)) ?_
 refine JO_nil (JX_then (J_seq (J_block (J_seq (J_region ?_)))))
 refine jr_ (vI ((R27.nextR (R27.ofD ds a.Id).Pairs cur).2.2)) ?_
 refine js_ (vB (decide ((R27.nextR (R27.ofD ds a.Id).Pairs cur).2.2 = 6))) (x_eql_i rfl rfl) ?_
 refine jr_ (vB (decide ((R27.nextR (R27.ofD ds a.Id).Pairs cur).2.2 = 6))) ?_
 refine JO_nil (JX_then ?_)
 refine J_cond (decide ((R27.nextR (R27.ofD ds a.Id).Pairs cur).2.2 = 6)) rfl rfl (fun h3 => ?_) (fun h3 => ?_)
 ·have h3w := h3
  have h3 := of_decide_eq_true h3
  refine J_seq (J_region ?_)
  refine jr_ (vI 0) ?_
  refine JO_nil (JX_then (J_ret (JX_block_ret (JX_then_ret (JX_block_ret ?_)))))
  refine JX_round_ret (JX_block_ret ?_)
  refine JX_rets [vI 0] (vI 0) Try.results29 (fun w h => ⟨rfl, trivial⟩) rfl [] (fun _ h => h.keep [false] rfl) ⟨?_, ?_⟩
  ·have e_x0 : (0 : Int) = (R27.dup (R27.ofD ds a.Id).Pairs k base) := by first | exact R27.dup_nf i1_1 (by assumption) | exact R27.dup_er (by assumption) (by assumption) | exact R27.dup_stopA i1_1 (by assumption) (by assumption) | exact R27.dup_stopB i1_1 (by assumption) (by assumption) | exact R27.dup_two i1_1 (by assumption) (by first | exact R27.begA (by assumption) | exact R27.begB (by assumption)) (by assumption)
   exact congrArg (fun (x0 : Int) => vI x0) e_x0
  ·rfl
 ·have h3w := h3
  have h3 := of_decide_eq_false h3
  refine J_seq (J_region ?_)
  refine jr_ (vI ((R27.nextR (R27.ofD ds a.Id).Pairs cur).2.2)) ?_
  refine js_ (vB (decide ((R27.nextR (R27.ofD ds a.Id).Pairs cur).2.2 ≠ 0))) (x_neq_i rfl rfl) ?_
  refine jr_ (vB (decide ((R27.nextR (R27.ofD ds a.Id).Pairs cur).2.2 ≠ 0))) ?_
  refine JO_nil (JX_then ?_)
  refine J_cond (decide ((R27.nextR (R27.ofD ds a.Id).Pairs cur).2.2 ≠ 0)) rfl rfl (fun h4 => ?_) (fun h4 => ?_)
  ·have h4w := h4
   have h4 := of_decide_eq_true h4
   refine J_seq (J_region ?_)
   refine jr_ (vI ((R27.nextR (R27.ofD ds a.Id).Pairs cur).2.2)) ?_
   refine jr_ (vI ((R27.nextR (R27.ofD ds a.Id).Pairs cur).2.2)) ?_
   refine JO_nil (JX_then (J_ret (JX_block_ret (JX_then_ret (JX_block_ret ?_)))))
   refine JX_round_ret (JX_block_ret ?_)
   refine JX_rets [vI ((R27.nextR (R27.ofD ds a.Id).Pairs cur).2.2)] (vI ((R27.nextR (R27.ofD ds a.Id).Pairs cur).2.2)) Try.results29 (fun w h => ⟨rfl, trivial⟩) rfl [] (fun _ h => h.keep [false] rfl) ⟨?_, ?_⟩
   ·have e_x0 : ((R27.nextR (R27.ofD ds a.Id).Pairs cur).2.2 : Int) = (R27.dup (R27.ofD ds a.Id).Pairs k base) := by first | exact R27.dup_nf i1_1 (by assumption) | exact R27.dup_er (by assumption) (by assumption) | exact R27.dup_stopA i1_1 (by assumption) (by assumption) | exact R27.dup_stopB i1_1 (by assumption) (by assumption) | exact R27.dup_two i1_1 (by assumption) (by first | exact R27.begA (by assumption) | exact R27.begB (by assumption)) (by assumption)
    exact congrArg (fun (x0 : Int) => vI x0) e_x0
   ·rfl
  ·have h4w := h4
   have h4 := of_decide_eq_false h4
   refine J_seq (J_region ?_)
   refine jr_ (vS ((R27.nextR (R27.ofD ds a.Id).Pairs cur).1)) ?_
   refine jr_ (vS cur) ?_
   refine js_ (vB ((Op.bytesLess ((R27.nextR (R27.ofD ds a.Id).Pairs cur).1) cur) || (decide ((R27.nextR (R27.ofD ds a.Id).Pairs cur).1 = cur)))) (x_leq_s rfl rfl) ?_
   refine jr_ (vB ((Op.bytesLess ((R27.nextR (R27.ofD ds a.Id).Pairs cur).1) cur) || (decide ((R27.nextR (R27.ofD ds a.Id).Pairs cur).1 = cur)))) ?_
   refine JO_cut 5 (fun z => z = (((Op.bytesLess ((R27.nextR (R27.ofD ds a.Id).Pairs cur).1) cur) || (decide ((R27.nextR (R27.ofD ds a.Id).Pairs cur).1 = cur))) || (!(R27.begins ((R27.nextR (R27.ofD ds a.Id).Pairs cur).1) k)))) (fun z => [(0, Value.iface 34 (Value.agg #[Value.slice dsA ds.length dsC, Value.pointer none])), (2, vS k), (3, vS base), (5, Value.pointer (some ⟨b1, 0, none⟩)), (9, vS cur), (10, vS ((R27.nextR (R27.ofD ds a.Id).Pairs cur).1)), (39, vB z)]) (fun _ => [Ent.blk b1 24 (DataSet.enc a)]) ?_ ?_
   ·rcases Bool.eq_false_or_eq_true ((Op.bytesLess ((R27.nextR (R27.ofD ds a.Id).Pairs cur).1) cur) || (decide ((R27.nextR (R27.ofD ds a.Id).Pairs cur).1 = cur))) with g6 | g6
    ·have g6r := g6
     simp only [Bool.and_eq_true, Bool.or_eq_true, Bool.and_eq_false_iff, Bool.or_eq_false_iff, Bool.not_eq_true', Bool.not_eq_false', decide_eq_true_eq, decide_eq_false_iff_not] at g6r
     refine sh_ g6 ?_
     refine sh_ g6 ?_
     refine sh_ g6 ?_
     refine sh_ g6 ?_
     refine js_ (vB true) (x_pick_t rfl g6 rfl) ?_
     refine JO_nil (JX_cut (true) (by rw [g6]; simp) ⟨rfl, rfl, rfl, rfl, rfl, rfl, rfl, trivial⟩ (fun _ h => h))
    ·have g6r := g6
     have ⟨g6r, h7⟩ := bor_false g6r
     have h7 := of_decide_eq_false h7
     refine jg_ g6 (vS ((R27.nextR (R27.ofD ds a.Id).Pairs cur).1)) (rfl) ?_
     refine jg_ g6 (vS k) (rfl) ?_
     refine JO_call [] [] [Ent.blk b1 24 (DataSet.enc a)] rfl ⟨_, rfl, g6⟩ (fun _ => x_call Ty.ca37 rfl) (fun _ h => h) (fun _ h => by cases h) (fun w hS => f37_ok ((R27.nextR (R27.ofD ds a.Id).Pairs cur).1) k w) ?_
     rintro _ _ ⟨rfl, rfl⟩
     refine jg_ g6 (vB (!(R27.begins ((R27.nextR (R27.ofD ds a.Id).Pairs cur).1) k))) (x_not rfl) ?_
     refine js_ (vB (!(R27.begins ((R27.nextR (R27.ofD ds a.Id).Pairs cur).1) k))) (x_pick_f rfl g6 rfl) ?_
     refine JO_nil (JX_cut (!(R27.begins ((R27.nextR (R27.ofD ds a.Id).Pairs cur).1) k)) (by rw [g6]; simp) ⟨rfl, rfl, rfl, rfl, rfl, rfl, rfl, trivial⟩ (fun _ h => h))
   rintro z5 rfl
   refine jr_ (vB (((Op.bytesLess ((R27.nextR (R27.ofD ds a.Id).Pairs cur).1) cur) || (decide ((R27.nextR (R27.ofD ds a.Id).Pairs cur).1 = cur))) || (!(R27.begins ((R27.nextR (R27.ofD ds a.Id).Pairs cur).1) k)))) ?_
   refine JO_nil (JX_then ?_)
   refine J_cond (((Op.bytesLess ((R27.nextR (R27.ofD ds a.Id).Pairs cur).1) cur) || (decide ((R27.nextR (R27.ofD ds a.Id).Pairs cur).1 = cur))) || (!(R27.begins ((R27.nextR (R27.ofD ds a.Id).Pairs cur).1) k))) rfl rfl (fun h8 => ?_) (fun h8 => ?_)
   ·have h8w := h8
    simp only [Bool.and_eq_true, Bool.or_eq_true, Bool.and_eq_false_iff, Bool.or_eq_false_iff, Bool.not_eq_true', Bool.not_eq_false', decide_eq_true_eq, decide_eq_false_iff_not] at h8
    refine J_seq (J_region ?_)
    refine jr_ (vI 0) ?_
    refine JO_nil (JX_then (J_ret (JX_block_ret (JX_then_ret (JX_block_ret ?_)))))
    refine JX_round_ret (JX_block_ret ?_)
    refine JX_rets [vI 0] (vI 0) Try.results29 (fun w h => ⟨rfl, trivial⟩) rfl [] (fun _ h => h.keep [false] rfl) ⟨?_, ?_⟩
    ·have e_x0 : (0 : Int) = (R27.dup (R27.ofD ds a.Id).Pairs k base) := by first | exact R27.dup_nf i1_1 (by assumption) | exact R27.dup_er (by assumption) (by assumption) | exact R27.dup_stopA i1_1 (by assumption) (by assumption) | exact R27.dup_stopB i1_1 (by assumption) (by assumption) | exact R27.dup_two i1_1 (by assumption) (by first | exact R27.begA (by assumption) | exact R27.begB (by assumption)) (by assumption)
     exact congrArg (fun (x0 : Int) => vI x0) e_x0
    ·rfl
   ·have h8w := h8
    have ⟨h8, h9⟩ := bor_false h8
    have ⟨h8, h10⟩ := bor_false h8
    have h10 := of_decide_eq_false h10
    have h9 : (R27.begins ((R27.nextR (R27.ofD ds a.Id).Pairs cur).1) k) = true := bnot_false h9
    have hi11 := R27.begins_len h9
    refine J_seq (J_region ?_)
    refine jr_ (vS ((R27.nextR (R27.ofD ds a.Id).Pairs cur).1)) ?_
    refine jr_ (vS k) ?_
    refine jr_ (vS base) ?_
    refine js_ (vS (k ++ base)) (x_cat_s rfl rfl (by first | omega | (simp only [List.length_append, List.length_cons, List.length_nil]; omega) | (simp; omega) | (simp_all; omega))) ?_
    refine js_ (vB (decide ((R27.nextR (R27.ofD ds a.Id).Pairs cur).1 ≠ k ++ base))) (x_neq_s rfl rfl) ?_
    refine jr_ (vB (decide ((R27.nextR (R27.ofD ds a.Id).Pairs cur).1 ≠ k ++ base))) ?_
    refine JO_nil (JX_then ?_)
    refine J_cond (decide ((R27.nextR (R27.ofD ds a.Id).Pairs cur).1 ≠ k ++ base)) rfl rfl (fun h12 => ?_) (fun h12 => ?_)
    ·have h12w := h12
     have h12 := of_decide_eq_true h12
     refine J_seq (J_region ?_)
     refine jr_ (vI 19) ?_
     refine JO_nil (JX_then (J_ret (JX_block_ret (JX_then_ret (JX_block_ret ?_)))))
     refine JX_round_ret (JX_block_ret ?_)
     refine JX_rets [vI 19] (vI 19) Try.results29 (fun w h => ⟨rfl, trivial⟩) rfl [] (fun _ h => h.keep [false] rfl) ⟨?_, ?_⟩
     ·have e_x0 : (19 : Int) = (R27.dup (R27.ofD ds a.Id).Pairs k base) := by first | exact R27.dup_nf i1_1 (by assumption) | exact R27.dup_er (by assumption) (by assumption) | exact R27.dup_stopA i1_1 (by assumption) (by assumption) | exact R27.dup_stopB i1_1 (by assumption) (by assumption) | exact R27.dup_two i1_1 (by assumption) (by first | exact R27.begA (by assumption) | exact R27.begB (by assumption)) (by assumption)
      exact congrArg (fun (x0 : Int) => vI x0) e_x0
     ·rfl
    ·have h12w := h12
     have h12 := of_decide_eq_false h12
     refine J_skip (JX_block (JX_then (J_region ?_)))
     refine jr_ (vS ((R27.nextR (R27.ofD ds a.Id).Pairs cur).1)) ?_
     refine jr_ (vS ((R27.nextR (R27.ofD ds a.Id).Pairs cur).1)) ?_
     refine JO_nil (JX_block ?_)
     refine JX_round (((R27.nextR (R27.ofD ds a.Id).Pairs cur).1, 1) : Bytes × Nat) ?_ ?_ ⟨rfl, rfl, rfl, rfl, rfl, trivial⟩ (fun _ h => h)
     ·show (1 ≤ 1) ∧ (R27.DupAt (R27.ofD ds a.Id).Pairs k base 1 ((R27.nextR (R27.ofD ds a.Id).Pairs cur).1))
      refine ⟨?_, ?_⟩
      ·first | rfl | omega | (simp_all; done) | (simp_all; omega)
      ·exact (R27.dup_next i1_1 (by assumption) (by first | exact R27.begA (by assumption) | exact R27.begB (by assumption)) (by assumption)).1
     ·show 1 - 1 < 1 - j
      have hj := (R27.dup_next i1_1 (by assumption) (by first | exact R27.begA (by assumption) | exact R27.begB (by assumption)) (by assumption)).2; omega
set_option maxRecDepth 20000 in
theorem f26_ok (a : DataSet) (o : Nat) (xs : List Change) (xsA : Option Addr) (xsC : Nat) (xsN : Nat) (w : World) (xsQ : xsN = xs.length) (q0 : xs.length ≤ 1000) (hg : Give (Lown [Ent.blk o 31 [Value.slice xsA xsN xsC], Ent.row (.slice xsA xsN xsC) 27 5 xsN (xs.flatMap Change.enc)]) w [Ent.blk o 31 [Value.slice xsA xsN xsC], Ent.row (.slice xsA xsN xsC) 27 5 xsN (xs.flatMap Change.enc)]) : Calls Try.prog 26 #[Value.agg ((DataSet.enc a)).toArray, Value.pointer (some ⟨o, 0, none⟩)] w (Gives (Lown [Ent.blk o 31 [Value.slice xsA xsN xsC], Ent.row (.slice xsA xsN xsC) 27 5 xsN (xs.flatMap Change.enc)]) w fun v L => ∃ A2 : Option Addr, ∃ c2 : Nat, v = vI 0 ∧ L = [Ent.blk o 31 [Value.slice A2 ((xs ++ [(Change.mk 3 a.Id [] [] [])]).length) c2], Ent.row (.slice A2 (xs ++ [(Change.mk 3 a.Id [] [] [])]).length c2) 27 5 (xs ++ [(Change.mk 3 a.Id [] [] [])]).length ((xs ++ [(Change.mk 3 a.Id [] [] [])]).flatMap Change.enc)]) := by
 subst xsQ
 refine calls_J (Lown [Ent.blk o 31 [Value.slice xsA xs.length xsC], Ent.row (.slice xsA xs.length xsC) 27 5 xs.length (xs.flatMap Change.enc)]) 10 Try.func26 rfl Try.ntmps26 [(0, Value.agg ((DataSet.enc a)).toArray), (1, Value.pointer (some ⟨o, 0, none⟩))] rfl rfl hg ?_
 refine J_seq (J_region ?_)
 refine JO_op rfl trivial (O_box rfl rfl fun b1 => ?_)
 refine jr_ (vI 0) ?_
 refine JO_nil (JX_then (J_seq (J_region ?_)))
 refine JO_read (Value.slice xsA xs.length xsC) rfl trivial (x_load 1 rfl rfl Ty.sc31 rfl) ?_
 refine js_ (Value.pointer (some ⟨b1, 0, none⟩)) (x_fieldAddr Ty.fi24_0 rfl rfl) ?_
 refine JO_read (vI a.Id) rfl trivial (x_load 0 rfl rfl Ty.sc3 rfl) ?_
 refine js_ (Value.agg #[vI 3, vI a.Id, vS [], vS [], vS []]) (x_build (by kernel_rfl)) ?_
 refine JO_op rfl trivial (O_buildSlice (cs := [vI 3, vI a.Id, vS [], vS [], vS []]) Try.underlying31 Ty.sz27 Ty.ze27 (by decide) (by decide) (by kernel_rfl) fun b2 => ?_)
 refine JO_op rfl trivial (O_append_f 3 Change.enc 5 xs [(Change.mk 3 a.Id [] [] [])] Try.underlying31 Ty.sz27 Ty.by27 Ty.ze27 rfl (by decide) rfl rfl rfl rfl Change.enc_len Change.enc_one (cells_blk 0 (off := 0) (m := 5) rfl rfl) lt_ lt_ fun A3 c4 => ?_)
 refine JO_op rfl trivial (O_store 2 [Value.slice A3 ((xs ++ [(Change.mk 3 a.Id [] [] [])]).length) c4] [Ent.blk b2 27 [vI 3, vI a.Id, vS [], vS [], vS []], Ent.blk b1 24 (DataSet.enc a), Ent.blk o 31 [Value.slice A3 ((xs ++ [(Change.mk 3 a.Id [] [] [])]).length) c4], Ent.row (.slice A3 (xs ++ [(Change.mk 3 a.Id [] [] [])]).length c4) 27 5 (xs ++ [(Change.mk 3 a.Id [] [] [])]).length ((xs ++ [(Change.mk 3 a.Id [] [] [])]).flatMap Change.enc)] rfl rfl rfl Ty.sz31 rfl (Nat.le_of_ble_eq_true rfl) rfl rfl rfl ?_)
 refine JO_nil (JX_then (J_seq (J_region ?_)))
 refine jr_ (vI 0) ?_
 refine JO_nil (JX_then (J_ret ?_))
 refine JX_rets [vI 0] (vI 0) Try.results26 (fun w h => ⟨rfl, trivial⟩) rfl [Ent.blk o 31 [Value.slice A3 ((xs ++ [(Change.mk 3 a.Id [] [] [])]).length) c4], Ent.row (.slice A3 (xs ++ [(Change.mk 3 a.Id [] [] [])]).length c4) 27 5 (xs ++ [(Change.mk 3 a.Id [] [] [])]).length ((xs ++ [(Change.mk 3 a.Id [] [] [])]).flatMap Change.enc)] (fun _ h => h.keep [false, false, true, true] rfl) ⟨A3, c4, ?_, ?_⟩
 ·rfl
 ·rfl
set_option maxRecDepth 20000 in
theorem f25_okA (alts : List DataSet) (altsA : Option Addr) (altsC : Nat) (al : Nat) (o : Nat) (xs : List Change) (xsA : Option Addr) (xsC : Nat) (xsN : Nat) (w : World) (altsR : RO (Lown [Ent.blk al 25 [Value.slice altsA alts.length altsC], Ent.blk o 31 [Value.slice xsA xsN xsC], Ent.row (.slice xsA xsN xsC) 27 5 xsN (xs.flatMap Change.enc)]) w altsA (alts.flatMap DataSet.enc)) (xsQ : xsN = xs.length) (q0 : xs.length ≤ 100) (q1 : alts.length ≤ 100) (hg : Give (Lown [Ent.blk al 25 [Value.slice altsA alts.length altsC], Ent.blk o 31 [Value.slice xsA xsN xsC], Ent.row (.slice xsA xsN xsC) 27 5 xsN (xs.flatMap Change.enc)]) w [Ent.blk al 25 [Value.slice altsA alts.length altsC], Ent.blk o 31 [Value.slice xsA xsN xsC], Ent.row (.slice xsA xsN xsC) 27 5 xsN (xs.flatMap Change.enc)]) : Calls Try.prog 25 #[Value.func (.func 26) #[] #[Value.pointer (some ⟨o, 0, none⟩)], Value.pointer (some ⟨al, 0, none⟩)] w (Gives (Lown [Ent.blk al 25 [Value.slice altsA alts.length altsC], Ent.blk o 31 [Value.slice xsA xsN xsC], Ent.row (.slice xsA xsN xsC) 27 5 xsN (xs.flatMap Change.enc)]) w fun v L => ∃ A2 : Option Addr, ∃ c2 : Nat, v = vI 0 ∧ L = [Ent.blk al 25 [Value.slice altsA alts.length altsC], Ent.blk o 31 [Value.slice A2 ((xs ++ (alts.map fun a => Change.mk 3 a.Id [] [] [])).length) c2], Ent.row (.slice A2 (xs ++ (alts.map fun a => Change.mk 3 a.Id [] [] [])).length c2) 27 5 (xs ++ (alts.map fun a => Change.mk 3 a.Id [] [] [])).length ((xs ++ (alts.map fun a => Change.mk 3 a.Id [] [] [])).flatMap Change.enc)]) := by
 subst xsQ
 refine calls_J (Lown [Ent.blk al 25 [Value.slice altsA alts.length altsC], Ent.blk o 31 [Value.slice xsA xs.length xsC], Ent.row (.slice xsA xs.length xsC) 27 5 xs.length (xs.flatMap Change.enc)]) 20 Try.func25 rfl Try.ntmps25 [(0, Value.func (.func 26) #[] #[Value.pointer (some ⟨o, 0, none⟩)]), (1, Value.pointer (some ⟨al, 0, none⟩))] rfl rfl hg ?_
 refine J_seq (J_region ?_)
 refine jr_ (vI 0) ?_
 refine JO_nil (JX_then (J_seq (J_seq (J_region ?_))))
 refine JO_read (Value.slice altsA alts.length altsC) rfl trivial (x_load 0 rfl rfl Ty.sc25 rfl) ?_
 refine js_ (vI ((alts.length : Nat) : Int)) (x_len_sl Try.underlying25 rfl) ?_
 refine jr_ (vI 0) ?_
 refine JO_nil (JX_then (J_block ?_))
 refine J_loop (X := Nat × (List Change) × (Option Addr) × Nat) (fun (⟨k, xs2, xs2A, xs2C⟩ : Nat × (List Change) × (Option Addr) × Nat) => (k ≤ alts.length) ∧ (xs2 = xs ++ ((alts.take k).map fun a => Change.mk 3 a.Id [] [] [])) ∧ (xs2.length ≤ xs.length + k)) (fun (⟨k, xs2, xs2A, xs2C⟩ : Nat × (List Change) × (Option Addr) × Nat) => [(0, Value.func (.func 26) #[] #[Value.pointer (some ⟨o, 0, none⟩)]), (7, Value.slice altsA alts.length altsC), (8, vI ((alts.length : Nat) : Int)), (9, vI ((k : Nat) : Int))]) (fun (⟨k, xs2, xs2A, xs2C⟩ : Nat × (List Change) × (Option Addr) × Nat) => [Ent.blk al 25 [Value.slice altsA alts.length altsC], Ent.blk o 31 [Value.slice xs2A xs2.length xs2C], Ent.row (.slice xs2A xs2.length xs2C) 27 5 xs2.length (xs2.flatMap Change.enc)]) (fun (⟨k, xs2, xs2A, xs2C⟩ : Nat × (List Change) × (Option Addr) × Nat) => alts.length - k) ((0, xs, xsA, xsC) : Nat × (List Change) × (Option Addr) × Nat) ?_ ⟨rfl, rfl, rfl, rfl, trivial⟩ (fun _ h => h) ?_
 ·show (0 ≤ alts.length) ∧ (xs = xs ++ ((alts.take 0).map fun a => Change.mk 3 a.Id [] [] [])) ∧ (xs.length ≤ xs.length + 0)
  refine ⟨?_, ?_, ?_⟩
  ·first | rfl | omega | (simp_all; done) | (simp_all; omega)
  ·simp
  ·exact Nat.le_refl _
 rintro ⟨k, xs2, xs2A, xs2C⟩ hI1
 obtain ⟨i1_0, i1_1, i1_2⟩ : (k ≤ alts.length) ∧ (xs2 = xs ++ ((alts.take k).map fun a => Change.mk 3 a.Id [] [] [])) ∧ (xs2.length ≤ xs.length + k) := hI1
 refine J_weaken (E' := [(0, Value.func (.func 26) #[] #[Value.pointer (some ⟨o, 0, none⟩)]), (7, Value.slice altsA alts.length altsC), (8, vI ((alts.length : Nat) : Int)), (9, vI ((k : Nat) : Int))]) (L' := [Ent.blk al 25 [Value.slice altsA alts.length altsC], Ent.blk o 31 [Value.slice xs2A xs2.length xs2C], Ent.row (.slice xs2A xs2.length xs2C) 27 5 xs2.length (xs2.flatMap Change.enc)]) ⟨rfl, rfl, rfl, rfl, trivial⟩ (fun _ h => h) ?_
 refine J_seq (J_region ?_)
 refine js_ (vB (decide (((k : Nat) : Int) < ((alts.length : Nat) : Int)))) (x_lss_i rfl rfl) ?_
 refine JO_nil (JX_then (J_seq ?_))
 refine J_cond (decide (((k : Nat) : Int) < ((alts.length : Nat) : Int))) rfl rfl (fun h1 => ?_) (fun h1 => ?_)
 ·have h1 := of_decide_eq_true h1
  refine J_skip (JX_then (J_seq (J_block (J_seq (J_region ?_)))))
  refine JO_read (Value.pointer (some (adr altsA (k * 21)))) rfl trivial (x_indexAddr_at (k := k) (off := k * 21) (cells_ro altsR) Try.underlying25 Ty.sz24 rfl rfl lt_ (by rw [flat_length DataSet.enc 21 DataSet.enc_len]; first | omega | (simp; omega) | (simp_all; omega) | (simp_all; done)) rfl) ?_
  refine JO_read (Value.agg ((DataSet.enc (alts.getD k default))).toArray) rfl trivial (x_loadN_at (DataSet.enc (alts.getD k default)) (cells_ro altsR) rfl Ty.ag24 Ty.sz24 (flat_drop DataSet.enc 21 DataSet.enc_len alts default k lt_)) ?_
  refine JO_op rfl trivial (O_alloc Ty.ze24 rfl fun b2 => ?_)
  refine JO_op rfl trivial (O_storeS (vs := (DataSet.enc (alts.getD k default))) 0 (DataSet.enc (alts.getD k default)) [Ent.blk b2 24 (DataSet.enc (alts.getD k default)), Ent.blk al 25 [Value.slice altsA alts.length altsC], Ent.blk o 31 [Value.slice xs2A xs2.length xs2C], Ent.row (.slice xs2A xs2.length xs2C) 27 5 xs2.length (xs2.flatMap Change.enc)] rfl rfl rfl Ty.sz24 rfl (Nat.le_of_ble_eq_true rfl) rfl (st_all rfl) rfl ?_)
  refine JO_nil (JX_then (J_seq (J_region ?_)))
  refine jr_ (Value.func (.func 26) #[] #[Value.pointer (some ⟨o, 0, none⟩)]) ?_
  refine JO_read (Value.agg ((DataSet.enc (alts.getD k default))).toArray) rfl trivial (x_loadN 0 (DataSet.enc (alts.getD k default)) rfl rfl Ty.ag24 Ty.sz24 rfl) ?_
  refine JO_call (Lown [Ent.blk o 31 [Value.slice xs2A xs2.length xs2C], Ent.row (.slice xs2A xs2.length xs2C) 27 5 xs2.length (xs2.flatMap Change.enc)]) [Ent.blk o 31 [Value.slice xs2A xs2.length xs2C], Ent.row (.slice xs2A xs2.length xs2C) 27 5 xs2.length (xs2.flatMap Change.enc)] [Ent.blk b2 24 (DataSet.enc (alts.getD k default)), Ent.blk al 25 [Value.slice altsA alts.length altsC]] rfl trivial (fun _ => x_callv (first := []) (caps := [Value.pointer (some ⟨o, 0, none⟩)]) rfl Ty.ca26 rfl) (fun _ h => ((((h.front 1 _ rfl).front 1 _ rfl).front 3 _ rfl).front 3 _ rfl).keep [true, true, true, true] rfl) lown_mem (fun w hS => f26_ok (alts.getD k default) o xs2 xs2A xs2C xs2.length w hy_ hy_ (hS.give lown_in)) ?_
  rintro _ _ ⟨e3, e4, rfl, rfl⟩
  refine jr_ (vI 0) ?_
  refine JO_nil (JX_then (J_seq (J_region ?_)))
  refine jr_ (vI 0) ?_
  refine jr_ (vB false) ?_
  refine JO_nil (JX_then ?_)
  refine J_cond false rfl rfl (fun h => by cases h) (fun h => ?_)
  refine J_skip (JX_block (JX_then (J_region ?_)))
  refine js_ (vI ((k + 1 : Nat) : Int)) (x_add_n (a := k) (b := 1) rfl rfl (by omega)) ?_
  refine jr_ (vI ((k + 1 : Nat) : Int)) ?_
  refine JO_nil ?_
  refine JX_round ((k + 1, (xs2 ++ [(Change.mk 3 (alts.getD k default).Id [] [] [])]), e3, e4) : Nat × (List Change) × (Option Addr) × Nat) ?_ ?_ ⟨rfl, rfl, rfl, rfl, trivial⟩ (fun _ h => (((h.front 1 _ rfl).front 1 _ rfl).front 3 _ rfl).keep [true, true, true, false] rfl)
  ·show ((k + 1) ≤ alts.length) ∧ ((xs2 ++ [(Change.mk 3 (alts.getD k default).Id [] [] [])]) = xs ++ ((alts.take (k + 1)).map fun a => Change.mk 3 a.Id [] [] [])) ∧ ((xs2 ++ [(Change.mk 3 (alts.getD k default).Id [] [] [])]).length ≤ xs.length + (k + 1))
   refine ⟨?_, ?_, ?_⟩
   ·first | rfl | omega | (simp_all; done) | (simp_all; omega)
   ·rw [i1_1]; exact R27.emp_step (by omega)
   ·rw [List.length_append]; simp only [List.length_cons, List.length_nil]; omega
  ·show alts.length - (k + 1) < alts.length - k
   first | omega | (simp; omega) | (simp_all; omega)
 ·have h1 := of_decide_eq_false h1
  refine J_exit (JX_then_exit (JX_round_exit (JX_block_hit (JX_then (J_seq ?_)))))
  refine J_region ?_
  refine jr_ (vI 0) ?_
  refine JO_nil (JX_then (J_ret ?_))
  refine JX_rets [vI 0] (vI 0) Try.results25 (fun w h => ⟨rfl, trivial⟩) rfl [Ent.blk al 25 [Value.slice altsA alts.length altsC], Ent.blk o 31 [Value.slice xs2A xs2.length xs2C], Ent.row (.slice xs2A xs2.length xs2C) 27 5 xs2.length (xs2.flatMap Change.enc)] (fun _ h => h) ⟨xs2A, xs2C, ?_, ?_⟩
  ·rfl
  ·have e_y0 : (xs2 : List Change) = (xs ++ (alts.map fun a => Change.mk 3 a.Id [] [] [])) := by
    first | rfl | (rw [i1_1, List.take_of_length_le (by omega)])
   have e_all := (congrArg (fun (y0 : List Change) => [Ent.blk al 25 [Value.slice altsA alts.length altsC], Ent.blk o 31 [Value.slice xs2A y0.length xs2C], Ent.row (.slice xs2A y0.length xs2C) 27 5 y0.length (y0.flatMap Change.enc)]) e_y0)
   exact e_all
end Go.Proofs.Ytmbinhhlfbgiaaa
