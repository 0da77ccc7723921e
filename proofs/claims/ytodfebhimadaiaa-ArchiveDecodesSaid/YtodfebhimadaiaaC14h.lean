/- contracts C14h -/
import Derived.Test.YtodfebhimadaiaaC14g
namespace Go.Proofs.Ytodfebhimadaiaa
open Go.GV
set_option linter.unusedVariables false
set_option linter.unusedSimpArgs false
set_option maxRecDepth 20000 in
theorem f23_ok (d : DataSet) (n : Int) (ps : List Pair) (psA : Option Addr) (psC : Nat) (e : DataSet) (m : Int) (qs : List Pair) (qsA : Option Addr) (qsC : Nat) (w : World) (psR : RO [] w psA (ps.flatMap Pair.enc)) (qsR : RO [] w qsA (qs.flatMap Pair.enc)) (q0 : ps.length ≤ 9223372036854775807) (q1 : qs.length ≤ 9223372036854775807) : Calls Try.prog 23 #[Value.agg ((DataSet.enc d ++ [vI n, Value.slice psA ps.length psC])).toArray, Value.agg ((DataSet.enc e ++ [vI m, Value.slice qsA qs.length qsC])).toArray] w (Gives [] w fun v L => v = vB (R14.same d n ps e m qs) ∧ L = []) := by
  refine calls_J [] 45 Try.func23 rfl Try.ntmps23 [(0, Value.agg ((DataSet.enc d ++ [vI n, Value.slice psA ps.length psC])).toArray), (1, Value.agg ((DataSet.enc e ++ [vI m, Value.slice qsA qs.length qsC])).toArray)] rfl rfl (Give.nil w) ?_
  refine J_seq (J_region ?_)
  refine JO_op rfl trivial (O_box rfl rfl fun b1 => ?_)
  refine JO_op rfl trivial (O_box rfl rfl fun b2 => ?_)
  refine jr_ (vB false) ?_
  refine JO_nil (JX_then (J_seq (J_seq (J_region ?_))))
  refine JO_read (Value.pointer (some ⟨b1, 0, none⟩)) rfl trivial (fun _ _ => x_fieldAddr Ty.fi37_0 rfl rfl) ?_
  refine JO_read (Value.agg ((DataSet.enc d)).toArray) rfl trivial (x_loadN 1 (DataSet.enc d) rfl rfl Ty.ag34 Ty.sz34 rfl) ?_
  refine JO_read (Value.pointer (some ⟨b2, 0, none⟩)) rfl trivial (fun _ _ => x_fieldAddr Ty.fi37_0 rfl rfl) ?_
  refine JO_read (Value.agg ((DataSet.enc e)).toArray) rfl trivial (x_loadN 0 (DataSet.enc e) rfl rfl Ty.ag34 Ty.sz34 rfl) ?_
  refine JO_read (vB (!(decide ((d : DataSet) = e)))) rfl trivial (fun _ _ => x_neq_agg rfl rfl Ty.eg34 (Ty.eq34 9998 d e)) ?_
  refine jr_ (vB (!(decide ((d : DataSet) = e)))) ?_
  refine JO_cut (X := Bool) 6 (fun z => z = ((!(decide ((d : DataSet) = e))) || (decide (n ≠ m)))) (fun z => [(2, Value.pointer (some ⟨b1, 0, none⟩)), (3, Value.pointer (some ⟨b2, 0, none⟩)), (4, vB false), (17, vB z)]) (fun _ => [Ent.blk b2 37 (DataSet.enc e ++ [vI m, Value.slice qsA qs.length qsC]), Ent.blk b1 37 (DataSet.enc d ++ [vI n, Value.slice psA ps.length psC])]) ?_ ?_
  · rcases Bool.eq_false_or_eq_true (!(decide ((d : DataSet) = e))) with g4 | g4
    · have g4r := g4
      have g4r : (decide ((d : DataSet) = e)) = false := bnot_true g4r
      have g4r := of_decide_eq_false g4r
      refine JO_shun rfl ⟨_, rfl, g4⟩ ?_
      refine JO_shun rfl ⟨_, rfl, g4⟩ ?_
      refine JO_shun rfl ⟨_, rfl, g4⟩ ?_
      refine JO_shun rfl ⟨_, rfl, g4⟩ ?_
      refine JO_shun rfl ⟨_, rfl, g4⟩ ?_
      refine JO_read (vB true) rfl trivial (fun _ _ => x_pick_t rfl g4 rfl) ?_
      refine JO_nil (JX_cut (true) (by rw [g4]; simp) ⟨rfl, rfl, rfl, rfl, trivial⟩ (fun _ h => h))
    · have g4r := g4
      have g4r : (decide ((d : DataSet) = e)) = true := bnot_false g4r
      have g4r := of_decide_eq_true g4r
      refine JO_read (Value.pointer (some ⟨b1, 21, none⟩)) rfl ⟨_, rfl, g4⟩ (fun _ _ => x_fieldAddr Ty.fi37_1 rfl rfl) ?_
      refine JO_read (vI n) rfl ⟨_, rfl, g4⟩ (x_load 1 rfl rfl Ty.sc3 rfl) ?_
      refine JO_read (Value.pointer (some ⟨b2, 21, none⟩)) rfl ⟨_, rfl, g4⟩ (fun _ _ => x_fieldAddr Ty.fi37_1 rfl rfl) ?_
      refine JO_read (vI m) rfl ⟨_, rfl, g4⟩ (x_load 0 rfl rfl Ty.sc3 rfl) ?_
      refine JO_read (vB (decide (n ≠ m))) rfl ⟨_, rfl, g4⟩ (fun _ _ => x_neq_i rfl rfl) ?_
      refine JO_read (vB (decide (n ≠ m))) rfl trivial (fun _ _ => x_pick_f rfl g4 rfl) ?_
      refine JO_nil (JX_cut (decide (n ≠ m)) (by rw [g4]; simp) ⟨rfl, rfl, rfl, rfl, trivial⟩ (fun _ h => h))
  rintro z3 rfl
  refine jr_ (vB ((!(decide ((d : DataSet) = e))) || (decide (n ≠ m)))) ?_
  refine JO_cut (X := Bool) 8 (fun z => z = (((!(decide ((d : DataSet) = e))) || (decide (n ≠ m))) || (decide (((ps.length : Nat) : Int) ≠ ((qs.length : Nat) : Int))))) (fun z => [(2, Value.pointer (some ⟨b1, 0, none⟩)), (3, Value.pointer (some ⟨b2, 0, none⟩)), (4, vB false), (26, vB z)]) (fun _ => [Ent.blk b2 37 (DataSet.enc e ++ [vI m, Value.slice qsA qs.length qsC]), Ent.blk b1 37 (DataSet.enc d ++ [vI n, Value.slice psA ps.length psC])]) ?_ ?_
  · rcases Bool.eq_false_or_eq_true ((!(decide ((d : DataSet) = e))) || (decide (n ≠ m))) with g6 | g6
    · have g6r := g6
      simp only [Bool.and_eq_true, Bool.or_eq_true, Bool.and_eq_false_iff, Bool.or_eq_false_iff, Bool.not_eq_true', Bool.not_eq_false', decide_eq_true_eq, decide_eq_false_iff_not] at g6r
      refine JO_shun rfl ⟨_, rfl, g6⟩ ?_
      refine JO_shun rfl ⟨_, rfl, g6⟩ ?_
      refine JO_shun rfl ⟨_, rfl, g6⟩ ?_
      refine JO_shun rfl ⟨_, rfl, g6⟩ ?_
      refine JO_shun rfl ⟨_, rfl, g6⟩ ?_
      refine JO_shun rfl ⟨_, rfl, g6⟩ ?_
      refine JO_shun rfl ⟨_, rfl, g6⟩ ?_
      refine JO_read (vB true) rfl trivial (fun _ _ => x_pick_t rfl g6 rfl) ?_
      refine JO_nil (JX_cut (true) (by rw [g6]; simp) ⟨rfl, rfl, rfl, rfl, trivial⟩ (fun _ h => h))
    · have g6r := g6
      have ⟨g6r, h7⟩ := bor_false g6r
      have g6r : (decide ((d : DataSet) = e)) = true := bnot_false g6r
      have g6r := of_decide_eq_true g6r
      have h7 := of_decide_eq_false h7
      refine JO_read (Value.pointer (some ⟨b1, 22, none⟩)) rfl ⟨_, rfl, g6⟩ (fun _ _ => x_fieldAddr Ty.fi37_2 rfl rfl) ?_
      refine JO_read (Value.slice psA ps.length psC) rfl ⟨_, rfl, g6⟩ (x_load 1 rfl rfl Ty.sc35 rfl) ?_
      refine JO_read (vI ((ps.length : Nat) : Int)) rfl ⟨_, rfl, g6⟩ (fun _ _ => x_len_sl Try.underlying35 rfl) ?_
      refine JO_read (Value.pointer (some ⟨b2, 22, none⟩)) rfl ⟨_, rfl, g6⟩ (fun _ _ => x_fieldAddr Ty.fi37_2 rfl rfl) ?_
      refine JO_read (Value.slice qsA qs.length qsC) rfl ⟨_, rfl, g6⟩ (x_load 0 rfl rfl Ty.sc35 rfl) ?_
      refine JO_read (vI ((qs.length : Nat) : Int)) rfl ⟨_, rfl, g6⟩ (fun _ _ => x_len_sl Try.underlying35 rfl) ?_
      refine JO_read (vB (decide (((ps.length : Nat) : Int) ≠ ((qs.length : Nat) : Int)))) rfl ⟨_, rfl, g6⟩ (fun _ _ => x_neq_i rfl rfl) ?_
      refine JO_read (vB (decide (((ps.length : Nat) : Int) ≠ ((qs.length : Nat) : Int)))) rfl trivial (fun _ _ => x_pick_f rfl g6 rfl) ?_
      refine JO_nil (JX_cut (decide (((ps.length : Nat) : Int) ≠ ((qs.length : Nat) : Int))) (by rw [g6]; simp) ⟨rfl, rfl, rfl, rfl, trivial⟩ (fun _ h => h))
  rintro z5 rfl
  refine JO_nil (JX_then ?_)
  refine J_cond (((!(decide ((d : DataSet) = e))) || (decide (n ≠ m))) || (decide (((ps.length : Nat) : Int) ≠ ((qs.length : Nat) : Int)))) rfl rfl (fun h8 => ?_) (fun h8 => ?_)
  · simp only [Bool.and_eq_true, Bool.or_eq_true, Bool.and_eq_false_iff, Bool.or_eq_false_iff, Bool.not_eq_true', Bool.not_eq_false', decide_eq_true_eq, decide_eq_false_iff_not] at h8
    refine J_seq (J_region ?_)
    refine jr_ (vB false) ?_
    refine JO_nil (JX_then (J_ret (JX_then_ret ?_)))
    refine JX_rets [vB false] (vB false) Try.results23 (fun w h => ⟨rfl, trivial⟩) rfl [] (fun _ h => h.keep [false, false] rfl) ⟨?_, ?_⟩
    · have e_x0 : (false : Bool) = (R14.same d n ps e m qs) := by first | exact R14.same_ne1 (by assumption) | exact R14.same_ne2 (k := k) (by assumption) | exact R14.same_eq (by assumption) (by assumption) (by assumption) i1_0 (by assumption) i1_1
      exact congrArg (fun (x0 : Bool) => vB x0) e_x0
    · rfl
  · have ⟨h8, h9⟩ := bor_false h8
    have ⟨h8, h10⟩ := bor_false h8
    have h8 : (decide ((d : DataSet) = e)) = true := bnot_false h8
    have h8 := of_decide_eq_true h8
    have h10 := of_decide_eq_false h10
    have h9 := of_decide_eq_false h9
    refine J_skip (JX_then (J_seq (J_seq (J_region ?_))))
    refine jr_ (vI 0) ?_
    refine JO_nil (JX_then (J_block ?_))
    refine J_loop (X := Nat) (fun (k : Nat) => (k ≤ ps.length) ∧ (∀ i, i < k → ps.getD i default = qs.getD i default)) (fun (k : Nat) => [(2, Value.pointer (some ⟨b1, 0, none⟩)), (3, Value.pointer (some ⟨b2, 0, none⟩)), (5, vI ((k : Nat) : Int))]) (fun (k : Nat) => [Ent.blk b2 37 (DataSet.enc e ++ [vI m, Value.slice qsA qs.length qsC]), Ent.blk b1 37 (DataSet.enc d ++ [vI n, Value.slice psA ps.length psC])]) (fun (k : Nat) => ps.length - k) (0 : Nat) ?_ ⟨rfl, rfl, rfl, trivial⟩ (fun _ h => h) ?_
    · show (0 ≤ ps.length) ∧ (∀ i, i < 0 → ps.getD i default = qs.getD i default)
      refine ⟨?_, ?_⟩
      · first | rfl | omega | (simp_all; done) | (simp_all; omega)
      · intro i hi; omega
    intro k hI1
    obtain ⟨i1_0, i1_1⟩ : (k ≤ ps.length) ∧ (∀ i, i < k → ps.getD i default = qs.getD i default) := hI1
    refine J_weaken (E' := [(2, Value.pointer (some ⟨b1, 0, none⟩)), (3, Value.pointer (some ⟨b2, 0, none⟩)), (5, vI ((k : Nat) : Int))]) (L' := [Ent.blk b2 37 (DataSet.enc e ++ [vI m, Value.slice qsA qs.length qsC]), Ent.blk b1 37 (DataSet.enc d ++ [vI n, Value.slice psA ps.length psC])]) ⟨rfl, rfl, rfl, trivial⟩ (fun _ h => h) ?_
    refine J_seq (J_seq (J_region ?_))
    refine jr_ (vI ((k : Nat) : Int)) ?_
    refine JO_read (Value.pointer (some ⟨b1, 22, none⟩)) rfl trivial (fun _ _ => x_fieldAddr Ty.fi37_2 rfl rfl) ?_
    refine JO_read (Value.slice psA ps.length psC) rfl trivial (x_load 1 rfl rfl Ty.sc35 rfl) ?_
    refine JO_read (vI ((ps.length : Nat) : Int)) rfl trivial (fun _ _ => x_len_sl Try.underlying35 rfl) ?_
    refine JO_read (vB (decide (((k : Nat) : Int) < ((ps.length : Nat) : Int)))) rfl trivial (fun _ _ => x_lss_i rfl rfl) ?_
    refine JO_nil (JX_then ?_)
    refine J_cond (decide (((k : Nat) : Int) < ((ps.length : Nat) : Int))) rfl rfl (fun h11 => ?_) (fun h11 => ?_)
    · have h11 := of_decide_eq_true h11
      refine J_skip (JX_then (J_seq (J_block (J_seq ?_))))
      refine J_draw [Ent.blk b2 37 (DataSet.enc e ++ [vI m, Value.slice qsA qs.length qsC]), Ent.blk b1 37 (DataSet.enc d ++ [vI n, Value.slice psA ps.length psC])] [] [Ent.blk b2 37 (DataSet.enc e ++ [vI m, Value.slice qsA qs.length qsC]), Ent.blk b1 37 (DataSet.enc d ++ [vI n, Value.slice psA ps.length psC])] 11 Ty.mixed rfl ?_
      refine jt_ 0 (Value.pointer (some ⟨b1, 22, none⟩)) rfl (fun _ _ => x_fieldAddr Ty.fi37_2 rfl rfl) ?_
      refine jt_ 1 (Value.slice psA ps.length psC) rfl (x_load 1 rfl rfl Ty.sc35 rfl) ?_
      refine jt_ 2 (vI ((k : Nat) : Int)) rfl (fun _ _ => rfl) ?_
      refine jt_ 3 (Value.pointer (some (adr psA (k * 2)))) rfl (x_indexAddr_at (k := k) (off := k * 2) (cells_ro psR) Try.underlying35 Ty.sz54 rfl rfl lt_ (by rw [flat_length Pair.enc 2 Pair.enc_len]; first | omega | (simp; omega) | (simp_all; omega) | (simp_all; done)) rfl) ?_
      refine jt_ 4 (Value.agg #[vS ((ps.getD k default).key), vS ((ps.getD k default).record)]) rfl (x_loadN_at [vS ((ps.getD k default).key), vS ((ps.getD k default).record)] (cells_ro psR) rfl Ty.ag54 Ty.sz54 (flat_drop Pair.enc 2 Pair.enc_len ps default k lt_)) ?_
      refine jt_ 5 (Value.pointer (some ⟨b2, 22, none⟩)) rfl (fun _ _ => x_fieldAddr Ty.fi37_2 rfl rfl) ?_
      refine jt_ 6 (Value.slice qsA qs.length qsC) rfl (x_load 0 rfl rfl Ty.sc35 rfl) ?_
      refine jt_ 7 (vI ((k : Nat) : Int)) rfl (fun _ _ => rfl) ?_
      refine jt_ 8 (Value.pointer (some (adr qsA (k * 2)))) rfl (x_indexAddr_at (k := k) (off := k * 2) (cells_ro qsR) Try.underlying35 Ty.sz54 rfl rfl lt_ (by rw [flat_length Pair.enc 2 Pair.enc_len]; first | omega | (simp; omega) | (simp_all; omega) | (simp_all; done)) rfl) ?_
      refine jt_ 9 (Value.agg #[vS ((qs.getD k default).key), vS ((qs.getD k default).record)]) rfl (x_loadN_at [vS ((qs.getD k default).key), vS ((qs.getD k default).record)] (cells_ro qsR) rfl Ty.ag54 Ty.sz54 (flat_drop Pair.enc 2 Pair.enc_len qs default k lt_)) ?_
      refine jt_ 10 (vB (!(decide (((ps.getD k default) : Pair) = (qs.getD k default))))) rfl (fun _ _ => x_neq_agg rfl rfl Ty.eg54 (Ty.eq54 9998 (ps.getD k default) (qs.getD k default))) ?_
      refine JA_done (by kernel_rfl) (fun _ h => ⟨h, fun _ => h⟩) ?_
      refine JX_then ?_
      refine J_cond (!(decide (((ps.getD k default) : Pair) = (qs.getD k default)))) rfl rfl (fun h12 => ?_) (fun h12 => ?_)
      · have h12 : (decide (((ps.getD k default) : Pair) = (qs.getD k default))) = false := bnot_true h12
        have h12 := of_decide_eq_false h12
        refine J_seq (J_region ?_)
        refine jr_ (vB false) ?_
        refine JO_nil (JX_then (J_ret (JX_block_ret (JX_then_ret (JX_round_ret ?_)))))
        refine JX_block_ret (JX_then_ret ?_)
        refine JX_rets [vB false] (vB false) Try.results23 (fun w h => ⟨rfl, trivial⟩) rfl [] (fun _ h => h.keep [false, false] rfl) ⟨?_, ?_⟩
        · have e_x0 : (false : Bool) = (R14.same d n ps e m qs) := by first | exact R14.same_ne1 (by assumption) | exact R14.same_ne2 (k := k) (by assumption) | exact R14.same_eq (by assumption) (by assumption) (by assumption) i1_0 (by assumption) i1_1
          exact congrArg (fun (x0 : Bool) => vB x0) e_x0
        · rfl
      · have h12 : (decide (((ps.getD k default) : Pair) = (qs.getD k default))) = true := bnot_false h12
        have h12 := of_decide_eq_true h12
        refine J_skip (JX_block (JX_then (J_region ?_)))
        refine jr_ (vI ((k : Nat) : Int)) ?_
        refine JO_read (vI ((k + 1 : Nat) : Int)) rfl trivial (fun _ _ => x_add_n (a := k) (b := 1) rfl rfl (by omega)) ?_
        refine jr_ (vI ((k + 1 : Nat) : Int)) ?_
        refine JO_nil ?_
        refine JX_round (k + 1 : Nat) ?_ ?_ ⟨rfl, rfl, rfl, trivial⟩ (fun _ h => h)
        · show ((k + 1) ≤ ps.length) ∧ (∀ i, i < (k + 1) → ps.getD i default = qs.getD i default)
          refine ⟨?_, ?_⟩
          · first | rfl | omega | (simp_all; done) | (simp_all; omega)
          · intro i hi; by_cases hik : i = k
            · subst hik; simp_all
            · exact i1_1 i (by omega)
        · show ps.length - (k + 1) < ps.length - k
          first | omega | (simp; omega) | (simp_all; omega)
    · have h11 := of_decide_eq_false h11
      refine J_exit (JX_then_exit (JX_round_exit (JX_block_hit (JX_then (J_seq ?_)))))
      refine J_region ?_
      refine jr_ (vB true) ?_
      refine JO_nil (JX_then (J_ret ?_))
      refine JX_rets [vB true] (vB true) Try.results23 (fun w h => ⟨rfl, trivial⟩) rfl [] (fun _ h => h.keep [false, false] rfl) ⟨?_, ?_⟩
      · have e_x0 : (true : Bool) = (R14.same d n ps e m qs) := by first | exact R14.same_ne1 (by assumption) | exact R14.same_ne2 (k := k) (by assumption) | exact R14.same_eq (by assumption) (by assumption) (by assumption) i1_0 (by assumption) i1_1
        exact congrArg (fun (x0 : Bool) => vB x0) e_x0
      · rfl
end Go.Proofs.Ytodfebhimadaiaa
