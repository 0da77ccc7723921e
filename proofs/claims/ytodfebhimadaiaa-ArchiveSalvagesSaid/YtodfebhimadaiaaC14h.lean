/- contracts C14h -/
import Derived.Test.YtodfebhimadaiaaC14g
namespace Go.Proofs.Ytodfebhimadaiaa
open Go.GV
set_option linter.unusedVariables false
set_option linter.unusedSimpArgs false
set_option maxRecDepth 20000 in
theorem f43_ok (ps : List Pair) (psA : Option Addr) (psC : Nat) (qs : List Pair) (qsA : Option Addr) (qsC : Nat) (w : World) (psR : RO [] w psA (ps.flatMap Pair.enc)) (qsR : RO [] w qsA (qs.flatMap Pair.enc)) (q0 : ps.length ≤ 9223372036854775807) (q1 : qs.length ≤ 9223372036854775807) : Calls Try.prog 43 #[Value.slice psA ps.length psC, Value.slice qsA qs.length qsC] w (Gives [] w fun v L => v = vB (decide (ps = qs)) ∧ L = []) := by
  refine calls_J [] 26 Try.func43 rfl Try.ntmps43 [(0, Value.slice psA ps.length psC), (1, Value.slice qsA qs.length qsC)] rfl rfl (Give.nil w) ?_
  refine J_seq (J_region ?_)
  refine jr_ (vB false) ?_
  refine JO_nil (JX_then (J_seq (J_seq (J_region ?_))))
  refine jr_ (Value.slice psA ps.length psC) ?_
  refine JO_read (vI ((ps.length : Nat) : Int)) rfl trivial (fun _ _ => x_len_sl Try.underlying35 rfl) ?_
  refine jr_ (Value.slice qsA qs.length qsC) ?_
  refine JO_read (vI ((qs.length : Nat) : Int)) rfl trivial (fun _ _ => x_len_sl Try.underlying35 rfl) ?_
  refine JO_read (vB (decide (((ps.length : Nat) : Int) ≠ ((qs.length : Nat) : Int)))) rfl trivial (fun _ _ => x_neq_i rfl rfl) ?_
  refine JO_nil (JX_then ?_)
  refine J_cond (decide (((ps.length : Nat) : Int) ≠ ((qs.length : Nat) : Int))) rfl rfl (fun h1 => ?_) (fun h1 => ?_)
  · have h1 := of_decide_eq_true h1
    refine J_seq (J_region ?_)
    refine jr_ (vB false) ?_
    refine JO_nil (JX_then (J_ret (JX_then_ret ?_)))
    refine JX_rets [vB false] (vB false) Try.results43 (fun w h => ⟨rfl, trivial⟩) rfl [] (fun _ h => h) ⟨?_, ?_⟩
    · have e_x0 : (false : Bool) = (decide (ps = qs)) := by first | exact R14.list_ne (fun hh => by subst hh; simp_all) | exact R14.list_eq (by omega) i1_0 (by omega) i1_2
      exact congrArg (fun (x0 : Bool) => vB x0) e_x0
    · rfl
  · have h1 := of_decide_eq_false h1
    refine J_skip (JX_then (J_seq (J_seq (J_region ?_))))
    refine jr_ (Value.slice psA ps.length psC) ?_
    refine JO_read (vI ((ps.length : Nat) : Int)) rfl trivial (fun _ _ => x_len_sl Try.underlying35 rfl) ?_
    refine jr_ (vI 0) ?_
    refine JO_nil (JX_then (J_block ?_))
    refine J_loop (X := Nat) (fun (k : Nat) => (k ≤ ps.length) ∧ (ps.length = qs.length) ∧ (∀ i, i < k → ps.getD i default = qs.getD i default)) (fun (k : Nat) => [(0, Value.slice psA ps.length psC), (1, Value.slice qsA qs.length qsC), (12, vI ((ps.length : Nat) : Int)), (13, vI ((k : Nat) : Int))]) (fun (k : Nat) => []) (fun (k : Nat) => ps.length - k) (0 : Nat) ?_ ⟨rfl, rfl, rfl, rfl, trivial⟩ (fun _ h => h) ?_
    · show (0 ≤ ps.length) ∧ (ps.length = qs.length) ∧ (∀ i, i < 0 → ps.getD i default = qs.getD i default)
      refine ⟨?_, ?_, ?_⟩
      · first | rfl | omega | (simp_all; done) | (simp_all; omega)
      · first | rfl | omega | (simp_all; done) | (simp_all; omega)
      · intro i hi; omega
    intro k hI1
    obtain ⟨i1_0, i1_1, i1_2⟩ : (k ≤ ps.length) ∧ (ps.length = qs.length) ∧ (∀ i, i < k → ps.getD i default = qs.getD i default) := hI1
    refine J_weaken (E' := [(0, Value.slice psA ps.length psC), (1, Value.slice qsA qs.length qsC), (12, vI ((ps.length : Nat) : Int)), (13, vI ((k : Nat) : Int))]) (L' := []) ⟨rfl, rfl, rfl, rfl, trivial⟩ (fun _ h => h) ?_
    refine J_seq (J_region ?_)
    refine JO_read (vB (decide (((k : Nat) : Int) < ((ps.length : Nat) : Int)))) rfl trivial (fun _ _ => x_lss_i rfl rfl) ?_
    refine JO_nil (JX_then (J_seq ?_))
    refine J_cond (decide (((k : Nat) : Int) < ((ps.length : Nat) : Int))) rfl rfl (fun h2 => ?_) (fun h2 => ?_)
    · have h2 := of_decide_eq_true h2
      refine J_skip (JX_then (J_seq (J_block (J_seq (J_region ?_)))))
      refine jr_ (vI ((k : Nat) : Int)) ?_
      refine jr_ (vI ((k : Nat) : Int)) ?_
      refine JO_nil (JX_then (J_seq ?_))
      refine J_draw [] [] [] 9 Ty.mixed rfl ?_
      refine jt_ 0 (Value.slice psA ps.length psC) rfl (fun _ _ => rfl) ?_
      refine jt_ 1 (vI ((k : Nat) : Int)) rfl (fun _ _ => rfl) ?_
      refine jt_ 2 (Value.pointer (some (adr psA (k * 2)))) rfl (x_indexAddr_at (k := k) (off := k * 2) (cells_ro psR) Try.underlying35 Ty.sz54 rfl rfl lt_ (by rw [flat_length Pair.enc 2 Pair.enc_len]; first | omega | (simp; omega) | (simp_all; omega) | (simp_all; done)) rfl) ?_
      refine jt_ 3 (Value.agg #[vS ((ps.getD k default).key), vS ((ps.getD k default).record)]) rfl (x_loadN_at [vS ((ps.getD k default).key), vS ((ps.getD k default).record)] (cells_ro psR) rfl Ty.ag54 Ty.sz54 (flat_drop Pair.enc 2 Pair.enc_len ps default k lt_)) ?_
      refine jt_ 4 (Value.slice qsA qs.length qsC) rfl (fun _ _ => rfl) ?_
      refine jt_ 5 (vI ((k : Nat) : Int)) rfl (fun _ _ => rfl) ?_
      refine jt_ 6 (Value.pointer (some (adr qsA (k * 2)))) rfl (x_indexAddr_at (k := k) (off := k * 2) (cells_ro qsR) Try.underlying35 Ty.sz54 rfl rfl lt_ (by rw [flat_length Pair.enc 2 Pair.enc_len]; first | omega | (simp; omega) | (simp_all; omega) | (simp_all; done)) rfl) ?_
      refine jt_ 7 (Value.agg #[vS ((qs.getD k default).key), vS ((qs.getD k default).record)]) rfl (x_loadN_at [vS ((qs.getD k default).key), vS ((qs.getD k default).record)] (cells_ro qsR) rfl Ty.ag54 Ty.sz54 (flat_drop Pair.enc 2 Pair.enc_len qs default k lt_)) ?_
      refine jt_ 8 (vB (!(decide (((ps.getD k default) : Pair) = (qs.getD k default))))) rfl (fun _ _ => x_neq_agg rfl rfl Ty.eg54 (Ty.eq54 9998 (ps.getD k default) (qs.getD k default))) ?_
      refine JA_done (by kernel_rfl) (fun _ h => ⟨h, fun _ => h⟩) ?_
      refine JX_then ?_
      refine J_cond (!(decide (((ps.getD k default) : Pair) = (qs.getD k default)))) rfl rfl (fun h3 => ?_) (fun h3 => ?_)
      · have h3 : (decide (((ps.getD k default) : Pair) = (qs.getD k default))) = false := bnot_true h3
        have h3 := of_decide_eq_false h3
        refine J_seq (J_region ?_)
        refine jr_ (vB false) ?_
        refine JO_nil (JX_then (J_ret (JX_block_ret (JX_then_ret (JX_round_ret ?_)))))
        refine JX_block_ret (JX_then_ret ?_)
        refine JX_rets [vB false] (vB false) Try.results43 (fun w h => ⟨rfl, trivial⟩) rfl [] (fun _ h => h) ⟨?_, ?_⟩
        · have e_x0 : (false : Bool) = (decide (ps = qs)) := by first | exact R14.list_ne (fun hh => by subst hh; simp_all) | exact R14.list_eq (by omega) i1_0 (by omega) i1_2
          exact congrArg (fun (x0 : Bool) => vB x0) e_x0
        · rfl
      · have h3 : (decide (((ps.getD k default) : Pair) = (qs.getD k default))) = true := bnot_false h3
        have h3 := of_decide_eq_true h3
        refine J_skip (JX_block (JX_then (J_region ?_)))
        refine JO_read (vI ((k + 1 : Nat) : Int)) rfl trivial (fun _ _ => x_add_n (a := k) (b := 1) rfl rfl (by omega)) ?_
        refine jr_ (vI ((k + 1 : Nat) : Int)) ?_
        refine JO_nil ?_
        refine JX_round (k + 1 : Nat) ?_ ?_ ⟨rfl, rfl, rfl, rfl, trivial⟩ (fun _ h => h)
        · show ((k + 1) ≤ ps.length) ∧ (ps.length = qs.length) ∧ (∀ i, i < (k + 1) → ps.getD i default = qs.getD i default)
          refine ⟨?_, ?_, ?_⟩
          · first | rfl | omega | (simp_all; done) | (simp_all; omega)
          · assumption
          · intro i hi; by_cases hik : i = k
            · subst hik; simp_all
            · exact i1_2 i (by omega)
        · show ps.length - (k + 1) < ps.length - k
          first | omega | (simp; omega) | (simp_all; omega)
    · have h2 := of_decide_eq_false h2
      refine J_exit (JX_then_exit (JX_round_exit (JX_block_hit (JX_then (J_seq ?_)))))
      refine J_region ?_
      refine jr_ (vB true) ?_
      refine JO_nil (JX_then (J_ret ?_))
      refine JX_rets [vB true] (vB true) Try.results43 (fun w h => ⟨rfl, trivial⟩) rfl [] (fun _ h => h) ⟨?_, ?_⟩
      · have e_x0 : (true : Bool) = (decide (ps = qs)) := by first | exact R14.list_ne (fun hh => by subst hh; simp_all) | exact R14.list_eq (by omega) i1_0 (by omega) i1_2
        exact congrArg (fun (x0 : Bool) => vB x0) e_x0
      · rfl
set_option maxRecDepth 20000 in
theorem f22_ok (d : DataSet) (n : Int) (ps : List Pair) (psA : Option Addr) (psC : Nat) (e : DataSet) (m : Int) (qs : List Pair) (qsA : Option Addr) (qsC : Nat) (w : World) (psR : RO [] w psA (ps.flatMap Pair.enc)) (qsR : RO [] w qsA (qs.flatMap Pair.enc)) (q0 : ps.length ≤ 9223372036854775807) (q1 : qs.length ≤ 9223372036854775807) : Calls Try.prog 22 #[Value.agg ((DataSet.enc d ++ [vI n, Value.slice psA ps.length psC])).toArray, Value.agg ((DataSet.enc e ++ [vI m, Value.slice qsA qs.length qsC])).toArray] w (Gives [] w fun v L => v = vB (R14.same d n ps e m qs) ∧ L = []) := by
  refine calls_J [] 24 Try.func22 rfl Try.ntmps22 [(0, Value.agg ((DataSet.enc d ++ [vI n, Value.slice psA ps.length psC])).toArray), (1, Value.agg ((DataSet.enc e ++ [vI m, Value.slice qsA qs.length qsC])).toArray)] rfl rfl (Give.nil w) ?_
  refine J_seq (J_region ?_)
  refine JO_op rfl trivial (O_box rfl rfl fun b1 => ?_)
  refine JO_op rfl trivial (O_box rfl rfl fun b2 => ?_)
  refine jr_ (vB false) ?_
  refine JO_nil (JX_then (J_seq (J_region ?_)))
  refine JO_read (Value.pointer (some ⟨b1, 0, none⟩)) rfl trivial (fun _ _ => x_fieldAddr Ty.fi37_0 rfl rfl) ?_
  refine JO_read (Value.agg ((DataSet.enc d)).toArray) rfl trivial (x_loadN 1 (DataSet.enc d) rfl rfl Ty.ag34 Ty.sz34 rfl) ?_
  refine JO_read (Value.pointer (some ⟨b2, 0, none⟩)) rfl trivial (fun _ _ => x_fieldAddr Ty.fi37_0 rfl rfl) ?_
  refine JO_read (Value.agg ((DataSet.enc e)).toArray) rfl trivial (x_loadN 0 (DataSet.enc e) rfl rfl Ty.ag34 Ty.sz34 rfl) ?_
  refine JO_read (vB (decide ((d : DataSet) = e))) rfl trivial (fun _ _ => x_eql_agg rfl rfl Ty.eg34 (Ty.eq34 9998 d e)) ?_
  refine jr_ (vB (decide ((d : DataSet) = e))) ?_
  refine JO_cut (X := Bool) 6 (fun z => z = ((decide ((d : DataSet) = e)) && (decide (n = m)))) (fun z => [(2, Value.pointer (some ⟨b1, 0, none⟩)), (3, Value.pointer (some ⟨b2, 0, none⟩)), (4, vB false), (16, vB z)]) (fun _ => [Ent.blk b2 37 (DataSet.enc e ++ [vI m, Value.slice qsA qs.length qsC]), Ent.blk b1 37 (DataSet.enc d ++ [vI n, Value.slice psA ps.length psC])]) ?_ ?_
  · rcases Bool.eq_false_or_eq_true (decide ((d : DataSet) = e)) with g4 | g4
    · have g4r := g4
      have g4r := of_decide_eq_true g4r
      refine JO_read (Value.pointer (some ⟨b1, 21, none⟩)) rfl ⟨_, rfl, g4⟩ (fun _ _ => x_fieldAddr Ty.fi37_1 rfl rfl) ?_
      refine JO_read (vI n) rfl ⟨_, rfl, g4⟩ (x_load 1 rfl rfl Ty.sc3 rfl) ?_
      refine JO_read (Value.pointer (some ⟨b2, 21, none⟩)) rfl ⟨_, rfl, g4⟩ (fun _ _ => x_fieldAddr Ty.fi37_1 rfl rfl) ?_
      refine JO_read (vI m) rfl ⟨_, rfl, g4⟩ (x_load 0 rfl rfl Ty.sc3 rfl) ?_
      refine JO_read (vB (decide (n = m))) rfl ⟨_, rfl, g4⟩ (fun _ _ => x_eql_i rfl rfl) ?_
      refine JO_read (vB (decide (n = m))) rfl trivial (fun _ _ => x_pick_t rfl g4 rfl) ?_
      refine JO_nil (JX_cut (decide (n = m)) (by rw [g4]; simp) ⟨rfl, rfl, rfl, rfl, trivial⟩ (fun _ h => h))
    · have g4r := g4
      have g4r := of_decide_eq_false g4r
      refine JO_shun rfl ⟨_, rfl, g4⟩ ?_
      refine JO_shun rfl ⟨_, rfl, g4⟩ ?_
      refine JO_shun rfl ⟨_, rfl, g4⟩ ?_
      refine JO_shun rfl ⟨_, rfl, g4⟩ ?_
      refine JO_shun rfl ⟨_, rfl, g4⟩ ?_
      refine JO_read (vB false) rfl trivial (fun _ _ => x_pick_f rfl g4 rfl) ?_
      refine JO_nil (JX_cut (false) (by rw [g4]; simp) ⟨rfl, rfl, rfl, rfl, trivial⟩ (fun _ h => h))
  rintro z3 rfl
  refine jr_ (vB ((decide ((d : DataSet) = e)) && (decide (n = m)))) ?_
  refine JO_cut (X := Bool) 6 (fun z => z = (((decide ((d : DataSet) = e)) && (decide (n = m))) && (decide (ps = qs)))) (fun z => [(4, vB false), (23, vB z)]) (fun _ => [Ent.blk b2 37 (DataSet.enc e ++ [vI m, Value.slice qsA qs.length qsC]), Ent.blk b1 37 (DataSet.enc d ++ [vI n, Value.slice psA ps.length psC])]) ?_ ?_
  · rcases Bool.eq_false_or_eq_true ((decide ((d : DataSet) = e)) && (decide (n = m))) with g6 | g6
    · have g6r := g6
      have ⟨g6r, h7⟩ := band_true g6r
      have g6r := of_decide_eq_true g6r
      have h7 := of_decide_eq_true h7
      refine JO_read (Value.pointer (some ⟨b1, 22, none⟩)) rfl ⟨_, rfl, g6⟩ (fun _ _ => x_fieldAddr Ty.fi37_2 rfl rfl) ?_
      refine JO_read (Value.slice psA ps.length psC) rfl ⟨_, rfl, g6⟩ (x_load 1 rfl rfl Ty.sc35 rfl) ?_
      refine JO_read (Value.pointer (some ⟨b2, 22, none⟩)) rfl ⟨_, rfl, g6⟩ (fun _ _ => x_fieldAddr Ty.fi37_2 rfl rfl) ?_
      refine JO_read (Value.slice qsA qs.length qsC) rfl ⟨_, rfl, g6⟩ (x_load 0 rfl rfl Ty.sc35 rfl) ?_
      refine JO_call [] [] [Ent.blk b2 37 (DataSet.enc e ++ [vI m, Value.slice qsA qs.length qsC]), Ent.blk b1 37 (DataSet.enc d ++ [vI n, Value.slice psA ps.length psC])] rfl ⟨_, rfl, g6⟩ (fun _ => x_call Ty.ca43 rfl) (fun _ h => h) (fun _ h => by cases h) (fun w hS => f43_ok ps psA psC qs qsA qsC w (psR.on hS (fun _ h => by cases h)) (qsR.on hS (fun _ h => by cases h)) hy_ hy_) ?_
      rintro _ _ ⟨rfl, rfl⟩
      refine JO_read (vB (decide (ps = qs))) rfl trivial (fun _ _ => x_pick_t rfl g6 rfl) ?_
      refine JO_nil (JX_cut (decide (ps = qs)) (by rw [g6]; simp) ⟨rfl, rfl, trivial⟩ (fun _ h => h))
    · have g6r := g6
      simp only [Bool.and_eq_true, Bool.or_eq_true, Bool.and_eq_false_iff, Bool.or_eq_false_iff, Bool.not_eq_true', Bool.not_eq_false', decide_eq_true_eq, decide_eq_false_iff_not] at g6r
      refine JO_shun rfl ⟨_, rfl, g6⟩ ?_
      refine JO_shun rfl ⟨_, rfl, g6⟩ ?_
      refine JO_shun rfl ⟨_, rfl, g6⟩ ?_
      refine JO_shun rfl ⟨_, rfl, g6⟩ ?_
      refine JO_shun rfl ⟨_, rfl, g6⟩ ?_
      refine JO_read (vB false) rfl trivial (fun _ _ => x_pick_f rfl g6 rfl) ?_
      refine JO_nil (JX_cut (false) (by rw [g6]; simp) ⟨rfl, rfl, trivial⟩ (fun _ h => h))
  rintro z5 rfl
  refine jr_ (vB (((decide ((d : DataSet) = e)) && (decide (n = m))) && (decide (ps = qs)))) ?_
  refine JO_nil (JX_then (J_ret ?_))
  refine JX_rets [vB (((decide ((d : DataSet) = e)) && (decide (n = m))) && (decide (ps = qs)))] (vB (((decide ((d : DataSet) = e)) && (decide (n = m))) && (decide (ps = qs)))) Try.results22 (fun w h => ⟨rfl, trivial⟩) rfl [] (fun _ h => h.keep [false, false] rfl) ⟨?_, ?_⟩
  · have e_x0 : (((decide ((d : DataSet) = e)) && (decide (n = m))) && (decide (ps = qs)) : Bool) = (R14.same d n ps e m qs) := by rfl
    exact congrArg (fun (x0 : Bool) => vB x0) e_x0
  · rfl
set_option maxRecDepth 20000 in
theorem f17_ok (d : DataSet) (n : Int) (ps : List Pair) (psA : Option Addr) (psC : Nat) (w : World) (psR : RO [] w psA (ps.flatMap Pair.enc)) (q0 : ps.length ≤ 9223372036854775807) : Calls Try.prog 17 #[Value.agg ((DataSet.enc d ++ [vI n, Value.slice psA ps.length psC])).toArray] w (Gives [] w fun v L => v = vB (R14.few d ps) ∧ L = []) := by
  refine calls_J [] 47 Try.func17 rfl Try.ntmps17 [(0, Value.agg ((DataSet.enc d ++ [vI n, Value.slice psA ps.length psC])).toArray)] rfl rfl (Give.nil w) ?_
  refine J_seq (J_region ?_)
  refine JO_op rfl trivial (O_box rfl rfl fun b1 => ?_)
  refine jr_ (vB false) ?_
  refine JO_nil (JX_then (J_seq (J_seq (J_region ?_))))
  refine jr_ (vI 0) ?_
  refine JO_nil (JX_then (J_block ?_))
  refine J_loop (X := Nat) (fun (k : Nat) => (k ≤ ps.length) ∧ (∀ i, i < k → R14.bigP (ps.getD i default) = false)) (fun (k : Nat) => [(1, Value.pointer (some ⟨b1, 0, none⟩)), (3, vI ((k : Nat) : Int))]) (fun (k : Nat) => [Ent.blk b1 37 (DataSet.enc d ++ [vI n, Value.slice psA ps.length psC])]) (fun (k : Nat) => ps.length - k) (0 : Nat) ?_ ⟨rfl, rfl, trivial⟩ (fun _ h => h) ?_
  · show (0 ≤ ps.length) ∧ (∀ i, i < 0 → R14.bigP (ps.getD i default) = false)
    refine ⟨?_, ?_⟩
    · first | rfl | omega | (simp_all; done) | (simp_all; omega)
    · intro i hi; omega
  intro k hI1
  obtain ⟨i1_0, i1_1⟩ : (k ≤ ps.length) ∧ (∀ i, i < k → R14.bigP (ps.getD i default) = false) := hI1
  refine J_weaken (E' := [(1, Value.pointer (some ⟨b1, 0, none⟩)), (3, vI ((k : Nat) : Int))]) (L' := [Ent.blk b1 37 (DataSet.enc d ++ [vI n, Value.slice psA ps.length psC])]) ⟨rfl, rfl, trivial⟩ (fun _ h => h) ?_
  refine J_seq (J_seq (J_region ?_))
  refine jr_ (vI ((k : Nat) : Int)) ?_
  refine JO_read (Value.pointer (some ⟨b1, 22, none⟩)) rfl trivial (fun _ _ => x_fieldAddr Ty.fi37_2 rfl rfl) ?_
  refine JO_read (Value.slice psA ps.length psC) rfl trivial (x_load 0 rfl rfl Ty.sc35 rfl) ?_
  refine JO_read (vI ((ps.length : Nat) : Int)) rfl trivial (fun _ _ => x_len_sl Try.underlying35 rfl) ?_
  refine JO_read (vB (decide (((k : Nat) : Int) < ((ps.length : Nat) : Int)))) rfl trivial (fun _ _ => x_lss_i rfl rfl) ?_
  refine JO_nil (JX_then ?_)
  refine J_cond (decide (((k : Nat) : Int) < ((ps.length : Nat) : Int))) rfl rfl (fun h2 => ?_) (fun h2 => ?_)
  · have h2 := of_decide_eq_true h2
    refine J_skip (JX_then (J_seq (J_block (J_seq (J_region ?_)))))
    refine JO_read (Value.pointer (some ⟨b1, 22, none⟩)) rfl trivial (fun _ _ => x_fieldAddr Ty.fi37_2 rfl rfl) ?_
    refine JO_read (Value.slice psA ps.length psC) rfl trivial (x_load 0 rfl rfl Ty.sc35 rfl) ?_
    refine jr_ (vI ((k : Nat) : Int)) ?_
    refine JO_read (Value.pointer (some (adr psA (k * 2)))) rfl trivial (x_indexAddr_at (k := k) (off := k * 2) (cells_ro psR) Try.underlying35 Ty.sz54 rfl rfl lt_ (by rw [flat_length Pair.enc 2 Pair.enc_len]; first | omega | (simp; omega) | (simp_all; omega) | (simp_all; done)) rfl) ?_
    refine JO_read (Value.pointer (some (adr psA (k * 2)))) rfl trivial (fun _ _ => x_fieldAddr Ty.fi54_0 rfl rfl) ?_
    refine JO_read (vS ((ps.getD k default).key)) rfl trivial (x_load_at (cells_ro psR) rfl Ty.sc9 (flat_at Pair.enc 2 Pair.enc_len ps default k 0 lt_ (by decide))) ?_
    refine JO_read (vI ((((ps.getD k default).key).length : Nat) : Int)) rfl trivial (fun _ _ => x_len_s rfl Try.underlying9) ?_
    refine JO_read (vB (decide ((40 : Int) < ((((ps.getD k default).key).length : Nat) : Int)))) rfl trivial (fun _ _ => x_gtr_i rfl rfl) ?_
    refine jr_ (vB (decide ((40 : Int) < ((((ps.getD k default).key).length : Nat) : Int)))) ?_
    refine JO_cut (X := Bool) 9 (fun z => z = ((decide ((40 : Int) < ((((ps.getD k default).key).length : Nat) : Int))) || (decide ((1010 : Int) < ((((ps.getD k default).record).length : Nat) : Int))))) (fun z => [(1, Value.pointer (some ⟨b1, 0, none⟩)), (3, vI ((k : Nat) : Int)), (28, vB z)]) (fun _ => [Ent.blk b1 37 (DataSet.enc d ++ [vI n, Value.slice psA ps.length psC])]) ?_ ?_
    · rcases Bool.eq_false_or_eq_true (decide ((40 : Int) < ((((ps.getD k default).key).length : Nat) : Int))) with g4 | g4
      · have g4r := g4
        have g4r := of_decide_eq_true g4r
        refine JO_shun rfl ⟨_, rfl, g4⟩ ?_
        refine JO_shun rfl ⟨_, rfl, g4⟩ ?_
        refine JO_shun rfl ⟨_, rfl, g4⟩ ?_
        refine JO_shun rfl ⟨_, rfl, g4⟩ ?_
        refine JO_shun rfl ⟨_, rfl, g4⟩ ?_
        refine JO_shun rfl ⟨_, rfl, g4⟩ ?_
        refine JO_shun rfl ⟨_, rfl, g4⟩ ?_
        refine JO_shun rfl ⟨_, rfl, g4⟩ ?_
        refine JO_read (vB true) rfl trivial (fun _ _ => x_pick_t rfl g4 rfl) ?_
        refine JO_nil (JX_cut (true) (by rw [g4]; simp) ⟨rfl, rfl, rfl, trivial⟩ (fun _ h => h))
      · have g4r := g4
        have g4r := of_decide_eq_false g4r
        refine JO_read (Value.pointer (some ⟨b1, 22, none⟩)) rfl ⟨_, rfl, g4⟩ (fun _ _ => x_fieldAddr Ty.fi37_2 rfl rfl) ?_
        refine JO_read (Value.slice psA ps.length psC) rfl ⟨_, rfl, g4⟩ (x_load 0 rfl rfl Ty.sc35 rfl) ?_
        refine JO_read (vI ((k : Nat) : Int)) rfl ⟨_, rfl, g4⟩ (fun _ _ => rfl) ?_
        refine JO_read (Value.pointer (some (adr psA (k * 2)))) rfl ⟨_, rfl, g4⟩ (x_indexAddr_at (k := k) (off := k * 2) (cells_ro psR) Try.underlying35 Ty.sz54 rfl rfl lt_ (by rw [flat_length Pair.enc 2 Pair.enc_len]; first | omega | (simp; omega) | (simp_all; omega) | (simp_all; done)) rfl) ?_
        refine JO_read (Value.pointer (some (adr psA (k * 2 + 1)))) rfl ⟨_, rfl, g4⟩ (fun _ _ => x_fieldAddr Ty.fi54_1 rfl (adr_add _ _ _)) ?_
        refine JO_read (vS ((ps.getD k default).record)) rfl ⟨_, rfl, g4⟩ (x_load_at (cells_ro psR) rfl Ty.sc9 (flat_at Pair.enc 2 Pair.enc_len ps default k 1 lt_ (by decide))) ?_
        refine JO_read (vI ((((ps.getD k default).record).length : Nat) : Int)) rfl ⟨_, rfl, g4⟩ (fun _ _ => x_len_s rfl Try.underlying9) ?_
        refine JO_read (vB (decide ((1010 : Int) < ((((ps.getD k default).record).length : Nat) : Int)))) rfl ⟨_, rfl, g4⟩ (fun _ _ => x_gtr_i rfl rfl) ?_
        refine JO_read (vB (decide ((1010 : Int) < ((((ps.getD k default).record).length : Nat) : Int)))) rfl trivial (fun _ _ => x_pick_f rfl g4 rfl) ?_
        refine JO_nil (JX_cut (decide ((1010 : Int) < ((((ps.getD k default).record).length : Nat) : Int))) (by rw [g4]; simp) ⟨rfl, rfl, rfl, trivial⟩ (fun _ h => h))
    rintro z3 rfl
    refine JO_nil (JX_then ?_)
    refine J_cond ((decide ((40 : Int) < ((((ps.getD k default).key).length : Nat) : Int))) || (decide ((1010 : Int) < ((((ps.getD k default).record).length : Nat) : Int)))) rfl rfl (fun h5 => ?_) (fun h5 => ?_)
    · simp only [Bool.and_eq_true, Bool.or_eq_true, Bool.and_eq_false_iff, Bool.or_eq_false_iff, Bool.not_eq_true', Bool.not_eq_false', decide_eq_true_eq, decide_eq_false_iff_not] at h5
      refine J_seq (J_region ?_)
      refine jr_ (vB false) ?_
      refine JO_nil (JX_then (J_ret (JX_block_ret (JX_then_ret (JX_round_ret ?_)))))
      refine JX_block_ret (JX_then_ret ?_)
      refine JX_rets [vB false] (vB false) Try.results17 (fun w h => ⟨rfl, trivial⟩) rfl [] (fun _ h => h.keep [false] rfl) ⟨?_, ?_⟩
      · have e_x0 : (false : Bool) = (R14.few d ps) := by first | exact R14.few_bad (k := k) (by omega) (by assumption) | exact R14.few_end i1_0 (by assumption) i1_1
        exact congrArg (fun (x0 : Bool) => vB x0) e_x0
      · rfl
    · have ⟨h5, h6⟩ := bor_false h5
      have h5 := of_decide_eq_false h5
      have h6 := of_decide_eq_false h6
      refine J_skip (JX_block (JX_then (J_region ?_)))
      refine jr_ (vI ((k : Nat) : Int)) ?_
      refine JO_read (vI ((k + 1 : Nat) : Int)) rfl trivial (fun _ _ => x_add_n (a := k) (b := 1) rfl rfl (by omega)) ?_
      refine jr_ (vI ((k + 1 : Nat) : Int)) ?_
      refine JO_nil ?_
      refine JX_round (k + 1 : Nat) ?_ ?_ ⟨rfl, rfl, trivial⟩ (fun _ h => h)
      · show ((k + 1) ≤ ps.length) ∧ (∀ i, i < (k + 1) → R14.bigP (ps.getD i default) = false)
        refine ⟨?_, ?_⟩
        · first | rfl | omega | (simp_all; done) | (simp_all; omega)
        · intro i hi; by_cases hik : i = k
          · subst hik; simp_all [R14.bigP]
          · exact i1_1 i (by omega)
      · show ps.length - (k + 1) < ps.length - k
        first | omega | (simp; omega) | (simp_all; omega)
  · have h2 := of_decide_eq_false h2
    refine J_exit (JX_then_exit (JX_round_exit (JX_block_hit (JX_then (J_seq ?_)))))
    refine J_region ?_
    refine JO_read (Value.pointer (some ⟨b1, 0, none⟩)) rfl trivial (fun _ _ => x_fieldAddr Ty.fi37_0 rfl rfl) ?_
    refine JO_read (Value.pointer (some ⟨b1, 17, none⟩)) rfl trivial (fun _ _ => x_fieldAddr Ty.fi34_17 rfl rfl) ?_
    refine JO_read (vS d.Owner) rfl trivial (x_load 0 rfl rfl Ty.sc9 rfl) ?_
    refine JO_read (vI ((d.Owner.length : Nat) : Int)) rfl trivial (fun _ _ => x_len_s rfl Try.underlying9) ?_
    refine JO_read (vB (decide (((d.Owner.length : Nat) : Int) ≤ 40))) rfl trivial (fun _ _ => x_leq_i rfl rfl) ?_
    refine jr_ (vB (decide (((d.Owner.length : Nat) : Int) ≤ 40))) ?_
    refine JO_cut (X := Bool) 6 (fun z => z = ((decide (((d.Owner.length : Nat) : Int) ≤ 40)) && (decide (((d.Volume.length : Nat) : Int) ≤ 40)))) (fun z => [(1, Value.pointer (some ⟨b1, 0, none⟩)), (40, vB z)]) (fun _ => [Ent.blk b1 37 (DataSet.enc d ++ [vI n, Value.slice psA ps.length psC])]) ?_ ?_
    · rcases Bool.eq_false_or_eq_true (decide (((d.Owner.length : Nat) : Int) ≤ 40)) with g8 | g8
      · have g8r := g8
        have g8r := of_decide_eq_true g8r
        refine JO_read (Value.pointer (some ⟨b1, 0, none⟩)) rfl ⟨_, rfl, g8⟩ (fun _ _ => x_fieldAddr Ty.fi37_0 rfl rfl) ?_
        refine JO_read (Value.pointer (some ⟨b1, 16, none⟩)) rfl ⟨_, rfl, g8⟩ (fun _ _ => x_fieldAddr Ty.fi34_16 rfl rfl) ?_
        refine JO_read (vS d.Volume) rfl ⟨_, rfl, g8⟩ (x_load 0 rfl rfl Ty.sc9 rfl) ?_
        refine JO_read (vI ((d.Volume.length : Nat) : Int)) rfl ⟨_, rfl, g8⟩ (fun _ _ => x_len_s rfl Try.underlying9) ?_
        refine JO_read (vB (decide (((d.Volume.length : Nat) : Int) ≤ 40))) rfl ⟨_, rfl, g8⟩ (fun _ _ => x_leq_i rfl rfl) ?_
        refine JO_read (vB (decide (((d.Volume.length : Nat) : Int) ≤ 40))) rfl trivial (fun _ _ => x_pick_t rfl g8 rfl) ?_
        refine JO_nil (JX_cut (decide (((d.Volume.length : Nat) : Int) ≤ 40)) (by rw [g8]; simp) ⟨rfl, rfl, trivial⟩ (fun _ h => h))
      · have g8r := g8
        have g8r := of_decide_eq_false g8r
        refine JO_shun rfl ⟨_, rfl, g8⟩ ?_
        refine JO_shun rfl ⟨_, rfl, g8⟩ ?_
        refine JO_shun rfl ⟨_, rfl, g8⟩ ?_
        refine JO_shun rfl ⟨_, rfl, g8⟩ ?_
        refine JO_shun rfl ⟨_, rfl, g8⟩ ?_
        refine JO_read (vB false) rfl trivial (fun _ _ => x_pick_f rfl g8 rfl) ?_
        refine JO_nil (JX_cut (false) (by rw [g8]; simp) ⟨rfl, rfl, trivial⟩ (fun _ h => h))
    rintro z7 rfl
    refine jr_ (vB ((decide (((d.Owner.length : Nat) : Int) ≤ 40)) && (decide (((d.Volume.length : Nat) : Int) ≤ 40)))) ?_
    refine JO_cut (X := Bool) 5 (fun z => z = (((decide (((d.Owner.length : Nat) : Int) ≤ 40)) && (decide (((d.Volume.length : Nat) : Int) ≤ 40))) && (decide (((ps.length : Nat) : Int) ≤ 30)))) (fun z => [(46, vB z)]) (fun _ => [Ent.blk b1 37 (DataSet.enc d ++ [vI n, Value.slice psA ps.length psC])]) ?_ ?_
    · rcases Bool.eq_false_or_eq_true ((decide (((d.Owner.length : Nat) : Int) ≤ 40)) && (decide (((d.Volume.length : Nat) : Int) ≤ 40))) with g10 | g10
      · have g10r := g10
        have ⟨g10r, h11⟩ := band_true g10r
        have g10r := of_decide_eq_true g10r
        have h11 := of_decide_eq_true h11
        refine JO_read (Value.pointer (some ⟨b1, 22, none⟩)) rfl ⟨_, rfl, g10⟩ (fun _ _ => x_fieldAddr Ty.fi37_2 rfl rfl) ?_
        refine JO_read (Value.slice psA ps.length psC) rfl ⟨_, rfl, g10⟩ (x_load 0 rfl rfl Ty.sc35 rfl) ?_
        refine JO_read (vI ((ps.length : Nat) : Int)) rfl ⟨_, rfl, g10⟩ (fun _ _ => x_len_sl Try.underlying35 rfl) ?_
        refine JO_read (vB (decide (((ps.length : Nat) : Int) ≤ 30))) rfl ⟨_, rfl, g10⟩ (fun _ _ => x_leq_i rfl rfl) ?_
        refine JO_read (vB (decide (((ps.length : Nat) : Int) ≤ 30))) rfl trivial (fun _ _ => x_pick_t rfl g10 rfl) ?_
        refine JO_nil (JX_cut (decide (((ps.length : Nat) : Int) ≤ 30)) (by rw [g10]; simp) ⟨rfl, trivial⟩ (fun _ h => h))
      · have g10r := g10
        simp only [Bool.and_eq_true, Bool.or_eq_true, Bool.and_eq_false_iff, Bool.or_eq_false_iff, Bool.not_eq_true', Bool.not_eq_false', decide_eq_true_eq, decide_eq_false_iff_not] at g10r
        refine JO_shun rfl ⟨_, rfl, g10⟩ ?_
        refine JO_shun rfl ⟨_, rfl, g10⟩ ?_
        refine JO_shun rfl ⟨_, rfl, g10⟩ ?_
        refine JO_shun rfl ⟨_, rfl, g10⟩ ?_
        refine JO_read (vB false) rfl trivial (fun _ _ => x_pick_f rfl g10 rfl) ?_
        refine JO_nil (JX_cut (false) (by rw [g10]; simp) ⟨rfl, trivial⟩ (fun _ h => h))
    rintro z9 rfl
    refine jr_ (vB (((decide (((d.Owner.length : Nat) : Int) ≤ 40)) && (decide (((d.Volume.length : Nat) : Int) ≤ 40))) && (decide (((ps.length : Nat) : Int) ≤ 30)))) ?_
    refine JO_nil (JX_then (J_ret ?_))
    refine JX_rets [vB (((decide (((d.Owner.length : Nat) : Int) ≤ 40)) && (decide (((d.Volume.length : Nat) : Int) ≤ 40))) && (decide (((ps.length : Nat) : Int) ≤ 30)))] (vB (((decide (((d.Owner.length : Nat) : Int) ≤ 40)) && (decide (((d.Volume.length : Nat) : Int) ≤ 40))) && (decide (((ps.length : Nat) : Int) ≤ 30)))) Try.results17 (fun w h => ⟨rfl, trivial⟩) rfl [] (fun _ h => h.keep [false] rfl) ⟨?_, ?_⟩
    · have e_x0 : (((decide (((d.Owner.length : Nat) : Int) ≤ 40)) && (decide (((d.Volume.length : Nat) : Int) ≤ 40))) && (decide (((ps.length : Nat) : Int) ≤ 30)) : Bool) = (R14.few d ps) := by first | exact R14.few_bad (k := k) (by omega) (by assumption) | exact R14.few_end i1_0 (by assumption) i1_1
      exact congrArg (fun (x0 : Bool) => vB x0) e_x0
    · rfl
end Go.Proofs.Ytodfebhimadaiaa
