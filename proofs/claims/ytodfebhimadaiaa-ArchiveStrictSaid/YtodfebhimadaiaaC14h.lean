/- contracts C14h -/
import Derived.Test.YtodfebhimadaiaaC14g
namespace Go.Proofs.Ytodfebhimadaiaa
open Go.GV
set_option linter.unusedVariables false
set_option linter.unusedSimpArgs false

set_option maxRecDepth 20000 in
theorem f43_ok (ps : List Pair) (psA : Option Addr) (psC : Nat) (qs : List Pair) (qsA : Option Addr) (qsC : Nat) (w : World) (psR : RO [] w psA (ps.flatMap Pair.enc)) (qsR : RO [] w qsA (qs.flatMap Pair.enc)) (q0 : ps.length ≤ 9223372036854775807) (q1 : qs.length ≤ 9223372036854775807) : Calls Try.prog 43 #[Value.slice psA ps.length psC, Value.slice qsA qs.length qsC] w (Gives [] w fun v L => v = vB (decide (ps = qs)) ∧ L = []) := by
  refine calls_J [] 26 Try.func43 rfl Try.ntmps43 [(0, Value.slice psA ps.length psC), (1, Value.slice qsA qs.length qsC)] rfl rfl (Give.nil w) ?_
  refine J_seq ?_
  refine J_region ?_
  refine JO_read (vB false) rfl trivial (fun _ _ => rfl) ?_
  refine JO_nil ?_
  refine JX_then ?_
  refine J_seq ?_
  refine J_seq ?_
  refine J_region ?_
  refine JO_read (Value.slice psA ps.length psC) rfl trivial (fun _ _ => rfl) ?_
  refine JO_read (vI ((ps.length : Nat) : Int)) rfl trivial (fun _ _ => x_len_sl Try.underlying35 rfl) ?_
  refine JO_read (Value.slice qsA qs.length qsC) rfl trivial (fun _ _ => rfl) ?_
  refine JO_read (vI ((qs.length : Nat) : Int)) rfl trivial (fun _ _ => x_len_sl Try.underlying35 rfl) ?_
  refine JO_read (vB (decide (((ps.length : Nat) : Int) ≠ ((qs.length : Nat) : Int)))) rfl trivial (fun _ _ => x_neq_i rfl rfl) ?_
  refine JO_nil ?_
  refine JX_then ?_
  refine J_cond (decide (((ps.length : Nat) : Int) ≠ ((qs.length : Nat) : Int))) rfl rfl (fun h1 => ?_) (fun h1 => ?_)
  · have h1 := of_decide_eq_true h1
    refine J_seq ?_
    refine J_region ?_
    refine JO_read (vB false) rfl trivial (fun _ _ => rfl) ?_
    refine JO_nil ?_
    refine JX_then ?_
    refine J_ret ?_
    refine JX_then_ret ?_
    refine JX_rets [vB false] (vB false) Try.results43 (fun w h => ⟨rfl, trivial⟩) rfl [] (fun _ h => h) ⟨?_, ?_⟩
    · have e_x0 : (false : Bool) = (decide (ps = qs)) := by
        first | exact R14.list_ne (fun hh => by subst hh; simp_all) | exact R14.list_eq (by omega) i1_0 (by omega) i1_2
      exact congrArg (fun (x0 : Bool) => vB x0) e_x0
    · rfl
  · have h1 := of_decide_eq_false h1
    refine J_skip ?_
    refine JX_then ?_
    refine J_seq ?_
    refine J_seq ?_
    refine J_region ?_
    refine JO_read (Value.slice psA ps.length psC) rfl trivial (fun _ _ => rfl) ?_
    refine JO_read (vI ((ps.length : Nat) : Int)) rfl trivial (fun _ _ => x_len_sl Try.underlying35 rfl) ?_
    refine JO_read (vI 0) rfl trivial (fun _ _ => rfl) ?_
    refine JO_nil ?_
    refine JX_then ?_
    refine J_block ?_
    refine J_loop (X := Nat) (fun (k : Nat) => (k ≤ ps.length) ∧ (ps.length = qs.length) ∧ (∀ i, i < k → ps.getD i default = qs.getD i default)) (fun (k : Nat) => [(0, Value.slice psA ps.length psC), (1, Value.slice qsA qs.length qsC), (12, vI ((ps.length : Nat) : Int)), (13, vI ((k : Nat) : Int))]) (fun (k : Nat) => []) (fun (k : Nat) => ps.length - k) (0 : Nat) ?_ ⟨rfl, rfl, rfl, rfl, trivial⟩ (fun _ h => h) ?_
    · show (0 ≤ ps.length) ∧ (ps.length = qs.length) ∧ (∀ i, i < 0 → ps.getD i default = qs.getD i default)
      refine ⟨?_, ?_, ?_⟩
      · first | rfl | omega | (simp_all; done) | (simp_all; omega)
      · first | rfl | omega | (simp_all; done) | (simp_all; omega)
      · intro i hi; omega
    intro k hI1
    obtain ⟨i1_0, i1_1, i1_2⟩ : (k ≤ ps.length) ∧ (ps.length = qs.length) ∧ (∀ i, i < k → ps.getD i default = qs.getD i default) := hI1
    refine J_weaken (E' := [(0, Value.slice psA ps.length psC), (1, Value.slice qsA qs.length qsC), (12, vI ((ps.length : Nat) : Int)), (13, vI ((k : Nat) : Int))]) (L' := []) ⟨rfl, rfl, rfl, rfl, trivial⟩ (fun _ h => h) ?_
    refine J_seq ?_
    refine J_region ?_
    refine JO_read (vB (decide (((k : Nat) : Int) < ((ps.length : Nat) : Int)))) rfl trivial (fun _ _ => x_lss_i rfl rfl) ?_
    refine JO_nil ?_
    refine JX_then ?_
    refine J_seq ?_
    refine J_cond (decide (((k : Nat) : Int) < ((ps.length : Nat) : Int))) rfl rfl (fun h2 => ?_) (fun h2 => ?_)
    · have h2 := of_decide_eq_true h2
      refine J_skip ?_
      refine JX_then ?_
      refine J_seq ?_
      refine J_block ?_
      refine J_seq ?_
      refine J_region ?_
      refine JO_read (vI ((k : Nat) : Int)) rfl trivial (fun _ _ => rfl) ?_
      refine JO_read (vI ((k : Nat) : Int)) rfl trivial (fun _ _ => rfl) ?_
      refine JO_nil ?_
      refine JX_then ?_
      refine J_seq ?_
      refine J_draw [] [] [] 9 Ty.mixed rfl ?_
      refine JA_take 0 (Value.slice psA ps.length psC) rfl (by kernel_rfl) (by kernel_rfl) (by kernel_rfl) rfl (fun _ _ _ h => h) rfl trivial (fun _ _ => rfl) ?_
      refine JA_take 1 (vI ((k : Nat) : Int)) rfl (by kernel_rfl) (by kernel_rfl) (by kernel_rfl) rfl (fun _ _ _ h => h) rfl trivial (fun _ _ => rfl) ?_
      refine JA_take 2 (Value.pointer (some (adr psA (k * 2)))) rfl (by kernel_rfl) (by kernel_rfl) (by kernel_rfl) rfl (fun _ _ _ h => h) rfl trivial (x_indexAddr_at (k := k) (off := k * 2) (cells_ro psR) Try.underlying35 Ty.sz54 rfl rfl lt_ (by rw [flat_length Pair.enc 2 Pair.enc_len]; first | omega | (simp; omega) | (simp_all; omega) | (simp_all; done)) rfl) ?_
      refine JA_take 3 (Value.agg #[vS ((ps.getD k default).key), vS ((ps.getD k default).record)]) rfl (by kernel_rfl) (by kernel_rfl) (by kernel_rfl) rfl (fun _ _ _ h => h) rfl trivial (x_loadN_at [vS ((ps.getD k default).key), vS ((ps.getD k default).record)] (cells_ro psR) rfl Ty.ag54 Ty.sz54 (flat_drop Pair.enc 2 Pair.enc_len ps default k lt_)) ?_
      refine JA_take 4 (Value.slice qsA qs.length qsC) rfl (by kernel_rfl) (by kernel_rfl) (by kernel_rfl) rfl (fun _ _ _ h => h) rfl trivial (fun _ _ => rfl) ?_
      refine JA_take 5 (vI ((k : Nat) : Int)) rfl (by kernel_rfl) (by kernel_rfl) (by kernel_rfl) rfl (fun _ _ _ h => h) rfl trivial (fun _ _ => rfl) ?_
      refine JA_take 6 (Value.pointer (some (adr qsA (k * 2)))) rfl (by kernel_rfl) (by kernel_rfl) (by kernel_rfl) rfl (fun _ _ _ h => h) rfl trivial (x_indexAddr_at (k := k) (off := k * 2) (cells_ro qsR) Try.underlying35 Ty.sz54 rfl rfl lt_ (by rw [flat_length Pair.enc 2 Pair.enc_len]; first | omega | (simp; omega) | (simp_all; omega) | (simp_all; done)) rfl) ?_
      refine JA_take 7 (Value.agg #[vS ((qs.getD k default).key), vS ((qs.getD k default).record)]) rfl (by kernel_rfl) (by kernel_rfl) (by kernel_rfl) rfl (fun _ _ _ h => h) rfl trivial (x_loadN_at [vS ((qs.getD k default).key), vS ((qs.getD k default).record)] (cells_ro qsR) rfl Ty.ag54 Ty.sz54 (flat_drop Pair.enc 2 Pair.enc_len qs default k lt_)) ?_
      refine JA_take 8 (vB (!(decide (((ps.getD k default) : Pair) = (qs.getD k default))))) rfl (by kernel_rfl) (by kernel_rfl) (by kernel_rfl) rfl (fun _ _ _ h => h) rfl trivial (fun _ _ => x_neq_agg rfl rfl Ty.eg54 (Ty.eq54 9998 (ps.getD k default) (qs.getD k default))) ?_
      refine JA_done (by kernel_rfl) (fun _ h => ⟨h, fun _ => h⟩) ?_
      refine JX_then ?_
      refine J_cond (!(decide (((ps.getD k default) : Pair) = (qs.getD k default)))) rfl rfl (fun h3 => ?_) (fun h3 => ?_)
      · have h3 : (decide (((ps.getD k default) : Pair) = (qs.getD k default))) = false := bnot_true h3
        have h3 := of_decide_eq_false h3
        refine J_seq ?_
        refine J_region ?_
        refine JO_read (vB false) rfl trivial (fun _ _ => rfl) ?_
        refine JO_nil ?_
        refine JX_then ?_
        refine J_ret ?_
        refine JX_block_ret ?_
        refine JX_then_ret ?_
        refine JX_round_ret ?_
        refine JX_block_ret ?_
        refine JX_then_ret ?_
        refine JX_rets [vB false] (vB false) Try.results43 (fun w h => ⟨rfl, trivial⟩) rfl [] (fun _ h => h) ⟨?_, ?_⟩
        · have e_x0 : (false : Bool) = (decide (ps = qs)) := by
            first | exact R14.list_ne (fun hh => by subst hh; simp_all) | exact R14.list_eq (by omega) i1_0 (by omega) i1_2
          exact congrArg (fun (x0 : Bool) => vB x0) e_x0
        · rfl
      · have h3 : (decide (((ps.getD k default) : Pair) = (qs.getD k default))) = true := bnot_false h3
        have h3 := of_decide_eq_true h3
        refine J_skip ?_
        refine JX_block ?_
        refine JX_then ?_
        refine J_region ?_
        refine JO_read (vI ((k + 1 : Nat) : Int)) rfl trivial (fun _ _ => x_add_n (a := k) (b := 1) rfl rfl (by omega)) ?_
        refine JO_read (vI ((k + 1 : Nat) : Int)) rfl trivial (fun _ _ => rfl) ?_
        refine JO_nil ?_
        refine JX_round (k + 1 : Nat) ?_ ?_ ⟨rfl, rfl, rfl, rfl, trivial⟩ (fun _ h => h)
        · show ((k + 1) ≤ ps.length) ∧ (ps.length = qs.length) ∧ (∀ i, i < (k + 1) → ps.getD i default = qs.getD i default)
          refine ⟨?_, ?_, ?_⟩
          · first | rfl | omega | (simp_all; done) | (simp_all; omega)
          · assumption
          · intro i hi; by_cases hik : i = k
            · subst hik; simp_all
            · exact i1_2 i (by omega)
        · show ps.length - (k + 1) < ps.length - k
          first | omega | (simp; omega) | (simp_all; omega)
    · have h2 := of_decide_eq_false h2
      refine J_exit ?_
      refine JX_then_exit ?_
      refine JX_round_exit ?_
      refine JX_block_hit ?_
      refine JX_then ?_
      refine J_seq ?_
      refine J_region ?_
      refine JO_read (vB true) rfl trivial (fun _ _ => rfl) ?_
      refine JO_nil ?_
      refine JX_then ?_
      refine J_ret ?_
      refine JX_rets [vB true] (vB true) Try.results43 (fun w h => ⟨rfl, trivial⟩) rfl [] (fun _ h => h) ⟨?_, ?_⟩
      · have e_x0 : (true : Bool) = (decide (ps = qs)) := by
          first | exact R14.list_ne (fun hh => by subst hh; simp_all) | exact R14.list_eq (by omega) i1_0 (by omega) i1_2
        exact congrArg (fun (x0 : Bool) => vB x0) e_x0
      · rfl

set_option maxRecDepth 20000 in
theorem f22_ok (d : DataSet) (n : Int) (ps : List Pair) (psA : Option Addr) (psC : Nat) (e : DataSet) (m : Int) (qs : List Pair) (qsA : Option Addr) (qsC : Nat) (w : World) (psR : RO [] w psA (ps.flatMap Pair.enc)) (qsR : RO [] w qsA (qs.flatMap Pair.enc)) (q0 : ps.length ≤ 9223372036854775807) (q1 : qs.length ≤ 9223372036854775807) : Calls Try.prog 22 #[Value.agg ((DataSet.enc d ++ [vI n, Value.slice psA ps.length psC])).toArray, Value.agg ((DataSet.enc e ++ [vI m, Value.slice qsA qs.length qsC])).toArray] w (Gives [] w fun v L => v = vB (R14.same d n ps e m qs) ∧ L = []) := by
  refine calls_J [] 24 Try.func22 rfl Try.ntmps22 [(0, Value.agg ((DataSet.enc d ++ [vI n, Value.slice psA ps.length psC])).toArray), (1, Value.agg ((DataSet.enc e ++ [vI m, Value.slice qsA qs.length qsC])).toArray)] rfl rfl (Give.nil w) ?_
  refine J_seq ?_
  refine J_region ?_
  refine JO_op rfl trivial (O_box rfl rfl fun b1 => ?_)
  refine JO_op rfl trivial (O_box rfl rfl fun b2 => ?_)
  refine JO_read (vB false) rfl trivial (fun _ _ => rfl) ?_
  refine JO_nil ?_
  refine JX_then ?_
  refine J_seq ?_
  refine J_region ?_
  refine JO_read (Value.pointer (some ⟨b1, 0, none⟩)) rfl trivial (fun _ _ => x_fieldAddr Ty.fi37_0 rfl rfl) ?_
  refine JO_read (Value.agg ((DataSet.enc d)).toArray) rfl trivial (x_loadN 1 (DataSet.enc d) rfl rfl Ty.ag34 Ty.sz34 rfl) ?_
  refine JO_read (Value.pointer (some ⟨b2, 0, none⟩)) rfl trivial (fun _ _ => x_fieldAddr Ty.fi37_0 rfl rfl) ?_
  refine JO_read (Value.agg ((DataSet.enc e)).toArray) rfl trivial (x_loadN 0 (DataSet.enc e) rfl rfl Ty.ag34 Ty.sz34 rfl) ?_
  refine JO_read (vB (decide ((d : DataSet) = e))) rfl trivial (fun _ _ => x_eql_agg rfl rfl Ty.eg34 (Ty.eq34 9998 d e)) ?_
  refine JO_read (vB (decide ((d : DataSet) = e))) rfl trivial (fun _ _ => rfl) ?_
  refine JO_cut (X := Bool) 6 (fun z => z = ((decide ((d : DataSet) = e)) && (decide (n = m)))) (fun z => [(2, Value.pointer (some ⟨b1, 0, none⟩)), (3, Value.pointer (some ⟨b2, 0, none⟩)), (4, vB false), (16, vB z)]) (fun _ => [Ent.blk b2 37 (DataSet.enc e ++ [vI m, Value.slice qsA qs.length qsC]), Ent.blk b1 37 (DataSet.enc d ++ [vI n, Value.slice psA ps.length psC])]) ?_ ?_
  · rcases Bool.eq_false_or_eq_true (decide ((d : DataSet) = e)) with g4 | g4
    · have g4r := g4
      have g4r := of_decide_eq_true g4r
      refine JO_read (Value.pointer (some ⟨b1, 21, none⟩)) rfl ⟨_, rfl, g4⟩ (fun _ _ => x_fieldAddr Ty.fi37_1 rfl rfl) ?_
      refine JO_read (vI n) rfl ⟨_, rfl, g4⟩ (x_load 1 rfl rfl Ty.sc3 rfl) ?_
      refine JO_read (Value.pointer (some ⟨b2, 21, none⟩)) rfl ⟨_, rfl, g4⟩ (fun _ _ => x_fieldAddr Ty.fi37_1 rfl rfl) ?_
      refine JO_read (vI m) rfl ⟨_, rfl, g4⟩ (x_load 0 rfl rfl Ty.sc3 rfl) ?_
      refine JO_read (vB (decide (n = m))) rfl ⟨_, rfl, g4⟩ (fun _ _ => x_eql_i rfl rfl) ?_
      refine JO_read (vB (decide (n = m))) rfl trivial (fun _ _ => x_pick_t rfl g4 rfl) ?_
      refine JO_nil (JX_cut (decide (n = m)) (by rw [g4]; simp) ⟨rfl, rfl, rfl, rfl, trivial⟩ (fun _ h => h))
    · have g4r := g4
      have g4r := of_decide_eq_false g4r
      refine JO_shun rfl ⟨_, rfl, g4⟩ ?_
      refine JO_shun rfl ⟨_, rfl, g4⟩ ?_
      refine JO_shun rfl ⟨_, rfl, g4⟩ ?_
      refine JO_shun rfl ⟨_, rfl, g4⟩ ?_
      refine JO_shun rfl ⟨_, rfl, g4⟩ ?_
      refine JO_read (vB false) rfl trivial (fun _ _ => x_pick_f rfl g4 rfl) ?_
      refine JO_nil (JX_cut (false) (by rw [g4]; simp) ⟨rfl, rfl, rfl, rfl, trivial⟩ (fun _ h => h))
  rintro z3 rfl
  refine JO_read (vB ((decide ((d : DataSet) = e)) && (decide (n = m)))) rfl trivial (fun _ _ => rfl) ?_
  refine JO_cut (X := Bool) 6 (fun z => z = (((decide ((d : DataSet) = e)) && (decide (n = m))) && (decide (ps = qs)))) (fun z => [(4, vB false), (23, vB z)]) (fun _ => [Ent.blk b2 37 (DataSet.enc e ++ [vI m, Value.slice qsA qs.length qsC]), Ent.blk b1 37 (DataSet.enc d ++ [vI n, Value.slice psA ps.length psC])]) ?_ ?_
  · rcases Bool.eq_false_or_eq_true ((decide ((d : DataSet) = e)) && (decide (n = m))) with g6 | g6
    · have g6r := g6
      have ⟨g6r, h7⟩ := band_true g6r
      have g6r := of_decide_eq_true g6r
      have h7 := of_decide_eq_true h7
      refine JO_read (Value.pointer (some ⟨b1, 22, none⟩)) rfl ⟨_, rfl, g6⟩ (fun _ _ => x_fieldAddr Ty.fi37_2 rfl rfl) ?_
      refine JO_read (Value.slice psA ps.length psC) rfl ⟨_, rfl, g6⟩ (x_load 1 rfl rfl Ty.sc35 rfl) ?_
      refine JO_read (Value.pointer (some ⟨b2, 22, none⟩)) rfl ⟨_, rfl, g6⟩ (fun _ _ => x_fieldAddr Ty.fi37_2 rfl rfl) ?_
      refine JO_read (Value.slice qsA qs.length qsC) rfl ⟨_, rfl, g6⟩ (x_load 0 rfl rfl Ty.sc35 rfl) ?_
      refine JO_call [] [] [Ent.blk b2 37 (DataSet.enc e ++ [vI m, Value.slice qsA qs.length qsC]), Ent.blk b1 37 (DataSet.enc d ++ [vI n, Value.slice psA ps.length psC])] rfl ⟨_, rfl, g6⟩ (fun _ => x_call Ty.ca43 rfl) (fun _ h => h) (fun _ h => by cases h) (fun w hS => f43_ok ps psA psC qs qsA qsC w (psR.on hS (fun _ h => by cases h)) (qsR.on hS (fun _ h => by cases h)) hy_ hy_) ?_
      rintro _ _ ⟨rfl, rfl⟩
      refine JO_read (vB (decide (ps = qs))) rfl trivial (fun _ _ => x_pick_t rfl g6 rfl) ?_
      refine JO_nil (JX_cut (decide (ps = qs)) (by rw [g6]; simp) ⟨rfl, rfl, trivial⟩ (fun _ h => h))
    · have g6r := g6
      simp only [Bool.and_eq_true, Bool.or_eq_true, Bool.and_eq_false_iff, Bool.or_eq_false_iff, Bool.not_eq_true', Bool.not_eq_false', decide_eq_true_eq, decide_eq_false_iff_not] at g6r
      refine JO_shun rfl ⟨_, rfl, g6⟩ ?_
      refine JO_shun rfl ⟨_, rfl, g6⟩ ?_
      refine JO_shun rfl ⟨_, rfl, g6⟩ ?_
      refine JO_shun rfl ⟨_, rfl, g6⟩ ?_
      refine JO_shun rfl ⟨_, rfl, g6⟩ ?_
      refine JO_read (vB false) rfl trivial (fun _ _ => x_pick_f rfl g6 rfl) ?_
      refine JO_nil (JX_cut (false) (by rw [g6]; simp) ⟨rfl, rfl, trivial⟩ (fun _ h => h))
  rintro z5 rfl
  refine JO_read (vB (((decide ((d : DataSet) = e)) && (decide (n = m))) && (decide (ps = qs)))) rfl trivial (fun _ _ => rfl) ?_
  refine JO_nil ?_
  refine JX_then ?_
  refine J_ret ?_
  refine JX_rets [vB (((decide ((d : DataSet) = e)) && (decide (n = m))) && (decide (ps = qs)))] (vB (((decide ((d : DataSet) = e)) && (decide (n = m))) && (decide (ps = qs)))) Try.results22 (fun w h => ⟨rfl, trivial⟩) rfl [] (fun _ h => h.keep [false, false] rfl) ⟨?_, ?_⟩
  · have e_x0 : (((decide ((d : DataSet) = e)) && (decide (n = m))) && (decide (ps = qs)) : Bool) = (R14.same d n ps e m qs) := by
      rfl
    exact congrArg (fun (x0 : Bool) => vB x0) e_x0
  · rfl

set_option maxRecDepth 20000 in
theorem f23_ok (d : DataSet) (n : Int) (ps : List Pair) (psA : Option Addr) (psC : Nat) (e : DataSet) (m : Int) (qs : List Pair) (qsA : Option Addr) (qsC : Nat) (w : World) (psR : RO [] w psA (ps.flatMap Pair.enc)) (qsR : RO [] w qsA (qs.flatMap Pair.enc)) (q0 : ps.length ≤ 9223372036854775807) (q1 : qs.length ≤ 9223372036854775807) : Calls Try.prog 23 #[Value.agg ((DataSet.enc d ++ [vI n, Value.slice psA ps.length psC])).toArray, Value.agg ((DataSet.enc e ++ [vI m, Value.slice qsA qs.length qsC])).toArray] w (Gives [] w fun v L => v = vB (R14.same d n ps e m qs) ∧ L = []) := by
  refine calls_J [] 45 Try.func23 rfl Try.ntmps23 [(0, Value.agg ((DataSet.enc d ++ [vI n, Value.slice psA ps.length psC])).toArray), (1, Value.agg ((DataSet.enc e ++ [vI m, Value.slice qsA qs.length qsC])).toArray)] rfl rfl (Give.nil w) ?_
  refine J_seq ?_
  refine J_region ?_
  refine JO_op rfl trivial (O_box rfl rfl fun b1 => ?_)
  refine JO_op rfl trivial (O_box rfl rfl fun b2 => ?_)
  refine JO_read (vB false) rfl trivial (fun _ _ => rfl) ?_
  refine JO_nil ?_
  refine JX_then ?_
  refine J_seq ?_
  refine J_seq ?_
  refine J_region ?_
  refine JO_read (Value.pointer (some ⟨b1, 0, none⟩)) rfl trivial (fun _ _ => x_fieldAddr Ty.fi37_0 rfl rfl) ?_
  refine JO_read (Value.agg ((DataSet.enc d)).toArray) rfl trivial (x_loadN 1 (DataSet.enc d) rfl rfl Ty.ag34 Ty.sz34 rfl) ?_
  refine JO_read (Value.pointer (some ⟨b2, 0, none⟩)) rfl trivial (fun _ _ => x_fieldAddr Ty.fi37_0 rfl rfl) ?_
  refine JO_read (Value.agg ((DataSet.enc e)).toArray) rfl trivial (x_loadN 0 (DataSet.enc e) rfl rfl Ty.ag34 Ty.sz34 rfl) ?_
  refine JO_read (vB (!(decide ((d : DataSet) = e)))) rfl trivial (fun _ _ => x_neq_agg rfl rfl Ty.eg34 (Ty.eq34 9998 d e)) ?_
  refine JO_read (vB (!(decide ((d : DataSet) = e)))) rfl trivial (fun _ _ => rfl) ?_
  refine JO_cut (X := Bool) 6 (fun z => z = ((!(decide ((d : DataSet) = e))) || (decide (n ≠ m)))) (fun z => [(2, Value.pointer (some ⟨b1, 0, none⟩)), (3, Value.pointer (some ⟨b2, 0, none⟩)), (4, vB false), (17, vB z)]) (fun _ => [Ent.blk b2 37 (DataSet.enc e ++ [vI m, Value.slice qsA qs.length qsC]), Ent.blk b1 37 (DataSet.enc d ++ [vI n, Value.slice psA ps.length psC])]) ?_ ?_
  · rcases Bool.eq_false_or_eq_true (!(decide ((d : DataSet) = e))) with g4 | g4
    · have g4r := g4
      have g4r : (decide ((d : DataSet) = e)) = false := bnot_true g4r
      have g4r := of_decide_eq_false g4r
      refine JO_shun rfl ⟨_, rfl, g4⟩ ?_
      refine JO_shun rfl ⟨_, rfl, g4⟩ ?_
      refine JO_shun rfl ⟨_, rfl, g4⟩ ?_
      refine JO_shun rfl ⟨_, rfl, g4⟩ ?_
      refine JO_shun rfl ⟨_, rfl, g4⟩ ?_
      refine JO_read (vB true) rfl trivial (fun _ _ => x_pick_t rfl g4 rfl) ?_
      refine JO_nil (JX_cut (true) (by rw [g4]; simp) ⟨rfl, rfl, rfl, rfl, trivial⟩ (fun _ h => h))
    · have g4r := g4
      have g4r : (decide ((d : DataSet) = e)) = true := bnot_false g4r
      have g4r := of_decide_eq_true g4r
      refine JO_read (Value.pointer (some ⟨b1, 21, none⟩)) rfl ⟨_, rfl, g4⟩ (fun _ _ => x_fieldAddr Ty.fi37_1 rfl rfl) ?_
      refine JO_read (vI n) rfl ⟨_, rfl, g4⟩ (x_load 1 rfl rfl Ty.sc3 rfl) ?_
      refine JO_read (Value.pointer (some ⟨b2, 21, none⟩)) rfl ⟨_, rfl, g4⟩ (fun _ _ => x_fieldAddr Ty.fi37_1 rfl rfl) ?_
      refine JO_read (vI m) rfl ⟨_, rfl, g4⟩ (x_load 0 rfl rfl Ty.sc3 rfl) ?_
      refine JO_read (vB (decide (n ≠ m))) rfl ⟨_, rfl, g4⟩ (fun _ _ => x_neq_i rfl rfl) ?_
      refine JO_read (vB (decide (n ≠ m))) rfl trivial (fun _ _ => x_pick_f rfl g4 rfl) ?_
      refine JO_nil (JX_cut (decide (n ≠ m)) (by rw [g4]; simp) ⟨rfl, rfl, rfl, rfl, trivial⟩ (fun _ h => h))
  rintro z3 rfl
  refine JO_read (vB ((!(decide ((d : DataSet) = e))) || (decide (n ≠ m)))) rfl trivial (fun _ _ => rfl) ?_
  refine JO_cut (X := Bool) 8 (fun z => z = (((!(decide ((d : DataSet) = e))) || (decide (n ≠ m))) || (decide (((ps.length : Nat) : Int) ≠ ((qs.length : Nat) : Int))))) (fun z => [(2, Value.pointer (some ⟨b1, 0, none⟩)), (3, Value.pointer (some ⟨b2, 0, none⟩)), (4, vB false), (26, vB z)]) (fun _ => [Ent.blk b2 37 (DataSet.enc e ++ [vI m, Value.slice qsA qs.length qsC]), Ent.blk b1 37 (DataSet.enc d ++ [vI n, Value.slice psA ps.length psC])]) ?_ ?_
  · rcases Bool.eq_false_or_eq_true ((!(decide ((d : DataSet) = e))) || (decide (n ≠ m))) with g6 | g6
    · have g6r := g6
      simp only [Bool.and_eq_true, Bool.or_eq_true, Bool.and_eq_false_iff, Bool.or_eq_false_iff, Bool.not_eq_true', Bool.not_eq_false', decide_eq_true_eq, decide_eq_false_iff_not] at g6r
      refine JO_shun rfl ⟨_, rfl, g6⟩ ?_
      refine JO_shun rfl ⟨_, rfl, g6⟩ ?_
      refine JO_shun rfl ⟨_, rfl, g6⟩ ?_
      refine JO_shun rfl ⟨_, rfl, g6⟩ ?_
      refine JO_shun rfl ⟨_, rfl, g6⟩ ?_
      refine JO_shun rfl ⟨_, rfl, g6⟩ ?_
      refine JO_shun rfl ⟨_, rfl, g6⟩ ?_
      refine JO_read (vB true) rfl trivial (fun _ _ => x_pick_t rfl g6 rfl) ?_
      refine JO_nil (JX_cut (true) (by rw [g6]; simp) ⟨rfl, rfl, rfl, rfl, trivial⟩ (fun _ h => h))
    · have g6r := g6
      have ⟨g6r, h7⟩ := bor_false g6r
      have g6r : (decide ((d : DataSet) = e)) = true := bnot_false g6r
      have g6r := of_decide_eq_true g6r
      have h7 := of_decide_eq_false h7
      refine JO_read (Value.pointer (some ⟨b1, 22, none⟩)) rfl ⟨_, rfl, g6⟩ (fun _ _ => x_fieldAddr Ty.fi37_2 rfl rfl) ?_
      refine JO_read (Value.slice psA ps.length psC) rfl ⟨_, rfl, g6⟩ (x_load 1 rfl rfl Ty.sc35 rfl) ?_
      refine JO_read (vI ((ps.length : Nat) : Int)) rfl ⟨_, rfl, g6⟩ (fun _ _ => x_len_sl Try.underlying35 rfl) ?_
      refine JO_read (Value.pointer (some ⟨b2, 22, none⟩)) rfl ⟨_, rfl, g6⟩ (fun _ _ => x_fieldAddr Ty.fi37_2 rfl rfl) ?_
      refine JO_read (Value.slice qsA qs.length qsC) rfl ⟨_, rfl, g6⟩ (x_load 0 rfl rfl Ty.sc35 rfl) ?_
      refine JO_read (vI ((qs.length : Nat) : Int)) rfl ⟨_, rfl, g6⟩ (fun _ _ => x_len_sl Try.underlying35 rfl) ?_
      refine JO_read (vB (decide (((ps.length : Nat) : Int) ≠ ((qs.length : Nat) : Int)))) rfl ⟨_, rfl, g6⟩ (fun _ _ => x_neq_i rfl rfl) ?_
      refine JO_read (vB (decide (((ps.length : Nat) : Int) ≠ ((qs.length : Nat) : Int)))) rfl trivial (fun _ _ => x_pick_f rfl g6 rfl) ?_
      refine JO_nil (JX_cut (decide (((ps.length : Nat) : Int) ≠ ((qs.length : Nat) : Int))) (by rw [g6]; simp) ⟨rfl, rfl, rfl, rfl, trivial⟩ (fun _ h => h))
  rintro z5 rfl
  refine JO_nil ?_
  refine JX_then ?_
  refine J_cond (((!(decide ((d : DataSet) = e))) || (decide (n ≠ m))) || (decide (((ps.length : Nat) : Int) ≠ ((qs.length : Nat) : Int)))) rfl rfl (fun h8 => ?_) (fun h8 => ?_)
  · simp only [Bool.and_eq_true, Bool.or_eq_true, Bool.and_eq_false_iff, Bool.or_eq_false_iff, Bool.not_eq_true', Bool.not_eq_false', decide_eq_true_eq, decide_eq_false_iff_not] at h8
    refine J_seq ?_
    refine J_region ?_
    refine JO_read (vB false) rfl trivial (fun _ _ => rfl) ?_
    refine JO_nil ?_
    refine JX_then ?_
    refine J_ret ?_
    refine JX_then_ret ?_
    refine JX_rets [vB false] (vB false) Try.results23 (fun w h => ⟨rfl, trivial⟩) rfl [] (fun _ h => h.keep [false, false] rfl) ⟨?_, ?_⟩
    · have e_x0 : (false : Bool) = (R14.same d n ps e m qs) := by
        first | exact R14.same_ne1 (by assumption) | exact R14.same_ne2 (k := k) (by assumption) | exact R14.same_eq (by assumption) (by assumption) (by assumption) i1_0 (by assumption) i1_1
      exact congrArg (fun (x0 : Bool) => vB x0) e_x0
    · rfl
  · have ⟨h8, h9⟩ := bor_false h8
    have ⟨h8, h10⟩ := bor_false h8
    have h8 : (decide ((d : DataSet) = e)) = true := bnot_false h8
    have h8 := of_decide_eq_true h8
    have h10 := of_decide_eq_false h10
    have h9 := of_decide_eq_false h9
    refine J_skip ?_
    refine JX_then ?_
    refine J_seq ?_
    refine J_seq ?_
    refine J_region ?_
    refine JO_read (vI 0) rfl trivial (fun _ _ => rfl) ?_
    refine JO_nil ?_
    refine JX_then ?_
    refine J_block ?_
    refine J_loop (X := Nat) (fun (k : Nat) => (k ≤ ps.length) ∧ (∀ i, i < k → ps.getD i default = qs.getD i default)) (fun (k : Nat) => [(2, Value.pointer (some ⟨b1, 0, none⟩)), (3, Value.pointer (some ⟨b2, 0, none⟩)), (5, vI ((k : Nat) : Int))]) (fun (k : Nat) => [Ent.blk b2 37 (DataSet.enc e ++ [vI m, Value.slice qsA qs.length qsC]), Ent.blk b1 37 (DataSet.enc d ++ [vI n, Value.slice psA ps.length psC])]) (fun (k : Nat) => ps.length - k) (0 : Nat) ?_ ⟨rfl, rfl, rfl, trivial⟩ (fun _ h => h) ?_
    · show (0 ≤ ps.length) ∧ (∀ i, i < 0 → ps.getD i default = qs.getD i default)
      refine ⟨?_, ?_⟩
      · first | rfl | omega | (simp_all; done) | (simp_all; omega)
      · intro i hi; omega
    intro k hI1
    obtain ⟨i1_0, i1_1⟩ : (k ≤ ps.length) ∧ (∀ i, i < k → ps.getD i default = qs.getD i default) := hI1
    refine J_weaken (E' := [(2, Value.pointer (some ⟨b1, 0, none⟩)), (3, Value.pointer (some ⟨b2, 0, none⟩)), (5, vI ((k : Nat) : Int))]) (L' := [Ent.blk b2 37 (DataSet.enc e ++ [vI m, Value.slice qsA qs.length qsC]), Ent.blk b1 37 (DataSet.enc d ++ [vI n, Value.slice psA ps.length psC])]) ⟨rfl, rfl, rfl, trivial⟩ (fun _ h => h) ?_
    refine J_seq ?_
    refine J_seq ?_
    refine J_region ?_
    refine JO_read (vI ((k : Nat) : Int)) rfl trivial (fun _ _ => rfl) ?_
    refine JO_read (Value.pointer (some ⟨b1, 22, none⟩)) rfl trivial (fun _ _ => x_fieldAddr Ty.fi37_2 rfl rfl) ?_
    refine JO_read (Value.slice psA ps.length psC) rfl trivial (x_load 1 rfl rfl Ty.sc35 rfl) ?_
    refine JO_read (vI ((ps.length : Nat) : Int)) rfl trivial (fun _ _ => x_len_sl Try.underlying35 rfl) ?_
    refine JO_read (vB (decide (((k : Nat) : Int) < ((ps.length : Nat) : Int)))) rfl trivial (fun _ _ => x_lss_i rfl rfl) ?_
    refine JO_nil ?_
    refine JX_then ?_
    refine J_cond (decide (((k : Nat) : Int) < ((ps.length : Nat) : Int))) rfl rfl (fun h11 => ?_) (fun h11 => ?_)
    · have h11 := of_decide_eq_true h11
      refine J_skip ?_
      refine JX_then ?_
      refine J_seq ?_
      refine J_block ?_
      refine J_seq ?_
      refine J_draw [Ent.blk b2 37 (DataSet.enc e ++ [vI m, Value.slice qsA qs.length qsC]), Ent.blk b1 37 (DataSet.enc d ++ [vI n, Value.slice psA ps.length psC])] [] [Ent.blk b2 37 (DataSet.enc e ++ [vI m, Value.slice qsA qs.length qsC]), Ent.blk b1 37 (DataSet.enc d ++ [vI n, Value.slice psA ps.length psC])] 11 Ty.mixed rfl ?_
      refine JA_take 0 (Value.pointer (some ⟨b1, 22, none⟩)) rfl (by kernel_rfl) (by kernel_rfl) (by kernel_rfl) rfl (fun _ _ _ h => h) rfl trivial (fun _ _ => x_fieldAddr Ty.fi37_2 rfl rfl) ?_
      refine JA_take 1 (Value.slice psA ps.length psC) rfl (by kernel_rfl) (by kernel_rfl) (by kernel_rfl) rfl (fun _ _ _ h => h) rfl trivial (x_load 1 rfl rfl Ty.sc35 rfl) ?_
      refine JA_take 2 (vI ((k : Nat) : Int)) rfl (by kernel_rfl) (by kernel_rfl) (by kernel_rfl) rfl (fun _ _ _ h => h) rfl trivial (fun _ _ => rfl) ?_
      refine JA_take 3 (Value.pointer (some (adr psA (k * 2)))) rfl (by kernel_rfl) (by kernel_rfl) (by kernel_rfl) rfl (fun _ _ _ h => h) rfl trivial (x_indexAddr_at (k := k) (off := k * 2) (cells_ro psR) Try.underlying35 Ty.sz54 rfl rfl lt_ (by rw [flat_length Pair.enc 2 Pair.enc_len]; first | omega | (simp; omega) | (simp_all; omega) | (simp_all; done)) rfl) ?_
      refine JA_take 4 (Value.agg #[vS ((ps.getD k default).key), vS ((ps.getD k default).record)]) rfl (by kernel_rfl) (by kernel_rfl) (by kernel_rfl) rfl (fun _ _ _ h => h) rfl trivial (x_loadN_at [vS ((ps.getD k default).key), vS ((ps.getD k default).record)] (cells_ro psR) rfl Ty.ag54 Ty.sz54 (flat_drop Pair.enc 2 Pair.enc_len ps default k lt_)) ?_
      refine JA_take 5 (Value.pointer (some ⟨b2, 22, none⟩)) rfl (by kernel_rfl) (by kernel_rfl) (by kernel_rfl) rfl (fun _ _ _ h => h) rfl trivial (fun _ _ => x_fieldAddr Ty.fi37_2 rfl rfl) ?_
      refine JA_take 6 (Value.slice qsA qs.length qsC) rfl (by kernel_rfl) (by kernel_rfl) (by kernel_rfl) rfl (fun _ _ _ h => h) rfl trivial (x_load 0 rfl rfl Ty.sc35 rfl) ?_
      refine JA_take 7 (vI ((k : Nat) : Int)) rfl (by kernel_rfl) (by kernel_rfl) (by kernel_rfl) rfl (fun _ _ _ h => h) rfl trivial (fun _ _ => rfl) ?_
      refine JA_take 8 (Value.pointer (some (adr qsA (k * 2)))) rfl (by kernel_rfl) (by kernel_rfl) (by kernel_rfl) rfl (fun _ _ _ h => h) rfl trivial (x_indexAddr_at (k := k) (off := k * 2) (cells_ro qsR) Try.underlying35 Ty.sz54 rfl rfl lt_ (by rw [flat_length Pair.enc 2 Pair.enc_len]; first | omega | (simp; omega) | (simp_all; omega) | (simp_all; done)) rfl) ?_
      refine JA_take 9 (Value.agg #[vS ((qs.getD k default).key), vS ((qs.getD k default).record)]) rfl (by kernel_rfl) (by kernel_rfl) (by kernel_rfl) rfl (fun _ _ _ h => h) rfl trivial (x_loadN_at [vS ((qs.getD k default).key), vS ((qs.getD k default).record)] (cells_ro qsR) rfl Ty.ag54 Ty.sz54 (flat_drop Pair.enc 2 Pair.enc_len qs default k lt_)) ?_
      refine JA_take 10 (vB (!(decide (((ps.getD k default) : Pair) = (qs.getD k default))))) rfl (by kernel_rfl) (by kernel_rfl) (by kernel_rfl) rfl (fun _ _ _ h => h) rfl trivial (fun _ _ => x_neq_agg rfl rfl Ty.eg54 (Ty.eq54 9998 (ps.getD k default) (qs.getD k default))) ?_
      refine JA_done (by kernel_rfl) (fun _ h => ⟨h, fun _ => h⟩) ?_
      refine JX_then ?_
      refine J_cond (!(decide (((ps.getD k default) : Pair) = (qs.getD k default)))) rfl rfl (fun h12 => ?_) (fun h12 => ?_)
      · have h12 : (decide (((ps.getD k default) : Pair) = (qs.getD k default))) = false := bnot_true h12
        have h12 := of_decide_eq_false h12
        refine J_seq ?_
        refine J_region ?_
        refine JO_read (vB false) rfl trivial (fun _ _ => rfl) ?_
        refine JO_nil ?_
        refine JX_then ?_
        refine J_ret ?_
        refine JX_block_ret ?_
        refine JX_then_ret ?_
        refine JX_round_ret ?_
        refine JX_block_ret ?_
        refine JX_then_ret ?_
        refine JX_rets [vB false] (vB false) Try.results23 (fun w h => ⟨rfl, trivial⟩) rfl [] (fun _ h => h.keep [false, false] rfl) ⟨?_, ?_⟩
        · have e_x0 : (false : Bool) = (R14.same d n ps e m qs) := by
            first | exact R14.same_ne1 (by assumption) | exact R14.same_ne2 (k := k) (by assumption) | exact R14.same_eq (by assumption) (by assumption) (by assumption) i1_0 (by assumption) i1_1
          exact congrArg (fun (x0 : Bool) => vB x0) e_x0
        · rfl
      · have h12 : (decide (((ps.getD k default) : Pair) = (qs.getD k default))) = true := bnot_false h12
        have h12 := of_decide_eq_true h12
        refine J_skip ?_
        refine JX_block ?_
        refine JX_then ?_
        refine J_region ?_
        refine JO_read (vI ((k : Nat) : Int)) rfl trivial (fun _ _ => rfl) ?_
        refine JO_read (vI ((k + 1 : Nat) : Int)) rfl trivial (fun _ _ => x_add_n (a := k) (b := 1) rfl rfl (by omega)) ?_
        refine JO_read (vI ((k + 1 : Nat) : Int)) rfl trivial (fun _ _ => rfl) ?_
        refine JO_nil ?_
        refine JX_round (k + 1 : Nat) ?_ ?_ ⟨rfl, rfl, rfl, trivial⟩ (fun _ h => h)
        · show ((k + 1) ≤ ps.length) ∧ (∀ i, i < (k + 1) → ps.getD i default = qs.getD i default)
          refine ⟨?_, ?_⟩
          · first | rfl | omega | (simp_all; done) | (simp_all; omega)
          · intro i hi; by_cases hik : i = k
            · subst hik; simp_all
            · exact i1_1 i (by omega)
        · show ps.length - (k + 1) < ps.length - k
          first | omega | (simp; omega) | (simp_all; omega)
    · have h11 := of_decide_eq_false h11
      refine J_exit ?_
      refine JX_then_exit ?_
      refine JX_round_exit ?_
      refine JX_block_hit ?_
      refine JX_then ?_
      refine J_seq ?_
      refine J_region ?_
      refine JO_read (vB true) rfl trivial (fun _ _ => rfl) ?_
      refine JO_nil ?_
      refine JX_then ?_
      refine J_ret ?_
      refine JX_rets [vB true] (vB true) Try.results23 (fun w h => ⟨rfl, trivial⟩) rfl [] (fun _ h => h.keep [false, false] rfl) ⟨?_, ?_⟩
      · have e_x0 : (true : Bool) = (R14.same d n ps e m qs) := by
          first | exact R14.same_ne1 (by assumption) | exact R14.same_ne2 (k := k) (by assumption) | exact R14.same_eq (by assumption) (by assumption) (by assumption) i1_0 (by assumption) i1_1
        exact congrArg (fun (x0 : Bool) => vB x0) e_x0
      · rfl

set_option maxRecDepth 20000 in
theorem f17_ok (d : DataSet) (n : Int) (ps : List Pair) (psA : Option Addr) (psC : Nat) (w : World) (psR : RO [] w psA (ps.flatMap Pair.enc)) (q0 : ps.length ≤ 9223372036854775807) : Calls Try.prog 17 #[Value.agg ((DataSet.enc d ++ [vI n, Value.slice psA ps.length psC])).toArray] w (Gives [] w fun v L => v = vB (R14.few d ps) ∧ L = []) := by
  refine calls_J [] 47 Try.func17 rfl Try.ntmps17 [(0, Value.agg ((DataSet.enc d ++ [vI n, Value.slice psA ps.length psC])).toArray)] rfl rfl (Give.nil w) ?_
  refine J_seq ?_
  refine J_region ?_
  refine JO_op rfl trivial (O_box rfl rfl fun b1 => ?_)
  refine JO_read (vB false) rfl trivial (fun _ _ => rfl) ?_
  refine JO_nil ?_
  refine JX_then ?_
  refine J_seq ?_
  refine J_seq ?_
  refine J_region ?_
  refine JO_read (vI 0) rfl trivial (fun _ _ => rfl) ?_
  refine JO_nil ?_
  refine JX_then ?_
  refine J_block ?_
  refine J_loop (X := Nat) (fun (k : Nat) => (k ≤ ps.length) ∧ (∀ i, i < k → R14.bigP (ps.getD i default) = false)) (fun (k : Nat) => [(1, Value.pointer (some ⟨b1, 0, none⟩)), (3, vI ((k : Nat) : Int))]) (fun (k : Nat) => [Ent.blk b1 37 (DataSet.enc d ++ [vI n, Value.slice psA ps.length psC])]) (fun (k : Nat) => ps.length - k) (0 : Nat) ?_ ⟨rfl, rfl, trivial⟩ (fun _ h => h) ?_
  · show (0 ≤ ps.length) ∧ (∀ i, i < 0 → R14.bigP (ps.getD i default) = false)
    refine ⟨?_, ?_⟩
    · first | rfl | omega | (simp_all; done) | (simp_all; omega)
    · intro i hi; omega
  intro k hI1
  obtain ⟨i1_0, i1_1⟩ : (k ≤ ps.length) ∧ (∀ i, i < k → R14.bigP (ps.getD i default) = false) := hI1
  refine J_weaken (E' := [(1, Value.pointer (some ⟨b1, 0, none⟩)), (3, vI ((k : Nat) : Int))]) (L' := [Ent.blk b1 37 (DataSet.enc d ++ [vI n, Value.slice psA ps.length psC])]) ⟨rfl, rfl, trivial⟩ (fun _ h => h) ?_
  refine J_seq ?_
  refine J_seq ?_
  refine J_region ?_
  refine JO_read (vI ((k : Nat) : Int)) rfl trivial (fun _ _ => rfl) ?_
  refine JO_read (Value.pointer (some ⟨b1, 22, none⟩)) rfl trivial (fun _ _ => x_fieldAddr Ty.fi37_2 rfl rfl) ?_
  refine JO_read (Value.slice psA ps.length psC) rfl trivial (x_load 0 rfl rfl Ty.sc35 rfl) ?_
  refine JO_read (vI ((ps.length : Nat) : Int)) rfl trivial (fun _ _ => x_len_sl Try.underlying35 rfl) ?_
  refine JO_read (vB (decide (((k : Nat) : Int) < ((ps.length : Nat) : Int)))) rfl trivial (fun _ _ => x_lss_i rfl rfl) ?_
  refine JO_nil ?_
  refine JX_then ?_
  refine J_cond (decide (((k : Nat) : Int) < ((ps.length : Nat) : Int))) rfl rfl (fun h2 => ?_) (fun h2 => ?_)
  · have h2 := of_decide_eq_true h2
    refine J_skip ?_
    refine JX_then ?_
    refine J_seq ?_
    refine J_block ?_
    refine J_seq ?_
    refine J_region ?_
    refine JO_read (Value.pointer (some ⟨b1, 22, none⟩)) rfl trivial (fun _ _ => x_fieldAddr Ty.fi37_2 rfl rfl) ?_
    refine JO_read (Value.slice psA ps.length psC) rfl trivial (x_load 0 rfl rfl Ty.sc35 rfl) ?_
    refine JO_read (vI ((k : Nat) : Int)) rfl trivial (fun _ _ => rfl) ?_
    refine JO_read (Value.pointer (some (adr psA (k * 2)))) rfl trivial (x_indexAddr_at (k := k) (off := k * 2) (cells_ro psR) Try.underlying35 Ty.sz54 rfl rfl lt_ (by rw [flat_length Pair.enc 2 Pair.enc_len]; first | omega | (simp; omega) | (simp_all; omega) | (simp_all; done)) rfl) ?_
    refine JO_read (Value.pointer (some (adr psA (k * 2)))) rfl trivial (fun _ _ => x_fieldAddr Ty.fi54_0 rfl rfl) ?_
    refine JO_read (vS ((ps.getD k default).key)) rfl trivial (x_load_at (cells_ro psR) rfl Ty.sc9 (flat_at Pair.enc 2 Pair.enc_len ps default k 0 lt_ (by decide))) ?_
    refine JO_read (vI ((((ps.getD k default).key).length : Nat) : Int)) rfl trivial (fun _ _ => x_len_s rfl Try.underlying9) ?_
    refine JO_read (vB (decide ((40 : Int) < ((((ps.getD k default).key).length : Nat) : Int)))) rfl trivial (fun _ _ => x_gtr_i rfl rfl) ?_
    refine JO_read (vB (decide ((40 : Int) < ((((ps.getD k default).key).length : Nat) : Int)))) rfl trivial (fun _ _ => rfl) ?_
    refine JO_cut (X := Bool) 9 (fun z => z = ((decide ((40 : Int) < ((((ps.getD k default).key).length : Nat) : Int))) || (decide ((1010 : Int) < ((((ps.getD k default).record).length : Nat) : Int))))) (fun z => [(1, Value.pointer (some ⟨b1, 0, none⟩)), (3, vI ((k : Nat) : Int)), (28, vB z)]) (fun _ => [Ent.blk b1 37 (DataSet.enc d ++ [vI n, Value.slice psA ps.length psC])]) ?_ ?_
    · rcases Bool.eq_false_or_eq_true (decide ((40 : Int) < ((((ps.getD k default).key).length : Nat) : Int))) with g4 | g4
      · have g4r := g4
        have g4r := of_decide_eq_true g4r
        refine JO_shun rfl ⟨_, rfl, g4⟩ ?_
        refine JO_shun rfl ⟨_, rfl, g4⟩ ?_
        refine JO_shun rfl ⟨_, rfl, g4⟩ ?_
        refine JO_shun rfl ⟨_, rfl, g4⟩ ?_
        refine JO_shun rfl ⟨_, rfl, g4⟩ ?_
        refine JO_shun rfl ⟨_, rfl, g4⟩ ?_
        refine JO_shun rfl ⟨_, rfl, g4⟩ ?_
        refine JO_shun rfl ⟨_, rfl, g4⟩ ?_
        refine JO_read (vB true) rfl trivial (fun _ _ => x_pick_t rfl g4 rfl) ?_
        refine JO_nil (JX_cut (true) (by rw [g4]; simp) ⟨rfl, rfl, rfl, trivial⟩ (fun _ h => h))
      · have g4r := g4
        have g4r := of_decide_eq_false g4r
        refine JO_read (Value.pointer (some ⟨b1, 22, none⟩)) rfl ⟨_, rfl, g4⟩ (fun _ _ => x_fieldAddr Ty.fi37_2 rfl rfl) ?_
        refine JO_read (Value.slice psA ps.length psC) rfl ⟨_, rfl, g4⟩ (x_load 0 rfl rfl Ty.sc35 rfl) ?_
        refine JO_read (vI ((k : Nat) : Int)) rfl ⟨_, rfl, g4⟩ (fun _ _ => rfl) ?_
        refine JO_read (Value.pointer (some (adr psA (k * 2)))) rfl ⟨_, rfl, g4⟩ (x_indexAddr_at (k := k) (off := k * 2) (cells_ro psR) Try.underlying35 Ty.sz54 rfl rfl lt_ (by rw [flat_length Pair.enc 2 Pair.enc_len]; first | omega | (simp; omega) | (simp_all; omega) | (simp_all; done)) rfl) ?_
        refine JO_read (Value.pointer (some (adr psA (k * 2 + 1)))) rfl ⟨_, rfl, g4⟩ (fun _ _ => x_fieldAddr Ty.fi54_1 rfl (adr_add _ _ _)) ?_
        refine JO_read (vS ((ps.getD k default).record)) rfl ⟨_, rfl, g4⟩ (x_load_at (cells_ro psR) rfl Ty.sc9 (flat_at Pair.enc 2 Pair.enc_len ps default k 1 lt_ (by decide))) ?_
        refine JO_read (vI ((((ps.getD k default).record).length : Nat) : Int)) rfl ⟨_, rfl, g4⟩ (fun _ _ => x_len_s rfl Try.underlying9) ?_
        refine JO_read (vB (decide ((1010 : Int) < ((((ps.getD k default).record).length : Nat) : Int)))) rfl ⟨_, rfl, g4⟩ (fun _ _ => x_gtr_i rfl rfl) ?_
        refine JO_read (vB (decide ((1010 : Int) < ((((ps.getD k default).record).length : Nat) : Int)))) rfl trivial (fun _ _ => x_pick_f rfl g4 rfl) ?_
        refine JO_nil (JX_cut (decide ((1010 : Int) < ((((ps.getD k default).record).length : Nat) : Int))) (by rw [g4]; simp) ⟨rfl, rfl, rfl, trivial⟩ (fun _ h => h))
    rintro z3 rfl
    refine JO_nil ?_
    refine JX_then ?_
    refine J_cond ((decide ((40 : Int) < ((((ps.getD k default).key).length : Nat) : Int))) || (decide ((1010 : Int) < ((((ps.getD k default).record).length : Nat) : Int)))) rfl rfl (fun h5 => ?_) (fun h5 => ?_)
    · simp only [Bool.and_eq_true, Bool.or_eq_true, Bool.and_eq_false_iff, Bool.or_eq_false_iff, Bool.not_eq_true', Bool.not_eq_false', decide_eq_true_eq, decide_eq_false_iff_not] at h5
      refine J_seq ?_
      refine J_region ?_
      refine JO_read (vB false) rfl trivial (fun _ _ => rfl) ?_
      refine JO_nil ?_
      refine JX_then ?_
      refine J_ret ?_
      refine JX_block_ret ?_
      refine JX_then_ret ?_
      refine JX_round_ret ?_
      refine JX_block_ret ?_
      refine JX_then_ret ?_
      refine JX_rets [vB false] (vB false) Try.results17 (fun w h => ⟨rfl, trivial⟩) rfl [] (fun _ h => h.keep [false] rfl) ⟨?_, ?_⟩
      · have e_x0 : (false : Bool) = (R14.few d ps) := by
          first | exact R14.few_bad (k := k) (by omega) (by assumption) | exact R14.few_end i1_0 (by assumption) i1_1
        exact congrArg (fun (x0 : Bool) => vB x0) e_x0
      · rfl
    · have ⟨h5, h6⟩ := bor_false h5
      have h5 := of_decide_eq_false h5
      have h6 := of_decide_eq_false h6
      refine J_skip ?_
      refine JX_block ?_
      refine JX_then ?_
      refine J_region ?_
      refine JO_read (vI ((k : Nat) : Int)) rfl trivial (fun _ _ => rfl) ?_
      refine JO_read (vI ((k + 1 : Nat) : Int)) rfl trivial (fun _ _ => x_add_n (a := k) (b := 1) rfl rfl (by omega)) ?_
      refine JO_read (vI ((k + 1 : Nat) : Int)) rfl trivial (fun _ _ => rfl) ?_
      refine JO_nil ?_
      refine JX_round (k + 1 : Nat) ?_ ?_ ⟨rfl, rfl, trivial⟩ (fun _ h => h)
      · show ((k + 1) ≤ ps.length) ∧ (∀ i, i < (k + 1) → R14.bigP (ps.getD i default) = false)
        refine ⟨?_, ?_⟩
        · first | rfl | omega | (simp_all; done) | (simp_all; omega)
        · intro i hi; by_cases hik : i = k
          · subst hik; simp_all [R14.bigP]
          · exact i1_1 i (by omega)
      · show ps.length - (k + 1) < ps.length - k
        first | omega | (simp; omega) | (simp_all; omega)
  · have h2 := of_decide_eq_false h2
    refine J_exit ?_
    refine JX_then_exit ?_
    refine JX_round_exit ?_
    refine JX_block_hit ?_
    refine JX_then ?_
    refine J_seq ?_
    refine J_region ?_
    refine JO_read (Value.pointer (some ⟨b1, 0, none⟩)) rfl trivial (fun _ _ => x_fieldAddr Ty.fi37_0 rfl rfl) ?_
    refine JO_read (Value.pointer (some ⟨b1, 17, none⟩)) rfl trivial (fun _ _ => x_fieldAddr Ty.fi34_17 rfl rfl) ?_
    refine JO_read (vS d.Owner) rfl trivial (x_load 0 rfl rfl Ty.sc9 rfl) ?_
    refine JO_read (vI ((d.Owner.length : Nat) : Int)) rfl trivial (fun _ _ => x_len_s rfl Try.underlying9) ?_
    refine JO_read (vB (decide (((d.Owner.length : Nat) : Int) ≤ 40))) rfl trivial (fun _ _ => x_leq_i rfl rfl) ?_
    refine JO_read (vB (decide (((d.Owner.length : Nat) : Int) ≤ 40))) rfl trivial (fun _ _ => rfl) ?_
    refine JO_cut (X := Bool) 6 (fun z => z = ((decide (((d.Owner.length : Nat) : Int) ≤ 40)) && (decide (((d.Volume.length : Nat) : Int) ≤ 40)))) (fun z => [(1, Value.pointer (some ⟨b1, 0, none⟩)), (40, vB z)]) (fun _ => [Ent.blk b1 37 (DataSet.enc d ++ [vI n, Value.slice psA ps.length psC])]) ?_ ?_
    · rcases Bool.eq_false_or_eq_true (decide (((d.Owner.length : Nat) : Int) ≤ 40)) with g8 | g8
      · have g8r := g8
        have g8r := of_decide_eq_true g8r
        refine JO_read (Value.pointer (some ⟨b1, 0, none⟩)) rfl ⟨_, rfl, g8⟩ (fun _ _ => x_fieldAddr Ty.fi37_0 rfl rfl) ?_
        refine JO_read (Value.pointer (some ⟨b1, 16, none⟩)) rfl ⟨_, rfl, g8⟩ (fun _ _ => x_fieldAddr Ty.fi34_16 rfl rfl) ?_
        refine JO_read (vS d.Volume) rfl ⟨_, rfl, g8⟩ (x_load 0 rfl rfl Ty.sc9 rfl) ?_
        refine JO_read (vI ((d.Volume.length : Nat) : Int)) rfl ⟨_, rfl, g8⟩ (fun _ _ => x_len_s rfl Try.underlying9) ?_
        refine JO_read (vB (decide (((d.Volume.length : Nat) : Int) ≤ 40))) rfl ⟨_, rfl, g8⟩ (fun _ _ => x_leq_i rfl rfl) ?_
        refine JO_read (vB (decide (((d.Volume.length : Nat) : Int) ≤ 40))) rfl trivial (fun _ _ => x_pick_t rfl g8 rfl) ?_
        refine JO_nil (JX_cut (decide (((d.Volume.length : Nat) : Int) ≤ 40)) (by rw [g8]; simp) ⟨rfl, rfl, trivial⟩ (fun _ h => h))
      · have g8r := g8
        have g8r := of_decide_eq_false g8r
        refine JO_shun rfl ⟨_, rfl, g8⟩ ?_
        refine JO_shun rfl ⟨_, rfl, g8⟩ ?_
        refine JO_shun rfl ⟨_, rfl, g8⟩ ?_
        refine JO_shun rfl ⟨_, rfl, g8⟩ ?_
        refine JO_shun rfl ⟨_, rfl, g8⟩ ?_
        refine JO_read (vB false) rfl trivial (fun _ _ => x_pick_f rfl g8 rfl) ?_
        refine JO_nil (JX_cut (false) (by rw [g8]; simp) ⟨rfl, rfl, trivial⟩ (fun _ h => h))
    rintro z7 rfl
    refine JO_read (vB ((decide (((d.Owner.length : Nat) : Int) ≤ 40)) && (decide (((d.Volume.length : Nat) : Int) ≤ 40)))) rfl trivial (fun _ _ => rfl) ?_
    refine JO_cut (X := Bool) 5 (fun z => z = (((decide (((d.Owner.length : Nat) : Int) ≤ 40)) && (decide (((d.Volume.length : Nat) : Int) ≤ 40))) && (decide (((ps.length : Nat) : Int) ≤ 30)))) (fun z => [(46, vB z)]) (fun _ => [Ent.blk b1 37 (DataSet.enc d ++ [vI n, Value.slice psA ps.length psC])]) ?_ ?_
    · rcases Bool.eq_false_or_eq_true ((decide (((d.Owner.length : Nat) : Int) ≤ 40)) && (decide (((d.Volume.length : Nat) : Int) ≤ 40))) with g10 | g10
      · have g10r := g10
        have ⟨g10r, h11⟩ := band_true g10r
        have g10r := of_decide_eq_true g10r
        have h11 := of_decide_eq_true h11
        refine JO_read (Value.pointer (some ⟨b1, 22, none⟩)) rfl ⟨_, rfl, g10⟩ (fun _ _ => x_fieldAddr Ty.fi37_2 rfl rfl) ?_
        refine JO_read (Value.slice psA ps.length psC) rfl ⟨_, rfl, g10⟩ (x_load 0 rfl rfl Ty.sc35 rfl) ?_
        refine JO_read (vI ((ps.length : Nat) : Int)) rfl ⟨_, rfl, g10⟩ (fun _ _ => x_len_sl Try.underlying35 rfl) ?_
        refine JO_read (vB (decide (((ps.length : Nat) : Int) ≤ 30))) rfl ⟨_, rfl, g10⟩ (fun _ _ => x_leq_i rfl rfl) ?_
        refine JO_read (vB (decide (((ps.length : Nat) : Int) ≤ 30))) rfl trivial (fun _ _ => x_pick_t rfl g10 rfl) ?_
        refine JO_nil (JX_cut (decide (((ps.length : Nat) : Int) ≤ 30)) (by rw [g10]; simp) ⟨rfl, trivial⟩ (fun _ h => h))
      · have g10r := g10
        simp only [Bool.and_eq_true, Bool.or_eq_true, Bool.and_eq_false_iff, Bool.or_eq_false_iff, Bool.not_eq_true', Bool.not_eq_false', decide_eq_true_eq, decide_eq_false_iff_not] at g10r
        refine JO_shun rfl ⟨_, rfl, g10⟩ ?_
        refine JO_shun rfl ⟨_, rfl, g10⟩ ?_
        refine JO_shun rfl ⟨_, rfl, g10⟩ ?_
        refine JO_shun rfl ⟨_, rfl, g10⟩ ?_
        refine JO_read (vB false) rfl trivial (fun _ _ => x_pick_f rfl g10 rfl) ?_
        refine JO_nil (JX_cut (false) (by rw [g10]; simp) ⟨rfl, trivial⟩ (fun _ h => h))
    rintro z9 rfl
    refine JO_read (vB (((decide (((d.Owner.length : Nat) : Int) ≤ 40)) && (decide (((d.Volume.length : Nat) : Int) ≤ 40))) && (decide (((ps.length : Nat) : Int) ≤ 30)))) rfl trivial (fun _ _ => rfl) ?_
    refine JO_nil ?_
    refine JX_then ?_
    refine J_ret ?_
    refine JX_rets [vB (((decide (((d.Owner.length : Nat) : Int) ≤ 40)) && (decide (((d.Volume.length : Nat) : Int) ≤ 40))) && (decide (((ps.length : Nat) : Int) ≤ 30)))] (vB (((decide (((d.Owner.length : Nat) : Int) ≤ 40)) && (decide (((d.Volume.length : Nat) : Int) ≤ 40))) && (decide (((ps.length : Nat) : Int) ≤ 30)))) Try.results17 (fun w h => ⟨rfl, trivial⟩) rfl [] (fun _ h => h.keep [false] rfl) ⟨?_, ?_⟩
    · have e_x0 : (((decide (((d.Owner.length : Nat) : Int) ≤ 40)) && (decide (((d.Volume.length : Nat) : Int) ≤ 40))) && (decide (((ps.length : Nat) : Int) ≤ 30)) : Bool) = (R14.few d ps) := by
        first | exact R14.few_bad (k := k) (by omega) (by assumption) | exact R14.few_end i1_0 (by assumption) i1_1
      exact congrArg (fun (x0 : Bool) => vB x0) e_x0
    · rfl

set_option maxRecDepth 20000 in
theorem f5_ok (d : DataSet) (n : Int) (ps : List Pair) (psA : Option Addr) (psC : Nat) (e : DataSet) (m : Int) (qs : List Pair) (qsA : Option Addr) (qsC : Nat) (w : World) (psR : RO [] w psA (ps.flatMap Pair.enc)) (qsR : RO [] w qsA (qs.flatMap Pair.enc)) (q0 : ps.length ≤ 9223372036854775807) (q1 : qs.length ≤ 9223372036854775807) : Calls Try.prog 5 #[Value.agg ((DataSet.enc d ++ [vI n, Value.slice psA ps.length psC])).toArray, Value.agg ((DataSet.enc e ++ [vI m, Value.slice qsA qs.length qsC])).toArray] w (Gives [] w fun v L => v = vB true ∧ L = []) := by
  refine calls_J [] 68 Try.func5 rfl Try.ntmps5 [(0, Value.agg ((DataSet.enc d ++ [vI n, Value.slice psA ps.length psC])).toArray), (1, Value.agg ((DataSet.enc e ++ [vI m, Value.slice qsA qs.length qsC])).toArray)] rfl rfl (Give.nil w) ?_
  refine J_seq ?_
  refine J_region ?_
  refine JO_op rfl trivial (O_box rfl rfl fun b1 => ?_)
  refine JO_op rfl trivial (O_box rfl rfl fun b2 => ?_)
  refine JO_read (vB false) rfl trivial (fun _ _ => rfl) ?_
  refine JO_nil ?_
  refine JX_then ?_
  refine J_seq ?_
  refine J_seq ?_
  refine J_region ?_
  refine JO_call [] [] [Ent.blk b2 37 (DataSet.enc e ++ [vI m, Value.slice qsA qs.length qsC]), Ent.blk b1 37 (DataSet.enc d ++ [vI n, Value.slice psA ps.length psC])] rfl trivial (fun _ => x_call Ty.ca10 rfl) (fun _ h => h) (fun _ h => by cases h) (fun w hS => f10_ok w) ?_
  rintro _ _ ⟨rfl, rfl⟩
  refine JO_read (vB false) rfl trivial (fun _ _ => rfl) ?_
  refine JO_read (vB false) rfl trivial (fun _ _ => rfl) ?_
  refine JO_read (Value.agg ((DataSet.enc d ++ [vI n, Value.slice psA ps.length psC])).toArray) rfl ⟨_, rfl, rfl⟩ (x_loadN 1 (DataSet.enc d ++ [vI n, Value.slice psA ps.length psC]) rfl rfl Ty.ag37 Ty.sz37 rfl) ?_
  refine JO_call [] [] [Ent.blk b2 37 (DataSet.enc e ++ [vI m, Value.slice qsA qs.length qsC]), Ent.blk b1 37 (DataSet.enc d ++ [vI n, Value.slice psA ps.length psC])] rfl ⟨_, rfl, rfl⟩ (fun _ => x_call Ty.ca17 rfl) (fun _ h => h) (fun _ h => by cases h) (fun w hS => f17_ok d n ps psA psC w (psR.on hS (fun _ h => by cases h)) hy_) ?_
  rintro _ _ ⟨rfl, rfl⟩
  refine JO_read (vB (!(R14.few d ps))) rfl ⟨_, rfl, rfl⟩ (fun _ _ => x_not rfl) ?_
  refine JO_read (vB (!(R14.few d ps))) rfl trivial (fun _ _ => rfl) ?_
  refine JO_read (vB (!(R14.few d ps))) rfl trivial (fun _ _ => rfl) ?_
  refine JO_cut (X := Bool) 4 (fun z => z = ((!(R14.few d ps)) || (!(R14.few e qs)))) (fun z => [(2, Value.pointer (some ⟨b1, 0, none⟩)), (3, Value.pointer (some ⟨b2, 0, none⟩)), (4, vB false), (20, vB z)]) (fun _ => [Ent.blk b2 37 (DataSet.enc e ++ [vI m, Value.slice qsA qs.length qsC]), Ent.blk b1 37 (DataSet.enc d ++ [vI n, Value.slice psA ps.length psC])]) ?_ ?_
  · rcases Bool.eq_false_or_eq_true (!(R14.few d ps)) with g4 | g4
    · have g4r := g4
      have g4r : (R14.few d ps) = false := bnot_true g4r
      refine JO_shun rfl ⟨_, rfl, g4⟩ ?_
      refine JO_shun rfl ⟨_, rfl, g4⟩ ?_
      refine JO_shun rfl ⟨_, rfl, g4⟩ ?_
      refine JO_read (vB true) rfl trivial (fun _ _ => x_pick_t rfl g4 rfl) ?_
      refine JO_nil (JX_cut (true) (by rw [g4]; simp) ⟨rfl, rfl, rfl, rfl, trivial⟩ (fun _ h => h))
    · have g4r := g4
      have g4r : (R14.few d ps) = true := bnot_false g4r
      refine JO_read (Value.agg ((DataSet.enc e ++ [vI m, Value.slice qsA qs.length qsC])).toArray) rfl ⟨_, rfl, g4⟩ (x_loadN 0 (DataSet.enc e ++ [vI m, Value.slice qsA qs.length qsC]) rfl rfl Ty.ag37 Ty.sz37 rfl) ?_
      refine JO_call [] [] [Ent.blk b2 37 (DataSet.enc e ++ [vI m, Value.slice qsA qs.length qsC]), Ent.blk b1 37 (DataSet.enc d ++ [vI n, Value.slice psA ps.length psC])] rfl ⟨_, rfl, g4⟩ (fun _ => x_call Ty.ca17 rfl) (fun _ h => h) (fun _ h => by cases h) (fun w hS => f17_ok e m qs qsA qsC w (qsR.on hS (fun _ h => by cases h)) hy_) ?_
      rintro _ _ ⟨rfl, rfl⟩
      refine JO_read (vB (!(R14.few e qs))) rfl ⟨_, rfl, g4⟩ (fun _ _ => x_not rfl) ?_
      refine JO_read (vB (!(R14.few e qs))) rfl trivial (fun _ _ => x_pick_f rfl g4 rfl) ?_
      refine JO_nil (JX_cut (!(R14.few e qs)) (by rw [g4]; simp) ⟨rfl, rfl, rfl, rfl, trivial⟩ (fun _ h => h))
  rintro z3 rfl
  refine JO_nil ?_
  refine JX_then ?_
  refine J_cond ((!(R14.few d ps)) || (!(R14.few e qs))) rfl rfl (fun h5 => ?_) (fun h5 => ?_)
  · simp only [Bool.and_eq_true, Bool.or_eq_true, Bool.and_eq_false_iff, Bool.or_eq_false_iff, Bool.not_eq_true', Bool.not_eq_false', decide_eq_true_eq, decide_eq_false_iff_not] at h5
    refine J_seq ?_
    refine J_region ?_
    refine JO_call [] [] [Ent.blk b2 37 (DataSet.enc e ++ [vI m, Value.slice qsA qs.length qsC]), Ent.blk b1 37 (DataSet.enc d ++ [vI n, Value.slice psA ps.length psC])] rfl trivial (fun _ => x_call Ty.ca10 rfl) (fun _ h => h) (fun _ h => by cases h) (fun w hS => f10_ok w) ?_
    rintro _ _ ⟨rfl, rfl⟩
    refine JO_read (vB true) rfl trivial (fun _ _ => rfl) ?_
    refine JO_nil ?_
    refine JX_then ?_
    refine J_ret ?_
    refine JX_then_ret ?_
    refine JX_rets [vB true] (vB true) Try.results5 (fun w h => ⟨rfl, trivial⟩) rfl [] (fun _ h => h.keep [false, false] rfl) ⟨?_, ?_⟩
    · rfl
    · rfl
  · have ⟨h5, h6⟩ := bor_false h5
    have h5 : (R14.few d ps) = true := bnot_false h5
    have h6 : (R14.few e qs) = true := bnot_false h6
    refine J_skip ?_
    refine JX_then ?_
    refine J_seq ?_
    refine J_region ?_
    refine JO_read (Value.agg ((DataSet.enc d ++ [vI n, Value.slice psA ps.length psC])).toArray) rfl trivial (x_loadN 1 (DataSet.enc d ++ [vI n, Value.slice psA ps.length psC]) rfl rfl Ty.ag37 Ty.sz37 rfl) ?_
    refine JO_call [] [] [Ent.blk b2 37 (DataSet.enc e ++ [vI m, Value.slice qsA qs.length qsC]), Ent.blk b1 37 (DataSet.enc d ++ [vI n, Value.slice psA ps.length psC])] rfl trivial (fun _ => x_call Ty.ca18 rfl) (fun _ h => h) (fun _ h => by cases h) (fun w hS => f18_ok d n ps psA psC w (psR.on hS (fun _ h => by cases h)) hy_) ?_
    rintro _ _ ⟨rfl, rfl⟩
    refine JO_read (Value.tuple #[vS (R14.encode R02.updateN d n ps), vI (R14.okE (R14.valid d n ps))]) rfl trivial (fun _ _ => rfl) ?_
    refine JO_read (vS (R14.encode R02.updateN d n ps)) rfl trivial (fun _ _ => rfl) ?_
    refine JO_read (vI (R14.okE (R14.valid d n ps))) rfl trivial (fun _ _ => rfl) ?_
    refine JO_read (vS (R14.encode R02.updateN d n ps)) rfl trivial (fun _ _ => rfl) ?_
    refine JO_read (vI (R14.okE (R14.valid d n ps))) rfl trivial (fun _ _ => rfl) ?_
    refine JO_nil ?_
    refine JX_then ?_
    refine J_seq ?_
    refine J_region ?_
    refine JO_read (Value.agg ((DataSet.enc d ++ [vI n, Value.slice psA ps.length psC])).toArray) rfl trivial (x_loadN 1 (DataSet.enc d ++ [vI n, Value.slice psA ps.length psC]) rfl rfl Ty.ag37 Ty.sz37 rfl) ?_
    refine JO_call [] [] [Ent.blk b2 37 (DataSet.enc e ++ [vI m, Value.slice qsA qs.length qsC]), Ent.blk b1 37 (DataSet.enc d ++ [vI n, Value.slice psA ps.length psC])] rfl trivial (fun _ => x_call Ty.ca19 rfl) (fun _ h => h) (fun _ h => by cases h) (fun w hS => f19_ok d n ps psA psC w (psR.on hS (fun _ h => by cases h)) hy_) ?_
    rintro _ _ ⟨rfl, rfl⟩
    refine JO_read (Value.tuple #[vS (R14.encode R02.update d n ps), vI (R14.okE (R14.valid d n ps))]) rfl trivial (fun _ _ => rfl) ?_
    refine JO_read (vS (R14.encode R02.update d n ps)) rfl trivial (fun _ _ => rfl) ?_
    refine JO_read (vI (R14.okE (R14.valid d n ps))) rfl trivial (fun _ _ => rfl) ?_
    refine JO_read (vS (R14.encode R02.update d n ps)) rfl trivial (fun _ _ => rfl) ?_
    refine JO_read (vI (R14.okE (R14.valid d n ps))) rfl trivial (fun _ _ => rfl) ?_
    refine JO_nil ?_
    refine JX_then ?_
    refine J_seq ?_
    refine J_draw [Ent.blk b2 37 (DataSet.enc e ++ [vI m, Value.slice qsA qs.length qsC]), Ent.blk b1 37 (DataSet.enc d ++ [vI n, Value.slice psA ps.length psC])] [] [Ent.blk b2 37 (DataSet.enc e ++ [vI m, Value.slice qsA qs.length qsC]), Ent.blk b1 37 (DataSet.enc d ++ [vI n, Value.slice psA ps.length psC])] 37 Ty.mixed rfl ?_
    refine JA_take 0 (Value.agg ((DataSet.enc d ++ [vI n, Value.slice psA ps.length psC])).toArray) rfl (by kernel_rfl) (by kernel_rfl) (by kernel_rfl) rfl (fun _ _ _ h => h) rfl trivial (x_loadN 1 (DataSet.enc d ++ [vI n, Value.slice psA ps.length psC]) rfl rfl Ty.ag37 Ty.sz37 rfl) ?_
    refine JA_take 2 (Value.agg ((DataSet.enc d ++ [vI n, Value.slice psA ps.length psC])).toArray) rfl (by kernel_rfl) (by kernel_rfl) (by kernel_rfl) rfl (fun _ _ _ h => h) rfl trivial (x_loadN 1 (DataSet.enc d ++ [vI n, Value.slice psA ps.length psC]) rfl rfl Ty.ag37 Ty.sz37 rfl) ?_
    refine JA_one 1 (by kernel_rfl) (fun _ h => ⟨h, fun _ => h⟩) ?_
    refine JI_call [] [] [Ent.blk b2 37 (DataSet.enc e ++ [vI m, Value.slice qsA qs.length qsC]), Ent.blk b1 37 (DataSet.enc d ++ [vI n, Value.slice psA ps.length psC])] rfl rfl trivial (fun _ => x_call Ty.ca20 rfl) (fun _ h => h) (fun _ h => by cases h) (fun w hS => f20_ok d n ps psA psC w (psR.on hS (fun _ h => by cases h)) hy_) ?_
    rintro _ _ ⟨rfl, rfl⟩
    refine JA_one 3 (by kernel_rfl) (fun _ h => ⟨h, fun _ => h⟩) ?_
    refine JI_call [] [] [Ent.blk b2 37 (DataSet.enc e ++ [vI m, Value.slice qsA qs.length qsC]), Ent.blk b1 37 (DataSet.enc d ++ [vI n, Value.slice psA ps.length psC])] rfl rfl trivial (fun _ => x_call Ty.ca21 rfl) (fun _ h => h) (fun _ h => by cases h) (fun w hS => f21_ok d n ps psA psC w (psR.on hS (fun _ h => by cases h)) hy_) ?_
    rintro _ _ ⟨rfl, rfl⟩
    refine JA_take 4 (vB (decide ((R14.valid d n ps) = (R14.valid d n ps)))) rfl (by kernel_rfl) (by kernel_rfl) (by kernel_rfl) rfl (fun _ _ _ h => h) rfl trivial (fun _ _ => x_eql_b Try.underlying4 rfl rfl) ?_
    refine JA_take 5 (vB (decide ((R14.valid d n ps) = (R14.valid d n ps)))) rfl (by kernel_rfl) (by kernel_rfl) (by kernel_rfl) rfl (fun _ _ _ h => h) rfl trivial (fun _ _ => rfl) ?_
    refine JA_bool (decide ((R14.valid d n ps) = (R14.valid d n ps))) [(2, Value.pointer (some ⟨b1, 0, none⟩)), (3, Value.pointer (some ⟨b2, 0, none⟩)), (4, vB false), (20, vB ((!(R14.few d ps)) || (!(R14.few e qs)))), (23, Value.agg ((DataSet.enc d ++ [vI n, Value.slice psA ps.length psC])).toArray), (24, Value.tuple #[vS (R14.encode R02.updateN d n ps), vI (R14.okE (R14.valid d n ps))]), (22, Value.tuple #[vS (R14.encode R02.updateN d n ps), vI (R14.okE (R14.valid d n ps))]), (25, vS (R14.encode R02.updateN d n ps)), (26, vI (R14.okE (R14.valid d n ps))), (5, vS (R14.encode R02.updateN d n ps)), (6, vI (R14.okE (R14.valid d n ps))), (28, Value.agg ((DataSet.enc d ++ [vI n, Value.slice psA ps.length psC])).toArray), (29, Value.tuple #[vS (R14.encode R02.update d n ps), vI (R14.okE (R14.valid d n ps))]), (27, Value.tuple #[vS (R14.encode R02.update d n ps), vI (R14.okE (R14.valid d n ps))]), (30, vS (R14.encode R02.update d n ps)), (31, vI (R14.okE (R14.valid d n ps))), (7, vS (R14.encode R02.update d n ps)), (8, vI (R14.okE (R14.valid d n ps))), (32, Value.agg ((DataSet.enc d ++ [vI n, Value.slice psA ps.length psC])).toArray), (34, Value.agg ((DataSet.enc d ++ [vI n, Value.slice psA ps.length psC])).toArray), (33, vB (R14.valid d n ps)), (35, vB (R14.valid d n ps)), (36, vB (decide ((R14.valid d n ps) = (R14.valid d n ps)))), (37, vB true)] [(2, Value.pointer (some ⟨b1, 0, none⟩)), (3, Value.pointer (some ⟨b2, 0, none⟩)), (4, vB false), (20, vB ((!(R14.few d ps)) || (!(R14.few e qs)))), (23, Value.agg ((DataSet.enc d ++ [vI n, Value.slice psA ps.length psC])).toArray), (24, Value.tuple #[vS (R14.encode R02.updateN d n ps), vI (R14.okE (R14.valid d n ps))]), (22, Value.tuple #[vS (R14.encode R02.updateN d n ps), vI (R14.okE (R14.valid d n ps))]), (25, vS (R14.encode R02.updateN d n ps)), (26, vI (R14.okE (R14.valid d n ps))), (5, vS (R14.encode R02.updateN d n ps)), (6, vI (R14.okE (R14.valid d n ps))), (28, Value.agg ((DataSet.enc d ++ [vI n, Value.slice psA ps.length psC])).toArray), (29, Value.tuple #[vS (R14.encode R02.update d n ps), vI (R14.okE (R14.valid d n ps))]), (27, Value.tuple #[vS (R14.encode R02.update d n ps), vI (R14.okE (R14.valid d n ps))]), (30, vS (R14.encode R02.update d n ps)), (31, vI (R14.okE (R14.valid d n ps))), (7, vS (R14.encode R02.update d n ps)), (8, vI (R14.okE (R14.valid d n ps))), (32, Value.agg ((DataSet.enc d ++ [vI n, Value.slice psA ps.length psC])).toArray), (34, Value.agg ((DataSet.enc d ++ [vI n, Value.slice psA ps.length psC])).toArray), (33, vB (R14.valid d n ps)), (35, vB (R14.valid d n ps)), (36, vB (decide ((R14.valid d n ps) = (R14.valid d n ps)))), (37, vB false)] (fun hb => ⟨rfl, rfl, rfl, rfl, rfl, rfl, rfl, rfl, rfl, rfl, rfl, rfl, rfl, rfl, rfl, rfl, rfl, rfl, rfl, rfl, rfl, rfl, rfl, congrArg (fun b => some (vB b)) hb, trivial⟩) (fun hb => ⟨rfl, rfl, rfl, rfl, rfl, rfl, rfl, rfl, rfl, rfl, rfl, rfl, rfl, rfl, rfl, rfl, rfl, rfl, rfl, rfl, rfl, rfl, rfl, congrArg (fun b => some (vB b)) hb, trivial⟩) (fun h7 => ?_) (fun h7 => ?_)
    · have h7 := of_decide_eq_true h7
      refine JA_take 6 (Value.agg ((DataSet.enc d ++ [vI n, Value.slice psA ps.length psC])).toArray) rfl (by kernel_rfl) (by kernel_rfl) (by kernel_rfl) rfl (fun _ _ _ h => h) rfl ⟨_, rfl, rfl⟩ (x_loadN 1 (DataSet.enc d ++ [vI n, Value.slice psA ps.length psC]) rfl rfl Ty.ag37 Ty.sz37 rfl) ?_
      refine JA_take 7 (Value.agg ((DataSet.enc e ++ [vI m, Value.slice qsA qs.length qsC])).toArray) rfl (by kernel_rfl) (by kernel_rfl) (by kernel_rfl) rfl (fun _ _ _ h => h) rfl ⟨_, rfl, rfl⟩ (x_loadN 0 (DataSet.enc e ++ [vI m, Value.slice qsA qs.length qsC]) rfl rfl Ty.ag37 Ty.sz37 rfl) ?_
      refine JA_take 9 (Value.agg ((DataSet.enc d ++ [vI n, Value.slice psA ps.length psC])).toArray) rfl (by kernel_rfl) (by kernel_rfl) (by kernel_rfl) rfl (fun _ _ _ h => h) rfl ⟨_, rfl, rfl⟩ (x_loadN 1 (DataSet.enc d ++ [vI n, Value.slice psA ps.length psC]) rfl rfl Ty.ag37 Ty.sz37 rfl) ?_
      refine JA_take 10 (Value.agg ((DataSet.enc e ++ [vI m, Value.slice qsA qs.length qsC])).toArray) rfl (by kernel_rfl) (by kernel_rfl) (by kernel_rfl) rfl (fun _ _ _ h => h) rfl ⟨_, rfl, rfl⟩ (x_loadN 0 (DataSet.enc e ++ [vI m, Value.slice qsA qs.length qsC]) rfl rfl Ty.ag37 Ty.sz37 rfl) ?_
      refine JA_one 8 (by kernel_rfl) (fun _ h => ⟨h, fun _ => h⟩) ?_
      refine JI_call [] [] [Ent.blk b2 37 (DataSet.enc e ++ [vI m, Value.slice qsA qs.length qsC]), Ent.blk b1 37 (DataSet.enc d ++ [vI n, Value.slice psA ps.length psC])] rfl rfl ⟨_, rfl, rfl⟩ (fun _ => x_call Ty.ca22 rfl) (fun _ h => h) (fun _ h => by cases h) (fun w hS => f22_ok d n ps psA psC e m qs qsA qsC w (psR.on hS (fun _ h => by cases h)) (qsR.on hS (fun _ h => by cases h)) hy_ hy_) ?_
      rintro _ _ ⟨rfl, rfl⟩
      refine JA_one 11 (by kernel_rfl) (fun _ h => ⟨h, fun _ => h⟩) ?_
      refine JI_call [] [] [Ent.blk b2 37 (DataSet.enc e ++ [vI m, Value.slice qsA qs.length qsC]), Ent.blk b1 37 (DataSet.enc d ++ [vI n, Value.slice psA ps.length psC])] rfl rfl ⟨_, rfl, rfl⟩ (fun _ => x_call Ty.ca23 rfl) (fun _ h => h) (fun _ h => by cases h) (fun w hS => f23_ok d n ps psA psC e m qs qsA qsC w (psR.on hS (fun _ h => by cases h)) (qsR.on hS (fun _ h => by cases h)) hy_ hy_) ?_
      rintro _ _ ⟨rfl, rfl⟩
      refine JA_take 12 (vB (decide ((R14.same d n ps e m qs) = (R14.same d n ps e m qs)))) rfl (by kernel_rfl) (by kernel_rfl) (by kernel_rfl) rfl (fun _ _ _ h => h) rfl ⟨_, rfl, rfl⟩ (fun _ _ => x_eql_b Try.underlying4 rfl rfl) ?_
      refine JA_take 13 (vB (decide ((R14.same d n ps e m qs) = (R14.same d n ps e m qs)))) rfl (by kernel_rfl) (by kernel_rfl) (by kernel_rfl) rfl (fun _ _ _ h => h) rfl trivial (fun _ _ => rfl) ?_
      refine JA_take 14 (vB (decide ((R14.same d n ps e m qs) = (R14.same d n ps e m qs)))) rfl (by kernel_rfl) (by kernel_rfl) (by kernel_rfl) rfl (fun _ _ _ h => h) rfl trivial (fun _ _ => rfl) ?_
      refine JA_bool (decide ((R14.same d n ps e m qs) = (R14.same d n ps e m qs))) [(2, Value.pointer (some ⟨b1, 0, none⟩)), (3, Value.pointer (some ⟨b2, 0, none⟩)), (4, vB false), (20, vB ((!(R14.few d ps)) || (!(R14.few e qs)))), (23, Value.agg ((DataSet.enc d ++ [vI n, Value.slice psA ps.length psC])).toArray), (24, Value.tuple #[vS (R14.encode R02.updateN d n ps), vI (R14.okE (R14.valid d n ps))]), (22, Value.tuple #[vS (R14.encode R02.updateN d n ps), vI (R14.okE (R14.valid d n ps))]), (25, vS (R14.encode R02.updateN d n ps)), (26, vI (R14.okE (R14.valid d n ps))), (5, vS (R14.encode R02.updateN d n ps)), (6, vI (R14.okE (R14.valid d n ps))), (28, Value.agg ((DataSet.enc d ++ [vI n, Value.slice psA ps.length psC])).toArray), (29, Value.tuple #[vS (R14.encode R02.update d n ps), vI (R14.okE (R14.valid d n ps))]), (27, Value.tuple #[vS (R14.encode R02.update d n ps), vI (R14.okE (R14.valid d n ps))]), (30, vS (R14.encode R02.update d n ps)), (31, vI (R14.okE (R14.valid d n ps))), (7, vS (R14.encode R02.update d n ps)), (8, vI (R14.okE (R14.valid d n ps))), (32, Value.agg ((DataSet.enc d ++ [vI n, Value.slice psA ps.length psC])).toArray), (34, Value.agg ((DataSet.enc d ++ [vI n, Value.slice psA ps.length psC])).toArray), (33, vB (R14.valid d n ps)), (35, vB (R14.valid d n ps)), (36, vB (decide ((R14.valid d n ps) = (R14.valid d n ps)))), (37, vB true), (38, Value.agg ((DataSet.enc d ++ [vI n, Value.slice psA ps.length psC])).toArray), (39, Value.agg ((DataSet.enc e ++ [vI m, Value.slice qsA qs.length qsC])).toArray), (41, Value.agg ((DataSet.enc d ++ [vI n, Value.slice psA ps.length psC])).toArray), (42, Value.agg ((DataSet.enc e ++ [vI m, Value.slice qsA qs.length qsC])).toArray), (40, vB (R14.same d n ps e m qs)), (43, vB (R14.same d n ps e m qs)), (44, vB (decide ((R14.same d n ps e m qs) = (R14.same d n ps e m qs)))), (45, vB (decide ((R14.same d n ps e m qs) = (R14.same d n ps e m qs)))), (46, vB true)] [(2, Value.pointer (some ⟨b1, 0, none⟩)), (3, Value.pointer (some ⟨b2, 0, none⟩)), (4, vB false), (20, vB ((!(R14.few d ps)) || (!(R14.few e qs)))), (23, Value.agg ((DataSet.enc d ++ [vI n, Value.slice psA ps.length psC])).toArray), (24, Value.tuple #[vS (R14.encode R02.updateN d n ps), vI (R14.okE (R14.valid d n ps))]), (22, Value.tuple #[vS (R14.encode R02.updateN d n ps), vI (R14.okE (R14.valid d n ps))]), (25, vS (R14.encode R02.updateN d n ps)), (26, vI (R14.okE (R14.valid d n ps))), (5, vS (R14.encode R02.updateN d n ps)), (6, vI (R14.okE (R14.valid d n ps))), (28, Value.agg ((DataSet.enc d ++ [vI n, Value.slice psA ps.length psC])).toArray), (29, Value.tuple #[vS (R14.encode R02.update d n ps), vI (R14.okE (R14.valid d n ps))]), (27, Value.tuple #[vS (R14.encode R02.update d n ps), vI (R14.okE (R14.valid d n ps))]), (30, vS (R14.encode R02.update d n ps)), (31, vI (R14.okE (R14.valid d n ps))), (7, vS (R14.encode R02.update d n ps)), (8, vI (R14.okE (R14.valid d n ps))), (32, Value.agg ((DataSet.enc d ++ [vI n, Value.slice psA ps.length psC])).toArray), (34, Value.agg ((DataSet.enc d ++ [vI n, Value.slice psA ps.length psC])).toArray), (33, vB (R14.valid d n ps)), (35, vB (R14.valid d n ps)), (36, vB (decide ((R14.valid d n ps) = (R14.valid d n ps)))), (37, vB true), (38, Value.agg ((DataSet.enc d ++ [vI n, Value.slice psA ps.length psC])).toArray), (39, Value.agg ((DataSet.enc e ++ [vI m, Value.slice qsA qs.length qsC])).toArray), (41, Value.agg ((DataSet.enc d ++ [vI n, Value.slice psA ps.length psC])).toArray), (42, Value.agg ((DataSet.enc e ++ [vI m, Value.slice qsA qs.length qsC])).toArray), (40, vB (R14.same d n ps e m qs)), (43, vB (R14.same d n ps e m qs)), (44, vB (decide ((R14.same d n ps e m qs) = (R14.same d n ps e m qs)))), (45, vB (decide ((R14.same d n ps e m qs) = (R14.same d n ps e m qs)))), (46, vB false)] (fun hb => ⟨rfl, rfl, rfl, rfl, rfl, rfl, rfl, rfl, rfl, rfl, rfl, rfl, rfl, rfl, rfl, rfl, rfl, rfl, rfl, rfl, rfl, rfl, rfl, rfl, rfl, rfl, rfl, rfl, rfl, rfl, rfl, rfl, congrArg (fun b => some (vB b)) hb, trivial⟩) (fun hb => ⟨rfl, rfl, rfl, rfl, rfl, rfl, rfl, rfl, rfl, rfl, rfl, rfl, rfl, rfl, rfl, rfl, rfl, rfl, rfl, rfl, rfl, rfl, rfl, rfl, rfl, rfl, rfl, rfl, rfl, rfl, rfl, rfl, congrArg (fun b => some (vB b)) hb, trivial⟩) (fun h8 => ?_) (fun h8 => ?_)
      · have h8 := of_decide_eq_true h8
        refine JA_take 15 (Value.agg ((DataSet.enc d ++ [vI n, Value.slice psA ps.length psC])).toArray) rfl (by kernel_rfl) (by kernel_rfl) (by kernel_rfl) rfl (fun _ _ _ h => h) rfl ⟨_, rfl, rfl⟩ (x_loadN 1 (DataSet.enc d ++ [vI n, Value.slice psA ps.length psC]) rfl rfl Ty.ag37 Ty.sz37 rfl) ?_
        refine JA_take 16 (Value.agg ((DataSet.enc d ++ [vI n, Value.slice psA ps.length psC])).toArray) rfl (by kernel_rfl) (by kernel_rfl) (by kernel_rfl) rfl (fun _ _ _ h => h) rfl ⟨_, rfl, rfl⟩ (x_loadN 1 (DataSet.enc d ++ [vI n, Value.slice psA ps.length psC]) rfl rfl Ty.ag37 Ty.sz37 rfl) ?_
        refine JA_one 17 (by kernel_rfl) (fun _ h => ⟨h, fun _ => h⟩) ?_
        refine JI_call [] [] [Ent.blk b2 37 (DataSet.enc e ++ [vI m, Value.slice qsA qs.length qsC]), Ent.blk b1 37 (DataSet.enc d ++ [vI n, Value.slice psA ps.length psC])] rfl rfl ⟨_, rfl, rfl⟩ (fun _ => x_call Ty.ca22 rfl) (fun _ h => h) (fun _ h => by cases h) (fun w hS => f22_ok d n ps psA psC d n ps psA psC w (psR.on hS (fun _ h => by cases h)) (psR.on hS (fun _ h => by cases h)) hy_ hy_) ?_
        rintro _ _ ⟨rfl, rfl⟩
        refine JA_take 18 (vB (R14.same d n ps d n ps)) rfl (by kernel_rfl) (by kernel_rfl) (by kernel_rfl) rfl (fun _ _ _ h => h) rfl trivial (fun _ _ => rfl) ?_
        refine JA_take 19 (vB (R14.same d n ps d n ps)) rfl (by kernel_rfl) (by kernel_rfl) (by kernel_rfl) rfl (fun _ _ _ h => h) rfl trivial (fun _ _ => rfl) ?_
        refine JA_bool (R14.same d n ps d n ps) [(2, Value.pointer (some ⟨b1, 0, none⟩)), (3, Value.pointer (some ⟨b2, 0, none⟩)), (4, vB false), (20, vB ((!(R14.few d ps)) || (!(R14.few e qs)))), (23, Value.agg ((DataSet.enc d ++ [vI n, Value.slice psA ps.length psC])).toArray), (24, Value.tuple #[vS (R14.encode R02.updateN d n ps), vI (R14.okE (R14.valid d n ps))]), (22, Value.tuple #[vS (R14.encode R02.updateN d n ps), vI (R14.okE (R14.valid d n ps))]), (25, vS (R14.encode R02.updateN d n ps)), (26, vI (R14.okE (R14.valid d n ps))), (5, vS (R14.encode R02.updateN d n ps)), (6, vI (R14.okE (R14.valid d n ps))), (28, Value.agg ((DataSet.enc d ++ [vI n, Value.slice psA ps.length psC])).toArray), (29, Value.tuple #[vS (R14.encode R02.update d n ps), vI (R14.okE (R14.valid d n ps))]), (27, Value.tuple #[vS (R14.encode R02.update d n ps), vI (R14.okE (R14.valid d n ps))]), (30, vS (R14.encode R02.update d n ps)), (31, vI (R14.okE (R14.valid d n ps))), (7, vS (R14.encode R02.update d n ps)), (8, vI (R14.okE (R14.valid d n ps))), (32, Value.agg ((DataSet.enc d ++ [vI n, Value.slice psA ps.length psC])).toArray), (34, Value.agg ((DataSet.enc d ++ [vI n, Value.slice psA ps.length psC])).toArray), (33, vB (R14.valid d n ps)), (35, vB (R14.valid d n ps)), (36, vB (decide ((R14.valid d n ps) = (R14.valid d n ps)))), (37, vB true), (38, Value.agg ((DataSet.enc d ++ [vI n, Value.slice psA ps.length psC])).toArray), (39, Value.agg ((DataSet.enc e ++ [vI m, Value.slice qsA qs.length qsC])).toArray), (41, Value.agg ((DataSet.enc d ++ [vI n, Value.slice psA ps.length psC])).toArray), (42, Value.agg ((DataSet.enc e ++ [vI m, Value.slice qsA qs.length qsC])).toArray), (40, vB (R14.same d n ps e m qs)), (43, vB (R14.same d n ps e m qs)), (44, vB (decide ((R14.same d n ps e m qs) = (R14.same d n ps e m qs)))), (45, vB (decide ((R14.same d n ps e m qs) = (R14.same d n ps e m qs)))), (46, vB true), (47, Value.agg ((DataSet.enc d ++ [vI n, Value.slice psA ps.length psC])).toArray), (48, Value.agg ((DataSet.enc d ++ [vI n, Value.slice psA ps.length psC])).toArray), (49, vB (R14.same d n ps d n ps)), (50, vB (R14.same d n ps d n ps)), (51, vB true)] [(2, Value.pointer (some ⟨b1, 0, none⟩)), (3, Value.pointer (some ⟨b2, 0, none⟩)), (4, vB false), (20, vB ((!(R14.few d ps)) || (!(R14.few e qs)))), (23, Value.agg ((DataSet.enc d ++ [vI n, Value.slice psA ps.length psC])).toArray), (24, Value.tuple #[vS (R14.encode R02.updateN d n ps), vI (R14.okE (R14.valid d n ps))]), (22, Value.tuple #[vS (R14.encode R02.updateN d n ps), vI (R14.okE (R14.valid d n ps))]), (25, vS (R14.encode R02.updateN d n ps)), (26, vI (R14.okE (R14.valid d n ps))), (5, vS (R14.encode R02.updateN d n ps)), (6, vI (R14.okE (R14.valid d n ps))), (28, Value.agg ((DataSet.enc d ++ [vI n, Value.slice psA ps.length psC])).toArray), (29, Value.tuple #[vS (R14.encode R02.update d n ps), vI (R14.okE (R14.valid d n ps))]), (27, Value.tuple #[vS (R14.encode R02.update d n ps), vI (R14.okE (R14.valid d n ps))]), (30, vS (R14.encode R02.update d n ps)), (31, vI (R14.okE (R14.valid d n ps))), (7, vS (R14.encode R02.update d n ps)), (8, vI (R14.okE (R14.valid d n ps))), (32, Value.agg ((DataSet.enc d ++ [vI n, Value.slice psA ps.length psC])).toArray), (34, Value.agg ((DataSet.enc d ++ [vI n, Value.slice psA ps.length psC])).toArray), (33, vB (R14.valid d n ps)), (35, vB (R14.valid d n ps)), (36, vB (decide ((R14.valid d n ps) = (R14.valid d n ps)))), (37, vB true), (38, Value.agg ((DataSet.enc d ++ [vI n, Value.slice psA ps.length psC])).toArray), (39, Value.agg ((DataSet.enc e ++ [vI m, Value.slice qsA qs.length qsC])).toArray), (41, Value.agg ((DataSet.enc d ++ [vI n, Value.slice psA ps.length psC])).toArray), (42, Value.agg ((DataSet.enc e ++ [vI m, Value.slice qsA qs.length qsC])).toArray), (40, vB (R14.same d n ps e m qs)), (43, vB (R14.same d n ps e m qs)), (44, vB (decide ((R14.same d n ps e m qs) = (R14.same d n ps e m qs)))), (45, vB (decide ((R14.same d n ps e m qs) = (R14.same d n ps e m qs)))), (46, vB true), (47, Value.agg ((DataSet.enc d ++ [vI n, Value.slice psA ps.length psC])).toArray), (48, Value.agg ((DataSet.enc d ++ [vI n, Value.slice psA ps.length psC])).toArray), (49, vB (R14.same d n ps d n ps)), (50, vB (R14.same d n ps d n ps)), (51, vB false)] (fun hb => ⟨rfl, rfl, rfl, rfl, rfl, rfl, rfl, rfl, rfl, rfl, rfl, rfl, rfl, rfl, rfl, rfl, rfl, rfl, rfl, rfl, rfl, rfl, rfl, rfl, rfl, rfl, rfl, rfl, rfl, rfl, rfl, rfl, rfl, rfl, rfl, rfl, rfl, congrArg (fun b => some (vB b)) hb, trivial⟩) (fun hb => ⟨rfl, rfl, rfl, rfl, rfl, rfl, rfl, rfl, rfl, rfl, rfl, rfl, rfl, rfl, rfl, rfl, rfl, rfl, rfl, rfl, rfl, rfl, rfl, rfl, rfl, rfl, rfl, rfl, rfl, rfl, rfl, rfl, rfl, rfl, rfl, rfl, rfl, congrArg (fun b => some (vB b)) hb, trivial⟩) (fun h9 => ?_) (fun h9 => ?_)
        · refine JA_take 20 (vS (R14.encode R02.updateN d n ps)) rfl (by kernel_rfl) (by kernel_rfl) (by kernel_rfl) rfl (fun _ _ _ h => h) rfl ⟨_, rfl, rfl⟩ (fun _ _ => rfl) ?_
          refine JA_take 21 (vS (R14.encode R02.update d n ps)) rfl (by kernel_rfl) (by kernel_rfl) (by kernel_rfl) rfl (fun _ _ _ h => h) rfl ⟨_, rfl, rfl⟩ (fun _ _ => rfl) ?_
          refine JA_take 22 (vB (decide (R14.encode R02.updateN d n ps = R14.encode R02.update d n ps))) rfl (by kernel_rfl) (by kernel_rfl) (by kernel_rfl) rfl (fun _ _ _ h => h) rfl ⟨_, rfl, rfl⟩ (fun _ _ => x_eql_s rfl rfl) ?_
          refine JA_take 23 (vB (decide (R14.encode R02.updateN d n ps = R14.encode R02.update d n ps))) rfl (by kernel_rfl) (by kernel_rfl) (by kernel_rfl) rfl (fun _ _ _ h => h) rfl trivial (fun _ _ => rfl) ?_
          refine JA_take 24 (vB (decide (R14.encode R02.updateN d n ps = R14.encode R02.update d n ps))) rfl (by kernel_rfl) (by kernel_rfl) (by kernel_rfl) rfl (fun _ _ _ h => h) rfl trivial (fun _ _ => rfl) ?_
          refine JA_bool (decide (R14.encode R02.updateN d n ps = R14.encode R02.update d n ps)) [(2, Value.pointer (some ⟨b1, 0, none⟩)), (3, Value.pointer (some ⟨b2, 0, none⟩)), (4, vB false), (20, vB ((!(R14.few d ps)) || (!(R14.few e qs)))), (23, Value.agg ((DataSet.enc d ++ [vI n, Value.slice psA ps.length psC])).toArray), (24, Value.tuple #[vS (R14.encode R02.updateN d n ps), vI (R14.okE (R14.valid d n ps))]), (22, Value.tuple #[vS (R14.encode R02.updateN d n ps), vI (R14.okE (R14.valid d n ps))]), (25, vS (R14.encode R02.updateN d n ps)), (26, vI (R14.okE (R14.valid d n ps))), (5, vS (R14.encode R02.updateN d n ps)), (6, vI (R14.okE (R14.valid d n ps))), (28, Value.agg ((DataSet.enc d ++ [vI n, Value.slice psA ps.length psC])).toArray), (29, Value.tuple #[vS (R14.encode R02.update d n ps), vI (R14.okE (R14.valid d n ps))]), (27, Value.tuple #[vS (R14.encode R02.update d n ps), vI (R14.okE (R14.valid d n ps))]), (30, vS (R14.encode R02.update d n ps)), (31, vI (R14.okE (R14.valid d n ps))), (7, vS (R14.encode R02.update d n ps)), (8, vI (R14.okE (R14.valid d n ps))), (32, Value.agg ((DataSet.enc d ++ [vI n, Value.slice psA ps.length psC])).toArray), (34, Value.agg ((DataSet.enc d ++ [vI n, Value.slice psA ps.length psC])).toArray), (33, vB (R14.valid d n ps)), (35, vB (R14.valid d n ps)), (36, vB (decide ((R14.valid d n ps) = (R14.valid d n ps)))), (37, vB true), (38, Value.agg ((DataSet.enc d ++ [vI n, Value.slice psA ps.length psC])).toArray), (39, Value.agg ((DataSet.enc e ++ [vI m, Value.slice qsA qs.length qsC])).toArray), (41, Value.agg ((DataSet.enc d ++ [vI n, Value.slice psA ps.length psC])).toArray), (42, Value.agg ((DataSet.enc e ++ [vI m, Value.slice qsA qs.length qsC])).toArray), (40, vB (R14.same d n ps e m qs)), (43, vB (R14.same d n ps e m qs)), (44, vB (decide ((R14.same d n ps e m qs) = (R14.same d n ps e m qs)))), (45, vB (decide ((R14.same d n ps e m qs) = (R14.same d n ps e m qs)))), (46, vB true), (47, Value.agg ((DataSet.enc d ++ [vI n, Value.slice psA ps.length psC])).toArray), (48, Value.agg ((DataSet.enc d ++ [vI n, Value.slice psA ps.length psC])).toArray), (49, vB (R14.same d n ps d n ps)), (50, vB (R14.same d n ps d n ps)), (51, vB true), (52, vS (R14.encode R02.updateN d n ps)), (53, vS (R14.encode R02.update d n ps)), (54, vB (decide (R14.encode R02.updateN d n ps = R14.encode R02.update d n ps))), (55, vB (decide (R14.encode R02.updateN d n ps = R14.encode R02.update d n ps))), (56, vB true)] [(2, Value.pointer (some ⟨b1, 0, none⟩)), (3, Value.pointer (some ⟨b2, 0, none⟩)), (4, vB false), (20, vB ((!(R14.few d ps)) || (!(R14.few e qs)))), (23, Value.agg ((DataSet.enc d ++ [vI n, Value.slice psA ps.length psC])).toArray), (24, Value.tuple #[vS (R14.encode R02.updateN d n ps), vI (R14.okE (R14.valid d n ps))]), (22, Value.tuple #[vS (R14.encode R02.updateN d n ps), vI (R14.okE (R14.valid d n ps))]), (25, vS (R14.encode R02.updateN d n ps)), (26, vI (R14.okE (R14.valid d n ps))), (5, vS (R14.encode R02.updateN d n ps)), (6, vI (R14.okE (R14.valid d n ps))), (28, Value.agg ((DataSet.enc d ++ [vI n, Value.slice psA ps.length psC])).toArray), (29, Value.tuple #[vS (R14.encode R02.update d n ps), vI (R14.okE (R14.valid d n ps))]), (27, Value.tuple #[vS (R14.encode R02.update d n ps), vI (R14.okE (R14.valid d n ps))]), (30, vS (R14.encode R02.update d n ps)), (31, vI (R14.okE (R14.valid d n ps))), (7, vS (R14.encode R02.update d n ps)), (8, vI (R14.okE (R14.valid d n ps))), (32, Value.agg ((DataSet.enc d ++ [vI n, Value.slice psA ps.length psC])).toArray), (34, Value.agg ((DataSet.enc d ++ [vI n, Value.slice psA ps.length psC])).toArray), (33, vB (R14.valid d n ps)), (35, vB (R14.valid d n ps)), (36, vB (decide ((R14.valid d n ps) = (R14.valid d n ps)))), (37, vB true), (38, Value.agg ((DataSet.enc d ++ [vI n, Value.slice psA ps.length psC])).toArray), (39, Value.agg ((DataSet.enc e ++ [vI m, Value.slice qsA qs.length qsC])).toArray), (41, Value.agg ((DataSet.enc d ++ [vI n, Value.slice psA ps.length psC])).toArray), (42, Value.agg ((DataSet.enc e ++ [vI m, Value.slice qsA qs.length qsC])).toArray), (40, vB (R14.same d n ps e m qs)), (43, vB (R14.same d n ps e m qs)), (44, vB (decide ((R14.same d n ps e m qs) = (R14.same d n ps e m qs)))), (45, vB (decide ((R14.same d n ps e m qs) = (R14.same d n ps e m qs)))), (46, vB true), (47, Value.agg ((DataSet.enc d ++ [vI n, Value.slice psA ps.length psC])).toArray), (48, Value.agg ((DataSet.enc d ++ [vI n, Value.slice psA ps.length psC])).toArray), (49, vB (R14.same d n ps d n ps)), (50, vB (R14.same d n ps d n ps)), (51, vB true), (52, vS (R14.encode R02.updateN d n ps)), (53, vS (R14.encode R02.update d n ps)), (54, vB (decide (R14.encode R02.updateN d n ps = R14.encode R02.update d n ps))), (55, vB (decide (R14.encode R02.updateN d n ps = R14.encode R02.update d n ps))), (56, vB false)] (fun hb => ⟨rfl, rfl, rfl, rfl, rfl, rfl, rfl, rfl, rfl, rfl, rfl, rfl, rfl, rfl, rfl, rfl, rfl, rfl, rfl, rfl, rfl, rfl, rfl, rfl, rfl, rfl, rfl, rfl, rfl, rfl, rfl, rfl, rfl, rfl, rfl, rfl, rfl, rfl, rfl, rfl, rfl, rfl, congrArg (fun b => some (vB b)) hb, trivial⟩) (fun hb => ⟨rfl, rfl, rfl, rfl, rfl, rfl, rfl, rfl, rfl, rfl, rfl, rfl, rfl, rfl, rfl, rfl, rfl, rfl, rfl, rfl, rfl, rfl, rfl, rfl, rfl, rfl, rfl, rfl, rfl, rfl, rfl, rfl, rfl, rfl, rfl, rfl, rfl, rfl, rfl, rfl, rfl, rfl, congrArg (fun b => some (vB b)) hb, trivial⟩) (fun h10 => ?_) (fun h10 => ?_)
          · have h10 := of_decide_eq_true h10
            refine JA_take 25 (vI (R14.okE (R14.valid d n ps))) rfl (by kernel_rfl) (by kernel_rfl) (by kernel_rfl) rfl (fun _ _ _ h => h) rfl ⟨_, rfl, rfl⟩ (fun _ _ => rfl) ?_
            refine JA_take 26 (vI (R14.okE (R14.valid d n ps))) rfl (by kernel_rfl) (by kernel_rfl) (by kernel_rfl) rfl (fun _ _ _ h => h) rfl ⟨_, rfl, rfl⟩ (fun _ _ => rfl) ?_
            refine JA_take 27 (vB (decide (R14.okE (R14.valid d n ps) = R14.okE (R14.valid d n ps)))) rfl (by kernel_rfl) (by kernel_rfl) (by kernel_rfl) rfl (fun _ _ _ h => h) rfl ⟨_, rfl, rfl⟩ (fun _ _ => x_eql_i rfl rfl) ?_
            refine JA_take 28 (vB (decide (R14.okE (R14.valid d n ps) = R14.okE (R14.valid d n ps)))) rfl (by kernel_rfl) (by kernel_rfl) (by kernel_rfl) rfl (fun _ _ _ h => h) rfl trivial (fun _ _ => rfl) ?_
            refine JA_take 29 (vB (decide (R14.okE (R14.valid d n ps) = R14.okE (R14.valid d n ps)))) rfl (by kernel_rfl) (by kernel_rfl) (by kernel_rfl) rfl (fun _ _ _ h => h) rfl trivial (fun _ _ => rfl) ?_
            refine JA_bool (decide (R14.okE (R14.valid d n ps) = R14.okE (R14.valid d n ps))) [(2, Value.pointer (some ⟨b1, 0, none⟩)), (3, Value.pointer (some ⟨b2, 0, none⟩)), (4, vB false), (20, vB ((!(R14.few d ps)) || (!(R14.few e qs)))), (23, Value.agg ((DataSet.enc d ++ [vI n, Value.slice psA ps.length psC])).toArray), (24, Value.tuple #[vS (R14.encode R02.updateN d n ps), vI (R14.okE (R14.valid d n ps))]), (22, Value.tuple #[vS (R14.encode R02.updateN d n ps), vI (R14.okE (R14.valid d n ps))]), (25, vS (R14.encode R02.updateN d n ps)), (26, vI (R14.okE (R14.valid d n ps))), (5, vS (R14.encode R02.updateN d n ps)), (6, vI (R14.okE (R14.valid d n ps))), (28, Value.agg ((DataSet.enc d ++ [vI n, Value.slice psA ps.length psC])).toArray), (29, Value.tuple #[vS (R14.encode R02.update d n ps), vI (R14.okE (R14.valid d n ps))]), (27, Value.tuple #[vS (R14.encode R02.update d n ps), vI (R14.okE (R14.valid d n ps))]), (30, vS (R14.encode R02.update d n ps)), (31, vI (R14.okE (R14.valid d n ps))), (7, vS (R14.encode R02.update d n ps)), (8, vI (R14.okE (R14.valid d n ps))), (32, Value.agg ((DataSet.enc d ++ [vI n, Value.slice psA ps.length psC])).toArray), (34, Value.agg ((DataSet.enc d ++ [vI n, Value.slice psA ps.length psC])).toArray), (33, vB (R14.valid d n ps)), (35, vB (R14.valid d n ps)), (36, vB (decide ((R14.valid d n ps) = (R14.valid d n ps)))), (37, vB true), (38, Value.agg ((DataSet.enc d ++ [vI n, Value.slice psA ps.length psC])).toArray), (39, Value.agg ((DataSet.enc e ++ [vI m, Value.slice qsA qs.length qsC])).toArray), (41, Value.agg ((DataSet.enc d ++ [vI n, Value.slice psA ps.length psC])).toArray), (42, Value.agg ((DataSet.enc e ++ [vI m, Value.slice qsA qs.length qsC])).toArray), (40, vB (R14.same d n ps e m qs)), (43, vB (R14.same d n ps e m qs)), (44, vB (decide ((R14.same d n ps e m qs) = (R14.same d n ps e m qs)))), (45, vB (decide ((R14.same d n ps e m qs) = (R14.same d n ps e m qs)))), (46, vB true), (47, Value.agg ((DataSet.enc d ++ [vI n, Value.slice psA ps.length psC])).toArray), (48, Value.agg ((DataSet.enc d ++ [vI n, Value.slice psA ps.length psC])).toArray), (49, vB (R14.same d n ps d n ps)), (50, vB (R14.same d n ps d n ps)), (51, vB true), (52, vS (R14.encode R02.updateN d n ps)), (53, vS (R14.encode R02.update d n ps)), (54, vB (decide (R14.encode R02.updateN d n ps = R14.encode R02.update d n ps))), (55, vB (decide (R14.encode R02.updateN d n ps = R14.encode R02.update d n ps))), (56, vB true), (57, vI (R14.okE (R14.valid d n ps))), (58, vI (R14.okE (R14.valid d n ps))), (59, vB (decide (R14.okE (R14.valid d n ps) = R14.okE (R14.valid d n ps)))), (60, vB (decide (R14.okE (R14.valid d n ps) = R14.okE (R14.valid d n ps)))), (61, vB true)] [(2, Value.pointer (some ⟨b1, 0, none⟩)), (3, Value.pointer (some ⟨b2, 0, none⟩)), (4, vB false), (20, vB ((!(R14.few d ps)) || (!(R14.few e qs)))), (23, Value.agg ((DataSet.enc d ++ [vI n, Value.slice psA ps.length psC])).toArray), (24, Value.tuple #[vS (R14.encode R02.updateN d n ps), vI (R14.okE (R14.valid d n ps))]), (22, Value.tuple #[vS (R14.encode R02.updateN d n ps), vI (R14.okE (R14.valid d n ps))]), (25, vS (R14.encode R02.updateN d n ps)), (26, vI (R14.okE (R14.valid d n ps))), (5, vS (R14.encode R02.updateN d n ps)), (6, vI (R14.okE (R14.valid d n ps))), (28, Value.agg ((DataSet.enc d ++ [vI n, Value.slice psA ps.length psC])).toArray), (29, Value.tuple #[vS (R14.encode R02.update d n ps), vI (R14.okE (R14.valid d n ps))]), (27, Value.tuple #[vS (R14.encode R02.update d n ps), vI (R14.okE (R14.valid d n ps))]), (30, vS (R14.encode R02.update d n ps)), (31, vI (R14.okE (R14.valid d n ps))), (7, vS (R14.encode R02.update d n ps)), (8, vI (R14.okE (R14.valid d n ps))), (32, Value.agg ((DataSet.enc d ++ [vI n, Value.slice psA ps.length psC])).toArray), (34, Value.agg ((DataSet.enc d ++ [vI n, Value.slice psA ps.length psC])).toArray), (33, vB (R14.valid d n ps)), (35, vB (R14.valid d n ps)), (36, vB (decide ((R14.valid d n ps) = (R14.valid d n ps)))), (37, vB true), (38, Value.agg ((DataSet.enc d ++ [vI n, Value.slice psA ps.length psC])).toArray), (39, Value.agg ((DataSet.enc e ++ [vI m, Value.slice qsA qs.length qsC])).toArray), (41, Value.agg ((DataSet.enc d ++ [vI n, Value.slice psA ps.length psC])).toArray), (42, Value.agg ((DataSet.enc e ++ [vI m, Value.slice qsA qs.length qsC])).toArray), (40, vB (R14.same d n ps e m qs)), (43, vB (R14.same d n ps e m qs)), (44, vB (decide ((R14.same d n ps e m qs) = (R14.same d n ps e m qs)))), (45, vB (decide ((R14.same d n ps e m qs) = (R14.same d n ps e m qs)))), (46, vB true), (47, Value.agg ((DataSet.enc d ++ [vI n, Value.slice psA ps.length psC])).toArray), (48, Value.agg ((DataSet.enc d ++ [vI n, Value.slice psA ps.length psC])).toArray), (49, vB (R14.same d n ps d n ps)), (50, vB (R14.same d n ps d n ps)), (51, vB true), (52, vS (R14.encode R02.updateN d n ps)), (53, vS (R14.encode R02.update d n ps)), (54, vB (decide (R14.encode R02.updateN d n ps = R14.encode R02.update d n ps))), (55, vB (decide (R14.encode R02.updateN d n ps = R14.encode R02.update d n ps))), (56, vB true), (57, vI (R14.okE (R14.valid d n ps))), (58, vI (R14.okE (R14.valid d n ps))), (59, vB (decide (R14.okE (R14.valid d n ps) = R14.okE (R14.valid d n ps)))), (60, vB (decide (R14.okE (R14.valid d n ps) = R14.okE (R14.valid d n ps)))), (61, vB false)] (fun hb => ⟨rfl, rfl, rfl, rfl, rfl, rfl, rfl, rfl, rfl, rfl, rfl, rfl, rfl, rfl, rfl, rfl, rfl, rfl, rfl, rfl, rfl, rfl, rfl, rfl, rfl, rfl, rfl, rfl, rfl, rfl, rfl, rfl, rfl, rfl, rfl, rfl, rfl, rfl, rfl, rfl, rfl, rfl, rfl, rfl, rfl, rfl, rfl, congrArg (fun b => some (vB b)) hb, trivial⟩) (fun hb => ⟨rfl, rfl, rfl, rfl, rfl, rfl, rfl, rfl, rfl, rfl, rfl, rfl, rfl, rfl, rfl, rfl, rfl, rfl, rfl, rfl, rfl, rfl, rfl, rfl, rfl, rfl, rfl, rfl, rfl, rfl, rfl, rfl, rfl, rfl, rfl, rfl, rfl, rfl, rfl, rfl, rfl, rfl, rfl, rfl, rfl, rfl, rfl, congrArg (fun b => some (vB b)) hb, trivial⟩) (fun h11 => ?_) (fun h11 => ?_)
            · have h11 := of_decide_eq_true h11
              refine JA_take 30 (Value.agg ((DataSet.enc d ++ [vI n, Value.slice psA ps.length psC])).toArray) rfl (by kernel_rfl) (by kernel_rfl) (by kernel_rfl) rfl (fun _ _ _ h => h) rfl ⟨_, rfl, rfl⟩ (x_loadN 1 (DataSet.enc d ++ [vI n, Value.slice psA ps.length psC]) rfl rfl Ty.ag37 Ty.sz37 rfl) ?_
              refine JA_take 32 (Value.agg ((DataSet.enc d ++ [vI n, Value.slice psA ps.length psC])).toArray) rfl (by kernel_rfl) (by kernel_rfl) (by kernel_rfl) rfl (fun _ _ _ h => h) rfl ⟨_, rfl, rfl⟩ (x_loadN 1 (DataSet.enc d ++ [vI n, Value.slice psA ps.length psC]) rfl rfl Ty.ag37 Ty.sz37 rfl) ?_
              refine JA_one 31 (by kernel_rfl) (fun _ h => ⟨h, fun _ => h⟩) ?_
              refine JI_call [] [] [Ent.blk b2 37 (DataSet.enc e ++ [vI m, Value.slice qsA qs.length qsC]), Ent.blk b1 37 (DataSet.enc d ++ [vI n, Value.slice psA ps.length psC])] rfl rfl ⟨_, rfl, rfl⟩ (fun _ => x_call Ty.ca24 rfl) (fun _ h => h) (fun _ h => by cases h) (fun w hS => f24_ok d n ps psA psC w (psR.on hS (fun _ h => by cases h)) hy_) ?_
              rintro _ _ ⟨rfl, rfl⟩
              refine JA_one 33 (by kernel_rfl) (fun _ h => ⟨h, fun _ => h⟩) ?_
              refine JI_call [] [] [Ent.blk b2 37 (DataSet.enc e ++ [vI m, Value.slice qsA qs.length qsC]), Ent.blk b1 37 (DataSet.enc d ++ [vI n, Value.slice psA ps.length psC])] rfl rfl ⟨_, rfl, rfl⟩ (fun _ => x_call Ty.ca25 rfl) (fun _ h => h) (fun _ h => by cases h) (fun w hS => f25_ok d n ps psA psC w (psR.on hS (fun _ h => by cases h)) hy_) ?_
              rintro _ _ ⟨rfl, rfl⟩
              refine JA_take 34 (vB (decide ((((R14.encode R02.updateN d n ps).length : Nat) : Int) = (((R14.encode R02.update d n ps).length : Nat) : Int)))) rfl (by kernel_rfl) (by kernel_rfl) (by kernel_rfl) rfl (fun _ _ _ h => h) rfl ⟨_, rfl, rfl⟩ (fun _ _ => x_eql_i rfl rfl) ?_
              refine JA_take 35 (vB (decide ((((R14.encode R02.updateN d n ps).length : Nat) : Int) = (((R14.encode R02.update d n ps).length : Nat) : Int)))) rfl (by kernel_rfl) (by kernel_rfl) (by kernel_rfl) rfl (fun _ _ _ h => h) rfl trivial (fun _ _ => rfl) ?_
              refine JA_take 36 (vB (decide ((((R14.encode R02.updateN d n ps).length : Nat) : Int) = (((R14.encode R02.update d n ps).length : Nat) : Int)))) rfl (by kernel_rfl) (by kernel_rfl) (by kernel_rfl) rfl (fun _ _ _ h => h) rfl trivial (fun _ _ => rfl) ?_
              refine JA_done (by kernel_rfl) (fun _ h => ⟨h, fun _ => h⟩) ?_
              refine JX_then ?_
              refine J_ret ?_
              refine JX_rets [vB (decide ((((R14.encode R02.updateN d n ps).length : Nat) : Int) = (((R14.encode R02.update d n ps).length : Nat) : Int)))] (vB (decide ((((R14.encode R02.updateN d n ps).length : Nat) : Int) = (((R14.encode R02.update d n ps).length : Nat) : Int)))) Try.results5 (fun w h => ⟨rfl, trivial⟩) rfl [] (fun _ h => h.keep [false, false] rfl) ⟨?_, ?_⟩
              · have e_x0 : (decide ((((R14.encode R02.updateN d n ps).length : Nat) : Int) = (((R14.encode R02.update d n ps).length : Nat) : Int)) : Bool) = true := by
                  first | rfl | (rw [R02.updateN_eq]; simp [R14.same]) | (exfalso; simp_all [R02.updateN_eq, R14.same])
                exact congrArg (fun (x0 : Bool) => vB x0) e_x0
              · rfl
            · have h11 := of_decide_eq_false h11
              refine JA_shun 30 rfl (by kernel_rfl) (by kernel_rfl) (by kernel_rfl) rfl (fun _ _ _ h => h) rfl ⟨_, rfl, rfl⟩ ?_
              refine JA_shun 31 rfl (by kernel_rfl) (by kernel_rfl) (by kernel_rfl) rfl (fun _ _ _ h => h) rfl ⟨_, rfl, rfl⟩ ?_
              refine JA_shun 32 rfl (by kernel_rfl) (by kernel_rfl) (by kernel_rfl) rfl (fun _ _ _ h => h) rfl ⟨_, rfl, rfl⟩ ?_
              refine JA_shun 33 rfl (by kernel_rfl) (by kernel_rfl) (by kernel_rfl) rfl (fun _ _ _ h => h) rfl ⟨_, rfl, rfl⟩ ?_
              refine JA_shun 34 rfl (by kernel_rfl) (by kernel_rfl) (by kernel_rfl) rfl (fun _ _ _ h => h) rfl ⟨_, rfl, rfl⟩ ?_
              refine JA_take 35 (vB false) rfl (by kernel_rfl) (by kernel_rfl) (by kernel_rfl) rfl (fun _ _ _ h => h) rfl trivial (fun _ _ => rfl) ?_
              refine JA_take 36 (vB false) rfl (by kernel_rfl) (by kernel_rfl) (by kernel_rfl) rfl (fun _ _ _ h => h) rfl trivial (fun _ _ => rfl) ?_
              refine JA_done (by kernel_rfl) (fun _ h => ⟨h, fun _ => h⟩) ?_
              refine JX_then ?_
              refine J_ret ?_
              refine JX_rets [vB false] (vB false) Try.results5 (fun w h => ⟨rfl, trivial⟩) rfl [] (fun _ h => h.keep [false, false] rfl) ⟨?_, ?_⟩
              · have e_x0 : (false : Bool) = true := by
                  first | rfl | (rw [R02.updateN_eq]; simp [R14.same]) | (exfalso; simp_all [R02.updateN_eq, R14.same])
                exact congrArg (fun (x0 : Bool) => vB x0) e_x0
              · rfl
          · have h10 := of_decide_eq_false h10
            refine JA_shun 25 rfl (by kernel_rfl) (by kernel_rfl) (by kernel_rfl) rfl (fun _ _ _ h => h) rfl ⟨_, rfl, rfl⟩ ?_
            refine JA_shun 26 rfl (by kernel_rfl) (by kernel_rfl) (by kernel_rfl) rfl (fun _ _ _ h => h) rfl ⟨_, rfl, rfl⟩ ?_
            refine JA_shun 27 rfl (by kernel_rfl) (by kernel_rfl) (by kernel_rfl) rfl (fun _ _ _ h => h) rfl ⟨_, rfl, rfl⟩ ?_
            refine JA_take 28 (vB false) rfl (by kernel_rfl) (by kernel_rfl) (by kernel_rfl) rfl (fun _ _ _ h => h) rfl trivial (fun _ _ => rfl) ?_
            refine JA_take 29 (vB false) rfl (by kernel_rfl) (by kernel_rfl) (by kernel_rfl) rfl (fun _ _ _ h => h) rfl trivial (fun _ _ => rfl) ?_
            refine JA_shun 30 rfl (by kernel_rfl) (by kernel_rfl) (by kernel_rfl) rfl (fun _ _ _ h => h) rfl ⟨_, rfl, rfl⟩ ?_
            refine JA_shun 31 rfl (by kernel_rfl) (by kernel_rfl) (by kernel_rfl) rfl (fun _ _ _ h => h) rfl ⟨_, rfl, rfl⟩ ?_
            refine JA_shun 32 rfl (by kernel_rfl) (by kernel_rfl) (by kernel_rfl) rfl (fun _ _ _ h => h) rfl ⟨_, rfl, rfl⟩ ?_
            refine JA_shun 33 rfl (by kernel_rfl) (by kernel_rfl) (by kernel_rfl) rfl (fun _ _ _ h => h) rfl ⟨_, rfl, rfl⟩ ?_
            refine JA_shun 34 rfl (by kernel_rfl) (by kernel_rfl) (by kernel_rfl) rfl (fun _ _ _ h => h) rfl ⟨_, rfl, rfl⟩ ?_
            refine JA_take 35 (vB false) rfl (by kernel_rfl) (by kernel_rfl) (by kernel_rfl) rfl (fun _ _ _ h => h) rfl trivial (fun _ _ => rfl) ?_
            refine JA_take 36 (vB false) rfl (by kernel_rfl) (by kernel_rfl) (by kernel_rfl) rfl (fun _ _ _ h => h) rfl trivial (fun _ _ => rfl) ?_
            refine JA_done (by kernel_rfl) (fun _ h => ⟨h, fun _ => h⟩) ?_
            refine JX_then ?_
            refine J_ret ?_
            refine JX_rets [vB false] (vB false) Try.results5 (fun w h => ⟨rfl, trivial⟩) rfl [] (fun _ h => h.keep [false, false] rfl) ⟨?_, ?_⟩
            · have e_x0 : (false : Bool) = true := by
                first | rfl | (rw [R02.updateN_eq]; simp [R14.same]) | (exfalso; simp_all [R02.updateN_eq, R14.same])
              exact congrArg (fun (x0 : Bool) => vB x0) e_x0
            · rfl
        · refine JA_shun 20 rfl (by kernel_rfl) (by kernel_rfl) (by kernel_rfl) rfl (fun _ _ _ h => h) rfl ⟨_, rfl, rfl⟩ ?_
          refine JA_shun 21 rfl (by kernel_rfl) (by kernel_rfl) (by kernel_rfl) rfl (fun _ _ _ h => h) rfl ⟨_, rfl, rfl⟩ ?_
          refine JA_shun 22 rfl (by kernel_rfl) (by kernel_rfl) (by kernel_rfl) rfl (fun _ _ _ h => h) rfl ⟨_, rfl, rfl⟩ ?_
          refine JA_take 23 (vB false) rfl (by kernel_rfl) (by kernel_rfl) (by kernel_rfl) rfl (fun _ _ _ h => h) rfl trivial (fun _ _ => rfl) ?_
          refine JA_take 24 (vB false) rfl (by kernel_rfl) (by kernel_rfl) (by kernel_rfl) rfl (fun _ _ _ h => h) rfl trivial (fun _ _ => rfl) ?_
          refine JA_shun 25 rfl (by kernel_rfl) (by kernel_rfl) (by kernel_rfl) rfl (fun _ _ _ h => h) rfl ⟨_, rfl, rfl⟩ ?_
          refine JA_shun 26 rfl (by kernel_rfl) (by kernel_rfl) (by kernel_rfl) rfl (fun _ _ _ h => h) rfl ⟨_, rfl, rfl⟩ ?_
          refine JA_shun 27 rfl (by kernel_rfl) (by kernel_rfl) (by kernel_rfl) rfl (fun _ _ _ h => h) rfl ⟨_, rfl, rfl⟩ ?_
          refine JA_take 28 (vB false) rfl (by kernel_rfl) (by kernel_rfl) (by kernel_rfl) rfl (fun _ _ _ h => h) rfl trivial (fun _ _ => rfl) ?_
          refine JA_take 29 (vB false) rfl (by kernel_rfl) (by kernel_rfl) (by kernel_rfl) rfl (fun _ _ _ h => h) rfl trivial (fun _ _ => rfl) ?_
          refine JA_shun 30 rfl (by kernel_rfl) (by kernel_rfl) (by kernel_rfl) rfl (fun _ _ _ h => h) rfl ⟨_, rfl, rfl⟩ ?_
          refine JA_shun 31 rfl (by kernel_rfl) (by kernel_rfl) (by kernel_rfl) rfl (fun _ _ _ h => h) rfl ⟨_, rfl, rfl⟩ ?_
          refine JA_shun 32 rfl (by kernel_rfl) (by kernel_rfl) (by kernel_rfl) rfl (fun _ _ _ h => h) rfl ⟨_, rfl, rfl⟩ ?_
          refine JA_shun 33 rfl (by kernel_rfl) (by kernel_rfl) (by kernel_rfl) rfl (fun _ _ _ h => h) rfl ⟨_, rfl, rfl⟩ ?_
          refine JA_shun 34 rfl (by kernel_rfl) (by kernel_rfl) (by kernel_rfl) rfl (fun _ _ _ h => h) rfl ⟨_, rfl, rfl⟩ ?_
          refine JA_take 35 (vB false) rfl (by kernel_rfl) (by kernel_rfl) (by kernel_rfl) rfl (fun _ _ _ h => h) rfl trivial (fun _ _ => rfl) ?_
          refine JA_take 36 (vB false) rfl (by kernel_rfl) (by kernel_rfl) (by kernel_rfl) rfl (fun _ _ _ h => h) rfl trivial (fun _ _ => rfl) ?_
          refine JA_done (by kernel_rfl) (fun _ h => ⟨h, fun _ => h⟩) ?_
          refine JX_then ?_
          refine J_ret ?_
          refine JX_rets [vB false] (vB false) Try.results5 (fun w h => ⟨rfl, trivial⟩) rfl [] (fun _ h => h.keep [false, false] rfl) ⟨?_, ?_⟩
          · have e_x0 : (false : Bool) = true := by
              first | rfl | (rw [R02.updateN_eq]; simp [R14.same]) | (exfalso; simp_all [R02.updateN_eq, R14.same])
            exact congrArg (fun (x0 : Bool) => vB x0) e_x0
          · rfl
      · have h8 := of_decide_eq_false h8
        refine JA_shun 15 rfl (by kernel_rfl) (by kernel_rfl) (by kernel_rfl) rfl (fun _ _ _ h => h) rfl ⟨_, rfl, rfl⟩ ?_
        refine JA_shun 16 rfl (by kernel_rfl) (by kernel_rfl) (by kernel_rfl) rfl (fun _ _ _ h => h) rfl ⟨_, rfl, rfl⟩ ?_
        refine JA_shun 17 rfl (by kernel_rfl) (by kernel_rfl) (by kernel_rfl) rfl (fun _ _ _ h => h) rfl ⟨_, rfl, rfl⟩ ?_
        refine JA_take 18 (vB false) rfl (by kernel_rfl) (by kernel_rfl) (by kernel_rfl) rfl (fun _ _ _ h => h) rfl trivial (fun _ _ => rfl) ?_
        refine JA_take 19 (vB false) rfl (by kernel_rfl) (by kernel_rfl) (by kernel_rfl) rfl (fun _ _ _ h => h) rfl trivial (fun _ _ => rfl) ?_
        refine JA_shun 20 rfl (by kernel_rfl) (by kernel_rfl) (by kernel_rfl) rfl (fun _ _ _ h => h) rfl ⟨_, rfl, rfl⟩ ?_
        refine JA_shun 21 rfl (by kernel_rfl) (by kernel_rfl) (by kernel_rfl) rfl (fun _ _ _ h => h) rfl ⟨_, rfl, rfl⟩ ?_
        refine JA_shun 22 rfl (by kernel_rfl) (by kernel_rfl) (by kernel_rfl) rfl (fun _ _ _ h => h) rfl ⟨_, rfl, rfl⟩ ?_
        refine JA_take 23 (vB false) rfl (by kernel_rfl) (by kernel_rfl) (by kernel_rfl) rfl (fun _ _ _ h => h) rfl trivial (fun _ _ => rfl) ?_
        refine JA_take 24 (vB false) rfl (by kernel_rfl) (by kernel_rfl) (by kernel_rfl) rfl (fun _ _ _ h => h) rfl trivial (fun _ _ => rfl) ?_
        refine JA_shun 25 rfl (by kernel_rfl) (by kernel_rfl) (by kernel_rfl) rfl (fun _ _ _ h => h) rfl ⟨_, rfl, rfl⟩ ?_
        refine JA_shun 26 rfl (by kernel_rfl) (by kernel_rfl) (by kernel_rfl) rfl (fun _ _ _ h => h) rfl ⟨_, rfl, rfl⟩ ?_
        refine JA_shun 27 rfl (by kernel_rfl) (by kernel_rfl) (by kernel_rfl) rfl (fun _ _ _ h => h) rfl ⟨_, rfl, rfl⟩ ?_
        refine JA_take 28 (vB false) rfl (by kernel_rfl) (by kernel_rfl) (by kernel_rfl) rfl (fun _ _ _ h => h) rfl trivial (fun _ _ => rfl) ?_
        refine JA_take 29 (vB false) rfl (by kernel_rfl) (by kernel_rfl) (by kernel_rfl) rfl (fun _ _ _ h => h) rfl trivial (fun _ _ => rfl) ?_
        refine JA_shun 30 rfl (by kernel_rfl) (by kernel_rfl) (by kernel_rfl) rfl (fun _ _ _ h => h) rfl ⟨_, rfl, rfl⟩ ?_
        refine JA_shun 31 rfl (by kernel_rfl) (by kernel_rfl) (by kernel_rfl) rfl (fun _ _ _ h => h) rfl ⟨_, rfl, rfl⟩ ?_
        refine JA_shun 32 rfl (by kernel_rfl) (by kernel_rfl) (by kernel_rfl) rfl (fun _ _ _ h => h) rfl ⟨_, rfl, rfl⟩ ?_
        refine JA_shun 33 rfl (by kernel_rfl) (by kernel_rfl) (by kernel_rfl) rfl (fun _ _ _ h => h) rfl ⟨_, rfl, rfl⟩ ?_
        refine JA_shun 34 rfl (by kernel_rfl) (by kernel_rfl) (by kernel_rfl) rfl (fun _ _ _ h => h) rfl ⟨_, rfl, rfl⟩ ?_
        refine JA_take 35 (vB false) rfl (by kernel_rfl) (by kernel_rfl) (by kernel_rfl) rfl (fun _ _ _ h => h) rfl trivial (fun _ _ => rfl) ?_
        refine JA_take 36 (vB false) rfl (by kernel_rfl) (by kernel_rfl) (by kernel_rfl) rfl (fun _ _ _ h => h) rfl trivial (fun _ _ => rfl) ?_
        refine JA_done (by kernel_rfl) (fun _ h => ⟨h, fun _ => h⟩) ?_
        refine JX_then ?_
        refine J_ret ?_
        refine JX_rets [vB false] (vB false) Try.results5 (fun w h => ⟨rfl, trivial⟩) rfl [] (fun _ h => h.keep [false, false] rfl) ⟨?_, ?_⟩
        · have e_x0 : (false : Bool) = true := by
            first | rfl | (rw [R02.updateN_eq]; simp [R14.same]) | (exfalso; simp_all [R02.updateN_eq, R14.same])
          exact congrArg (fun (x0 : Bool) => vB x0) e_x0
        · rfl
    · have h7 := of_decide_eq_false h7
      refine JA_shun 6 rfl (by kernel_rfl) (by kernel_rfl) (by kernel_rfl) rfl (fun _ _ _ h => h) rfl ⟨_, rfl, rfl⟩ ?_
      refine JA_shun 7 rfl (by kernel_rfl) (by kernel_rfl) (by kernel_rfl) rfl (fun _ _ _ h => h) rfl ⟨_, rfl, rfl⟩ ?_
      refine JA_shun 8 rfl (by kernel_rfl) (by kernel_rfl) (by kernel_rfl) rfl (fun _ _ _ h => h) rfl ⟨_, rfl, rfl⟩ ?_
      refine JA_shun 9 rfl (by kernel_rfl) (by kernel_rfl) (by kernel_rfl) rfl (fun _ _ _ h => h) rfl ⟨_, rfl, rfl⟩ ?_
      refine JA_shun 10 rfl (by kernel_rfl) (by kernel_rfl) (by kernel_rfl) rfl (fun _ _ _ h => h) rfl ⟨_, rfl, rfl⟩ ?_
      refine JA_shun 11 rfl (by kernel_rfl) (by kernel_rfl) (by kernel_rfl) rfl (fun _ _ _ h => h) rfl ⟨_, rfl, rfl⟩ ?_
      refine JA_shun 12 rfl (by kernel_rfl) (by kernel_rfl) (by kernel_rfl) rfl (fun _ _ _ h => h) rfl ⟨_, rfl, rfl⟩ ?_
      refine JA_take 13 (vB false) rfl (by kernel_rfl) (by kernel_rfl) (by kernel_rfl) rfl (fun _ _ _ h => h) rfl trivial (fun _ _ => rfl) ?_
      refine JA_take 14 (vB false) rfl (by kernel_rfl) (by kernel_rfl) (by kernel_rfl) rfl (fun _ _ _ h => h) rfl trivial (fun _ _ => rfl) ?_
      refine JA_shun 15 rfl (by kernel_rfl) (by kernel_rfl) (by kernel_rfl) rfl (fun _ _ _ h => h) rfl ⟨_, rfl, rfl⟩ ?_
      refine JA_shun 16 rfl (by kernel_rfl) (by kernel_rfl) (by kernel_rfl) rfl (fun _ _ _ h => h) rfl ⟨_, rfl, rfl⟩ ?_
      refine JA_shun 17 rfl (by kernel_rfl) (by kernel_rfl) (by kernel_rfl) rfl (fun _ _ _ h => h) rfl ⟨_, rfl, rfl⟩ ?_
      refine JA_take 18 (vB false) rfl (by kernel_rfl) (by kernel_rfl) (by kernel_rfl) rfl (fun _ _ _ h => h) rfl trivial (fun _ _ => rfl) ?_
      refine JA_take 19 (vB false) rfl (by kernel_rfl) (by kernel_rfl) (by kernel_rfl) rfl (fun _ _ _ h => h) rfl trivial (fun _ _ => rfl) ?_
      refine JA_shun 20 rfl (by kernel_rfl) (by kernel_rfl) (by kernel_rfl) rfl (fun _ _ _ h => h) rfl ⟨_, rfl, rfl⟩ ?_
      refine JA_shun 21 rfl (by kernel_rfl) (by kernel_rfl) (by kernel_rfl) rfl (fun _ _ _ h => h) rfl ⟨_, rfl, rfl⟩ ?_
      refine JA_shun 22 rfl (by kernel_rfl) (by kernel_rfl) (by kernel_rfl) rfl (fun _ _ _ h => h) rfl ⟨_, rfl, rfl⟩ ?_
      refine JA_take 23 (vB false) rfl (by kernel_rfl) (by kernel_rfl) (by kernel_rfl) rfl (fun _ _ _ h => h) rfl trivial (fun _ _ => rfl) ?_
      refine JA_take 24 (vB false) rfl (by kernel_rfl) (by kernel_rfl) (by kernel_rfl) rfl (fun _ _ _ h => h) rfl trivial (fun _ _ => rfl) ?_
      refine JA_shun 25 rfl (by kernel_rfl) (by kernel_rfl) (by kernel_rfl) rfl (fun _ _ _ h => h) rfl ⟨_, rfl, rfl⟩ ?_
      refine JA_shun 26 rfl (by kernel_rfl) (by kernel_rfl) (by kernel_rfl) rfl (fun _ _ _ h => h) rfl ⟨_, rfl, rfl⟩ ?_
      refine JA_shun 27 rfl (by kernel_rfl) (by kernel_rfl) (by kernel_rfl) rfl (fun _ _ _ h => h) rfl ⟨_, rfl, rfl⟩ ?_
      refine JA_take 28 (vB false) rfl (by kernel_rfl) (by kernel_rfl) (by kernel_rfl) rfl (fun _ _ _ h => h) rfl trivial (fun _ _ => rfl) ?_
      refine JA_take 29 (vB false) rfl (by kernel_rfl) (by kernel_rfl) (by kernel_rfl) rfl (fun _ _ _ h => h) rfl trivial (fun _ _ => rfl) ?_
      refine JA_shun 30 rfl (by kernel_rfl) (by kernel_rfl) (by kernel_rfl) rfl (fun _ _ _ h => h) rfl ⟨_, rfl, rfl⟩ ?_
      refine JA_shun 31 rfl (by kernel_rfl) (by kernel_rfl) (by kernel_rfl) rfl (fun _ _ _ h => h) rfl ⟨_, rfl, rfl⟩ ?_
      refine JA_shun 32 rfl (by kernel_rfl) (by kernel_rfl) (by kernel_rfl) rfl (fun _ _ _ h => h) rfl ⟨_, rfl, rfl⟩ ?_
      refine JA_shun 33 rfl (by kernel_rfl) (by kernel_rfl) (by kernel_rfl) rfl (fun _ _ _ h => h) rfl ⟨_, rfl, rfl⟩ ?_
      refine JA_shun 34 rfl (by kernel_rfl) (by kernel_rfl) (by kernel_rfl) rfl (fun _ _ _ h => h) rfl ⟨_, rfl, rfl⟩ ?_
      refine JA_take 35 (vB false) rfl (by kernel_rfl) (by kernel_rfl) (by kernel_rfl) rfl (fun _ _ _ h => h) rfl trivial (fun _ _ => rfl) ?_
      refine JA_take 36 (vB false) rfl (by kernel_rfl) (by kernel_rfl) (by kernel_rfl) rfl (fun _ _ _ h => h) rfl trivial (fun _ _ => rfl) ?_
      refine JA_done (by kernel_rfl) (fun _ h => ⟨h, fun _ => h⟩) ?_
      refine JX_then ?_
      refine J_ret ?_
      refine JX_rets [vB false] (vB false) Try.results5 (fun w h => ⟨rfl, trivial⟩) rfl [] (fun _ h => h.keep [false, false] rfl) ⟨?_, ?_⟩
      · have e_x0 : (false : Bool) = true := by
          first | rfl | (rw [R02.updateN_eq]; simp [R14.same]) | (exfalso; simp_all [R02.updateN_eq, R14.same])
        exact congrArg (fun (x0 : Bool) => vB x0) e_x0
      · rfl

end Go.Proofs.Ytodfebhimadaiaa
