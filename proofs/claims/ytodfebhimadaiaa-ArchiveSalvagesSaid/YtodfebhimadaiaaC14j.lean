/- contracts C14j -/
import Derived.Test.YtodfebhimadaiaaC14h
import Derived.Test.YtodfebhimadaiaaPl14e
namespace Go.Proofs.Ytodfebhimadaiaa
open Go.GV
set_option linter.unusedVariables false
set_option linter.unusedSimpArgs false
set_option maxRecDepth 20000 in
theorem f93_ok (s : Bytes) (w : World) : Calls Try.prog 93 #[vS s] w (Gives [] w fun v L => v = Value.tuple #[vU64 ((R01.dec s).1), vI (((R01.dec s).2 : Nat) : Int)] ∧ L = []) := by
  refine calls_J [] 45 Try.func93 rfl Try.ntmps93 [(0, vS s)] rfl rfl (Give.nil w) ?_
  refine J_seq (J_region ?_)
  refine jr_ (vU64 0) ?_
  refine jr_ (vI 0) ?_
  refine JO_nil (JX_then (J_seq (J_region ?_)))
  refine jr_ (vU64 0) ?_
  refine JO_nil (JX_then (J_seq (J_seq (J_region ?_))))
  refine jr_ (vI 0) ?_
  refine JO_nil (JX_then (J_block ?_))
  refine J_loop (X := Nat × UInt64) (fun (⟨k, n⟩ : Nat × UInt64) => (k ≤ 10) ∧ (k ≤ s.length) ∧ (n.toNat < 2 ^ (7 * k)) ∧ (R01.at_ s k n)) (fun (⟨k, n⟩ : Nat × UInt64) => [(0, vS s), (4, vU64 n), (5, vI ((k : Nat) : Int))]) (fun (⟨k, n⟩ : Nat × UInt64) => []) (fun (⟨k, n⟩ : Nat × UInt64) => 10 - k) ((0, (0 : UInt64)) : Nat × UInt64) ?_ ⟨rfl, rfl, rfl, trivial⟩ (fun _ h => h) ?_
  · show (0 ≤ 10) ∧ (0 ≤ s.length) ∧ ((0 : UInt64).toNat < 2 ^ (7 * 0)) ∧ (R01.at_ s 0 (0 : UInt64))
    refine ⟨?_, ?_, ?_, ?_⟩
    · first | rfl | omega | (simp_all; done) | (simp_all; omega)
    · first | rfl | omega | (simp_all; done) | (simp_all; omega)
    · decide
    · exact R01.at_zero s
  rintro ⟨k, n⟩ hI1
  obtain ⟨i1_0, i1_1, i1_2, i1_3⟩ : (k ≤ 10) ∧ (k ≤ s.length) ∧ (n.toNat < 2 ^ (7 * k)) ∧ (R01.at_ s k n) := hI1
  refine J_weaken (E' := [(0, vS s), (4, vU64 n), (5, vI ((k : Nat) : Int))]) (L' := []) ⟨rfl, rfl, rfl, trivial⟩ (fun _ h => h) ?_
  refine J_seq (J_seq (J_region ?_))
  refine jr_ (vI ((k : Nat) : Int)) ?_
  refine jr_ (vS s) ?_
  refine JO_read (vI ((s.length : Nat) : Int)) rfl trivial (fun _ _ => x_len_s rfl Try.underlying9) ?_
  refine JO_read (vB (decide (((k : Nat) : Int) < ((s.length : Nat) : Int)))) rfl trivial (fun _ _ => x_lss_i rfl rfl) ?_
  refine jr_ (vB (decide (((k : Nat) : Int) < ((s.length : Nat) : Int)))) ?_
  refine JO_cut (X := Bool) 3 (fun z => z = ((decide (((k : Nat) : Int) < ((s.length : Nat) : Int))) && (decide (((k : Nat) : Int) < 10)))) (fun z => [(0, vS s), (4, vU64 n), (5, vI ((k : Nat) : Int)), (14, vB z)]) (fun _ => []) ?_ ?_
  · rcases Bool.eq_false_or_eq_true (decide (((k : Nat) : Int) < ((s.length : Nat) : Int))) with g2 | g2
    · have g2r := g2
      have g2r := of_decide_eq_true g2r
      refine JO_read (vI ((k : Nat) : Int)) rfl ⟨_, rfl, g2⟩ (fun _ _ => rfl) ?_
      refine JO_read (vB (decide (((k : Nat) : Int) < 10))) rfl ⟨_, rfl, g2⟩ (fun _ _ => x_lss_i rfl rfl) ?_
      refine JO_read (vB (decide (((k : Nat) : Int) < 10))) rfl trivial (fun _ _ => x_pick_t rfl g2 rfl) ?_
      refine JO_nil (JX_cut (decide (((k : Nat) : Int) < 10)) (by rw [g2]; simp) ⟨rfl, rfl, rfl, rfl, trivial⟩ (fun _ h => h))
    · have g2r := g2
      have g2r := of_decide_eq_false g2r
      refine JO_shun rfl ⟨_, rfl, g2⟩ ?_
      refine JO_shun rfl ⟨_, rfl, g2⟩ ?_
      refine JO_read (vB false) rfl trivial (fun _ _ => x_pick_f rfl g2 rfl) ?_
      refine JO_nil (JX_cut (false) (by rw [g2]; simp) ⟨rfl, rfl, rfl, rfl, trivial⟩ (fun _ h => h))
  rintro z1 rfl
  refine JO_nil (JX_then ?_)
  refine J_cond ((decide (((k : Nat) : Int) < ((s.length : Nat) : Int))) && (decide (((k : Nat) : Int) < 10))) rfl rfl (fun h3 => ?_) (fun h3 => ?_)
  · have h3w := h3
    have ⟨h3, h4⟩ := band_true h3
    have h3 := of_decide_eq_true h3
    have h4 := of_decide_eq_true h4
    refine J_skip (JX_then (J_seq (J_block (J_seq (J_region ?_)))))
    refine jr_ (vS s) ?_
    refine jr_ (vI ((k : Nat) : Int)) ?_
    refine JO_read (vU8 (s.getD k 0)) rfl trivial (fun _ _ => x_idx_s (k := k) rfl rfl Try.underlying9 (by omega)) ?_
    refine jr_ (vU8 (s.getD k 0)) ?_
    refine JO_nil (JX_then (J_seq (J_seq (J_region ?_))))
    refine jr_ (vI ((k : Nat) : Int)) ?_
    refine JO_read (vB (decide (((k : Nat) : Int) = 9))) rfl trivial (fun _ _ => x_eql_i rfl rfl) ?_
    refine jr_ (vB (decide (((k : Nat) : Int) = 9))) ?_
    refine JO_cut (X := Bool) 3 (fun z => z = ((decide (((k : Nat) : Int) = 9)) && (decide ((1 : UInt8) < s.getD k 0)))) (fun z => [(0, vS s), (4, vU64 n), (5, vI ((k : Nat) : Int)), (6, vU8 (s.getD k 0)), (25, vB z)]) (fun _ => []) ?_ ?_
    · rcases Bool.eq_false_or_eq_true (decide (((k : Nat) : Int) = 9)) with g6 | g6
      · have g6r := g6
        have g6r := of_decide_eq_true g6r
        refine JO_read (vU8 (s.getD k 0)) rfl ⟨_, rfl, g6⟩ (fun _ _ => rfl) ?_
        refine JO_read (vB (decide ((1 : UInt8) < s.getD k 0))) rfl ⟨_, rfl, g6⟩ (fun _ _ => x_gtr_u8 rfl rfl) ?_
        refine JO_read (vB (decide ((1 : UInt8) < s.getD k 0))) rfl trivial (fun _ _ => x_pick_t rfl g6 rfl) ?_
        refine JO_nil (JX_cut (decide ((1 : UInt8) < s.getD k 0)) (by rw [g6]; simp) ⟨rfl, rfl, rfl, rfl, rfl, trivial⟩ (fun _ h => h))
      · have g6r := g6
        have g6r := of_decide_eq_false g6r
        refine JO_shun rfl ⟨_, rfl, g6⟩ ?_
        refine JO_shun rfl ⟨_, rfl, g6⟩ ?_
        refine JO_read (vB false) rfl trivial (fun _ _ => x_pick_f rfl g6 rfl) ?_
        refine JO_nil (JX_cut (false) (by rw [g6]; simp) ⟨rfl, rfl, rfl, rfl, rfl, trivial⟩ (fun _ h => h))
    rintro z5 rfl
    refine JO_nil (JX_then ?_)
    refine J_cond ((decide (((k : Nat) : Int) = 9)) && (decide ((1 : UInt8) < s.getD k 0))) rfl rfl (fun h7 => ?_) (fun h7 => ?_)
    · have h7w := h7
      have ⟨h7, h8⟩ := band_true h7
      have h7 := of_decide_eq_true h7
      have h8 := of_decide_eq_true h8
      have h8u := h8
      try simp only [UInt8.lt_iff_toNat_lt, UInt8.le_iff_toNat_le, UInt8.reduceToNat, UInt32.lt_iff_toNat_lt, UInt32.le_iff_toNat_le, UInt32.reduceToNat, UInt64.lt_iff_toNat_lt, UInt64.le_iff_toNat_le, UInt64.reduceToNat] at h8u
      refine J_seq (J_region ?_)
      refine jr_ (vU64 0) ?_
      refine jr_ (vI 0) ?_
      refine JO_nil (JX_then (J_ret (JX_then_ret (JX_block_ret (JX_then_ret ?_)))))
      refine JX_round_ret (JX_block_ret (JX_then_ret ?_))
      first
        | have hd := R01.go_bad1 i1_3 (by omega) (by omega) (by assumption)
        | have hd := R01.go_bad2 i1_3 (by omega) (by omega) (by assumption) (by assumption) (by assumption)
        | have hd := R01.go_hit i1_3 i1_2 (by omega) (by omega) (by assumption) (by assumption) (by assumption)
        | have hd := R01.at_end i1_3 (by omega)
      refine JX_rets [vU64 0, vI 0] (Value.tuple #[vU64 0, vI 0]) Try.results93 (fun w h => ⟨rfl, rfl, trivial⟩) rfl [] (fun _ h => h) ⟨?_, ?_⟩
      · have e_x0 : (0 : UInt64) = ((R01.dec s).1) := by first | (rw [hd]; done) | (rw [hd]; rfl)
        have e_x1 : (0 : Nat) = ((R01.dec s).2) := by first | (rw [hd]; done) | (rw [hd]; rfl)
        have e_all := (congr (congrArg (fun (x0 : UInt64) (x1 : Nat) => Value.tuple #[vU64 x0, vI ((x1 : Nat) : Int)]) e_x0) e_x1)
        exact e_all
      · rfl
    · have h7w := h7
      simp only [Bool.and_eq_true, Bool.or_eq_true, Bool.and_eq_false_iff, Bool.or_eq_false_iff, Bool.not_eq_true', Bool.not_eq_false', decide_eq_true_eq, decide_eq_false_iff_not] at h7
      refine J_skip (JX_then (J_seq (J_region ?_)))
      refine jr_ (vU64 n) ?_
      refine jr_ (vU8 (s.getD k 0)) ?_
      refine JO_read (vU8 ((s.getD k 0) &&& 127)) rfl trivial (fun _ _ => x_and_u8 rfl rfl) ?_
      refine JO_read (vU64 (((s.getD k 0) &&& 127).toUInt64)) rfl trivial (fun _ _ => x_conv_u8_u64 rfl Try.underlying5 Try.underlying104) ?_
      refine jr_ (vI ((k : Nat) : Int)) ?_
      refine JO_read (vI ((7 * k : Nat) : Int)) rfl trivial (fun _ _ => x_mul_n (a := 7) (b := k) rfl rfl (by omega)) ?_
      refine JO_read (vU64 (UInt64.ofBitVec ((((s.getD k 0) &&& 127).toUInt64).toBitVec <<< ((7 * k) : Nat)))) rfl trivial (fun _ _ => x_shl_u64 (m := (7 * k)) rfl rfl (by omega)) ?_
      refine JO_read (vU64 (n ||| (UInt64.ofBitVec ((((s.getD k 0) &&& 127).toUInt64).toBitVec <<< ((7 * k) : Nat))))) rfl trivial (fun _ _ => x_or_u64 rfl rfl) ?_
      refine jr_ (vU64 (n ||| (UInt64.ofBitVec ((((s.getD k 0) &&& 127).toUInt64).toBitVec <<< ((7 * k) : Nat))))) ?_
      refine JO_nil (JX_then (J_seq (J_region ?_)))
      refine jr_ (vU8 (s.getD k 0)) ?_
      refine JO_read (vB (decide (s.getD k 0 < (128 : UInt8)))) rfl trivial (fun _ _ => x_lss_u8 rfl rfl) ?_
      refine JO_nil (JX_then ?_)
      refine J_cond (decide (s.getD k 0 < (128 : UInt8))) rfl rfl (fun h9 => ?_) (fun h9 => ?_)
      · have h9w := h9
        have h9 := of_decide_eq_true h9
        have h9u := h9
        try simp only [UInt8.lt_iff_toNat_lt, UInt8.le_iff_toNat_le, UInt8.reduceToNat, UInt32.lt_iff_toNat_lt, UInt32.le_iff_toNat_le, UInt32.reduceToNat, UInt64.lt_iff_toNat_lt, UInt64.le_iff_toNat_le, UInt64.reduceToNat] at h9u
        refine J_seq (J_seq (J_region ?_))
        refine jr_ (vU8 (s.getD k 0)) ?_
        refine JO_read (vB (decide (s.getD k 0 = (0 : UInt8)))) rfl trivial (fun _ _ => x_eql_u8 rfl rfl) ?_
        refine jr_ (vB (decide (s.getD k 0 = (0 : UInt8)))) ?_
        refine JO_cut (X := Bool) 3 (fun z => z = ((decide (s.getD k 0 = (0 : UInt8))) && (decide ((0 : Int) < ((k : Nat) : Int))))) (fun z => [(0, vS s), (4, vU64 (n ||| (UInt64.ofBitVec ((((s.getD k 0) &&& 127).toUInt64).toBitVec <<< ((7 * k) : Nat))))), (5, vI ((k : Nat) : Int)), (41, vB z)]) (fun _ => []) ?_ ?_
        · rcases Bool.eq_false_or_eq_true (decide (s.getD k 0 = (0 : UInt8))) with g11 | g11
          · have g11r := g11
            have g11r := of_decide_eq_true g11r
            refine JO_read (vI ((k : Nat) : Int)) rfl ⟨_, rfl, g11⟩ (fun _ _ => rfl) ?_
            refine JO_read (vB (decide ((0 : Int) < ((k : Nat) : Int)))) rfl ⟨_, rfl, g11⟩ (fun _ _ => x_gtr_i rfl rfl) ?_
            refine JO_read (vB (decide ((0 : Int) < ((k : Nat) : Int)))) rfl trivial (fun _ _ => x_pick_t rfl g11 rfl) ?_
            refine JO_nil (JX_cut (decide ((0 : Int) < ((k : Nat) : Int))) (by rw [g11]; simp) ⟨rfl, rfl, rfl, rfl, trivial⟩ (fun _ h => h))
          · have g11r := g11
            have g11r := of_decide_eq_false g11r
            refine JO_shun rfl ⟨_, rfl, g11⟩ ?_
            refine JO_shun rfl ⟨_, rfl, g11⟩ ?_
            refine JO_read (vB false) rfl trivial (fun _ _ => x_pick_f rfl g11 rfl) ?_
            refine JO_nil (JX_cut (false) (by rw [g11]; simp) ⟨rfl, rfl, rfl, rfl, trivial⟩ (fun _ h => h))
        rintro z10 rfl
        refine JO_nil (JX_then ?_)
        refine J_cond ((decide (s.getD k 0 = (0 : UInt8))) && (decide ((0 : Int) < ((k : Nat) : Int)))) rfl rfl (fun h12 => ?_) (fun h12 => ?_)
        · have h12w := h12
          have ⟨h12, h13⟩ := band_true h12
          have h12 := of_decide_eq_true h12
          have h13 := of_decide_eq_true h13
          refine J_seq (J_region ?_)
          refine jr_ (vU64 0) ?_
          refine jr_ (vI 0) ?_
          refine JO_nil (JX_then (J_ret (JX_then_ret (JX_block_ret (JX_then_ret ?_)))))
          refine JX_round_ret (JX_block_ret (JX_then_ret ?_))
          first
            | have hd := R01.go_bad1 i1_3 (by omega) (by omega) (by assumption)
            | have hd := R01.go_bad2 i1_3 (by omega) (by omega) (by assumption) (by assumption) (by assumption)
            | have hd := R01.go_hit i1_3 i1_2 (by omega) (by omega) (by assumption) (by assumption) (by assumption)
            | have hd := R01.at_end i1_3 (by omega)
          refine JX_rets [vU64 0, vI 0] (Value.tuple #[vU64 0, vI 0]) Try.results93 (fun w h => ⟨rfl, rfl, trivial⟩) rfl [] (fun _ h => h) ⟨?_, ?_⟩
          · have e_x0 : (0 : UInt64) = ((R01.dec s).1) := by first | (rw [hd]; done) | (rw [hd]; rfl)
            have e_x1 : (0 : Nat) = ((R01.dec s).2) := by first | (rw [hd]; done) | (rw [hd]; rfl)
            have e_all := (congr (congrArg (fun (x0 : UInt64) (x1 : Nat) => Value.tuple #[vU64 x0, vI ((x1 : Nat) : Int)]) e_x0) e_x1)
            exact e_all
          · rfl
        · have h12w := h12
          simp only [Bool.and_eq_true, Bool.or_eq_true, Bool.and_eq_false_iff, Bool.or_eq_false_iff, Bool.not_eq_true', Bool.not_eq_false', decide_eq_true_eq, decide_eq_false_iff_not] at h12
          refine J_skip (JX_then (J_seq (J_region ?_)))
          refine jr_ (vU64 (n ||| (UInt64.ofBitVec ((((s.getD k 0) &&& 127).toUInt64).toBitVec <<< ((7 * k) : Nat))))) ?_
          refine jr_ (vI ((k : Nat) : Int)) ?_
          refine JO_read (vI ((k + 1 : Nat) : Int)) rfl trivial (fun _ _ => x_add_n (a := k) (b := 1) rfl rfl (by omega)) ?_
          refine jr_ (vU64 (n ||| (UInt64.ofBitVec ((((s.getD k 0) &&& 127).toUInt64).toBitVec <<< ((7 * k) : Nat))))) ?_
          refine jr_ (vI ((k + 1 : Nat) : Int)) ?_
          refine JO_nil (JX_then (J_ret (JX_block_ret (JX_then_ret (JX_round_ret ?_)))))
          refine JX_block_ret (JX_then_ret ?_)
          first
            | have hd := R01.go_bad1 i1_3 (by omega) (by omega) (by assumption)
            | have hd := R01.go_bad2 i1_3 (by omega) (by omega) (by assumption) (by assumption) (by assumption)
            | have hd := R01.go_hit i1_3 i1_2 (by omega) (by omega) (by assumption) (by assumption) (by assumption)
            | have hd := R01.at_end i1_3 (by omega)
          refine JX_rets [vU64 (n ||| (UInt64.ofBitVec ((((s.getD k 0) &&& 127).toUInt64).toBitVec <<< ((7 * k) : Nat)))), vI ((k + 1 : Nat) : Int)] (Value.tuple #[vU64 (n ||| (UInt64.ofBitVec ((((s.getD k 0) &&& 127).toUInt64).toBitVec <<< ((7 * k) : Nat)))), vI ((k + 1 : Nat) : Int)]) Try.results93 (fun w h => ⟨rfl, rfl, trivial⟩) rfl [] (fun _ h => h) ⟨?_, ?_⟩
          · have e_x0 : (n ||| (UInt64.ofBitVec ((((s.getD k 0) &&& 127).toUInt64).toBitVec <<< ((7 * k) : Nat))) : UInt64) = ((R01.dec s).1) := by first | (rw [hd]; done) | (rw [hd]; rfl)
            have e_x1 : (k + 1 : Nat) = ((R01.dec s).2) := by first | (rw [hd]; done) | (rw [hd]; rfl)
            have e_all := (congr (congrArg (fun (x0 : UInt64) (x1 : Nat) => Value.tuple #[vU64 x0, vI ((x1 : Nat) : Int)]) e_x0) e_x1)
            exact e_all
          · rfl
      · have h9w := h9
        have h9 := of_decide_eq_false h9
        have h9u := h9
        try simp only [UInt8.lt_iff_toNat_lt, UInt8.le_iff_toNat_le, UInt8.reduceToNat, UInt32.lt_iff_toNat_lt, UInt32.le_iff_toNat_le, UInt32.reduceToNat, UInt64.lt_iff_toNat_lt, UInt64.le_iff_toNat_le, UInt64.reduceToNat] at h9u
        refine J_skip (JX_block (JX_then (J_region ?_)))
        refine jr_ (vI ((k : Nat) : Int)) ?_
        refine JO_read (vI ((k + 1 : Nat) : Int)) rfl trivial (fun _ _ => x_add_n (a := k) (b := 1) rfl rfl (by omega)) ?_
        refine jr_ (vI ((k + 1 : Nat) : Int)) ?_
        refine JO_nil ?_
        refine JX_round ((k + 1, n ||| (UInt64.ofBitVec ((((s.getD k 0) &&& 127).toUInt64).toBitVec <<< ((7 * k) : Nat)))) : Nat × UInt64) ?_ ?_ ⟨rfl, rfl, rfl, trivial⟩ (fun _ h => h)
        · show ((k + 1) ≤ 10) ∧ ((k + 1) ≤ s.length) ∧ ((n ||| (UInt64.ofBitVec ((((s.getD k 0) &&& 127).toUInt64).toBitVec <<< ((7 * k) : Nat)))).toNat < 2 ^ (7 * (k + 1))) ∧ (R01.at_ s (k + 1) (n ||| (UInt64.ofBitVec ((((s.getD k 0) &&& 127).toUInt64).toBitVec <<< ((7 * k) : Nat)))))
          refine ⟨?_, ?_, ?_, ?_⟩
          · first | rfl | omega | (simp_all; done) | (simp_all; omega)
          · first | rfl | omega | (simp_all; done) | (simp_all; omega)
          · exact (R01.go_step i1_3 i1_2 (by omega) (by omega) (by assumption) (by assumption)).2
          · exact (R01.go_step i1_3 i1_2 (by omega) (by omega) (by assumption) (by assumption)).1
        · show 10 - (k + 1) < 10 - k
          first | omega | (simp; omega) | (simp_all; omega)
  · have h3w := h3
    simp only [Bool.and_eq_true, Bool.or_eq_true, Bool.and_eq_false_iff, Bool.or_eq_false_iff, Bool.not_eq_true', Bool.not_eq_false', decide_eq_true_eq, decide_eq_false_iff_not] at h3
    refine J_exit (JX_then_exit (JX_round_exit (JX_block_hit (JX_then (J_seq ?_)))))
    refine J_region ?_
    refine jr_ (vU64 0) ?_
    refine jr_ (vI 0) ?_
    refine JO_nil (JX_then (J_ret ?_))
    first
      | have hd := R01.go_bad1 i1_3 (by omega) (by omega) (by assumption)
      | have hd := R01.go_bad2 i1_3 (by omega) (by omega) (by assumption) (by assumption) (by assumption)
      | have hd := R01.go_hit i1_3 i1_2 (by omega) (by omega) (by assumption) (by assumption) (by assumption)
      | have hd := R01.at_end i1_3 (by omega)
    refine JX_rets [vU64 0, vI 0] (Value.tuple #[vU64 0, vI 0]) Try.results93 (fun w h => ⟨rfl, rfl, trivial⟩) rfl [] (fun _ h => h) ⟨?_, ?_⟩
    · have e_x0 : (0 : UInt64) = ((R01.dec s).1) := by first | (rw [hd]; done) | (rw [hd]; rfl)
      have e_x1 : (0 : Nat) = ((R01.dec s).2) := by first | (rw [hd]; done) | (rw [hd]; rfl)
      have e_all := (congr (congrArg (fun (x0 : UInt64) (x1 : Nat) => Value.tuple #[vU64 x0, vI ((x1 : Nat) : Int)]) e_x0) e_x1)
      exact e_all
    · rfl
set_option maxRecDepth 20000 in
theorem f92_ok (s : Bytes) (n : Nat) (x : UInt64) (w : World) (hg : Give [n] w [Ent.blk n 104 [vU64 x]]) : Calls Try.prog 92 #[vS s, Value.pointer (some ⟨n, 0, none⟩)] w (Gives [n] w fun v L => v = vI (((R01.dec s).2 : Nat) : Int) ∧ L = [Ent.blk n 104 [vU64 ((R01.dec s).1)]]) := by
  refine calls_J [n] 13 Try.func92 rfl Try.ntmps92 [(0, vS s), (1, Value.pointer (some ⟨n, 0, none⟩))] rfl rfl hg ?_
  refine J_seq (J_region ?_)
  refine jr_ (vI 0) ?_
  refine JO_nil (JX_then (J_seq (J_region ?_)))
  refine jr_ (vS s) ?_
  refine JO_call [] [] [Ent.blk n 104 [vU64 x]] rfl trivial (fun _ => x_call Ty.ca93 rfl) (fun _ h => h) (fun _ h => by cases h) (fun w hS => f93_ok s w) ?_
  rintro _ _ ⟨rfl, rfl⟩
  have ha1 := R01.dec_le s
  refine jr_ (Value.tuple #[vU64 ((R01.dec s).1), vI (((R01.dec s).2 : Nat) : Int)]) ?_
  refine jr_ (vU64 ((R01.dec s).1)) ?_
  refine jr_ (vI (((R01.dec s).2 : Nat) : Int)) ?_
  refine jr_ (vU64 ((R01.dec s).1)) ?_
  refine jr_ (vI (((R01.dec s).2 : Nat) : Int)) ?_
  refine JO_nil (JX_then (J_seq (J_region ?_)))
  refine jr_ (vU64 ((R01.dec s).1)) ?_
  refine JO_op rfl trivial (O_store 0 [vU64 ((R01.dec s).1)] [Ent.blk n 104 [vU64 ((R01.dec s).1)]] rfl rfl rfl Ty.sz104 rfl (Nat.le_of_ble_eq_true rfl) rfl rfl rfl ?_)
  refine JO_nil (JX_then (J_seq (J_region ?_)))
  refine jr_ (vI (((R01.dec s).2 : Nat) : Int)) ?_
  refine jr_ (vI (((R01.dec s).2 : Nat) : Int)) ?_
  refine JO_nil (JX_then (J_ret ?_))
  refine JX_rets [vI (((R01.dec s).2 : Nat) : Int)] (vI (((R01.dec s).2 : Nat) : Int)) Try.results92 (fun w h => ⟨rfl, trivial⟩) rfl [Ent.blk n 104 [vU64 ((R01.dec s).1)]] (fun _ h => h) ⟨?_, ?_⟩
  · rfl
  · rfl
set_option maxRecDepth 20000 in
theorem f82_ok (s : Bytes) (n : Nat) (x : Bool) (w : World) (hg : Give [n] w [Ent.blk n 4 [vB x]]) : Calls Try.prog 82 #[vS s, Value.pointer (some ⟨n, 0, none⟩)] w (Gives [n] w fun v L => v = vI ((Rd.bt s : Nat) : Int) ∧ L = [Ent.blk n 4 [vB (Rd.bv s x)]]) := by
  refine calls_J [n] 14 Try.func82 rfl Try.ntmps82 [(0, vS s), (1, Value.pointer (some ⟨n, 0, none⟩))] rfl rfl hg ?_
  refine J_seq (J_region ?_)
  refine jr_ (vI 0) ?_
  refine JO_nil (JX_then (J_seq (J_seq (J_region ?_))))
  refine jr_ (vS s) ?_
  refine JO_read (vB (decide (s = ([] : Bytes)))) rfl trivial (fun _ _ => x_eql_s rfl rfl) ?_
  refine jr_ (vB (decide (s = ([] : Bytes)))) ?_
  refine JO_cut (X := Bool) 4 (fun z => z = ((decide (s = ([] : Bytes))) || (decide ((1 : UInt8) < s.getD 0 0)))) (fun z => [(0, vS s), (1, Value.pointer (some ⟨n, 0, none⟩)), (3, vI 0), (10, vB z)]) (fun _ => [Ent.blk n 4 [vB x]]) ?_ ?_
  · rcases Bool.eq_false_or_eq_true (decide (s = ([] : Bytes))) with g2 | g2
    · have g2r := g2
      have g2r := of_decide_eq_true g2r
      refine JO_shun rfl ⟨_, rfl, g2⟩ ?_
      refine JO_shun rfl ⟨_, rfl, g2⟩ ?_
      refine JO_shun rfl ⟨_, rfl, g2⟩ ?_
      refine JO_read (vB true) rfl trivial (fun _ _ => x_pick_t rfl g2 rfl) ?_
      refine JO_nil (JX_cut (true) (by rw [g2]; simp) ⟨rfl, rfl, rfl, rfl, trivial⟩ (fun _ h => h))
    · have g2r := g2
      have g2r := of_decide_eq_false g2r
      have g2rl := List.length_pos_iff.2 g2r
      refine JO_read (vS s) rfl ⟨_, rfl, g2⟩ (fun _ _ => rfl) ?_
      refine JO_read (vU8 (s.getD 0 0)) rfl ⟨_, rfl, g2⟩ (fun _ _ => x_idx_s (k := 0) rfl rfl Try.underlying9 (by omega)) ?_
      refine JO_read (vB (decide ((1 : UInt8) < s.getD 0 0))) rfl ⟨_, rfl, g2⟩ (fun _ _ => x_gtr_u8 rfl rfl) ?_
      refine JO_read (vB (decide ((1 : UInt8) < s.getD 0 0))) rfl trivial (fun _ _ => x_pick_f rfl g2 rfl) ?_
      refine JO_nil (JX_cut (decide ((1 : UInt8) < s.getD 0 0)) (by rw [g2]; simp) ⟨rfl, rfl, rfl, rfl, trivial⟩ (fun _ h => h))
  rintro z1 rfl
  refine JO_nil (JX_then ?_)
  refine J_cond ((decide (s = ([] : Bytes))) || (decide ((1 : UInt8) < s.getD 0 0))) rfl rfl (fun h3 => ?_) (fun h3 => ?_)
  · have h3w := h3
    simp only [Bool.and_eq_true, Bool.or_eq_true, Bool.and_eq_false_iff, Bool.or_eq_false_iff, Bool.not_eq_true', Bool.not_eq_false', decide_eq_true_eq, decide_eq_false_iff_not] at h3
    refine J_seq (J_region ?_)
    refine jr_ (vI 0) ?_
    refine JO_nil (JX_then (J_ret (JX_then_ret ?_)))
    first
      | (have hd := Rd.bt_no (s := s) (by assumption); have he := Rd.bv_no (s := s) (x := x) (by assumption))
      | (have hd := Rd.bt_yes (s := s) (by assumption); have he := Rd.bv_yes (s := s) (x := x) (by assumption))
    refine JX_rets [vI 0] (vI 0) Try.results82 (fun w h => ⟨rfl, trivial⟩) rfl [Ent.blk n 4 [vB x]] (fun _ h => h) ⟨?_, ?_⟩
    · have e_x0 : (0 : Nat) = (Rd.bt s) := by first | exact hd.symm | exact he.symm | exact congrArg (fun n : Nat => (n : Int)) hd.symm | (rw [hd]; rfl)
      exact congrArg (fun (x0 : Nat) => vI ((x0 : Nat) : Int)) e_x0
    · have e_y0 : (x : Bool) = Rd.bv s x := by
        first | exact hd.symm | exact he.symm | exact congrArg (fun n : Nat => (n : Int)) hd.symm | (rw [hd]; rfl)
      have e_all := (congrArg (fun (y0 : Bool) => [Ent.blk n 4 [vB y0]]) e_y0)
      exact e_all
  · have h3w := h3
    have ⟨h3, h4⟩ := bor_false h3
    have h3 := of_decide_eq_false h3
    have h3l := List.length_pos_iff.2 h3
    have h4 := of_decide_eq_false h4
    have h4u := h4
    try simp only [UInt8.lt_iff_toNat_lt, UInt8.le_iff_toNat_le, UInt8.reduceToNat, UInt32.lt_iff_toNat_lt, UInt32.le_iff_toNat_le, UInt32.reduceToNat, UInt64.lt_iff_toNat_lt, UInt64.le_iff_toNat_le, UInt64.reduceToNat] at h4u
    refine J_skip (JX_then (J_seq (J_region ?_)))
    refine jr_ (vS s) ?_
    refine JO_read (vU8 (s.getD 0 0)) rfl trivial (fun _ _ => x_idx_s (k := 0) rfl rfl Try.underlying9 (by omega)) ?_
    refine JO_read (vB (decide (s.getD 0 0 = (1 : UInt8)))) rfl trivial (fun _ _ => x_eql_u8 rfl rfl) ?_
    refine JO_op rfl trivial (O_store 0 [vB (decide (s.getD 0 0 = (1 : UInt8)))] [Ent.blk n 4 [vB (decide (s.getD 0 0 = (1 : UInt8)))]] rfl rfl rfl Ty.sz4 rfl (Nat.le_of_ble_eq_true rfl) rfl rfl rfl ?_)
    refine JO_nil (JX_then (J_seq (J_region ?_)))
    refine jr_ (vI 1) ?_
    refine JO_nil (JX_then (J_ret ?_))
    first
      | (have hd := Rd.bt_no (s := s) (by assumption); have he := Rd.bv_no (s := s) (x := x) (by assumption))
      | (have hd := Rd.bt_yes (s := s) (by assumption); have he := Rd.bv_yes (s := s) (x := x) (by assumption))
    refine JX_rets [vI 1] (vI 1) Try.results82 (fun w h => ⟨rfl, trivial⟩) rfl [Ent.blk n 4 [vB (decide (s.getD 0 0 = (1 : UInt8)))]] (fun _ h => h) ⟨?_, ?_⟩
    · have e_x0 : (1 : Nat) = (Rd.bt s) := by first | exact hd.symm | exact he.symm | exact congrArg (fun n : Nat => (n : Int)) hd.symm | (rw [hd]; rfl)
      exact congrArg (fun (x0 : Nat) => vI ((x0 : Nat) : Int)) e_x0
    · have e_y0 : (decide (s.getD 0 0 = (1 : UInt8)) : Bool) = Rd.bv s x := by
        first | exact hd.symm | exact he.symm | exact congrArg (fun n : Nat => (n : Int)) hd.symm | (rw [hd]; rfl)
      have e_all := (congrArg (fun (y0 : Bool) => [Ent.blk n 4 [vB y0]]) e_y0)
      exact e_all
set_option maxRecDepth 20000 in
theorem f70_ok (r : Nat) (e : Int) (rd : Reader) (w : World) (hg : Give [r] w [Ent.blk r 113 [vS rd.left, vI rd.err]]) : Calls Try.prog 70 #[Value.pointer (some ⟨r, 0, none⟩), vI e] w (Gives [r] w fun v L => v = Value.tuple #[] ∧ L = [Ent.blk r 113 [vS ((Rd.fail rd e).left), vI ((Rd.fail rd e).err)]]) := by
  refine calls_J [r] 16 Try.func70 rfl Try.ntmps70 [(0, Value.pointer (some ⟨r, 0, none⟩)), (1, vI e)] rfl rfl hg ?_
  refine J_seq (J_region ?_)
  refine jr_ (Value.pointer (some ⟨r, 0, none⟩)) ?_
  refine JO_read (Value.pointer (some ⟨r, 0, none⟩)) rfl trivial (fun _ _ => x_nilCheck rfl) ?_
  refine JO_read (Value.pointer (some ⟨r, 1, none⟩)) rfl trivial (fun _ _ => x_fieldAddr Ty.fi113_1 rfl rfl) ?_
  refine JO_read (vI rd.err) rfl trivial (x_load 0 rfl rfl Ty.sc23 rfl) ?_
  refine JO_read (vB (decide (rd.err = 0))) rfl trivial (fun _ _ => x_eql_i rfl rfl) ?_
  refine JO_nil (JX_then ?_)
  refine J_cond (decide (rd.err = 0)) rfl rfl (fun h1 => ?_) (fun h1 => ?_)
  · have h1 := of_decide_eq_true h1
    refine J_region ?_
    refine jr_ (Value.pointer (some ⟨r, 0, none⟩)) ?_
    refine jr_ (Value.pointer (some ⟨r, 0, none⟩)) ?_
    refine jr_ (vI e) ?_
    refine JO_read (Value.pointer (some ⟨r, 0, none⟩)) rfl trivial (fun _ _ => x_nilCheck rfl) ?_
    refine JO_read (Value.pointer (some ⟨r, 1, none⟩)) rfl trivial (fun _ _ => x_fieldAddr Ty.fi113_1 rfl rfl) ?_
    refine JO_op rfl trivial (O_store 0 [vS rd.left, vI e] [Ent.blk r 113 [vS rd.left, vI e]] rfl rfl rfl Ty.sz23 rfl (Nat.le_of_ble_eq_true rfl) rfl rfl rfl ?_)
    refine JO_read (Value.pointer (some ⟨r, 0, none⟩)) rfl trivial (fun _ _ => x_nilCheck rfl) ?_
    refine JO_read (Value.pointer (some ⟨r, 0, none⟩)) rfl trivial (fun _ _ => x_fieldAddr Ty.fi113_0 rfl rfl) ?_
    refine JO_op rfl trivial (O_store 0 [vS [], vI e] [Ent.blk r 113 [vS [], vI e]] rfl rfl rfl Ty.sz9 rfl (Nat.le_of_ble_eq_true rfl) rfl rfl rfl ?_)
    refine JO_nil ?_
    refine JX_end0 Try.results70 [Ent.blk r 113 [vS [], vI e]] (fun _ h => h) ⟨?_, ?_⟩
    · rfl
    · have e_y0 : ([] : Bytes) = (Rd.fail rd e).left := by
        first | (rw [Rd.fail_yes (by assumption)]; done) | (rw [Rd.fail_no (by assumption)]; done)
      have e_y1 : (e : Int) = (Rd.fail rd e).err := by
        first | (rw [Rd.fail_yes (by assumption)]; done) | (rw [Rd.fail_no (by assumption)]; done)
      have e_all := (congr (congrArg (fun (y0 : Bytes) (y1 : Int) => [Ent.blk r 113 [vS y0, vI y1]]) e_y0) e_y1)
      exact e_all
  · have h1 := of_decide_eq_false h1
    refine J_skip ?_
    refine JX_end0 Try.results70 [Ent.blk r 113 [vS rd.left, vI rd.err]] (fun _ h => h) ⟨?_, ?_⟩
    · rfl
    · have e_y0 : (rd.left : Bytes) = (Rd.fail rd e).left := by
        first | (rw [Rd.fail_yes (by assumption)]; done) | (rw [Rd.fail_no (by assumption)]; done)
      have e_y1 : (rd.err : Int) = (Rd.fail rd e).err := by
        first | (rw [Rd.fail_yes (by assumption)]; done) | (rw [Rd.fail_no (by assumption)]; done)
      have e_all := (congr (congrArg (fun (y0 : Bytes) (y1 : Int) => [Ent.blk r 113 [vS y0, vI y1]]) e_y0) e_y1)
      exact e_all
set_option maxRecDepth 20000 in
theorem f81_ok (r : Nat) (n : Nat) (rd : Reader) (x : UInt64) (w : World) (hg : Give [r, n] w [Ent.blk r 113 [vS rd.left, vI rd.err], Ent.blk n 104 [vU64 x]]) : Calls Try.prog 81 #[Value.pointer (some ⟨r, 0, none⟩), Value.func (.func 92) #[] #[Value.pointer (some ⟨n, 0, none⟩)]] w (Gives [r, n] w fun v L => v = Value.tuple #[] ∧ L = [Ent.blk r 113 [vS (((Rd.number rd).2).left), vI (((Rd.number rd).2).err)], Ent.blk n 104 [vU64 (Rd.took rd x)]]) := by
  refine calls_J [r, n] 29 Try.func81 rfl Try.ntmps81 [(0, Value.pointer (some ⟨r, 0, none⟩)), (1, Value.func (.func 92) #[] #[Value.pointer (some ⟨n, 0, none⟩)])] rfl rfl hg ?_
  refine J_seq (J_seq (J_region ?_))
  refine jr_ (Value.pointer (some ⟨r, 0, none⟩)) ?_
  refine JO_read (Value.pointer (some ⟨r, 0, none⟩)) rfl trivial (fun _ _ => x_nilCheck rfl) ?_
  refine JO_read (Value.pointer (some ⟨r, 1, none⟩)) rfl trivial (fun _ _ => x_fieldAddr Ty.fi113_1 rfl rfl) ?_
  refine JO_read (vI rd.err) rfl trivial (x_load 0 rfl rfl Ty.sc23 rfl) ?_
  refine JO_read (vB (decide (rd.err ≠ 0))) rfl trivial (fun _ _ => x_neq_i rfl rfl) ?_
  refine JO_nil (JX_then ?_)
  refine J_cond (decide (rd.err ≠ 0)) rfl rfl (fun h1 => ?_) (fun h1 => ?_)
  · have h1 := of_decide_eq_true h1
    refine J_ret (JX_then_ret ?_)
    first
      | (have hd := Rd.number_no (r := rd) (by assumption); have ht := Rd.took_no (r := rd) (x := x) (by assumption))
      | (have hd := Rd.number_bad (r := rd) (by assumption) (by omega); have ht := Rd.took_yes (r := rd) (x := x) (by assumption))
      | (have hd := Rd.number_ok (r := rd) (by assumption) (by omega); have ht := Rd.took_yes (r := rd) (x := x) (by assumption))
    refine JX_ret0 Try.results81 [Ent.blk r 113 [vS rd.left, vI rd.err], Ent.blk n 104 [vU64 x]] (fun _ h => h) ⟨?_, ?_⟩
    · rfl
    · have e_y0 : (rd.left : Bytes) = ((Rd.number rd).2).left := by
        first | (rw [hd]; done) | (rw [hd, Rd.fail_yes (by omega)]) | (rw [ht]; done) | (rw [hd]; rfl) | (rw [hd]; exact sub_from _ _) | (rw [hd]; show _ = (0 : Int); omega)
      have e_y1 : (rd.err : Int) = ((Rd.number rd).2).err := by
        first | (rw [hd]; done) | (rw [hd, Rd.fail_yes (by omega)]) | (rw [ht]; done) | (rw [hd]; rfl) | (rw [hd]; exact sub_from _ _) | (rw [hd]; show _ = (0 : Int); omega)
      have e_y2 : (x : UInt64) = Rd.took rd x := by
        first | (rw [hd]; done) | (rw [hd, Rd.fail_yes (by omega)]) | (rw [ht]; done) | (rw [hd]; rfl) | (rw [hd]; exact sub_from _ _) | (rw [hd]; show _ = (0 : Int); omega)
      have e_all := (congr (congr (congrArg (fun (y0 : Bytes) (y1 : Int) (y2 : UInt64) => [Ent.blk r 113 [vS y0, vI y1], Ent.blk n 104 [vU64 y2]]) e_y0) e_y1) e_y2)
      exact e_all
  · have h1 := of_decide_eq_false h1
    refine J_skip (JX_then (J_seq (J_region ?_)))
    refine jr_ (Value.func (.func 92) #[] #[Value.pointer (some ⟨n, 0, none⟩)]) ?_
    refine jr_ (Value.pointer (some ⟨r, 0, none⟩)) ?_
    refine JO_read (Value.pointer (some ⟨r, 0, none⟩)) rfl trivial (fun _ _ => x_nilCheck rfl) ?_
    refine JO_read (Value.pointer (some ⟨r, 0, none⟩)) rfl trivial (fun _ _ => x_fieldAddr Ty.fi113_0 rfl rfl) ?_
    refine JO_read (vS rd.left) rfl trivial (x_load 0 rfl rfl Ty.sc9 rfl) ?_
    refine JO_call [n] [Ent.blk n 104 [vU64 x]] [Ent.blk r 113 [vS rd.left, vI rd.err]] rfl trivial (fun _ => x_callv (first := []) (caps := [Value.pointer (some ⟨n, 0, none⟩)]) rfl Ty.ca92 rfl) (fun _ h => (h.front 1 _ rfl).keep [true, true] rfl) (own_mem rfl) (fun w hS => f92_ok rd.left n x w  (hS.give (own_in rfl))) ?_
    rintro _ _ ⟨rfl, rfl⟩
    have ha2 := R01.dec_le rd.left
    refine jr_ (vI (((R01.dec rd.left).2 : Nat) : Int)) ?_
    refine JO_nil (JX_then (J_seq (J_seq (J_region ?_))))
    refine jr_ (vI (((R01.dec rd.left).2 : Nat) : Int)) ?_
    refine JO_read (vB (decide ((((R01.dec rd.left).2 : Nat) : Int) = 0))) rfl trivial (fun _ _ => x_eql_i rfl rfl) ?_
    refine JO_nil (JX_then ?_)
    refine J_cond (decide ((((R01.dec rd.left).2 : Nat) : Int) = 0)) rfl rfl (fun h3 => ?_) (fun h3 => ?_)
    · have h3 := of_decide_eq_true h3
      refine J_seq (J_region ?_)
      refine jr_ (Value.pointer (some ⟨r, 0, none⟩)) ?_
      refine JO_call [r] [Ent.blk r 113 [vS rd.left, vI rd.err]] [Ent.blk n 104 [vU64 ((R01.dec rd.left).1)]] rfl trivial (fun _ => x_call Ty.ca70 rfl) (fun _ h => (h.front 1 _ rfl).keep [true, true] rfl) (own_mem rfl) (fun w hS => f70_ok r 11 rd w  (hS.give (own_in rfl))) ?_
      rintro _ _ ⟨rfl, rfl⟩
      refine JO_nil (JX_then (J_ret (JX_then_ret ?_)))
      first
        | (have hd := Rd.number_no (r := rd) (by assumption); have ht := Rd.took_no (r := rd) (x := x) (by assumption))
        | (have hd := Rd.number_bad (r := rd) (by assumption) (by omega); have ht := Rd.took_yes (r := rd) (x := x) (by assumption))
        | (have hd := Rd.number_ok (r := rd) (by assumption) (by omega); have ht := Rd.took_yes (r := rd) (x := x) (by assumption))
      refine JX_ret0 Try.results81 [Ent.blk r 113 [vS ((Rd.fail rd 11).left), vI ((Rd.fail rd 11).err)], Ent.blk n 104 [vU64 ((R01.dec rd.left).1)]] (fun _ h => h) ⟨?_, ?_⟩
      · rfl
      · have e_y0 : ((Rd.fail rd 11).left : Bytes) = ((Rd.number rd).2).left := by
          first | (rw [hd]; done) | (rw [hd, Rd.fail_yes (by omega)]) | (rw [ht]; done) | (rw [hd]; rfl) | (rw [hd]; exact sub_from _ _) | (rw [hd]; show _ = (0 : Int); omega)
        have e_y1 : ((Rd.fail rd 11).err : Int) = ((Rd.number rd).2).err := by
          first | (rw [hd]; done) | (rw [hd, Rd.fail_yes (by omega)]) | (rw [ht]; done) | (rw [hd]; rfl) | (rw [hd]; exact sub_from _ _) | (rw [hd]; show _ = (0 : Int); omega)
        have e_y2 : ((R01.dec rd.left).1 : UInt64) = Rd.took rd x := by
          first | (rw [hd]; done) | (rw [hd, Rd.fail_yes (by omega)]) | (rw [ht]; done) | (rw [hd]; rfl) | (rw [hd]; exact sub_from _ _) | (rw [hd]; show _ = (0 : Int); omega)
        have e_all := (congr (congr (congrArg (fun (y0 : Bytes) (y1 : Int) (y2 : UInt64) => [Ent.blk r 113 [vS y0, vI y1], Ent.blk n 104 [vU64 y2]]) e_y0) e_y1) e_y2)
        exact e_all
    · have h3 := of_decide_eq_false h3
      refine J_skip (JX_then (J_region ?_))
      refine jr_ (Value.pointer (some ⟨r, 0, none⟩)) ?_
      refine jr_ (Value.pointer (some ⟨r, 0, none⟩)) ?_
      refine JO_read (Value.pointer (some ⟨r, 0, none⟩)) rfl trivial (fun _ _ => x_nilCheck rfl) ?_
      refine JO_read (Value.pointer (some ⟨r, 0, none⟩)) rfl trivial (fun _ _ => x_fieldAddr Ty.fi113_0 rfl rfl) ?_
      refine JO_read (vS rd.left) rfl trivial (x_load 1 rfl rfl Ty.sc9 rfl) ?_
      refine jr_ (vI (((R01.dec rd.left).2 : Nat) : Int)) ?_
      refine JO_read (vS (sub rd.left ((R01.dec rd.left).2) rd.left.length)) rfl trivial (fun _ _ => x_sub_s (lo := (R01.dec rd.left).2) (hi := rd.left.length) rfl Try.underlying9 (.inl rfl) (.inr ⟨rfl, rfl⟩) lt_ (by first | omega | (simp only [sub, List.length_drop, List.length_take]; omega) | (simp; omega) | (simp_all; omega))) ?_
      refine JO_read (Value.pointer (some ⟨r, 0, none⟩)) rfl trivial (fun _ _ => x_nilCheck rfl) ?_
      refine JO_read (Value.pointer (some ⟨r, 0, none⟩)) rfl trivial (fun _ _ => x_fieldAddr Ty.fi113_0 rfl rfl) ?_
      refine JO_op rfl trivial (O_store 1 [vS (sub rd.left ((R01.dec rd.left).2) rd.left.length), vI rd.err] [Ent.blk n 104 [vU64 ((R01.dec rd.left).1)], Ent.blk r 113 [vS (sub rd.left ((R01.dec rd.left).2) rd.left.length), vI rd.err]] rfl rfl rfl Ty.sz9 rfl (Nat.le_of_ble_eq_true rfl) rfl rfl rfl ?_)
      refine JO_nil ?_
      first
        | (have hd := Rd.number_no (r := rd) (by assumption); have ht := Rd.took_no (r := rd) (x := x) (by assumption))
        | (have hd := Rd.number_bad (r := rd) (by assumption) (by omega); have ht := Rd.took_yes (r := rd) (x := x) (by assumption))
        | (have hd := Rd.number_ok (r := rd) (by assumption) (by omega); have ht := Rd.took_yes (r := rd) (x := x) (by assumption))
      refine JX_end0 Try.results81 [Ent.blk r 113 [vS (sub rd.left ((R01.dec rd.left).2) rd.left.length), vI rd.err], Ent.blk n 104 [vU64 ((R01.dec rd.left).1)]] (fun _ h => (h.front 1 _ rfl).keep [true, true] rfl) ⟨?_, ?_⟩
      · rfl
      · have e_y0 : (sub rd.left ((R01.dec rd.left).2) rd.left.length : Bytes) = ((Rd.number rd).2).left := by
          first | (rw [hd]; done) | (rw [hd, Rd.fail_yes (by omega)]) | (rw [ht]; done) | (rw [hd]; rfl) | (rw [hd]; exact sub_from _ _) | (rw [hd]; show _ = (0 : Int); omega)
        have e_y1 : (rd.err : Int) = ((Rd.number rd).2).err := by
          first | (rw [hd]; done) | (rw [hd, Rd.fail_yes (by omega)]) | (rw [ht]; done) | (rw [hd]; rfl) | (rw [hd]; exact sub_from _ _) | (rw [hd]; show _ = (0 : Int); omega)
        have e_y2 : ((R01.dec rd.left).1 : UInt64) = Rd.took rd x := by
          first | (rw [hd]; done) | (rw [hd, Rd.fail_yes (by omega)]) | (rw [ht]; done) | (rw [hd]; rfl) | (rw [hd]; exact sub_from _ _) | (rw [hd]; show _ = (0 : Int); omega)
        have e_all := (congr (congr (congrArg (fun (y0 : Bytes) (y1 : Int) (y2 : UInt64) => [Ent.blk r 113 [vS y0, vI y1], Ent.blk n 104 [vU64 y2]]) e_y0) e_y1) e_y2)
        exact e_all
set_option maxRecDepth 20000 in
theorem take_b (r : Nat) (n : Nat) (rd : Reader) (x : Bool) (w : World) (hg : Give [r, n] w [Ent.blk r 113 [vS rd.left, vI rd.err], Ent.blk n 4 [vB x]]) : Calls Try.prog 81 #[Value.pointer (some ⟨r, 0, none⟩), Value.func (.func 82) #[] #[Value.pointer (some ⟨n, 0, none⟩)]] w (Gives [r, n] w fun v L => v = Value.tuple #[] ∧ L = [Ent.blk r 113 [vS (((Rd.rbool rd).2).left), vI (((Rd.rbool rd).2).err)], Ent.blk n 4 [vB (Rd.btook rd x)]]) := by
  refine calls_J [r, n] 29 Try.func81 rfl Try.ntmps81 [(0, Value.pointer (some ⟨r, 0, none⟩)), (1, Value.func (.func 82) #[] #[Value.pointer (some ⟨n, 0, none⟩)])] rfl rfl hg ?_
  refine J_seq (J_seq (J_region ?_))
  refine jr_ (Value.pointer (some ⟨r, 0, none⟩)) ?_
  refine JO_read (Value.pointer (some ⟨r, 0, none⟩)) rfl trivial (fun _ _ => x_nilCheck rfl) ?_
  refine JO_read (Value.pointer (some ⟨r, 1, none⟩)) rfl trivial (fun _ _ => x_fieldAddr Ty.fi113_1 rfl rfl) ?_
  refine JO_read (vI rd.err) rfl trivial (x_load 0 rfl rfl Ty.sc23 rfl) ?_
  refine JO_read (vB (decide (rd.err ≠ 0))) rfl trivial (fun _ _ => x_neq_i rfl rfl) ?_
  refine JO_nil (JX_then ?_)
  refine J_cond (decide (rd.err ≠ 0)) rfl rfl (fun h1 => ?_) (fun h1 => ?_)
  · have h1 := of_decide_eq_true h1
    refine J_ret (JX_then_ret ?_)
    first
      | (have hd := Rd.rbool_no (r := rd) (by assumption); have ht := Rd.btook_no (r := rd) (x := x) (by assumption))
      | (have hd := Rd.rbool_bt (r := rd) (by assumption) (by omega); have ht := Rd.btook_yes (r := rd) (x := x) (by assumption))
      | (have hd := Rd.rbool_bt1 (r := rd) (by assumption) (by omega); have ht := Rd.btook_yes (r := rd) (x := x) (by assumption))
    refine JX_ret0 Try.results81 [Ent.blk r 113 [vS rd.left, vI rd.err], Ent.blk n 4 [vB x]] (fun _ h => h) ⟨?_, ?_⟩
    · rfl
    · have e_y0 : (rd.left : Bytes) = ((Rd.rbool rd).2).left := by
        first | (rw [hd]; done) | (rw [hd, Rd.fail_yes (by omega)]) | (rw [ht]; done) | (rw [hd]; rfl) | (rw [hd]; exact sub_from _ _) | (rw [hd]; show _ = (0 : Int); omega)
      have e_y1 : (rd.err : Int) = ((Rd.rbool rd).2).err := by
        first | (rw [hd]; done) | (rw [hd, Rd.fail_yes (by omega)]) | (rw [ht]; done) | (rw [hd]; rfl) | (rw [hd]; exact sub_from _ _) | (rw [hd]; show _ = (0 : Int); omega)
      have e_y2 : (x : Bool) = Rd.btook rd x := by
        first | (rw [hd]; done) | (rw [hd, Rd.fail_yes (by omega)]) | (rw [ht]; done) | (rw [hd]; rfl) | (rw [hd]; exact sub_from _ _) | (rw [hd]; show _ = (0 : Int); omega)
      have e_all := (congr (congr (congrArg (fun (y0 : Bytes) (y1 : Int) (y2 : Bool) => [Ent.blk r 113 [vS y0, vI y1], Ent.blk n 4 [vB y2]]) e_y0) e_y1) e_y2)
      exact e_all
  · have h1 := of_decide_eq_false h1
    refine J_skip (JX_then (J_seq (J_region ?_)))
    refine jr_ (Value.func (.func 82) #[] #[Value.pointer (some ⟨n, 0, none⟩)]) ?_
    refine jr_ (Value.pointer (some ⟨r, 0, none⟩)) ?_
    refine JO_read (Value.pointer (some ⟨r, 0, none⟩)) rfl trivial (fun _ _ => x_nilCheck rfl) ?_
    refine JO_read (Value.pointer (some ⟨r, 0, none⟩)) rfl trivial (fun _ _ => x_fieldAddr Ty.fi113_0 rfl rfl) ?_
    refine JO_read (vS rd.left) rfl trivial (x_load 0 rfl rfl Ty.sc9 rfl) ?_
    refine JO_call [n] [Ent.blk n 4 [vB x]] [Ent.blk r 113 [vS rd.left, vI rd.err]] rfl trivial (fun _ => x_callv (first := []) (caps := [Value.pointer (some ⟨n, 0, none⟩)]) rfl Ty.ca82 rfl) (fun _ h => (h.front 1 _ rfl).keep [true, true] rfl) (own_mem rfl) (fun w hS => f82_ok rd.left n x w  (hS.give (own_in rfl))) ?_
    rintro _ _ ⟨rfl, rfl⟩
    have ha2 := Rd.bt_le rd.left
    refine jr_ (vI ((Rd.bt rd.left : Nat) : Int)) ?_
    refine JO_nil (JX_then (J_seq (J_seq (J_region ?_))))
    refine jr_ (vI ((Rd.bt rd.left : Nat) : Int)) ?_
    refine JO_read (vB (decide (((Rd.bt rd.left : Nat) : Int) = 0))) rfl trivial (fun _ _ => x_eql_i rfl rfl) ?_
    refine JO_nil (JX_then ?_)
    refine J_cond (decide (((Rd.bt rd.left : Nat) : Int) = 0)) rfl rfl (fun h3 => ?_) (fun h3 => ?_)
    · have h3 := of_decide_eq_true h3
      refine J_seq (J_region ?_)
      refine jr_ (Value.pointer (some ⟨r, 0, none⟩)) ?_
      refine JO_call [r] [Ent.blk r 113 [vS rd.left, vI rd.err]] [Ent.blk n 4 [vB (Rd.bv rd.left x)]] rfl trivial (fun _ => x_call Ty.ca70 rfl) (fun _ h => (h.front 1 _ rfl).keep [true, true] rfl) (own_mem rfl) (fun w hS => f70_ok r 11 rd w  (hS.give (own_in rfl))) ?_
      rintro _ _ ⟨rfl, rfl⟩
      refine JO_nil (JX_then (J_ret (JX_then_ret ?_)))
      first
        | (have hd := Rd.rbool_no (r := rd) (by assumption); have ht := Rd.btook_no (r := rd) (x := x) (by assumption))
        | (have hd := Rd.rbool_bt (r := rd) (by assumption) (by omega); have ht := Rd.btook_yes (r := rd) (x := x) (by assumption))
        | (have hd := Rd.rbool_bt1 (r := rd) (by assumption) (by omega); have ht := Rd.btook_yes (r := rd) (x := x) (by assumption))
      refine JX_ret0 Try.results81 [Ent.blk r 113 [vS ((Rd.fail rd 11).left), vI ((Rd.fail rd 11).err)], Ent.blk n 4 [vB (Rd.bv rd.left x)]] (fun _ h => h) ⟨?_, ?_⟩
      · rfl
      · have e_y0 : ((Rd.fail rd 11).left : Bytes) = ((Rd.rbool rd).2).left := by
          first | (rw [hd]; done) | (rw [hd, Rd.fail_yes (by omega)]) | (rw [ht]; done) | (rw [hd]; rfl) | (rw [hd]; exact sub_from _ _) | (rw [hd]; show _ = (0 : Int); omega)
        have e_y1 : ((Rd.fail rd 11).err : Int) = ((Rd.rbool rd).2).err := by
          first | (rw [hd]; done) | (rw [hd, Rd.fail_yes (by omega)]) | (rw [ht]; done) | (rw [hd]; rfl) | (rw [hd]; exact sub_from _ _) | (rw [hd]; show _ = (0 : Int); omega)
        have e_y2 : (Rd.bv rd.left x : Bool) = Rd.btook rd x := by
          first | (rw [hd]; done) | (rw [hd, Rd.fail_yes (by omega)]) | (rw [ht]; done) | (rw [hd]; rfl) | (rw [hd]; exact sub_from _ _) | (rw [hd]; show _ = (0 : Int); omega)
        have e_all := (congr (congr (congrArg (fun (y0 : Bytes) (y1 : Int) (y2 : Bool) => [Ent.blk r 113 [vS y0, vI y1], Ent.blk n 4 [vB y2]]) e_y0) e_y1) e_y2)
        exact e_all
    · have h3 := of_decide_eq_false h3
      refine J_skip (JX_then (J_region ?_))
      refine jr_ (Value.pointer (some ⟨r, 0, none⟩)) ?_
      refine jr_ (Value.pointer (some ⟨r, 0, none⟩)) ?_
      refine JO_read (Value.pointer (some ⟨r, 0, none⟩)) rfl trivial (fun _ _ => x_nilCheck rfl) ?_
      refine JO_read (Value.pointer (some ⟨r, 0, none⟩)) rfl trivial (fun _ _ => x_fieldAddr Ty.fi113_0 rfl rfl) ?_
      refine JO_read (vS rd.left) rfl trivial (x_load 1 rfl rfl Ty.sc9 rfl) ?_
      refine jr_ (vI ((Rd.bt rd.left : Nat) : Int)) ?_
      refine JO_read (vS (sub rd.left (Rd.bt rd.left) rd.left.length)) rfl trivial (fun _ _ => x_sub_s (lo := Rd.bt rd.left) (hi := rd.left.length) rfl Try.underlying9 (.inl rfl) (.inr ⟨rfl, rfl⟩) lt_ (by first | omega | (simp only [sub, List.length_drop, List.length_take]; omega) | (simp; omega) | (simp_all; omega))) ?_
      refine JO_read (Value.pointer (some ⟨r, 0, none⟩)) rfl trivial (fun _ _ => x_nilCheck rfl) ?_
      refine JO_read (Value.pointer (some ⟨r, 0, none⟩)) rfl trivial (fun _ _ => x_fieldAddr Ty.fi113_0 rfl rfl) ?_
      refine JO_op rfl trivial (O_store 1 [vS (sub rd.left (Rd.bt rd.left) rd.left.length), vI rd.err] [Ent.blk n 4 [vB (Rd.bv rd.left x)], Ent.blk r 113 [vS (sub rd.left (Rd.bt rd.left) rd.left.length), vI rd.err]] rfl rfl rfl Ty.sz9 rfl (Nat.le_of_ble_eq_true rfl) rfl rfl rfl ?_)
      refine JO_nil ?_
      first
        | (have hd := Rd.rbool_no (r := rd) (by assumption); have ht := Rd.btook_no (r := rd) (x := x) (by assumption))
        | (have hd := Rd.rbool_bt (r := rd) (by assumption) (by omega); have ht := Rd.btook_yes (r := rd) (x := x) (by assumption))
        | (have hd := Rd.rbool_bt1 (r := rd) (by assumption) (by omega); have ht := Rd.btook_yes (r := rd) (x := x) (by assumption))
      refine JX_end0 Try.results81 [Ent.blk r 113 [vS (sub rd.left (Rd.bt rd.left) rd.left.length), vI rd.err], Ent.blk n 4 [vB (Rd.bv rd.left x)]] (fun _ h => (h.front 1 _ rfl).keep [true, true] rfl) ⟨?_, ?_⟩
      · rfl
      · have e_y0 : (sub rd.left (Rd.bt rd.left) rd.left.length : Bytes) = ((Rd.rbool rd).2).left := by
          first | (rw [hd]; done) | (rw [hd, Rd.fail_yes (by omega)]) | (rw [ht]; done) | (rw [hd]; rfl) | (rw [hd]; exact sub_from _ _) | (rw [hd]; show _ = (0 : Int); omega)
        have e_y1 : (rd.err : Int) = ((Rd.rbool rd).2).err := by
          first | (rw [hd]; done) | (rw [hd, Rd.fail_yes (by omega)]) | (rw [ht]; done) | (rw [hd]; rfl) | (rw [hd]; exact sub_from _ _) | (rw [hd]; show _ = (0 : Int); omega)
        have e_y2 : (Rd.bv rd.left x : Bool) = Rd.btook rd x := by
          first | (rw [hd]; done) | (rw [hd, Rd.fail_yes (by omega)]) | (rw [ht]; done) | (rw [hd]; rfl) | (rw [hd]; exact sub_from _ _) | (rw [hd]; show _ = (0 : Int); omega)
        have e_all := (congr (congr (congrArg (fun (y0 : Bytes) (y1 : Int) (y2 : Bool) => [Ent.blk r 113 [vS y0, vI y1], Ent.blk n 4 [vB y2]]) e_y0) e_y1) e_y2)
        exact e_all
set_option maxRecDepth 20000 in
theorem f80_ok (r : Nat) (rd : Reader) (w : World) (hg : Give [r] w [Ent.blk r 113 [vS rd.left, vI rd.err]]) : Calls Try.prog 80 #[Value.pointer (some ⟨r, 0, none⟩)] w (Gives [r] w fun v L => v = vU64 ((Rd.number rd).1) ∧ L = [Ent.blk r 113 [vS (((Rd.number rd).2).left), vI (((Rd.number rd).2).err)]]) := by
  refine calls_J [r] 8 Try.func80 rfl Try.ntmps80 [(0, Value.pointer (some ⟨r, 0, none⟩))] rfl rfl hg ?_
  refine J_seq (J_region ?_)
  refine jr_ (vU64 0) ?_
  refine JO_nil (JX_then (J_seq (J_region ?_)))
  refine JO_op rfl trivial (O_alloc Ty.ze104 rfl fun b1 => ?_)
  refine JO_nil (JX_then (J_seq (J_region ?_)))
  refine jr_ (Value.pointer (some ⟨r, 0, none⟩)) ?_
  refine JO_read (Value.func (.func 92) #[] #[Value.pointer (some ⟨b1, 0, none⟩)]) rfl trivial (fun _ _ => x_makeFunc rfl rfl) ?_
  refine JO_call [r, b1] [Ent.blk r 113 [vS rd.left, vI rd.err], Ent.blk b1 104 [vU64 (0 : UInt64)]] [] rfl trivial (fun _ => x_call Ty.ca81 rfl) (fun _ h => (h.front 1 _ rfl).keep [true, true] rfl) (own_mem rfl) (fun w hS => f81_ok r b1 rd (0 : UInt64) w  (hS.give (own_in rfl))) ?_
  rintro _ _ ⟨rfl, rfl⟩
  refine JO_nil (JX_then (J_seq (J_region ?_)))
  refine JO_read (vU64 (Rd.took rd (0 : UInt64))) rfl trivial (x_load 1 rfl rfl Ty.sc104 rfl) ?_
  refine jr_ (vU64 (Rd.took rd (0 : UInt64))) ?_
  refine JO_nil (JX_then (J_ret ?_))
  refine JX_rets [vU64 (Rd.took rd (0 : UInt64))] (vU64 (Rd.took rd (0 : UInt64))) Try.results80 (fun w h => ⟨rfl, trivial⟩) rfl [Ent.blk r 113 [vS (((Rd.number rd).2).left), vI (((Rd.number rd).2).err)]] (fun _ h => h.keep [true, false] rfl) ⟨?_, ?_⟩
  · have e_x0 : (Rd.took rd (0 : UInt64) : UInt64) = ((Rd.number rd).1) := by first | rfl | exact Rd.number_took
    exact congrArg (fun (x0 : UInt64) => vU64 x0) e_x0
  · rfl
set_option maxRecDepth 20000 in
theorem f66_ok (r : Nat) (rd : Reader) (w : World) (hg : Give [r] w [Ent.blk r 113 [vS rd.left, vI rd.err]]) : Calls Try.prog 66 #[Value.pointer (some ⟨r, 0, none⟩)] w (Gives [r] w fun v L => v = vB ((Rd.rbool rd).1) ∧ L = [Ent.blk r 113 [vS (((Rd.rbool rd).2).left), vI (((Rd.rbool rd).2).err)]]) := by
  refine calls_J [r] 8 Try.func66 rfl Try.ntmps66 [(0, Value.pointer (some ⟨r, 0, none⟩))] rfl rfl hg ?_
  refine J_seq (J_region ?_)
  refine jr_ (vB false) ?_
  refine JO_nil (JX_then (J_seq (J_region ?_)))
  refine JO_op rfl trivial (O_alloc Ty.ze4 rfl fun b1 => ?_)
  refine JO_op rfl trivial (O_store 0 [vB false] [Ent.blk b1 4 [vB false], Ent.blk r 113 [vS rd.left, vI rd.err]] rfl rfl rfl Ty.sz4 rfl (Nat.le_of_ble_eq_true rfl) rfl rfl rfl ?_)
  refine JO_nil (JX_then (J_seq (J_region ?_)))
  refine jr_ (Value.pointer (some ⟨r, 0, none⟩)) ?_
  refine JO_read (Value.func (.func 82) #[] #[Value.pointer (some ⟨b1, 0, none⟩)]) rfl trivial (fun _ _ => x_makeFunc rfl rfl) ?_
  refine JO_call [r, b1] [Ent.blk r 113 [vS rd.left, vI rd.err], Ent.blk b1 4 [vB false]] [] rfl trivial (fun _ => x_call Ty.ca81 rfl) (fun _ h => (h.front 1 _ rfl).keep [true, true] rfl) (own_mem rfl) (fun w hS => take_b r b1 rd false w  (hS.give (own_in rfl))) ?_
  rintro _ _ ⟨rfl, rfl⟩
  refine JO_nil (JX_then (J_seq (J_region ?_)))
  refine JO_read (vB (Rd.btook rd false)) rfl trivial (x_load 1 rfl rfl Ty.sc4 rfl) ?_
  refine jr_ (vB (Rd.btook rd false)) ?_
  refine JO_nil (JX_then (J_ret ?_))
  refine JX_rets [vB (Rd.btook rd false)] (vB (Rd.btook rd false)) Try.results66 (fun w h => ⟨rfl, trivial⟩) rfl [Ent.blk r 113 [vS (((Rd.rbool rd).2).left), vI (((Rd.rbool rd).2).err)]] (fun _ h => h.keep [true, false] rfl) ⟨?_, ?_⟩
  · have e_x0 : (Rd.btook rd false : Bool) = ((Rd.rbool rd).1) := by first | rfl | exact Rd.rbool_took
    exact congrArg (fun (x0 : Bool) => vB x0) e_x0
  · rfl
set_option maxRecDepth 20000 in
theorem f65_ok (r : Nat) (most : Int) (rd : Reader) (w : World) (q0 : 0 ≤ most) (q1 : most ≤ 1099511627776) (hg : Give [r] w [Ent.blk r 113 [vS rd.left, vI rd.err]]) : Calls Try.prog 65 #[Value.pointer (some ⟨r, 0, none⟩), vI most] w (Gives [r] w fun v L => v = vI ((Rd.count rd most).1) ∧ L = [Ent.blk r 113 [vS (((Rd.count rd most).2).left), vI (((Rd.count rd most).2).err)]]) := by
  have hm := Rd.ofInt64 most q0 (by omega)
  refine calls_J [r] 25 Try.func65 rfl Try.ntmps65 [(0, Value.pointer (some ⟨r, 0, none⟩)), (1, vI most)] rfl rfl hg ?_
  refine J_seq (J_region ?_)
  refine jr_ (vI 0) ?_
  refine JO_nil (JX_then (J_seq (J_region ?_)))
  refine jr_ (Value.pointer (some ⟨r, 0, none⟩)) ?_
  refine JO_call [r] [Ent.blk r 113 [vS rd.left, vI rd.err]] [] rfl trivial (fun _ => x_call Ty.ca80 rfl) (fun _ h => h) (own_mem rfl) (fun w hS => f80_ok r rd w  (hS.give (own_in rfl))) ?_
  rintro _ _ ⟨rfl, rfl⟩
  refine jr_ (vU64 ((Rd.number rd).1)) ?_
  refine JO_nil (JX_then (J_seq (J_seq (J_region ?_))))
  refine jr_ (Value.pointer (some ⟨r, 0, none⟩)) ?_
  refine JO_read (Value.pointer (some ⟨r, 0, none⟩)) rfl trivial (fun _ _ => x_nilCheck rfl) ?_
  refine JO_read (Value.pointer (some ⟨r, 1, none⟩)) rfl trivial (fun _ _ => x_fieldAddr Ty.fi113_1 rfl rfl) ?_
  refine JO_read (vI (((Rd.number rd).2).err)) rfl trivial (x_load 0 rfl rfl Ty.sc23 rfl) ?_
  refine JO_read (vB (decide (((Rd.number rd).2).err ≠ 0))) rfl trivial (fun _ _ => x_neq_i rfl rfl) ?_
  refine JO_nil (JX_then ?_)
  refine J_cond (decide (((Rd.number rd).2).err ≠ 0)) rfl rfl (fun h1 => ?_) (fun h1 => ?_)
  · have h1 := of_decide_eq_true h1
    refine J_seq (J_region ?_)
    refine jr_ (vI 0) ?_
    refine JO_nil (JX_then (J_ret (JX_then_ret ?_)))
    first
      | have hd := Rd.count_no (r := rd) (most := most) (by assumption)
      | have hd := Rd.count_bad (r := rd) (most := most) (by assumption) (by simp only [UInt64.lt_iff_toNat_lt] at *; omega)
      | have hd := Rd.count_ok (r := rd) (most := most) (by assumption) (by simp only [UInt64.lt_iff_toNat_lt] at *; omega)
    refine JX_rets [vI 0] (vI 0) Try.results65 (fun w h => ⟨rfl, trivial⟩) rfl [Ent.blk r 113 [vS (((Rd.number rd).2).left), vI (((Rd.number rd).2).err)]] (fun _ h => h) ⟨?_, ?_⟩
    · have e_x0 : (0 : Int) = ((Rd.count rd most).1) := by first | (rw [hd]; done) | (rw [hd]; rfl) | (rw [hd, Rd.fail_yes (by omega)])
      exact congrArg (fun (x0 : Int) => vI x0) e_x0
    · have e_y0 : (((Rd.number rd).2).left : Bytes) = ((Rd.count rd most).2).left := by
        first | (rw [hd]; done) | (rw [hd]; rfl) | (rw [hd, Rd.fail_yes (by omega)])
      have e_y1 : (((Rd.number rd).2).err : Int) = ((Rd.count rd most).2).err := by
        first | (rw [hd]; done) | (rw [hd]; rfl) | (rw [hd, Rd.fail_yes (by omega)])
      have e_all := (congr (congrArg (fun (y0 : Bytes) (y1 : Int) => [Ent.blk r 113 [vS y0, vI y1]]) e_y0) e_y1)
      exact e_all
  · have h1 := of_decide_eq_false h1
    refine J_skip (JX_then (J_seq (J_seq (J_region ?_))))
    refine jr_ (vI most) ?_
    refine JO_read (vB (decide (most < 0))) rfl trivial (fun _ _ => x_lss_i rfl rfl) ?_
    refine jr_ (vB (decide (most < 0))) ?_
    refine JO_cut (X := Bool) 5 (fun z => z = ((decide (most < 0)) || (decide (UInt64.ofInt most < (Rd.number rd).1)))) (fun z => [(0, Value.pointer (some ⟨r, 0, none⟩)), (4, vI 0), (5, vU64 ((Rd.number rd).1)), (20, vB z)]) (fun _ => [Ent.blk r 113 [vS (((Rd.number rd).2).left), vI (((Rd.number rd).2).err)]]) ?_ ?_
    · rcases Bool.eq_false_or_eq_true (decide (most < 0)) with g3 | g3
      · have g3r := g3
        have g3r := of_decide_eq_true g3r
        refine JO_shun rfl ⟨_, rfl, g3⟩ ?_
        refine JO_shun rfl ⟨_, rfl, g3⟩ ?_
        refine JO_shun rfl ⟨_, rfl, g3⟩ ?_
        refine JO_shun rfl ⟨_, rfl, g3⟩ ?_
        refine JO_read (vB true) rfl trivial (fun _ _ => x_pick_t rfl g3 rfl) ?_
        refine JO_nil (JX_cut (true) (by rw [g3]; simp) ⟨rfl, rfl, rfl, rfl, trivial⟩ (fun _ h => h))
      · have g3r := g3
        have g3r := of_decide_eq_false g3r
        refine JO_read (vU64 ((Rd.number rd).1)) rfl ⟨_, rfl, g3⟩ (fun _ _ => rfl) ?_
        refine JO_read (vI most) rfl ⟨_, rfl, g3⟩ (fun _ _ => rfl) ?_
        refine JO_read (vU64 (UInt64.ofInt most)) rfl ⟨_, rfl, g3⟩ (fun _ _ => x_conv_i64_u64 (a := most) rfl Try.underlying3 Try.underlying104) ?_
        refine JO_read (vB (decide (UInt64.ofInt most < (Rd.number rd).1))) rfl ⟨_, rfl, g3⟩ (fun _ _ => x_gtr_u64 rfl rfl) ?_
        refine JO_read (vB (decide (UInt64.ofInt most < (Rd.number rd).1))) rfl trivial (fun _ _ => x_pick_f rfl g3 rfl) ?_
        refine JO_nil (JX_cut (decide (UInt64.ofInt most < (Rd.number rd).1)) (by rw [g3]; simp) ⟨rfl, rfl, rfl, rfl, trivial⟩ (fun _ h => h))
    rintro z2 rfl
    refine JO_nil (JX_then ?_)
    refine J_cond ((decide (most < 0)) || (decide (UInt64.ofInt most < (Rd.number rd).1))) rfl rfl (fun h4 => ?_) (fun h4 => ?_)
    · simp only [Bool.and_eq_true, Bool.or_eq_true, Bool.and_eq_false_iff, Bool.or_eq_false_iff, Bool.not_eq_true', Bool.not_eq_false', decide_eq_true_eq, decide_eq_false_iff_not] at h4
      refine J_seq (J_region ?_)
      refine jr_ (Value.pointer (some ⟨r, 0, none⟩)) ?_
      refine JO_call [r] [Ent.blk r 113 [vS (((Rd.number rd).2).left), vI (((Rd.number rd).2).err)]] [] rfl trivial (fun _ => x_call Ty.ca70 rfl) (fun _ h => h) (own_mem rfl) (fun w hS => f70_ok r 8 ((Rd.number rd).2) w  (hS.give (own_in rfl))) ?_
      rintro _ _ ⟨rfl, rfl⟩
      refine JO_nil (JX_then (J_seq (J_region ?_)))
      refine jr_ (vI 0) ?_
      refine JO_nil (JX_then (J_ret (JX_then_ret ?_)))
      first
        | have hd := Rd.count_no (r := rd) (most := most) (by assumption)
        | have hd := Rd.count_bad (r := rd) (most := most) (by assumption) (by simp only [UInt64.lt_iff_toNat_lt] at *; omega)
        | have hd := Rd.count_ok (r := rd) (most := most) (by assumption) (by simp only [UInt64.lt_iff_toNat_lt] at *; omega)
      refine JX_rets [vI 0] (vI 0) Try.results65 (fun w h => ⟨rfl, trivial⟩) rfl [Ent.blk r 113 [vS ((Rd.fail ((Rd.number rd).2) 8).left), vI ((Rd.fail ((Rd.number rd).2) 8).err)]] (fun _ h => h) ⟨?_, ?_⟩
      · have e_x0 : (0 : Int) = ((Rd.count rd most).1) := by first | (rw [hd]; done) | (rw [hd]; rfl) | (rw [hd, Rd.fail_yes (by omega)])
        exact congrArg (fun (x0 : Int) => vI x0) e_x0
      · have e_y0 : ((Rd.fail ((Rd.number rd).2) 8).left : Bytes) = ((Rd.count rd most).2).left := by
          first | (rw [hd]; done) | (rw [hd]; rfl) | (rw [hd, Rd.fail_yes (by omega)])
        have e_y1 : ((Rd.fail ((Rd.number rd).2) 8).err : Int) = ((Rd.count rd most).2).err := by
          first | (rw [hd]; done) | (rw [hd]; rfl) | (rw [hd, Rd.fail_yes (by omega)])
        have e_all := (congr (congrArg (fun (y0 : Bytes) (y1 : Int) => [Ent.blk r 113 [vS y0, vI y1]]) e_y0) e_y1)
        exact e_all
    · have ⟨h4, h5⟩ := bor_false h4
      have h4 := of_decide_eq_false h4
      have h5 := of_decide_eq_false h5
      have h5u := h5
      try simp only [UInt8.lt_iff_toNat_lt, UInt8.le_iff_toNat_le, UInt8.reduceToNat, UInt32.lt_iff_toNat_lt, UInt32.le_iff_toNat_le, UInt32.reduceToNat, UInt64.lt_iff_toNat_lt, UInt64.le_iff_toNat_le, UInt64.reduceToNat] at h5u
      refine J_skip (JX_then (J_seq (J_region ?_)))
      refine jr_ (vU64 ((Rd.number rd).1)) ?_
      refine JO_read (vI ((((Rd.number rd).1).toNat : Nat) : Int)) rfl trivial (fun _ _ => x_conv_u64_i64 rfl Try.underlying104 Try.underlying3 (by omega)) ?_
      refine jr_ (vI ((((Rd.number rd).1).toNat : Nat) : Int)) ?_
      refine JO_nil (JX_then (J_ret ?_))
      first
        | have hd := Rd.count_no (r := rd) (most := most) (by assumption)
        | have hd := Rd.count_bad (r := rd) (most := most) (by assumption) (by simp only [UInt64.lt_iff_toNat_lt] at *; omega)
        | have hd := Rd.count_ok (r := rd) (most := most) (by assumption) (by simp only [UInt64.lt_iff_toNat_lt] at *; omega)
      refine JX_rets [vI ((((Rd.number rd).1).toNat : Nat) : Int)] (vI ((((Rd.number rd).1).toNat : Nat) : Int)) Try.results65 (fun w h => ⟨rfl, trivial⟩) rfl [Ent.blk r 113 [vS (((Rd.number rd).2).left), vI (((Rd.number rd).2).err)]] (fun _ h => h) ⟨?_, ?_⟩
      · have e_x0 : (((((Rd.number rd).1).toNat : Nat) : Int) : Int) = ((Rd.count rd most).1) := by first | (rw [hd]; done) | (rw [hd]; rfl) | (rw [hd, Rd.fail_yes (by omega)])
        exact congrArg (fun (x0 : Int) => vI x0) e_x0
      · have e_y0 : (((Rd.number rd).2).left : Bytes) = ((Rd.count rd most).2).left := by
          first | (rw [hd]; done) | (rw [hd]; rfl) | (rw [hd, Rd.fail_yes (by omega)])
        have e_y1 : (((Rd.number rd).2).err : Int) = ((Rd.count rd most).2).err := by
          first | (rw [hd]; done) | (rw [hd]; rfl) | (rw [hd, Rd.fail_yes (by omega)])
        have e_all := (congr (congrArg (fun (y0 : Bytes) (y1 : Int) => [Ent.blk r 113 [vS y0, vI y1]]) e_y0) e_y1)
        exact e_all
set_option maxRecDepth 20000 in
theorem f49_ok (r : Nat) (most : Int) (rd : Reader) (w : World) (q0 : 0 ≤ most) (q1 : most ≤ 1099511627776) (hg : Give [r] w [Ent.blk r 113 [vS rd.left, vI rd.err]]) : Calls Try.prog 49 #[Value.pointer (some ⟨r, 0, none⟩), vI most] w (Gives [r] w fun v L => v = vS ((Rd.rtext rd most).1) ∧ L = [Ent.blk r 113 [vS (((Rd.rtext rd most).2).left), vI (((Rd.rtext rd most).2).err)]]) := by
  refine calls_J [r] 40 Try.func49 rfl Try.ntmps49 [(0, Value.pointer (some ⟨r, 0, none⟩)), (1, vI most)] rfl rfl hg ?_
  refine J_seq (J_region ?_)
  refine jr_ (vS []) ?_
  refine JO_nil (JX_then (J_seq (J_region ?_)))
  refine jr_ (Value.pointer (some ⟨r, 0, none⟩)) ?_
  refine jr_ (vI most) ?_
  refine JO_call [r] [Ent.blk r 113 [vS rd.left, vI rd.err]] [] rfl trivial (fun _ => x_call Ty.ca65 rfl) (fun _ h => h) (own_mem rfl) (fun w hS => f65_ok r most rd w hy_ hy_ (hS.give (own_in rfl))) ?_
  rintro _ _ ⟨rfl, rfl⟩
  have ha1 := Rd.count_range rd most (by omega)
  refine jr_ (vI ((Rd.count rd most).1)) ?_
  refine JO_nil (JX_then (J_seq (J_seq (J_region ?_))))
  refine jr_ (Value.pointer (some ⟨r, 0, none⟩)) ?_
  refine JO_read (Value.pointer (some ⟨r, 0, none⟩)) rfl trivial (fun _ _ => x_nilCheck rfl) ?_
  refine JO_read (Value.pointer (some ⟨r, 1, none⟩)) rfl trivial (fun _ _ => x_fieldAddr Ty.fi113_1 rfl rfl) ?_
  refine JO_read (vI (((Rd.count rd most).2).err)) rfl trivial (x_load 0 rfl rfl Ty.sc23 rfl) ?_
  refine JO_read (vB (decide (((Rd.count rd most).2).err ≠ 0))) rfl trivial (fun _ _ => x_neq_i rfl rfl) ?_
  refine JO_nil (JX_then ?_)
  refine J_cond (decide (((Rd.count rd most).2).err ≠ 0)) rfl rfl (fun h2 => ?_) (fun h2 => ?_)
  · have h2 := of_decide_eq_true h2
    refine J_seq (J_region ?_)
    refine jr_ (vS []) ?_
    refine JO_nil (JX_then (J_ret (JX_then_ret ?_)))
    first
      | have hd := Rd.rtext_no (r := rd) (most := most) (by assumption)
      | have hd := Rd.rtext_bad (r := rd) (most := most) (by assumption) (by omega)
      | have hd := Rd.rtext_ok (r := rd) (most := most) (by assumption) (by omega)
    refine JX_rets [vS []] (vS []) Try.results49 (fun w h => ⟨rfl, trivial⟩) rfl [Ent.blk r 113 [vS (((Rd.count rd most).2).left), vI (((Rd.count rd most).2).err)]] (fun _ h => h) ⟨?_, ?_⟩
    · have e_x0 : ([] : Bytes) = ((Rd.rtext rd most).1) := by first | (rw [hd]; done) | (rw [hd]; rfl) | (rw [hd, Rd.fail_yes (by omega)]) | (rw [hd]; exact sub_from _ _) | (rw [hd]; exact sub_to _ _) | (rw [hd]; show _ = (0 : Int); omega)
      exact congrArg (fun (x0 : Bytes) => vS x0) e_x0
    · have e_y0 : (((Rd.count rd most).2).left : Bytes) = ((Rd.rtext rd most).2).left := by
        first | (rw [hd]; done) | (rw [hd]; rfl) | (rw [hd, Rd.fail_yes (by omega)]) | (rw [hd]; exact sub_from _ _) | (rw [hd]; exact sub_to _ _) | (rw [hd]; show _ = (0 : Int); omega)
      have e_y1 : (((Rd.count rd most).2).err : Int) = ((Rd.rtext rd most).2).err := by
        first | (rw [hd]; done) | (rw [hd]; rfl) | (rw [hd, Rd.fail_yes (by omega)]) | (rw [hd]; exact sub_from _ _) | (rw [hd]; exact sub_to _ _) | (rw [hd]; show _ = (0 : Int); omega)
      have e_all := (congr (congrArg (fun (y0 : Bytes) (y1 : Int) => [Ent.blk r 113 [vS y0, vI y1]]) e_y0) e_y1)
      exact e_all
  · have h2 := of_decide_eq_false h2
    refine J_skip (JX_then (J_seq (J_seq (J_region ?_))))
    refine jr_ (vI ((Rd.count rd most).1)) ?_
    refine jr_ (Value.pointer (some ⟨r, 0, none⟩)) ?_
    refine JO_read (Value.pointer (some ⟨r, 0, none⟩)) rfl trivial (fun _ _ => x_nilCheck rfl) ?_
    refine JO_read (Value.pointer (some ⟨r, 0, none⟩)) rfl trivial (fun _ _ => x_fieldAddr Ty.fi113_0 rfl rfl) ?_
    refine JO_read (vS (((Rd.count rd most).2).left)) rfl trivial (x_load 0 rfl rfl Ty.sc9 rfl) ?_
    refine JO_read (vI (((((Rd.count rd most).2).left).length : Nat) : Int)) rfl trivial (fun _ _ => x_len_s rfl Try.underlying9) ?_
    refine JO_read (vB (decide ((((((Rd.count rd most).2).left).length : Nat) : Int) < (Rd.count rd most).1))) rfl trivial (fun _ _ => x_gtr_i rfl rfl) ?_
    refine JO_nil (JX_then ?_)
    refine J_cond (decide ((((((Rd.count rd most).2).left).length : Nat) : Int) < (Rd.count rd most).1)) rfl rfl (fun h3 => ?_) (fun h3 => ?_)
    · have h3 := of_decide_eq_true h3
      refine J_seq (J_region ?_)
      refine jr_ (Value.pointer (some ⟨r, 0, none⟩)) ?_
      refine JO_call [r] [Ent.blk r 113 [vS (((Rd.count rd most).2).left), vI (((Rd.count rd most).2).err)]] [] rfl trivial (fun _ => x_call Ty.ca70 rfl) (fun _ h => h) (own_mem rfl) (fun w hS => f70_ok r 11 ((Rd.count rd most).2) w  (hS.give (own_in rfl))) ?_
      rintro _ _ ⟨rfl, rfl⟩
      refine JO_nil (JX_then (J_seq (J_region ?_)))
      refine jr_ (vS []) ?_
      refine JO_nil (JX_then (J_ret (JX_then_ret ?_)))
      first
        | have hd := Rd.rtext_no (r := rd) (most := most) (by assumption)
        | have hd := Rd.rtext_bad (r := rd) (most := most) (by assumption) (by omega)
        | have hd := Rd.rtext_ok (r := rd) (most := most) (by assumption) (by omega)
      refine JX_rets [vS []] (vS []) Try.results49 (fun w h => ⟨rfl, trivial⟩) rfl [Ent.blk r 113 [vS ((Rd.fail ((Rd.count rd most).2) 11).left), vI ((Rd.fail ((Rd.count rd most).2) 11).err)]] (fun _ h => h) ⟨?_, ?_⟩
      · have e_x0 : ([] : Bytes) = ((Rd.rtext rd most).1) := by first | (rw [hd]; done) | (rw [hd]; rfl) | (rw [hd, Rd.fail_yes (by omega)]) | (rw [hd]; exact sub_from _ _) | (rw [hd]; exact sub_to _ _) | (rw [hd]; show _ = (0 : Int); omega)
        exact congrArg (fun (x0 : Bytes) => vS x0) e_x0
      · have e_y0 : ((Rd.fail ((Rd.count rd most).2) 11).left : Bytes) = ((Rd.rtext rd most).2).left := by
          first | (rw [hd]; done) | (rw [hd]; rfl) | (rw [hd, Rd.fail_yes (by omega)]) | (rw [hd]; exact sub_from _ _) | (rw [hd]; exact sub_to _ _) | (rw [hd]; show _ = (0 : Int); omega)
        have e_y1 : ((Rd.fail ((Rd.count rd most).2) 11).err : Int) = ((Rd.rtext rd most).2).err := by
          first | (rw [hd]; done) | (rw [hd]; rfl) | (rw [hd, Rd.fail_yes (by omega)]) | (rw [hd]; exact sub_from _ _) | (rw [hd]; exact sub_to _ _) | (rw [hd]; show _ = (0 : Int); omega)
        have e_all := (congr (congrArg (fun (y0 : Bytes) (y1 : Int) => [Ent.blk r 113 [vS y0, vI y1]]) e_y0) e_y1)
        exact e_all
    · have h3 := of_decide_eq_false h3
      refine J_skip (JX_then (J_seq (J_region ?_)))
      refine jr_ (Value.pointer (some ⟨r, 0, none⟩)) ?_
      refine JO_read (Value.pointer (some ⟨r, 0, none⟩)) rfl trivial (fun _ _ => x_nilCheck rfl) ?_
      refine JO_read (Value.pointer (some ⟨r, 0, none⟩)) rfl trivial (fun _ _ => x_fieldAddr Ty.fi113_0 rfl rfl) ?_
      refine JO_read (vS (((Rd.count rd most).2).left)) rfl trivial (x_load 0 rfl rfl Ty.sc9 rfl) ?_
      refine jr_ (vI ((Rd.count rd most).1)) ?_
      refine JO_read (vS (sub (((Rd.count rd most).2).left) 0 (((Rd.count rd most).1).toNat))) rfl trivial (fun _ _ => x_sub_s (lo := 0) (hi := ((Rd.count rd most).1).toNat) rfl Try.underlying9 (.inr ⟨rfl, rfl⟩) (.inl (lo_i (by omega))) lt_ (by first | omega | (simp only [sub, List.length_drop, List.length_take]; omega) | (simp; omega) | (simp_all; omega))) ?_
      refine jr_ (vS (sub (((Rd.count rd most).2).left) 0 (((Rd.count rd most).1).toNat))) ?_
      refine JO_nil (JX_then (J_seq (J_region ?_)))
      refine jr_ (Value.pointer (some ⟨r, 0, none⟩)) ?_
      refine jr_ (Value.pointer (some ⟨r, 0, none⟩)) ?_
      refine JO_read (Value.pointer (some ⟨r, 0, none⟩)) rfl trivial (fun _ _ => x_nilCheck rfl) ?_
      refine JO_read (Value.pointer (some ⟨r, 0, none⟩)) rfl trivial (fun _ _ => x_fieldAddr Ty.fi113_0 rfl rfl) ?_
      refine JO_read (vS (((Rd.count rd most).2).left)) rfl trivial (x_load 0 rfl rfl Ty.sc9 rfl) ?_
      refine jr_ (vI ((Rd.count rd most).1)) ?_
      refine JO_read (vS (sub (((Rd.count rd most).2).left) (((Rd.count rd most).1).toNat) ((((Rd.count rd most).2).left).length))) rfl trivial (fun _ _ => x_sub_s (lo := ((Rd.count rd most).1).toNat) (hi := (((Rd.count rd most).2).left).length) rfl Try.underlying9 (.inl (lo_i (by omega))) (.inr ⟨rfl, rfl⟩) lt_ (by first | omega | (simp only [sub, List.length_drop, List.length_take]; omega) | (simp; omega) | (simp_all; omega))) ?_
      refine JO_read (Value.pointer (some ⟨r, 0, none⟩)) rfl trivial (fun _ _ => x_nilCheck rfl) ?_
      refine JO_read (Value.pointer (some ⟨r, 0, none⟩)) rfl trivial (fun _ _ => x_fieldAddr Ty.fi113_0 rfl rfl) ?_
      refine JO_op rfl trivial (O_store 0 [vS (sub (((Rd.count rd most).2).left) (((Rd.count rd most).1).toNat) ((((Rd.count rd most).2).left).length)), vI (((Rd.count rd most).2).err)] [Ent.blk r 113 [vS (sub (((Rd.count rd most).2).left) (((Rd.count rd most).1).toNat) ((((Rd.count rd most).2).left).length)), vI (((Rd.count rd most).2).err)]] rfl rfl rfl Ty.sz9 rfl (Nat.le_of_ble_eq_true rfl) rfl rfl rfl ?_)
      refine JO_nil (JX_then (J_seq (J_region ?_)))
      refine jr_ (vS (sub (((Rd.count rd most).2).left) 0 (((Rd.count rd most).1).toNat))) ?_
      refine jr_ (vS (sub (((Rd.count rd most).2).left) 0 (((Rd.count rd most).1).toNat))) ?_
      refine JO_nil (JX_then (J_ret ?_))
      first
        | have hd := Rd.rtext_no (r := rd) (most := most) (by assumption)
        | have hd := Rd.rtext_bad (r := rd) (most := most) (by assumption) (by omega)
        | have hd := Rd.rtext_ok (r := rd) (most := most) (by assumption) (by omega)
      refine JX_rets [vS (sub (((Rd.count rd most).2).left) 0 (((Rd.count rd most).1).toNat))] (vS (sub (((Rd.count rd most).2).left) 0 (((Rd.count rd most).1).toNat))) Try.results49 (fun w h => ⟨rfl, trivial⟩) rfl [Ent.blk r 113 [vS (sub (((Rd.count rd most).2).left) (((Rd.count rd most).1).toNat) ((((Rd.count rd most).2).left).length)), vI (((Rd.count rd most).2).err)]] (fun _ h => h) ⟨?_, ?_⟩
      · have e_x0 : (sub (((Rd.count rd most).2).left) 0 (((Rd.count rd most).1).toNat) : Bytes) = ((Rd.rtext rd most).1) := by first | (rw [hd]; done) | (rw [hd]; rfl) | (rw [hd, Rd.fail_yes (by omega)]) | (rw [hd]; exact sub_from _ _) | (rw [hd]; exact sub_to _ _) | (rw [hd]; show _ = (0 : Int); omega)
        exact congrArg (fun (x0 : Bytes) => vS x0) e_x0
      · have e_y0 : (sub (((Rd.count rd most).2).left) (((Rd.count rd most).1).toNat) ((((Rd.count rd most).2).left).length) : Bytes) = ((Rd.rtext rd most).2).left := by
          first | (rw [hd]; done) | (rw [hd]; rfl) | (rw [hd, Rd.fail_yes (by omega)]) | (rw [hd]; exact sub_from _ _) | (rw [hd]; exact sub_to _ _) | (rw [hd]; show _ = (0 : Int); omega)
        have e_y1 : (((Rd.count rd most).2).err : Int) = ((Rd.rtext rd most).2).err := by
          first | (rw [hd]; done) | (rw [hd]; rfl) | (rw [hd, Rd.fail_yes (by omega)]) | (rw [hd]; exact sub_from _ _) | (rw [hd]; exact sub_to _ _) | (rw [hd]; show _ = (0 : Int); omega)
        have e_all := (congr (congrArg (fun (y0 : Bytes) (y1 : Int) => [Ent.blk r 113 [vS y0, vI y1]]) e_y0) e_y1)
        exact e_all
set_option maxRecDepth 20000 in
theorem f48_ok (s : Bytes) (w : World) : Calls Try.prog 48 #[vS s] w (Gives [] w fun v L => ∃ p : Nat, v = Value.pointer (some ⟨p, 0, none⟩) ∧ L = [Ent.blk p 113 [vS s, vI 0]]) := by
  refine calls_J [] 6 Try.func48 rfl Try.ntmps48 [(0, vS s)] rfl rfl (Give.nil w) ?_
  refine J_seq (J_region ?_)
  refine jr_ (Value.pointer none) ?_
  refine JO_nil (JX_then (J_seq (J_region ?_)))
  refine jr_ (vS s) ?_
  refine JO_read (Value.agg #[vS s, vI 0]) rfl trivial (fun _ _ => x_build (by kernel_rfl)) ?_
  refine JO_op rfl trivial (O_box rfl rfl fun b1 => ?_)
  refine jr_ (Value.pointer (some ⟨b1, 0, none⟩)) ?_
  refine JO_nil (JX_then (J_ret ?_))
  refine JX_rets [Value.pointer (some ⟨b1, 0, none⟩)] (Value.pointer (some ⟨b1, 0, none⟩)) Try.results48 (fun w h => ⟨rfl, trivial⟩) rfl [Ent.blk b1 113 [vS s, vI 0]] (fun _ h => h) ⟨b1, ?_, ?_⟩
  · rfl
  · rfl
set_option maxRecDepth 20000 in
theorem f71_ok (r : Nat) (rd : Reader) (w : World) (hg : Give [r] w [Ent.blk r 113 [vS rd.left, vI rd.err]]) : Calls Try.prog 71 #[Value.pointer (some ⟨r, 0, none⟩)] w (Gives [r] w fun v L => v = vB ((decide (rd.err = 0)) && (decide (rd.left ≠ []))) ∧ L = [Ent.blk r 113 [vS rd.left, vI rd.err]]) := by
  refine calls_J [r] 15 Try.func71 rfl Try.ntmps71 [(0, Value.pointer (some ⟨r, 0, none⟩))] rfl rfl hg ?_
  refine J_seq (J_region ?_)
  refine jr_ (vB false) ?_
  refine JO_nil (JX_then (J_seq (J_region ?_)))
  refine jr_ (Value.pointer (some ⟨r, 0, none⟩)) ?_
  refine JO_read (Value.pointer (some ⟨r, 0, none⟩)) rfl trivial (fun _ _ => x_nilCheck rfl) ?_
  refine JO_read (Value.pointer (some ⟨r, 1, none⟩)) rfl trivial (fun _ _ => x_fieldAddr Ty.fi113_1 rfl rfl) ?_
  refine JO_read (vI rd.err) rfl trivial (x_load 0 rfl rfl Ty.sc23 rfl) ?_
  refine JO_read (vB (decide (rd.err = 0))) rfl trivial (fun _ _ => x_eql_i rfl rfl) ?_
  refine jr_ (vB (decide (rd.err = 0))) ?_
  refine JO_cut (X := Bool) 6 (fun z => z = ((decide (rd.err = 0)) && (decide (rd.left ≠ ([] : Bytes))))) (fun z => [(2, vB false), (14, vB z)]) (fun _ => [Ent.blk r 113 [vS rd.left, vI rd.err]]) ?_ ?_
  · rcases Bool.eq_false_or_eq_true (decide (rd.err = 0)) with g2 | g2
    · have g2r := g2
      have g2r := of_decide_eq_true g2r
      refine JO_read (Value.pointer (some ⟨r, 0, none⟩)) rfl ⟨_, rfl, g2⟩ (fun _ _ => rfl) ?_
      refine JO_read (Value.pointer (some ⟨r, 0, none⟩)) rfl ⟨_, rfl, g2⟩ (fun _ _ => x_nilCheck rfl) ?_
      refine JO_read (Value.pointer (some ⟨r, 0, none⟩)) rfl ⟨_, rfl, g2⟩ (fun _ _ => x_fieldAddr Ty.fi113_0 rfl rfl) ?_
      refine JO_read (vS rd.left) rfl ⟨_, rfl, g2⟩ (x_load 0 rfl rfl Ty.sc9 rfl) ?_
      refine JO_read (vB (decide (rd.left ≠ ([] : Bytes)))) rfl ⟨_, rfl, g2⟩ (fun _ _ => x_neq_s rfl rfl) ?_
      refine JO_read (vB (decide (rd.left ≠ ([] : Bytes)))) rfl trivial (fun _ _ => x_pick_t rfl g2 rfl) ?_
      refine JO_nil (JX_cut (decide (rd.left ≠ ([] : Bytes))) (by rw [g2]; simp) ⟨rfl, rfl, trivial⟩ (fun _ h => h))
    · have g2r := g2
      have g2r := of_decide_eq_false g2r
      refine JO_shun rfl ⟨_, rfl, g2⟩ ?_
      refine JO_shun rfl ⟨_, rfl, g2⟩ ?_
      refine JO_shun rfl ⟨_, rfl, g2⟩ ?_
      refine JO_shun rfl ⟨_, rfl, g2⟩ ?_
      refine JO_shun rfl ⟨_, rfl, g2⟩ ?_
      refine JO_read (vB false) rfl trivial (fun _ _ => x_pick_f rfl g2 rfl) ?_
      refine JO_nil (JX_cut (false) (by rw [g2]; simp) ⟨rfl, rfl, trivial⟩ (fun _ h => h))
  rintro z1 rfl
  refine jr_ (vB ((decide (rd.err = 0)) && (decide (rd.left ≠ ([] : Bytes))))) ?_
  refine JO_nil (JX_then (J_ret ?_))
  refine JX_rets [vB ((decide (rd.err = 0)) && (decide (rd.left ≠ ([] : Bytes))))] (vB ((decide (rd.err = 0)) && (decide (rd.left ≠ ([] : Bytes))))) Try.results71 (fun w h => ⟨rfl, trivial⟩) rfl [Ent.blk r 113 [vS rd.left, vI rd.err]] (fun _ h => h) ⟨?_, ?_⟩
  · have e_x0 : ((decide (rd.err = 0)) && (decide (rd.left ≠ ([] : Bytes))) : Bool) = ((decide (rd.err = 0)) && (decide (rd.left ≠ []))) := by first | rfl | omega | (simp_all; done) | (simp_all; omega)
    exact congrArg (fun (x0 : Bool) => vB x0) e_x0
  · rfl
set_option maxRecDepth 20000 in
theorem f50_ok (r : Nat) (rd : Reader) (w : World) (hg : Give [r] w [Ent.blk r 113 [vS rd.left, vI rd.err]]) : Calls Try.prog 50 #[Value.pointer (some ⟨r, 0, none⟩)] w (Gives [r] w fun v L => v = vI (Rd.fin rd) ∧ L = [Ent.blk r 113 [vS rd.left, vI rd.err]]) := by
  refine calls_J [r] 12 Try.func50 rfl Try.ntmps50 [(0, Value.pointer (some ⟨r, 0, none⟩))] rfl rfl hg ?_
  refine J_seq (J_region ?_)
  refine jr_ (vI 0) ?_
  refine JO_nil (JX_then (J_seq (J_region ?_)))
  refine jr_ (Value.pointer (some ⟨r, 0, none⟩)) ?_
  refine JO_read (Value.func (.func 71) #[Value.pointer (some ⟨r, 0, none⟩)] #[]) rfl trivial (fun _ _ => x_makeFunc rfl rfl) ?_
  refine jr_ (Value.func (.func 71) #[Value.pointer (some ⟨r, 0, none⟩)] #[]) ?_
  refine JO_nil (JX_then (J_seq (J_seq (J_region ?_))))
  refine jr_ (Value.func (.func 71) #[Value.pointer (some ⟨r, 0, none⟩)] #[]) ?_
  refine JO_call [r] [Ent.blk r 113 [vS rd.left, vI rd.err]] [] rfl trivial (fun _ => x_callv (first := [Value.pointer (some ⟨r, 0, none⟩)]) (caps := []) rfl Ty.ca71 rfl) (fun _ h => h) (own_mem rfl) (fun w hS => f71_ok r rd w  (hS.give (own_in rfl))) ?_
  rintro _ _ ⟨rfl, rfl⟩
  refine JO_nil (JX_then ?_)
  refine J_cond ((decide (rd.err = 0)) && (decide (rd.left ≠ []))) rfl rfl (fun h1 => ?_) (fun h1 => ?_)
  · have h1w := h1
    have ⟨h1, h2⟩ := band_true h1
    have h1 := of_decide_eq_true h1
    have h2 := of_decide_eq_true h2
    have h2l := List.length_pos_iff.2 h2
    refine J_seq (J_region ?_)
    refine jr_ (vI 11) ?_
    refine JO_nil (JX_then (J_ret (JX_then_ret ?_)))
    refine JX_rets [vI 11] (vI 11) Try.results50 (fun w h => ⟨rfl, trivial⟩) rfl [Ent.blk r 113 [vS rd.left, vI rd.err]] (fun _ h => h) ⟨?_, ?_⟩
    · have e_x0 : (11 : Int) = (Rd.fin rd) := by first | exact (Rd.fin_open (by assumption)).symm | exact (Rd.fin_shut (by assumption)).symm
      exact congrArg (fun (x0 : Int) => vI x0) e_x0
    · rfl
  · have h1w := h1
    simp only [Bool.and_eq_true, Bool.or_eq_true, Bool.and_eq_false_iff, Bool.or_eq_false_iff, Bool.not_eq_true', Bool.not_eq_false', decide_eq_true_eq, decide_eq_false_iff_not] at h1
    refine J_skip (JX_then (J_seq (J_region ?_)))
    refine jr_ (Value.pointer (some ⟨r, 0, none⟩)) ?_
    refine JO_read (Value.pointer (some ⟨r, 0, none⟩)) rfl trivial (fun _ _ => x_nilCheck rfl) ?_
    refine JO_read (Value.pointer (some ⟨r, 1, none⟩)) rfl trivial (fun _ _ => x_fieldAddr Ty.fi113_1 rfl rfl) ?_
    refine JO_read (vI rd.err) rfl trivial (x_load 0 rfl rfl Ty.sc23 rfl) ?_
    refine jr_ (vI rd.err) ?_
    refine JO_nil (JX_then (J_ret ?_))
    refine JX_rets [vI rd.err] (vI rd.err) Try.results50 (fun w h => ⟨rfl, trivial⟩) rfl [Ent.blk r 113 [vS rd.left, vI rd.err]] (fun _ h => h) ⟨?_, ?_⟩
    · have e_x0 : (rd.err : Int) = (Rd.fin rd) := by first | exact (Rd.fin_open (by assumption)).symm | exact (Rd.fin_shut (by assumption)).symm
      exact congrArg (fun (x0 : Int) => vI x0) e_x0
    · rfl
end Go.Proofs.Ytodfebhimadaiaa
