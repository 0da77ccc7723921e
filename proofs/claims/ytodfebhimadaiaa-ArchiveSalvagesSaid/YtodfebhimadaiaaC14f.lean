/- contracts C14f -/
import Derived.Test.YtodfebhimadaiaaC14e
namespace Go.Proofs.Ytodfebhimadaiaa
open Go.GV
set_option linter.unusedVariables false
set_option linter.unusedSimpArgs false
set_option maxRecDepth 20000 in
theorem f11_ok (s : Bytes) (w : World) (q0 : s.length ≤ 4611686018427387904) : Calls Try.prog 11 #[vS s] w (Gives [] w fun v L => v = Value.tuple #[vI (R14.rfN R02.updateN s), vB (R14.rfA R02.updateN s), vB (R14.rfB R02.updateN s), vS (R14.rfD R02.updateN s), vI (R14.rfE R02.updateN s)] ∧ L = []) := by
  have hb0 := (s.getD 0 0).toNat_lt
  have hb1 := (s.getD 1 0).toNat_lt
  have hb2 := (s.getD 2 0).toNat_lt
  have hb3 := (s.getD 3 0).toNat_lt
  refine calls_J [] 62 Try.func11 rfl Try.ntmps11 [(0, vS s)] rfl rfl (Give.nil w) ?_
  refine J_seq (J_region ?_)
  refine jr_ (vI 0) ?_
  refine jr_ (vB false) ?_
  refine jr_ (vB false) ?_
  refine jr_ (vS []) ?_
  refine jr_ (vI 0) ?_
  refine JO_nil (JX_then (J_seq (J_seq (J_region ?_))))
  refine jr_ (vS s) ?_
  refine JO_read (vI ((s.length : Nat) : Int)) rfl trivial (fun _ _ => x_len_s rfl Try.underlying9) ?_
  refine JO_read (vB (decide (((s.length : Nat) : Int) ≠ 64))) rfl trivial (fun _ _ => x_neq_i rfl rfl) ?_
  refine jr_ (vB (decide (((s.length : Nat) : Int) ≠ 64))) ?_
  refine JO_cut (X := Bool) 4 (fun z => z = ((decide (((s.length : Nat) : Int) ≠ 64)) || (decide ((3 : UInt8) < s.getD 2 0)))) (fun z => [(0, vS s), (2, vI 0), (3, vB false), (4, vB false), (5, vS []), (6, vI 0), (18, vB z)]) (fun _ => []) ?_ ?_
  · rcases Bool.eq_false_or_eq_true (decide (((s.length : Nat) : Int) ≠ 64)) with g2 | g2
    · have g2r := g2
      have g2r := of_decide_eq_true g2r
      refine JO_shun rfl ⟨_, rfl, g2⟩ ?_
      refine JO_shun rfl ⟨_, rfl, g2⟩ ?_
      refine JO_shun rfl ⟨_, rfl, g2⟩ ?_
      refine JO_read (vB true) rfl trivial (fun _ _ => x_pick_t rfl g2 rfl) ?_
      refine JO_nil (JX_cut (true) (by rw [g2]; simp) ⟨rfl, rfl, rfl, rfl, rfl, rfl, rfl, trivial⟩ (fun _ h => h))
    · have g2r := g2
      have g2r := of_decide_eq_false g2r
      refine JO_read (vS s) rfl ⟨_, rfl, g2⟩ (fun _ _ => rfl) ?_
      refine JO_read (vU8 (s.getD 2 0)) rfl ⟨_, rfl, g2⟩ (fun _ _ => x_idx_s (k := 2) rfl rfl Try.underlying9 (by omega)) ?_
      refine JO_read (vB (decide ((3 : UInt8) < s.getD 2 0))) rfl ⟨_, rfl, g2⟩ (fun _ _ => x_gtr_u8 rfl rfl) ?_
      refine JO_read (vB (decide ((3 : UInt8) < s.getD 2 0))) rfl trivial (fun _ _ => x_pick_f rfl g2 rfl) ?_
      refine JO_nil (JX_cut (decide ((3 : UInt8) < s.getD 2 0)) (by rw [g2]; simp) ⟨rfl, rfl, rfl, rfl, rfl, rfl, rfl, trivial⟩ (fun _ h => h))
  rintro z1 rfl
  refine jr_ (vB ((decide (((s.length : Nat) : Int) ≠ 64)) || (decide ((3 : UInt8) < s.getD 2 0)))) ?_
  refine JO_cut (X := Bool) 4 (fun z => z = (((decide (((s.length : Nat) : Int) ≠ 64)) || (decide ((3 : UInt8) < s.getD 2 0))) || (decide (s.getD 3 0 < (1 : UInt8))))) (fun z => [(0, vS s), (2, vI 0), (3, vB false), (4, vB false), (5, vS []), (6, vI 0), (23, vB z)]) (fun _ => []) ?_ ?_
  · rcases Bool.eq_false_or_eq_true ((decide (((s.length : Nat) : Int) ≠ 64)) || (decide ((3 : UInt8) < s.getD 2 0))) with g4 | g4
    · have g4r := g4
      simp only [Bool.and_eq_true, Bool.or_eq_true, Bool.and_eq_false_iff, Bool.or_eq_false_iff, Bool.not_eq_true', Bool.not_eq_false', decide_eq_true_eq, decide_eq_false_iff_not] at g4r
      refine JO_shun rfl ⟨_, rfl, g4⟩ ?_
      refine JO_shun rfl ⟨_, rfl, g4⟩ ?_
      refine JO_shun rfl ⟨_, rfl, g4⟩ ?_
      refine JO_read (vB true) rfl trivial (fun _ _ => x_pick_t rfl g4 rfl) ?_
      refine JO_nil (JX_cut (true) (by rw [g4]; simp) ⟨rfl, rfl, rfl, rfl, rfl, rfl, rfl, trivial⟩ (fun _ h => h))
    · have g4r := g4
      have ⟨g4r, h5⟩ := bor_false g4r
      have g4r := of_decide_eq_false g4r
      have h5 := of_decide_eq_false h5
      have h5u := h5
      try simp only [UInt8.lt_iff_toNat_lt, UInt8.le_iff_toNat_le, UInt8.reduceToNat, UInt32.lt_iff_toNat_lt, UInt32.le_iff_toNat_le, UInt32.reduceToNat, UInt64.lt_iff_toNat_lt, UInt64.le_iff_toNat_le, UInt64.reduceToNat] at h5u
      refine JO_read (vS s) rfl ⟨_, rfl, g4⟩ (fun _ _ => rfl) ?_
      refine JO_read (vU8 (s.getD 3 0)) rfl ⟨_, rfl, g4⟩ (fun _ _ => x_idx_s (k := 3) rfl rfl Try.underlying9 (by omega)) ?_
      refine JO_read (vB (decide (s.getD 3 0 < (1 : UInt8)))) rfl ⟨_, rfl, g4⟩ (fun _ _ => x_lss_u8 rfl rfl) ?_
      refine JO_read (vB (decide (s.getD 3 0 < (1 : UInt8)))) rfl trivial (fun _ _ => x_pick_f rfl g4 rfl) ?_
      refine JO_nil (JX_cut (decide (s.getD 3 0 < (1 : UInt8))) (by rw [g4]; simp) ⟨rfl, rfl, rfl, rfl, rfl, rfl, rfl, trivial⟩ (fun _ h => h))
  rintro z3 rfl
  refine jr_ (vB (((decide (((s.length : Nat) : Int) ≠ 64)) || (decide ((3 : UInt8) < s.getD 2 0))) || (decide (s.getD 3 0 < (1 : UInt8))))) ?_
  refine JO_cut (X := Bool) 4 (fun z => z = ((((decide (((s.length : Nat) : Int) ≠ 64)) || (decide ((3 : UInt8) < s.getD 2 0))) || (decide (s.getD 3 0 < (1 : UInt8)))) || (decide ((56 : UInt8) < s.getD 3 0)))) (fun z => [(0, vS s), (2, vI 0), (3, vB false), (4, vB false), (5, vS []), (6, vI 0), (28, vB z)]) (fun _ => []) ?_ ?_
  · rcases Bool.eq_false_or_eq_true (((decide (((s.length : Nat) : Int) ≠ 64)) || (decide ((3 : UInt8) < s.getD 2 0))) || (decide (s.getD 3 0 < (1 : UInt8)))) with g7 | g7
    · have g7r := g7
      simp only [Bool.and_eq_true, Bool.or_eq_true, Bool.and_eq_false_iff, Bool.or_eq_false_iff, Bool.not_eq_true', Bool.not_eq_false', decide_eq_true_eq, decide_eq_false_iff_not] at g7r
      refine JO_shun rfl ⟨_, rfl, g7⟩ ?_
      refine JO_shun rfl ⟨_, rfl, g7⟩ ?_
      refine JO_shun rfl ⟨_, rfl, g7⟩ ?_
      refine JO_read (vB true) rfl trivial (fun _ _ => x_pick_t rfl g7 rfl) ?_
      refine JO_nil (JX_cut (true) (by rw [g7]; simp) ⟨rfl, rfl, rfl, rfl, rfl, rfl, rfl, trivial⟩ (fun _ h => h))
    · have g7r := g7
      have ⟨g7r, h8⟩ := bor_false g7r
      have ⟨g7r, h9⟩ := bor_false g7r
      have g7r := of_decide_eq_false g7r
      have h9 := of_decide_eq_false h9
      have h9u := h9
      try simp only [UInt8.lt_iff_toNat_lt, UInt8.le_iff_toNat_le, UInt8.reduceToNat, UInt32.lt_iff_toNat_lt, UInt32.le_iff_toNat_le, UInt32.reduceToNat, UInt64.lt_iff_toNat_lt, UInt64.le_iff_toNat_le, UInt64.reduceToNat] at h9u
      have h8 := of_decide_eq_false h8
      have h8u := h8
      try simp only [UInt8.lt_iff_toNat_lt, UInt8.le_iff_toNat_le, UInt8.reduceToNat, UInt32.lt_iff_toNat_lt, UInt32.le_iff_toNat_le, UInt32.reduceToNat, UInt64.lt_iff_toNat_lt, UInt64.le_iff_toNat_le, UInt64.reduceToNat] at h8u
      refine JO_read (vS s) rfl ⟨_, rfl, g7⟩ (fun _ _ => rfl) ?_
      refine JO_read (vU8 (s.getD 3 0)) rfl ⟨_, rfl, g7⟩ (fun _ _ => x_idx_s (k := 3) rfl rfl Try.underlying9 (by omega)) ?_
      refine JO_read (vB (decide ((56 : UInt8) < s.getD 3 0))) rfl ⟨_, rfl, g7⟩ (fun _ _ => x_gtr_u8 rfl rfl) ?_
      refine JO_read (vB (decide ((56 : UInt8) < s.getD 3 0))) rfl trivial (fun _ _ => x_pick_f rfl g7 rfl) ?_
      refine JO_nil (JX_cut (decide ((56 : UInt8) < s.getD 3 0)) (by rw [g7]; simp) ⟨rfl, rfl, rfl, rfl, rfl, rfl, rfl, trivial⟩ (fun _ h => h))
  rintro z6 rfl
  refine JO_nil (JX_then ?_)
  refine J_cond ((((decide (((s.length : Nat) : Int) ≠ 64)) || (decide ((3 : UInt8) < s.getD 2 0))) || (decide (s.getD 3 0 < (1 : UInt8)))) || (decide ((56 : UInt8) < s.getD 3 0))) rfl rfl (fun h10 => ?_) (fun h10 => ?_)
  · simp only [Bool.and_eq_true, Bool.or_eq_true, Bool.and_eq_false_iff, Bool.or_eq_false_iff, Bool.not_eq_true', Bool.not_eq_false', decide_eq_true_eq, decide_eq_false_iff_not] at h10
    refine J_seq (J_region ?_)
    refine jr_ (vI 0) ?_
    refine jr_ (vB false) ?_
    refine jr_ (vB false) ?_
    refine jr_ (vS []) ?_
    refine jr_ (vI 11) ?_
    refine JO_nil (JX_then (J_ret (JX_then_ret ?_)))
    refine JX_rets [vI 0, vB false, vB false, vS [], vI 11] (Value.tuple #[vI 0, vB false, vB false, vS [], vI 11]) Try.results11 (fun w h => ⟨rfl, rfl, rfl, rfl, rfl, trivial⟩) rfl [] (fun _ h => h) ⟨?_, ?_⟩
    · have e_x0 : (0 : Int) = (R14.rfN R02.updateN s) := by first | exact R14.rfN_bad (R14.rOk_pre (by assumption)) | exact R14.rfN_bad (R14.rOkN_ne (by assumption) (by assumption)) | (have hR := R14.rOkN_eq (up := R02.updateN) (s := s) (by assumption) (by assumption) (by assumption) (by assumption) (by assumption); rw [R14.rN_or]; exact R14.rfN_ok hR)
      have e_x1 : (false : Bool) = (R14.rfA R02.updateN s) := by first | exact R14.rfA_bad (R14.rOk_pre (by assumption)) | exact R14.rfA_bad (R14.rOkN_ne (by assumption) (by assumption)) | (have hR := R14.rOkN_eq (up := R02.updateN) (s := s) (by assumption) (by assumption) (by assumption) (by assumption) (by assumption); rw [R14.rA_and]; exact R14.rfA_ok hR)
      have e_x2 : (false : Bool) = (R14.rfB R02.updateN s) := by first | exact R14.rfB_bad (R14.rOk_pre (by assumption)) | exact R14.rfB_bad (R14.rOkN_ne (by assumption) (by assumption)) | (have hR := R14.rOkN_eq (up := R02.updateN) (s := s) (by assumption) (by assumption) (by assumption) (by assumption) (by assumption); rw [R14.rB_and (by assumption)]; exact R14.rfB_ok hR)
      have e_x3 : ([] : Bytes) = (R14.rfD R02.updateN s) := by first | exact R14.rfD_bad (R14.rOk_pre (by assumption)) | exact R14.rfD_bad (R14.rOkN_ne (by assumption) (by assumption)) | (have hR := R14.rOkN_eq (up := R02.updateN) (s := s) (by assumption) (by assumption) (by assumption) (by assumption) (by assumption);  exact R14.rfD_ok hR)
      have e_x4 : (11 : Int) = (R14.rfE R02.updateN s) := by first | exact R14.rfE_bad (R14.rOk_pre (by assumption)) | exact R14.rfE_bad (R14.rOkN_ne (by assumption) (by assumption)) | (have hR := R14.rOkN_eq (up := R02.updateN) (s := s) (by assumption) (by assumption) (by assumption) (by assumption) (by assumption);  exact R14.rfE_ok hR)
      have e_all := (congr (congr (congr (congr (congrArg (fun (x0 : Int) (x1 : Bool) (x2 : Bool) (x3 : Bytes) (x4 : Int) => Value.tuple #[vI x0, vB x1, vB x2, vS x3, vI x4]) e_x0) e_x1) e_x2) e_x3) e_x4)
      exact e_all
    · rfl
  · have ⟨h10, h11⟩ := bor_false h10
    have ⟨h10, h12⟩ := bor_false h10
    have ⟨h10, h13⟩ := bor_false h10
    have h10 := of_decide_eq_false h10
    have h13 := of_decide_eq_false h13
    have h13u := h13
    try simp only [UInt8.lt_iff_toNat_lt, UInt8.le_iff_toNat_le, UInt8.reduceToNat, UInt32.lt_iff_toNat_lt, UInt32.le_iff_toNat_le, UInt32.reduceToNat, UInt64.lt_iff_toNat_lt, UInt64.le_iff_toNat_le, UInt64.reduceToNat] at h13u
    have h12 := of_decide_eq_false h12
    have h12u := h12
    try simp only [UInt8.lt_iff_toNat_lt, UInt8.le_iff_toNat_le, UInt8.reduceToNat, UInt32.lt_iff_toNat_lt, UInt32.le_iff_toNat_le, UInt32.reduceToNat, UInt64.lt_iff_toNat_lt, UInt64.le_iff_toNat_le, UInt64.reduceToNat] at h12u
    have h11 := of_decide_eq_false h11
    have h11u := h11
    try simp only [UInt8.lt_iff_toNat_lt, UInt8.le_iff_toNat_le, UInt8.reduceToNat, UInt32.lt_iff_toNat_lt, UInt32.le_iff_toNat_le, UInt32.reduceToNat, UInt64.lt_iff_toNat_lt, UInt64.le_iff_toNat_le, UInt64.reduceToNat] at h11u
    refine J_skip (JX_then (J_seq ?_))
    refine J_draw [] [] [] 26 Ty.mixed rfl ?_
    refine jt_ 0 (vS s) rfl (fun _ _ => rfl) ?_
    refine jt_ 1 (vU8 (s.getD 0 0)) rfl (fun _ _ => x_idx_s (k := 0) rfl rfl Try.underlying9 (by omega)) ?_
    refine jt_ 2 (vI (((s.getD 0 0).toNat : Nat) : Int)) rfl (fun _ _ => x_conv_u8_i64 rfl Try.underlying5 Try.underlying3) ?_
    refine jt_ 3 (vS s) rfl (fun _ _ => rfl) ?_
    refine jt_ 4 (vU8 (s.getD 1 0)) rfl (fun _ _ => x_idx_s (k := 1) rfl rfl Try.underlying9 (by omega)) ?_
    refine jt_ 5 (vI (((s.getD 1 0).toNat : Nat) : Int)) rfl (fun _ _ => x_conv_u8_i64 rfl Try.underlying5 Try.underlying3) ?_
    refine jt_ 6 (vI ((((s.getD 1 0).toNat) * 2 ^ 8 : Nat) : Int)) rfl (fun _ _ => x_shl_n (a := (s.getD 1 0).toNat) (m := 8) rfl rfl (by decide) (by omega)) ?_
    refine jt_ 7 (vI ((((s.getD 0 0).toNat) ||| (((s.getD 1 0).toNat) * 2 ^ 8) : Nat) : Int)) rfl (fun _ _ => x_or_n (a := (s.getD 0 0).toNat) (b := ((s.getD 1 0).toNat) * 2 ^ 8) rfl rfl (by omega) (by omega)) ?_
    refine jt_ 8 (vS s) rfl (fun _ _ => rfl) ?_
    refine jt_ 9 (vU8 (s.getD 2 0)) rfl (fun _ _ => x_idx_s (k := 2) rfl rfl Try.underlying9 (by omega)) ?_
    refine jt_ 10 (vU8 ((s.getD 2 0) &&& 1)) rfl (fun _ _ => x_and_u8 rfl rfl) ?_
    refine jt_ 11 (vB (decide ((s.getD 2 0) &&& 1 = (1 : UInt8)))) rfl (fun _ _ => x_eql_u8 rfl rfl) ?_
    refine jt_ 12 (vS s) rfl (fun _ _ => rfl) ?_
    refine jt_ 13 (vU8 (s.getD 2 0)) rfl (fun _ _ => x_idx_s (k := 2) rfl rfl Try.underlying9 (by omega)) ?_
    refine jt_ 14 (vU8 ((s.getD 2 0) &&& 2)) rfl (fun _ _ => x_and_u8 rfl rfl) ?_
    refine jt_ 15 (vB (decide ((s.getD 2 0) &&& 2 = (2 : UInt8)))) rfl (fun _ _ => x_eql_u8 rfl rfl) ?_
    refine jt_ 16 (vS s) rfl (fun _ _ => rfl) ?_
    refine jt_ 17 (vS s) rfl (fun _ _ => rfl) ?_
    refine jt_ 18 (vU8 (s.getD 3 0)) rfl (fun _ _ => x_idx_s (k := 3) rfl rfl Try.underlying9 (by omega)) ?_
    refine jt_ 19 (vI (((s.getD 3 0).toNat : Nat) : Int)) rfl (fun _ _ => x_conv_u8_i64 rfl Try.underlying5 Try.underlying3) ?_
    refine jt_ 20 (vI ((4 + ((s.getD 3 0).toNat) : Nat) : Int)) rfl (fun _ _ => x_add_n (a := 4) (b := (s.getD 3 0).toNat) rfl rfl (by omega)) ?_
    refine jt_ 21 (vS (sub s 4 (4 + ((s.getD 3 0).toNat)))) rfl (fun _ _ => x_sub_s (lo := 4) (hi := 4 + ((s.getD 3 0).toNat)) rfl Try.underlying9 (.inl rfl) (.inl rfl) lt_ (by first | omega | (simp only [sub, List.length_drop, List.length_take]; omega) | (simp; omega) | (simp_all; omega))) ?_
    refine jt_ 22 (vI ((((s.getD 0 0).toNat) ||| (((s.getD 1 0).toNat) * 2 ^ 8) : Nat) : Int)) rfl (fun _ _ => rfl) ?_
    refine jt_ 23 (vB (decide ((s.getD 2 0) &&& 1 = (1 : UInt8)))) rfl (fun _ _ => rfl) ?_
    refine jt_ 24 (vB (decide ((s.getD 2 0) &&& 2 = (2 : UInt8)))) rfl (fun _ _ => rfl) ?_
    refine jt_ 25 (vS (sub s 4 (4 + ((s.getD 3 0).toNat)))) rfl (fun _ _ => rfl) ?_
    refine JA_done (by kernel_rfl) (fun _ h => ⟨h, fun _ => h⟩) ?_
    refine JX_then (J_seq (J_seq (J_region ?_)))
    refine jr_ (vI ((((s.getD 0 0).toNat) ||| (((s.getD 1 0).toNat) * 2 ^ 8) : Nat) : Int)) ?_
    refine jr_ (vB (decide ((s.getD 2 0) &&& 1 = (1 : UInt8)))) ?_
    refine jr_ (vB (decide ((s.getD 2 0) &&& 2 = (2 : UInt8)))) ?_
    refine jr_ (vS (sub s 4 (4 + ((s.getD 3 0).toNat)))) ?_
    refine JO_call [] [] [] rfl trivial (fun _ => x_call Ty.ca13 rfl) (fun _ h => h) (fun _ h => by cases h) (fun w hS => f13_ok ((((s.getD 0 0).toNat) ||| (((s.getD 1 0).toNat) * 2 ^ 8) : Nat) : Int) (decide ((s.getD 2 0) &&& 1 = (1 : UInt8))) (decide ((s.getD 2 0) &&& 2 = (2 : UInt8))) (sub s 4 (4 + ((s.getD 3 0).toNat))) w hy_) ?_
    rintro _ _ ⟨rfl, rfl⟩
    have ha14 := R14.frame_le R02.updateN ((((s.getD 0 0).toNat) ||| (((s.getD 1 0).toNat) * 2 ^ 8) : Nat) : Int) (decide ((s.getD 2 0) &&& 1 = (1 : UInt8))) (decide ((s.getD 2 0) &&& 2 = (2 : UInt8))) (sub s 4 (4 + ((s.getD 3 0).toNat)))
    refine jr_ (vS s) ?_
    refine JO_read (vB (decide (R14.frame R02.updateN ((((s.getD 0 0).toNat) ||| (((s.getD 1 0).toNat) * 2 ^ 8) : Nat) : Int) (decide ((s.getD 2 0) &&& 1 = (1 : UInt8))) (decide ((s.getD 2 0) &&& 2 = (2 : UInt8))) (sub s 4 (4 + ((s.getD 3 0).toNat))) ≠ s))) rfl trivial (fun _ _ => x_neq_s rfl rfl) ?_
    refine JO_nil (JX_then ?_)
    refine J_cond (decide (R14.frame R02.updateN ((((s.getD 0 0).toNat) ||| (((s.getD 1 0).toNat) * 2 ^ 8) : Nat) : Int) (decide ((s.getD 2 0) &&& 1 = (1 : UInt8))) (decide ((s.getD 2 0) &&& 2 = (2 : UInt8))) (sub s 4 (4 + ((s.getD 3 0).toNat))) ≠ s)) rfl rfl (fun h15 => ?_) (fun h15 => ?_)
    · have h15 := of_decide_eq_true h15
      refine J_seq (J_region ?_)
      refine jr_ (vI 0) ?_
      refine jr_ (vB false) ?_
      refine jr_ (vB false) ?_
      refine jr_ (vS []) ?_
      refine jr_ (vI 11) ?_
      refine JO_nil (JX_then (J_ret (JX_then_ret ?_)))
      refine JX_rets [vI 0, vB false, vB false, vS [], vI 11] (Value.tuple #[vI 0, vB false, vB false, vS [], vI 11]) Try.results11 (fun w h => ⟨rfl, rfl, rfl, rfl, rfl, trivial⟩) rfl [] (fun _ h => h) ⟨?_, ?_⟩
      · have e_x0 : (0 : Int) = (R14.rfN R02.updateN s) := by first | exact R14.rfN_bad (R14.rOk_pre (by assumption)) | exact R14.rfN_bad (R14.rOkN_ne (by assumption) (by assumption)) | (have hR := R14.rOkN_eq (up := R02.updateN) (s := s) (by assumption) (by assumption) (by assumption) (by assumption) (by assumption); rw [R14.rN_or]; exact R14.rfN_ok hR)
        have e_x1 : (false : Bool) = (R14.rfA R02.updateN s) := by first | exact R14.rfA_bad (R14.rOk_pre (by assumption)) | exact R14.rfA_bad (R14.rOkN_ne (by assumption) (by assumption)) | (have hR := R14.rOkN_eq (up := R02.updateN) (s := s) (by assumption) (by assumption) (by assumption) (by assumption) (by assumption); rw [R14.rA_and]; exact R14.rfA_ok hR)
        have e_x2 : (false : Bool) = (R14.rfB R02.updateN s) := by first | exact R14.rfB_bad (R14.rOk_pre (by assumption)) | exact R14.rfB_bad (R14.rOkN_ne (by assumption) (by assumption)) | (have hR := R14.rOkN_eq (up := R02.updateN) (s := s) (by assumption) (by assumption) (by assumption) (by assumption) (by assumption); rw [R14.rB_and (by assumption)]; exact R14.rfB_ok hR)
        have e_x3 : ([] : Bytes) = (R14.rfD R02.updateN s) := by first | exact R14.rfD_bad (R14.rOk_pre (by assumption)) | exact R14.rfD_bad (R14.rOkN_ne (by assumption) (by assumption)) | (have hR := R14.rOkN_eq (up := R02.updateN) (s := s) (by assumption) (by assumption) (by assumption) (by assumption) (by assumption);  exact R14.rfD_ok hR)
        have e_x4 : (11 : Int) = (R14.rfE R02.updateN s) := by first | exact R14.rfE_bad (R14.rOk_pre (by assumption)) | exact R14.rfE_bad (R14.rOkN_ne (by assumption) (by assumption)) | (have hR := R14.rOkN_eq (up := R02.updateN) (s := s) (by assumption) (by assumption) (by assumption) (by assumption) (by assumption);  exact R14.rfE_ok hR)
        have e_all := (congr (congr (congr (congr (congrArg (fun (x0 : Int) (x1 : Bool) (x2 : Bool) (x3 : Bytes) (x4 : Int) => Value.tuple #[vI x0, vB x1, vB x2, vS x3, vI x4]) e_x0) e_x1) e_x2) e_x3) e_x4)
        exact e_all
      · rfl
    · have h15 := of_decide_eq_false h15
      refine J_skip (JX_then (J_seq (J_region ?_)))
      refine jr_ (vI ((((s.getD 0 0).toNat) ||| (((s.getD 1 0).toNat) * 2 ^ 8) : Nat) : Int)) ?_
      refine jr_ (vB (decide ((s.getD 2 0) &&& 1 = (1 : UInt8)))) ?_
      refine jr_ (vB (decide ((s.getD 2 0) &&& 2 = (2 : UInt8)))) ?_
      refine jr_ (vS (sub s 4 (4 + ((s.getD 3 0).toNat)))) ?_
      refine jr_ (vI ((((s.getD 0 0).toNat) ||| (((s.getD 1 0).toNat) * 2 ^ 8) : Nat) : Int)) ?_
      refine jr_ (vB (decide ((s.getD 2 0) &&& 1 = (1 : UInt8)))) ?_
      refine jr_ (vB (decide ((s.getD 2 0) &&& 2 = (2 : UInt8)))) ?_
      refine jr_ (vS (sub s 4 (4 + ((s.getD 3 0).toNat)))) ?_
      refine jr_ (vI 0) ?_
      refine JO_nil (JX_then (J_ret ?_))
      refine JX_rets [vI ((((s.getD 0 0).toNat) ||| (((s.getD 1 0).toNat) * 2 ^ 8) : Nat) : Int), vB (decide ((s.getD 2 0) &&& 1 = (1 : UInt8))), vB (decide ((s.getD 2 0) &&& 2 = (2 : UInt8))), vS (sub s 4 (4 + ((s.getD 3 0).toNat))), vI 0] (Value.tuple #[vI ((((s.getD 0 0).toNat) ||| (((s.getD 1 0).toNat) * 2 ^ 8) : Nat) : Int), vB (decide ((s.getD 2 0) &&& 1 = (1 : UInt8))), vB (decide ((s.getD 2 0) &&& 2 = (2 : UInt8))), vS (sub s 4 (4 + ((s.getD 3 0).toNat))), vI 0]) Try.results11 (fun w h => ⟨rfl, rfl, rfl, rfl, rfl, trivial⟩) rfl [] (fun _ h => h) ⟨?_, ?_⟩
      · have e_x0 : (((((s.getD 0 0).toNat) ||| (((s.getD 1 0).toNat) * 2 ^ 8) : Nat) : Int) : Int) = (R14.rfN R02.updateN s) := by first | exact R14.rfN_bad (R14.rOk_pre (by assumption)) | exact R14.rfN_bad (R14.rOkN_ne (by assumption) (by assumption)) | (have hR := R14.rOkN_eq (up := R02.updateN) (s := s) (by assumption) (by assumption) (by assumption) (by assumption) (by assumption); rw [R14.rN_or]; exact R14.rfN_ok hR)
        have e_x1 : (decide ((s.getD 2 0) &&& 1 = (1 : UInt8)) : Bool) = (R14.rfA R02.updateN s) := by first | exact R14.rfA_bad (R14.rOk_pre (by assumption)) | exact R14.rfA_bad (R14.rOkN_ne (by assumption) (by assumption)) | (have hR := R14.rOkN_eq (up := R02.updateN) (s := s) (by assumption) (by assumption) (by assumption) (by assumption) (by assumption); rw [R14.rA_and]; exact R14.rfA_ok hR)
        have e_x2 : (decide ((s.getD 2 0) &&& 2 = (2 : UInt8)) : Bool) = (R14.rfB R02.updateN s) := by first | exact R14.rfB_bad (R14.rOk_pre (by assumption)) | exact R14.rfB_bad (R14.rOkN_ne (by assumption) (by assumption)) | (have hR := R14.rOkN_eq (up := R02.updateN) (s := s) (by assumption) (by assumption) (by assumption) (by assumption) (by assumption); rw [R14.rB_and (by assumption)]; exact R14.rfB_ok hR)
        have e_x3 : (sub s 4 (4 + ((s.getD 3 0).toNat)) : Bytes) = (R14.rfD R02.updateN s) := by first | exact R14.rfD_bad (R14.rOk_pre (by assumption)) | exact R14.rfD_bad (R14.rOkN_ne (by assumption) (by assumption)) | (have hR := R14.rOkN_eq (up := R02.updateN) (s := s) (by assumption) (by assumption) (by assumption) (by assumption) (by assumption);  exact R14.rfD_ok hR)
        have e_x4 : (0 : Int) = (R14.rfE R02.updateN s) := by first | exact R14.rfE_bad (R14.rOk_pre (by assumption)) | exact R14.rfE_bad (R14.rOkN_ne (by assumption) (by assumption)) | (have hR := R14.rOkN_eq (up := R02.updateN) (s := s) (by assumption) (by assumption) (by assumption) (by assumption) (by assumption);  exact R14.rfE_ok hR)
        have e_all := (congr (congr (congr (congr (congrArg (fun (x0 : Int) (x1 : Bool) (x2 : Bool) (x3 : Bytes) (x4 : Int) => Value.tuple #[vI x0, vB x1, vB x2, vS x3, vI x4]) e_x0) e_x1) e_x2) e_x3) e_x4)
        exact e_all
      · rfl
end Go.Proofs.Ytodfebhimadaiaa
