/- contracts C14b -/
import Derived.Test.YtodfebhimadaiaaC14a
namespace Go.Proofs.Ytodfebhimadaiaa
open Go.GV
set_option linter.unusedVariables false
set_option linter.unusedSimpArgs false
set_option maxRecDepth 20000 in
theorem f58_ok (s : Bytes) (n : UInt64) (w : World) (q0 : s.length ≤ 4611686018427387904) : Calls Try.prog 58 #[vS s, vU64 n] w (Gives [] w fun v L => v = vS (s ++ R01.num n.toNat) ∧ L = []) := by
  refine calls_J [] 28 Try.func58 rfl Try.ntmps58 [(0, vS s), (1, vU64 n)] rfl rfl (Give.nil w) ?_
  refine J_seq (J_region ?_)
  refine jr_ (vS []) ?_
  refine JO_nil (JX_then (J_seq (J_region ?_)))
  refine JO_op rfl trivial (O_alloc Ty.ze125 rfl fun b1 => ?_)
  refine JO_nil (JX_then (J_seq (J_region ?_)))
  refine jr_ (vI 0) ?_
  refine JO_nil (JX_then (J_seq (J_block ?_)))
  refine J_loop (X := Nat × UInt64 × (List UInt8)) (fun (⟨k, m, bs⟩ : Nat × UInt64 × (List UInt8)) => (k ≤ 9) ∧ (bs.length = 10) ∧ (bs.take k ++ R01.num m.toNat = R01.num n.toNat) ∧ (m.toNat < 2 ^ (64 - 7 * k))) (fun (⟨k, m, bs⟩ : Nat × UInt64 × (List UInt8)) => [(0, vS s), (1, vU64 m), (4, vS []), (5, Value.pointer (some ⟨b1, 0, none⟩)), (6, vI ((k : Nat) : Int))]) (fun (⟨k, m, bs⟩ : Nat × UInt64 × (List UInt8)) => [Ent.blk b1 125 (bs.map vU8)]) (fun (⟨k, m, bs⟩ : Nat × UInt64 × (List UInt8)) => m.toNat) ((0, n, [0, 0, 0, 0, 0, 0, 0, 0, 0, 0]) : Nat × UInt64 × (List UInt8)) ?_ ⟨rfl, rfl, rfl, rfl, rfl, trivial⟩ (fun _ h => h) ?_
  · show (0 ≤ 9) ∧ ([0, 0, 0, 0, 0, 0, 0, 0, 0, 0].length = 10) ∧ ([0, 0, 0, 0, 0, 0, 0, 0, 0, 0].take 0 ++ R01.num n.toNat = R01.num n.toNat) ∧ (n.toNat < 2 ^ (64 - 7 * 0))
    refine ⟨?_, ?_, ?_, ?_⟩
    · first | rfl | omega | (simp_all; done) | (simp_all; omega)
    · rfl
    · rfl
    · exact n.toNat_lt
  rintro ⟨k, m, bs⟩ hI1
  obtain ⟨i1_0, i1_1, i1_2, i1_3⟩ : (k ≤ 9) ∧ (bs.length = 10) ∧ (bs.take k ++ R01.num m.toNat = R01.num n.toNat) ∧ (m.toNat < 2 ^ (64 - 7 * k)) := hI1
  refine J_weaken (E' := [(0, vS s), (1, vU64 m), (4, vS []), (5, Value.pointer (some ⟨b1, 0, none⟩)), (6, vI ((k : Nat) : Int))]) (L' := [Ent.blk b1 125 (bs.map vU8)]) ⟨rfl, rfl, rfl, rfl, rfl, trivial⟩ (fun _ h => h) ?_
  refine J_seq (J_seq (J_region ?_))
  refine jr_ (vU64 m) ?_
  refine JO_read (vB (decide ((128 : UInt64) ≤ m))) rfl trivial (fun _ _ => x_geq_u64 rfl rfl) ?_
  refine JO_nil (JX_then ?_)
  refine J_cond (decide ((128 : UInt64) ≤ m)) rfl rfl (fun h2 => ?_) (fun h2 => ?_)
  · have h2 := of_decide_eq_true h2
    have h2u := h2
    try simp only [UInt8.lt_iff_toNat_lt, UInt8.le_iff_toNat_le, UInt8.reduceToNat, UInt32.lt_iff_toNat_lt, UInt32.le_iff_toNat_le, UInt32.reduceToNat, UInt64.lt_iff_toNat_lt, UInt64.le_iff_toNat_le, UInt64.reduceToNat] at h2u
    refine J_skip (JX_then (J_block (J_seq (J_region ?_))))
    refine jr_ (vI ((k : Nat) : Int)) ?_
    refine jr_ (vU64 m) ?_
    refine JO_read (vU8 m.toUInt8) rfl trivial (fun _ _ => x_conv_u64_u8 rfl Try.underlying104 Try.underlying5) ?_
    refine JO_read (vU8 (m.toUInt8 ||| 128)) rfl trivial (fun _ _ => x_or_u8 rfl rfl) ?_
    refine JO_read (Value.pointer (some ⟨b1, k, none⟩)) rfl trivial (fun _ _ => x_indexAddr_arr (k := k) Try.underlying125 Ty.sz5 rfl rfl lt_ (add_0k1 _ _)) ?_
    refine JO_op rfl trivial (O_store_arr (a := m.toUInt8 ||| 128) 0 vU8 [Ent.blk b1 125 ((bs.set k (m.toUInt8 ||| 128)).map vU8)] rfl rfl rfl Ty.sz5 rfl lt_ rfl ?_)
    refine JO_nil (JX_then (J_seq (J_region ?_)))
    refine jr_ (vU64 m) ?_
    refine JO_read (vU64 (UInt64.ofBitVec (m.toBitVec >>> (7 : Nat)))) rfl trivial (fun _ _ => x_shr_u64 (m := 7) rfl rfl (by decide)) ?_
    refine jr_ (vU64 (UInt64.ofBitVec (m.toBitVec >>> (7 : Nat)))) ?_
    refine JO_nil (JX_then (J_region ?_))
    refine jr_ (vI ((k : Nat) : Int)) ?_
    refine JO_read (vI ((k + 1 : Nat) : Int)) rfl trivial (fun _ _ => x_add_n (a := k) (b := 1) rfl rfl (by omega)) ?_
    refine jr_ (vI ((k + 1 : Nat) : Int)) ?_
    refine JO_nil (JX_block ?_)
    refine JX_round ((k + 1, UInt64.ofBitVec (m.toBitVec >>> (7 : Nat)), bs.set k (m.toUInt8 ||| 128)) : Nat × UInt64 × (List UInt8)) ?_ ?_ ⟨rfl, rfl, rfl, rfl, rfl, trivial⟩ (fun _ h => h)
    · show ((k + 1) ≤ 9) ∧ ((bs.set k (m.toUInt8 ||| 128)).length = 10) ∧ ((bs.set k (m.toUInt8 ||| 128)).take (k + 1) ++ R01.num (UInt64.ofBitVec (m.toBitVec >>> (7 : Nat))).toNat = R01.num n.toNat) ∧ ((UInt64.ofBitVec (m.toBitVec >>> (7 : Nat))).toNat < 2 ^ (64 - 7 * (k + 1)))
      refine ⟨?_, ?_, ?_, ?_⟩
      · exact (R01.app_step i1_1 i1_0 i1_2 i1_3 (by assumption)).1
      · simp [i1_1]
      · exact (R01.app_step i1_1 i1_0 i1_2 i1_3 (by assumption)).2.1
      · exact (R01.app_step i1_1 i1_0 i1_2 i1_3 (by assumption)).2.2.1
    · show (UInt64.ofBitVec (m.toBitVec >>> (7 : Nat))).toNat < m.toNat
      exact (R01.app_step i1_1 i1_0 i1_2 i1_3 (by assumption)).2.2.2
  · have h2 := of_decide_eq_false h2
    have h2u := h2
    try simp only [UInt8.lt_iff_toNat_lt, UInt8.le_iff_toNat_le, UInt8.reduceToNat, UInt32.lt_iff_toNat_lt, UInt32.le_iff_toNat_le, UInt32.reduceToNat, UInt64.lt_iff_toNat_lt, UInt64.le_iff_toNat_le, UInt64.reduceToNat] at h2u
    refine J_exit (JX_then_exit (JX_round_exit (JX_block_hit (JX_then (J_seq ?_)))))
    refine J_region ?_
    refine jr_ (vI ((k : Nat) : Int)) ?_
    refine jr_ (vU64 m) ?_
    refine JO_read (vU8 m.toUInt8) rfl trivial (fun _ _ => x_conv_u64_u8 rfl Try.underlying104 Try.underlying5) ?_
    refine JO_read (Value.pointer (some ⟨b1, k, none⟩)) rfl trivial (fun _ _ => x_indexAddr_arr (k := k) Try.underlying125 Ty.sz5 rfl rfl lt_ (add_0k1 _ _)) ?_
    refine JO_op rfl trivial (O_store_arr (a := m.toUInt8) 0 vU8 [Ent.blk b1 125 ((bs.set k m.toUInt8).map vU8)] rfl rfl rfl Ty.sz5 rfl lt_ rfl ?_)
    refine JO_nil (JX_then (J_seq (J_region ?_)))
    refine jr_ (vS s) ?_
    refine jr_ (vI ((k : Nat) : Int)) ?_
    refine JO_read (vI ((k + 1 : Nat) : Int)) rfl trivial (fun _ _ => x_add_n (a := k) (b := 1) rfl rfl (by omega)) ?_
    refine JO_read (Value.slice (some ⟨b1, 0, none⟩) (k + 1) 10) rfl trivial (fun _ _ => x_subarr (lo := 0) (hi := k + 1) rfl Try.underlying125 Ty.sz5 (.inr ⟨rfl, rfl⟩) (.inl rfl) lt_ lt_ lt_ rfl) ?_
    refine JO_read (vS (((bs.set k m.toUInt8).drop 0).take (k + 1))) rfl trivial (x_str_arr 0 (off := 0) (n := k + 1) rfl Try.underlying57 Try.underlying5 Try.underlying9 rfl lt_) ?_
    refine JO_read (vS (s ++ (((bs.set k m.toUInt8).drop 0).take (k + 1)))) rfl trivial (fun _ _ => x_cat_s rfl rfl (by first | omega | (simp only [List.length_append, List.length_cons, List.length_nil]; omega) | (simp; omega) | (simp_all; omega))) ?_
    refine jr_ (vS (s ++ (((bs.set k m.toUInt8).drop 0).take (k + 1)))) ?_
    refine JO_nil (JX_then (J_ret ?_))
    refine JX_rets [vS (s ++ (((bs.set k m.toUInt8).drop 0).take (k + 1)))] (vS (s ++ (((bs.set k m.toUInt8).drop 0).take (k + 1)))) Try.results58 (fun w h => ⟨rfl, trivial⟩) rfl [] (fun _ h => h.keep [false] rfl) ⟨?_, ?_⟩
    · have e_x0 : (s ++ (((bs.set k m.toUInt8).drop 0).take (k + 1)) : Bytes) = (s ++ R01.num n.toNat) := R01.app_done i1_1 i1_0 i1_2 (by assumption)
      exact congrArg (fun (x0 : Bytes) => vS x0) e_x0
    · rfl
set_option maxRecDepth 20000 in
theorem f59_ok (s : Bytes) (b : Bool) (w : World) (q0 : s.length ≤ 4611686018427387904) : Calls Try.prog 59 #[vS s, vB b] w (Gives [] w fun v L => v = vS (s ++ R01.bool b) ∧ L = []) := by
  refine calls_J [] 10 Try.func59 rfl Try.ntmps59 [(0, vS s), (1, vB b)] rfl rfl (Give.nil w) ?_
  refine J_seq (J_region ?_)
  refine jr_ (vS []) ?_
  refine JO_nil (JX_then (J_seq (J_seq (J_region ?_))))
  refine jr_ (vB b) ?_
  refine JO_nil (JX_then ?_)
  refine J_cond (b) rfl rfl (fun h1 => ?_) (fun h1 => ?_)
  · refine J_seq (J_region ?_)
    refine jr_ (vS s) ?_
    refine JO_read (vS (s ++ [1])) rfl trivial (fun _ _ => x_cat_s rfl rfl (by first | omega | (simp only [List.length_append, List.length_cons, List.length_nil]; omega) | (simp; omega) | (simp_all; omega))) ?_
    refine jr_ (vS (s ++ [1])) ?_
    refine JO_nil (JX_then (J_ret (JX_then_ret ?_)))
    refine JX_rets [vS (s ++ [1])] (vS (s ++ [1])) Try.results59 (fun w h => ⟨rfl, trivial⟩) rfl [] (fun _ h => h) ⟨?_, ?_⟩
    · have e_x0 : (s ++ [1] : Bytes) = (s ++ R01.bool b) := by subst_vars; rfl
      exact congrArg (fun (x0 : Bytes) => vS x0) e_x0
    · rfl
  · refine J_skip (JX_then (J_seq (J_region ?_)))
    refine jr_ (vS s) ?_
    refine JO_read (vS (s ++ [0])) rfl trivial (fun _ _ => x_cat_s rfl rfl (by first | omega | (simp only [List.length_append, List.length_cons, List.length_nil]; omega) | (simp; omega) | (simp_all; omega))) ?_
    refine jr_ (vS (s ++ [0])) ?_
    refine JO_nil (JX_then (J_ret ?_))
    refine JX_rets [vS (s ++ [0])] (vS (s ++ [0])) Try.results59 (fun w h => ⟨rfl, trivial⟩) rfl [] (fun _ h => h) ⟨?_, ?_⟩
    · have e_x0 : (s ++ [0] : Bytes) = (s ++ R01.bool b) := by subst_vars; rfl
      exact congrArg (fun (x0 : Bytes) => vS x0) e_x0
    · rfl
set_option maxRecDepth 20000 in
theorem f60_ok (s : Bytes) (t : Bytes) (w : World) (q0 : s.length ≤ 4611686018427387904) (q1 : t.length ≤ 1073741824) : Calls Try.prog 60 #[vS s, vS t] w (Gives [] w fun v L => v = vS (s ++ R01.text t) ∧ L = []) := by
  have hn := R01.num_len (UInt64.ofNat t.length)
  refine calls_J [] 12 Try.func60 rfl Try.ntmps60 [(0, vS s), (1, vS t)] rfl rfl (Give.nil w) ?_
  refine J_seq (J_region ?_)
  refine jr_ (vS []) ?_
  refine JO_nil (JX_then (J_seq (J_region ?_)))
  refine jr_ (vS s) ?_
  refine jr_ (vS t) ?_
  refine JO_read (vI ((t.length : Nat) : Int)) rfl trivial (fun _ _ => x_len_s rfl Try.underlying9) ?_
  refine JO_read (vU64 (UInt64.ofNat t.length)) rfl trivial (fun _ _ => x_conv_n_u64 (a := t.length) rfl Try.underlying3 Try.underlying104) ?_
  refine JO_call [] [] [] rfl trivial (fun _ => x_call Ty.ca58 rfl) (fun _ h => h) (fun _ h => by cases h) (fun w hS => f58_ok s (UInt64.ofNat t.length) w hy_) ?_
  rintro _ _ ⟨rfl, rfl⟩
  have ha1 := R01.num_len (UInt64.ofNat t.length)
  refine jr_ (vS t) ?_
  refine JO_read (vS ((s ++ R01.num (UInt64.ofNat t.length).toNat) ++ t)) rfl trivial (fun _ _ => x_cat_s rfl rfl (by first | omega | (simp only [List.length_append, List.length_cons, List.length_nil]; omega) | (simp; omega) | (simp_all; omega))) ?_
  refine jr_ (vS ((s ++ R01.num (UInt64.ofNat t.length).toNat) ++ t)) ?_
  refine JO_nil (JX_then (J_ret ?_))
  refine JX_rets [vS ((s ++ R01.num (UInt64.ofNat t.length).toNat) ++ t)] (vS ((s ++ R01.num (UInt64.ofNat t.length).toNat) ++ t)) Try.results60 (fun w h => ⟨rfl, trivial⟩) rfl [] (fun _ h => h) ⟨?_, ?_⟩
  · have e_x0 : ((s ++ R01.num (UInt64.ofNat t.length).toNat) ++ t : Bytes) = (s ++ R01.text t) := by rw [List.append_assoc, R01.text_eq (by omega)]
    exact congrArg (fun (x0 : Bytes) => vS x0) e_x0
  · rfl
set_option maxRecDepth 20000 in
theorem f13_ok (n : Int) (a : Bool) (b : Bool) (d : Bytes) (w : World) (q0 : d.length ≤ 1073741824) : Calls Try.prog 13 #[vI n, vB a, vB b, vS d] w (Gives [] w fun v L => v = vS (R14.frame R02.updateN n a b d) ∧ L = []) := by
  refine calls_J [] 53 Try.func13 rfl Try.ntmps13 [(0, vI n), (1, vB a), (2, vB b), (3, vS d)] rfl rfl (Give.nil w) ?_
  refine J_seq (J_region ?_)
  refine jr_ (vS []) ?_
  refine JO_nil (JX_then (J_seq (J_seq (J_region ?_))))
  refine jr_ (vI n) ?_
  refine JO_read (vB (decide (n < 0))) rfl trivial (fun _ _ => x_lss_i rfl rfl) ?_
  refine jr_ (vB (decide (n < 0))) ?_
  refine JO_cut (X := Bool) 3 (fun z => z = ((decide (n < 0)) || (decide ((65535 : Int) < n)))) (fun z => [(0, vI n), (1, vB a), (2, vB b), (3, vS d), (8, vS []), (16, vB z)]) (fun _ => []) ?_ ?_
  · rcases Bool.eq_false_or_eq_true (decide (n < 0)) with g2 | g2
    · have g2r := g2
      have g2r := of_decide_eq_true g2r
      refine JO_shun rfl ⟨_, rfl, g2⟩ ?_
      refine JO_shun rfl ⟨_, rfl, g2⟩ ?_
      refine JO_read (vB true) rfl trivial (fun _ _ => x_pick_t rfl g2 rfl) ?_
      refine JO_nil (JX_cut (true) (by rw [g2]; simp) ⟨rfl, rfl, rfl, rfl, rfl, rfl, trivial⟩ (fun _ h => h))
    · have g2r := g2
      have g2r := of_decide_eq_false g2r
      refine JO_read (vI n) rfl ⟨_, rfl, g2⟩ (fun _ _ => rfl) ?_
      refine JO_read (vB (decide ((65535 : Int) < n))) rfl ⟨_, rfl, g2⟩ (fun _ _ => x_gtr_i rfl rfl) ?_
      refine JO_read (vB (decide ((65535 : Int) < n))) rfl trivial (fun _ _ => x_pick_f rfl g2 rfl) ?_
      refine JO_nil (JX_cut (decide ((65535 : Int) < n)) (by rw [g2]; simp) ⟨rfl, rfl, rfl, rfl, rfl, rfl, trivial⟩ (fun _ h => h))
  rintro z1 rfl
  refine jr_ (vB ((decide (n < 0)) || (decide ((65535 : Int) < n)))) ?_
  refine JO_cut (X := Bool) 4 (fun z => z = (((decide (n < 0)) || (decide ((65535 : Int) < n))) || (decide (((d.length : Nat) : Int) < 1)))) (fun z => [(0, vI n), (1, vB a), (2, vB b), (3, vS d), (8, vS []), (21, vB z)]) (fun _ => []) ?_ ?_
  · rcases Bool.eq_false_or_eq_true ((decide (n < 0)) || (decide ((65535 : Int) < n))) with g4 | g4
    · have g4r := g4
      simp only [Bool.and_eq_true, Bool.or_eq_true, Bool.and_eq_false_iff, Bool.or_eq_false_iff, Bool.not_eq_true', Bool.not_eq_false', decide_eq_true_eq, decide_eq_false_iff_not] at g4r
      refine JO_shun rfl ⟨_, rfl, g4⟩ ?_
      refine JO_shun rfl ⟨_, rfl, g4⟩ ?_
      refine JO_shun rfl ⟨_, rfl, g4⟩ ?_
      refine JO_read (vB true) rfl trivial (fun _ _ => x_pick_t rfl g4 rfl) ?_
      refine JO_nil (JX_cut (true) (by rw [g4]; simp) ⟨rfl, rfl, rfl, rfl, rfl, rfl, trivial⟩ (fun _ h => h))
    · have g4r := g4
      have ⟨g4r, h5⟩ := bor_false g4r
      have g4r := of_decide_eq_false g4r
      have h5 := of_decide_eq_false h5
      refine JO_read (vS d) rfl ⟨_, rfl, g4⟩ (fun _ _ => rfl) ?_
      refine JO_read (vI ((d.length : Nat) : Int)) rfl ⟨_, rfl, g4⟩ (fun _ _ => x_len_s rfl Try.underlying9) ?_
      refine JO_read (vB (decide (((d.length : Nat) : Int) < 1))) rfl ⟨_, rfl, g4⟩ (fun _ _ => x_lss_i rfl rfl) ?_
      refine JO_read (vB (decide (((d.length : Nat) : Int) < 1))) rfl trivial (fun _ _ => x_pick_f rfl g4 rfl) ?_
      refine JO_nil (JX_cut (decide (((d.length : Nat) : Int) < 1)) (by rw [g4]; simp) ⟨rfl, rfl, rfl, rfl, rfl, rfl, trivial⟩ (fun _ h => h))
  rintro z3 rfl
  refine jr_ (vB (((decide (n < 0)) || (decide ((65535 : Int) < n))) || (decide (((d.length : Nat) : Int) < 1)))) ?_
  refine JO_cut (X := Bool) 4 (fun z => z = ((((decide (n < 0)) || (decide ((65535 : Int) < n))) || (decide (((d.length : Nat) : Int) < 1))) || (decide ((56 : Int) < ((d.length : Nat) : Int))))) (fun z => [(0, vI n), (1, vB a), (2, vB b), (3, vS d), (8, vS []), (26, vB z)]) (fun _ => []) ?_ ?_
  · rcases Bool.eq_false_or_eq_true (((decide (n < 0)) || (decide ((65535 : Int) < n))) || (decide (((d.length : Nat) : Int) < 1))) with g7 | g7
    · have g7r := g7
      simp only [Bool.and_eq_true, Bool.or_eq_true, Bool.and_eq_false_iff, Bool.or_eq_false_iff, Bool.not_eq_true', Bool.not_eq_false', decide_eq_true_eq, decide_eq_false_iff_not] at g7r
      refine JO_shun rfl ⟨_, rfl, g7⟩ ?_
      refine JO_shun rfl ⟨_, rfl, g7⟩ ?_
      refine JO_shun rfl ⟨_, rfl, g7⟩ ?_
      refine JO_read (vB true) rfl trivial (fun _ _ => x_pick_t rfl g7 rfl) ?_
      refine JO_nil (JX_cut (true) (by rw [g7]; simp) ⟨rfl, rfl, rfl, rfl, rfl, rfl, trivial⟩ (fun _ h => h))
    · have g7r := g7
      have ⟨g7r, h8⟩ := bor_false g7r
      have ⟨g7r, h9⟩ := bor_false g7r
      have g7r := of_decide_eq_false g7r
      have h9 := of_decide_eq_false h9
      have h8 := of_decide_eq_false h8
      refine JO_read (vS d) rfl ⟨_, rfl, g7⟩ (fun _ _ => rfl) ?_
      refine JO_read (vI ((d.length : Nat) : Int)) rfl ⟨_, rfl, g7⟩ (fun _ _ => x_len_s rfl Try.underlying9) ?_
      refine JO_read (vB (decide ((56 : Int) < ((d.length : Nat) : Int)))) rfl ⟨_, rfl, g7⟩ (fun _ _ => x_gtr_i rfl rfl) ?_
      refine JO_read (vB (decide ((56 : Int) < ((d.length : Nat) : Int)))) rfl trivial (fun _ _ => x_pick_f rfl g7 rfl) ?_
      refine JO_nil (JX_cut (decide ((56 : Int) < ((d.length : Nat) : Int))) (by rw [g7]; simp) ⟨rfl, rfl, rfl, rfl, rfl, rfl, trivial⟩ (fun _ h => h))
  rintro z6 rfl
  refine JO_nil (JX_then ?_)
  refine J_cond ((((decide (n < 0)) || (decide ((65535 : Int) < n))) || (decide (((d.length : Nat) : Int) < 1))) || (decide ((56 : Int) < ((d.length : Nat) : Int)))) rfl rfl (fun h10 => ?_) (fun h10 => ?_)
  · simp only [Bool.and_eq_true, Bool.or_eq_true, Bool.and_eq_false_iff, Bool.or_eq_false_iff, Bool.not_eq_true', Bool.not_eq_false', decide_eq_true_eq, decide_eq_false_iff_not] at h10
    refine J_seq (J_region ?_)
    refine jr_ (vS []) ?_
    refine JO_nil (JX_then (J_ret (JX_then_ret ?_)))
    refine JX_rets [vS []] (vS []) Try.results13 (fun w h => ⟨rfl, trivial⟩) rfl [] (fun _ h => h) ⟨?_, ?_⟩
    · have e_x0 : ([] : Bytes) = (R14.frame R02.updateN n a b d) := by first | exact R14.frame_bad (by omega) | exact R14.frame_of (by omega) (by rw [R14.marks_or]; exact R14.frame_buf60 rfl (by omega))
      exact congrArg (fun (x0 : Bytes) => vS x0) e_x0
    · rfl
  · have ⟨h10, h11⟩ := bor_false h10
    have ⟨h10, h12⟩ := bor_false h10
    have ⟨h10, h13⟩ := bor_false h10
    have h10 := of_decide_eq_false h10
    have h13 := of_decide_eq_false h13
    have h12 := of_decide_eq_false h12
    have h11 := of_decide_eq_false h11
    refine J_skip (JX_then (J_seq (J_region ?_)))
    refine jr_ (vU8 0) ?_
    refine JO_nil (JX_then (J_seq (J_seq (J_region ?_))))
    refine jr_ (vB a) ?_
    refine JO_nil (JX_then ?_)
    refine J_cutK (X := UInt8) (fun (m14 : UInt8) => m14 = (if (a) = true then 0 ||| 1 else (0 : UInt8))) (fun (m14 : UInt8) => [(0, vI n), (2, vB b), (3, vS d), (8, vS []), (9, vU8 m14)]) (fun (m14 : UInt8) => []) ?_ ?_
    · refine J_cond (a) rfl rfl (fun h15 => ?_) (fun h15 => ?_)
      · have h15r := h15
        have h15 : ((a) = true) := by exact h15
        refine J_region ?_
        refine jr_ (vU8 0) ?_
        refine JO_read (vU8 (0 ||| 1)) rfl trivial (fun _ _ => x_or_u8 rfl rfl) ?_
        refine jr_ (vU8 (0 ||| 1)) ?_
        refine JO_nil ?_
        exact JX_cut (0 ||| 1) (if_pos h15).symm ⟨rfl, rfl, rfl, rfl, rfl, trivial⟩ (fun _ h => h)
      · have h15r := h15
        have h15 : ¬ ((a) = true) := by simp only [h15]; decide
        refine J_skip ?_
        exact JX_cut ((0 : UInt8)) (if_neg h15).symm ⟨rfl, rfl, rfl, rfl, rfl, trivial⟩ (fun _ h => h)
    rintro m14 rfl
    refine JX_then (J_seq (J_seq (J_region ?_)))
    refine jr_ (vB b) ?_
    refine JO_nil (JX_then ?_)
    refine J_cutK (X := UInt8) (fun (m16 : UInt8) => m16 = (if (b) = true then (if (a) = true then 0 ||| 1 else (0 : UInt8)) ||| 2 else (if (a) = true then 0 ||| 1 else (0 : UInt8)))) (fun (m16 : UInt8) => [(0, vI n), (3, vS d), (8, vS []), (9, vU8 m16)]) (fun (m16 : UInt8) => []) ?_ ?_
    · refine J_cond (b) rfl rfl (fun h17 => ?_) (fun h17 => ?_)
      · have h17r := h17
        have h17 : ((b) = true) := by exact h17
        refine J_region ?_
        refine jr_ (vU8 (if (a) = true then 0 ||| 1 else (0 : UInt8))) ?_
        refine JO_read (vU8 ((if (a) = true then 0 ||| 1 else (0 : UInt8)) ||| 2)) rfl trivial (fun _ _ => x_or_u8 rfl rfl) ?_
        refine jr_ (vU8 ((if (a) = true then 0 ||| 1 else (0 : UInt8)) ||| 2)) ?_
        refine JO_nil ?_
        exact JX_cut ((if (a) = true then 0 ||| 1 else (0 : UInt8)) ||| 2) (if_pos h17).symm ⟨rfl, rfl, rfl, rfl, trivial⟩ (fun _ h => h)
      · have h17r := h17
        have h17 : ¬ ((b) = true) := by simp only [h17]; decide
        refine J_skip ?_
        exact JX_cut ((if (a) = true then 0 ||| 1 else (0 : UInt8))) (if_neg h17).symm ⟨rfl, rfl, rfl, rfl, trivial⟩ (fun _ h => h)
    rintro m16 rfl
    refine JX_then (J_seq (J_region ?_))
    refine JO_op rfl trivial (O_make (n := 60) vU8 0 Try.underlying57 Ty.sz5 Ty.ze5 Ty.by5 rfl rfl rfl lt_ lt_ fun b18 => ?_)
    refine jr_ (Value.slice (some ⟨b18, 0, none⟩) 60 60) ?_
    refine JO_nil (JX_then (J_seq (J_region ?_)))
    refine jr_ (Value.slice (some ⟨b18, 0, none⟩) 60 60) ?_
    refine jr_ (vI n) ?_
    refine JO_read (vU8 (UInt8.ofInt n)) rfl trivial (fun _ _ => x_conv_i64_u8 (a := n) rfl Try.underlying3 Try.underlying5) ?_
    refine jr_ (vI n) ?_
    refine JO_read (vI (n / 2 ^ 8)) rfl trivial (fun _ _ => x_shr_i (m := 8) rfl rfl (by decide)) ?_
    refine JO_read (vU8 (UInt8.ofInt (n / 2 ^ 8))) rfl trivial (fun _ _ => x_conv_i64_u8 (a := n / 2 ^ 8) rfl Try.underlying3 Try.underlying5) ?_
    refine jr_ (vU8 (if (b) = true then (if (a) = true then 0 ||| 1 else (0 : UInt8)) ||| 2 else (if (a) = true then 0 ||| 1 else (0 : UInt8)))) ?_
    refine jr_ (vS d) ?_
    refine JO_read (vI ((d.length : Nat) : Int)) rfl trivial (fun _ _ => x_len_s rfl Try.underlying9) ?_
    refine JO_read (vU8 (UInt8.ofNat d.length)) rfl trivial (fun _ _ => x_conv_n_u8 (a := d.length) rfl Try.underlying3 Try.underlying5) ?_
    refine JO_op rfl trivial (O_buildSlice (cs := [vU8 (UInt8.ofInt n), vU8 (UInt8.ofInt (n / 2 ^ 8)), vU8 (if (b) = true then (if (a) = true then 0 ||| 1 else (0 : UInt8)) ||| 2 else (if (a) = true then 0 ||| 1 else (0 : UInt8))), vU8 (UInt8.ofNat d.length)]) Try.underlying57 Ty.sz5 Ty.ze5 (by decide) (by decide) (by kernel_rfl) fun b19 => ?_)
    refine JO_op rfl trivial (O_copy_lit 1 0 (ys := [UInt8.ofInt n, UInt8.ofInt (n / 2 ^ 8), (if (b) = true then (if (a) = true then 0 ||| 1 else (0 : UInt8)) ||| 2 else (if (a) = true then 0 ||| 1 else (0 : UInt8))), UInt8.ofNat d.length]) [Ent.blk b19 5 [vU8 (UInt8.ofInt n), vU8 (UInt8.ofInt (n / 2 ^ 8)), vU8 (if (b) = true then (if (a) = true then 0 ||| 1 else (0 : UInt8)) ||| 2 else (if (a) = true then 0 ||| 1 else (0 : UInt8))), vU8 (UInt8.ofNat d.length)], Ent.blk b18 5 ((splice (List.replicate 60 (0 : UInt8)) 0 (([UInt8.ofInt n, UInt8.ofInt (n / 2 ^ 8), (if (b) = true then (if (a) = true then 0 ||| 1 else (0 : UInt8)) ||| 2 else (if (a) = true then 0 ||| 1 else (0 : UInt8))), UInt8.ofNat d.length].drop 0).take (min 4 60))).map vU8)] rfl rfl rfl rfl Try.underlying57 Ty.sz5 lt_ lt_ rfl ?_)
    refine JO_nil (JX_then (J_seq (J_region ?_)))
    refine jr_ (Value.slice (some ⟨b18, 0, none⟩) 60 60) ?_
    refine JO_read (Value.slice (some ⟨b18, 4, none⟩) 56 56) rfl trivial (fun _ _ => x_subsl (len := 60) (cap := 60) (lo := 4) (hi := 60) rfl Try.underlying57 Ty.sz5 (.inl rfl) (.inr ⟨rfl, rfl⟩) lt_ lt_ lt_ rfl) ?_
    refine jr_ (vS d) ?_
    refine JO_op rfl trivial (O_copy_s 1 [Ent.blk b19 5 [vU8 (UInt8.ofInt n), vU8 (UInt8.ofInt (n / 2 ^ 8)), vU8 (if (b) = true then (if (a) = true then 0 ||| 1 else (0 : UInt8)) ||| 2 else (if (a) = true then 0 ||| 1 else (0 : UInt8))), vU8 (UInt8.ofNat d.length)], Ent.blk b18 5 ((splice (splice (List.replicate 60 (0 : UInt8)) 0 (([UInt8.ofInt n, UInt8.ofInt (n / 2 ^ 8), (if (b) = true then (if (a) = true then 0 ||| 1 else (0 : UInt8)) ||| 2 else (if (a) = true then 0 ||| 1 else (0 : UInt8))), UInt8.ofNat d.length].drop 0).take (min 4 60))) 4 (d.take 56)).map vU8)] rfl rfl rfl Try.underlying57 Ty.sz5 lt_ rfl ?_)
    refine JO_nil (JX_then (J_seq (J_region ?_)))
    refine jr_ (Value.slice (some ⟨b18, 0, none⟩) 60 60) ?_
    refine JO_read (vS (((splice (splice (List.replicate 60 (0 : UInt8)) 0 (([UInt8.ofInt n, UInt8.ofInt (n / 2 ^ 8), (if (b) = true then (if (a) = true then 0 ||| 1 else (0 : UInt8)) ||| 2 else (if (a) = true then 0 ||| 1 else (0 : UInt8))), UInt8.ofNat d.length].drop 0).take (min 4 60))) 4 (d.take 56)).drop 0).take 60)) rfl trivial (x_str_arr 1 (off := 0) (n := 60) rfl Try.underlying57 Try.underlying5 Try.underlying9 rfl lt_) ?_
    refine JO_call [] [] [Ent.blk b19 5 [vU8 (UInt8.ofInt n), vU8 (UInt8.ofInt (n / 2 ^ 8)), vU8 (if (b) = true then (if (a) = true then 0 ||| 1 else (0 : UInt8)) ||| 2 else (if (a) = true then 0 ||| 1 else (0 : UInt8))), vU8 (UInt8.ofNat d.length)], Ent.blk b18 5 ((splice (splice (List.replicate 60 (0 : UInt8)) 0 (([UInt8.ofInt n, UInt8.ofInt (n / 2 ^ 8), (if (b) = true then (if (a) = true then 0 ||| 1 else (0 : UInt8)) ||| 2 else (if (a) = true then 0 ||| 1 else (0 : UInt8))), UInt8.ofNat d.length].drop 0).take (min 4 60))) 4 (d.take 56)).map vU8)] rfl trivial (fun _ => x_call Ty.ca31 rfl) (fun _ h => h) (fun _ h => by cases h) (fun w hS => f31_ok (((splice (splice (List.replicate 60 (0 : UInt8)) 0 (([UInt8.ofInt n, UInt8.ofInt (n / 2 ^ 8), (if (b) = true then (if (a) = true then 0 ||| 1 else (0 : UInt8)) ||| 2 else (if (a) = true then 0 ||| 1 else (0 : UInt8))), UInt8.ofNat d.length].drop 0).take (min 4 60))) 4 (d.take 56)).drop 0).take 60) w hy_) ?_
    rintro _ _ ⟨rfl, rfl⟩
    refine jr_ (vS ((((splice (splice (List.replicate 60 (0 : UInt8)) 0 (([UInt8.ofInt n, UInt8.ofInt (n / 2 ^ 8), (if (b) = true then (if (a) = true then 0 ||| 1 else (0 : UInt8)) ||| 2 else (if (a) = true then 0 ||| 1 else (0 : UInt8))), UInt8.ofNat d.length].drop 0).take (min 4 60))) 4 (d.take 56)).drop 0).take 60) ++ R02.le (R02.updateN 0 (((splice (splice (List.replicate 60 (0 : UInt8)) 0 (([UInt8.ofInt n, UInt8.ofInt (n / 2 ^ 8), (if (b) = true then (if (a) = true then 0 ||| 1 else (0 : UInt8)) ||| 2 else (if (a) = true then 0 ||| 1 else (0 : UInt8))), UInt8.ofNat d.length].drop 0).take (min 4 60))) 4 (d.take 56)).drop 0).take 60)))) ?_
    refine JO_nil (JX_then (J_ret ?_))
    refine JX_rets [vS ((((splice (splice (List.replicate 60 (0 : UInt8)) 0 (([UInt8.ofInt n, UInt8.ofInt (n / 2 ^ 8), (if (b) = true then (if (a) = true then 0 ||| 1 else (0 : UInt8)) ||| 2 else (if (a) = true then 0 ||| 1 else (0 : UInt8))), UInt8.ofNat d.length].drop 0).take (min 4 60))) 4 (d.take 56)).drop 0).take 60) ++ R02.le (R02.updateN 0 (((splice (splice (List.replicate 60 (0 : UInt8)) 0 (([UInt8.ofInt n, UInt8.ofInt (n / 2 ^ 8), (if (b) = true then (if (a) = true then 0 ||| 1 else (0 : UInt8)) ||| 2 else (if (a) = true then 0 ||| 1 else (0 : UInt8))), UInt8.ofNat d.length].drop 0).take (min 4 60))) 4 (d.take 56)).drop 0).take 60)))] (vS ((((splice (splice (List.replicate 60 (0 : UInt8)) 0 (([UInt8.ofInt n, UInt8.ofInt (n / 2 ^ 8), (if (b) = true then (if (a) = true then 0 ||| 1 else (0 : UInt8)) ||| 2 else (if (a) = true then 0 ||| 1 else (0 : UInt8))), UInt8.ofNat d.length].drop 0).take (min 4 60))) 4 (d.take 56)).drop 0).take 60) ++ R02.le (R02.updateN 0 (((splice (splice (List.replicate 60 (0 : UInt8)) 0 (([UInt8.ofInt n, UInt8.ofInt (n / 2 ^ 8), (if (b) = true then (if (a) = true then 0 ||| 1 else (0 : UInt8)) ||| 2 else (if (a) = true then 0 ||| 1 else (0 : UInt8))), UInt8.ofNat d.length].drop 0).take (min 4 60))) 4 (d.take 56)).drop 0).take 60)))) Try.results13 (fun w h => ⟨rfl, trivial⟩) rfl [] (fun _ h => h.keep [false, false] rfl) ⟨?_, ?_⟩
    · have e_x0 : ((((splice (splice (List.replicate 60 (0 : UInt8)) 0 (([UInt8.ofInt n, UInt8.ofInt (n / 2 ^ 8), (if (b) = true then (if (a) = true then 0 ||| 1 else (0 : UInt8)) ||| 2 else (if (a) = true then 0 ||| 1 else (0 : UInt8))), UInt8.ofNat d.length].drop 0).take (min 4 60))) 4 (d.take 56)).drop 0).take 60) ++ R02.le (R02.updateN 0 (((splice (splice (List.replicate 60 (0 : UInt8)) 0 (([UInt8.ofInt n, UInt8.ofInt (n / 2 ^ 8), (if (b) = true then (if (a) = true then 0 ||| 1 else (0 : UInt8)) ||| 2 else (if (a) = true then 0 ||| 1 else (0 : UInt8))), UInt8.ofNat d.length].drop 0).take (min 4 60))) 4 (d.take 56)).drop 0).take 60)) : Bytes) = (R14.frame R02.updateN n a b d) := by first | exact R14.frame_bad (by omega) | exact R14.frame_of (by omega) (by rw [R14.marks_or]; exact R14.frame_buf60 rfl (by omega))
      exact congrArg (fun (x0 : Bytes) => vS x0) e_x0
    · rfl
end Go.Proofs.Ytodfebhimadaiaa
