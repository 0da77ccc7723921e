/- contracts C47g -/
import Derived.Test.YtknibpmmjhmjeaaDoorC47f
namespace Go.Proofs.YtknibpmmjhmjeaaDoor
open Go.GV
set_option linter.unusedVariables false
set_option linter.unusedSimpArgs false

set_option maxRecDepth 20000 in
theorem f64_ok (s : Bytes) (n : UInt64) (w : World) (q0 : s.length ≤ 1073741824) : Calls Tryd.prog 64 #[vS s, vU64 n] w (Gives [] w fun v L => v = vS (s ++ R01.num n.toNat) ∧ L = []) := by
  refine calls_J [] 28 Tryd.func64 rfl Tryd.ntmps64 [(0, vS s), (1, vU64 n)] rfl rfl (Give.nil w) ?_
  refine J_seq ?_
  refine J_region ?_
  refine JO_read (vS []) rfl trivial (fun _ _ => rfl) ?_
  refine JO_nil ?_
  refine JX_then ?_
  refine J_seq ?_
  refine J_region ?_
  refine JO_op rfl trivial (O_alloc Ty.ze94 rfl fun b1 => ?_)
  refine JO_nil ?_
  refine JX_then ?_
  refine J_seq ?_
  refine J_region ?_
  refine JO_read (vI 0) rfl trivial (fun _ _ => rfl) ?_
  refine JO_nil ?_
  refine JX_then ?_
  refine J_seq ?_
  refine J_block ?_
  refine J_loop (X := Nat × UInt64 × (List UInt8)) (fun (⟨k, m, bs⟩ : Nat × UInt64 × (List UInt8)) => (k ≤ 9) ∧ (bs.length = 10) ∧ (bs.take k ++ R01.num m.toNat = R01.num n.toNat) ∧ (m.toNat < 2 ^ (64 - 7 * k))) (fun (⟨k, m, bs⟩ : Nat × UInt64 × (List UInt8)) => [(0, vS s), (1, vU64 m), (4, vS []), (5, Value.pointer (some ⟨b1, 0, none⟩)), (6, vI ((k : Nat) : Int))]) (fun (⟨k, m, bs⟩ : Nat × UInt64 × (List UInt8)) => [Ent.blk b1 94 (bs.map vU8)]) (fun (⟨k, m, bs⟩ : Nat × UInt64 × (List UInt8)) => m.toNat) ((0, n, [0, 0, 0, 0, 0, 0, 0, 0, 0, 0]) : Nat × UInt64 × (List UInt8)) ?_ ⟨rfl, rfl, rfl, rfl, rfl, trivial⟩ (fun _ h => h) ?_
  · show (0 ≤ 9) ∧ ([0, 0, 0, 0, 0, 0, 0, 0, 0, 0].length = 10) ∧ ([0, 0, 0, 0, 0, 0, 0, 0, 0, 0].take 0 ++ R01.num n.toNat = R01.num n.toNat) ∧ (n.toNat < 2 ^ (64 - 7 * 0))
    refine ⟨?_, ?_, ?_, ?_⟩
    · first | rfl | omega | (simp_all; done) | (simp_all; omega)
    · rfl
    · rfl
    · exact n.toNat_lt
  rintro ⟨k, m, bs⟩ hI1
  obtain ⟨i1_0, i1_1, i1_2, i1_3⟩ : (k ≤ 9) ∧ (bs.length = 10) ∧ (bs.take k ++ R01.num m.toNat = R01.num n.toNat) ∧ (m.toNat < 2 ^ (64 - 7 * k)) := hI1
  refine J_weaken (E' := [(0, vS s), (1, vU64 m), (4, vS []), (5, Value.pointer (some ⟨b1, 0, none⟩)), (6, vI ((k : Nat) : Int))]) (L' := [Ent.blk b1 94 (bs.map vU8)]) ⟨rfl, rfl, rfl, rfl, rfl, trivial⟩ (fun _ h => h) ?_
  refine J_seq ?_
  refine J_seq ?_
  refine J_region ?_
  refine JO_read (vU64 m) rfl trivial (fun _ _ => rfl) ?_
  refine JO_read (vB (decide ((128 : UInt64) ≤ m))) rfl trivial (fun _ _ => x_geq_u64 rfl rfl) ?_
  refine JO_nil ?_
  refine JX_then ?_
  refine J_cond (decide ((128 : UInt64) ≤ m)) rfl rfl (fun h2 => ?_) (fun h2 => ?_)
  · have h2 := of_decide_eq_true h2
    have h2u := h2
    try simp only [UInt8.lt_iff_toNat_lt, UInt8.le_iff_toNat_le, UInt8.reduceToNat, UInt32.lt_iff_toNat_lt, UInt32.le_iff_toNat_le, UInt32.reduceToNat, UInt64.lt_iff_toNat_lt, UInt64.le_iff_toNat_le, UInt64.reduceToNat] at h2u
    refine J_skip ?_
    refine JX_then ?_
    refine J_block ?_
    refine J_seq ?_
    refine J_region ?_
    refine JO_read (vI ((k : Nat) : Int)) rfl trivial (fun _ _ => rfl) ?_
    refine JO_read (vU64 m) rfl trivial (fun _ _ => rfl) ?_
    refine JO_read (vU8 m.toUInt8) rfl trivial (fun _ _ => x_conv_u64_u8 rfl Tryd.underlying77 Tryd.underlying5) ?_
    refine JO_read (vU8 (m.toUInt8 ||| 128)) rfl trivial (fun _ _ => x_or_u8 rfl rfl) ?_
    refine JO_read (Value.pointer (some ⟨b1, k, none⟩)) rfl trivial (fun _ _ => x_indexAddr_arr (k := k) Tryd.underlying94 Ty.sz5 rfl rfl lt_ (add_0k1 _ _)) ?_
    refine JO_op rfl trivial (O_store_arr (a := m.toUInt8 ||| 128) 0 vU8 [Ent.blk b1 94 ((bs.set k (m.toUInt8 ||| 128)).map vU8)] rfl rfl rfl Ty.sz5 rfl lt_ rfl ?_)
    refine JO_nil ?_
    refine JX_then ?_
    refine J_seq ?_
    refine J_region ?_
    refine JO_read (vU64 m) rfl trivial (fun _ _ => rfl) ?_
    refine JO_read (vU64 (UInt64.ofBitVec (m.toBitVec >>> (7 : Nat)))) rfl trivial (fun _ _ => x_shr_u64 (m := 7) rfl rfl (by decide)) ?_
    refine JO_read (vU64 (UInt64.ofBitVec (m.toBitVec >>> (7 : Nat)))) rfl trivial (fun _ _ => rfl) ?_
    refine JO_nil ?_
    refine JX_then ?_
    refine J_region ?_
    refine JO_read (vI ((k : Nat) : Int)) rfl trivial (fun _ _ => rfl) ?_
    refine JO_read (vI ((k + 1 : Nat) : Int)) rfl trivial (fun _ _ => x_add_n (a := k) (b := 1) rfl rfl (by omega)) ?_
    refine JO_read (vI ((k + 1 : Nat) : Int)) rfl trivial (fun _ _ => rfl) ?_
    refine JO_nil ?_
    refine JX_block ?_
    refine JX_round ((k + 1, UInt64.ofBitVec (m.toBitVec >>> (7 : Nat)), bs.set k (m.toUInt8 ||| 128)) : Nat × UInt64 × (List UInt8)) ?_ ?_ ⟨rfl, rfl, rfl, rfl, rfl, trivial⟩ (fun _ h => h)
    · show ((k + 1) ≤ 9) ∧ ((bs.set k (m.toUInt8 ||| 128)).length = 10) ∧ ((bs.set k (m.toUInt8 ||| 128)).take (k + 1) ++ R01.num (UInt64.ofBitVec (m.toBitVec >>> (7 : Nat))).toNat = R01.num n.toNat) ∧ ((UInt64.ofBitVec (m.toBitVec >>> (7 : Nat))).toNat < 2 ^ (64 - 7 * (k + 1)))
      refine ⟨?_, ?_, ?_, ?_⟩
      · exact (R01.app_step i1_1 i1_0 i1_2 i1_3 (by assumption)).1
      · simp [i1_1]
      · exact (R01.app_step i1_1 i1_0 i1_2 i1_3 (by assumption)).2.1
      · exact (R01.app_step i1_1 i1_0 i1_2 i1_3 (by assumption)).2.2.1
    · show (UInt64.ofBitVec (m.toBitVec >>> (7 : Nat))).toNat < m.toNat
      exact (R01.app_step i1_1 i1_0 i1_2 i1_3 (by assumption)).2.2.2
  · have h2 := of_decide_eq_false h2
    have h2u := h2
    try simp only [UInt8.lt_iff_toNat_lt, UInt8.le_iff_toNat_le, UInt8.reduceToNat, UInt32.lt_iff_toNat_lt, UInt32.le_iff_toNat_le, UInt32.reduceToNat, UInt64.lt_iff_toNat_lt, UInt64.le_iff_toNat_le, UInt64.reduceToNat] at h2u
    refine J_exit ?_
    refine JX_then_exit ?_
    refine JX_round_exit ?_
    refine JX_block_hit ?_
    refine JX_then ?_
    refine J_seq ?_
    refine J_region ?_
    refine JO_read (vI ((k : Nat) : Int)) rfl trivial (fun _ _ => rfl) ?_
    refine JO_read (vU64 m) rfl trivial (fun _ _ => rfl) ?_
    refine JO_read (vU8 m.toUInt8) rfl trivial (fun _ _ => x_conv_u64_u8 rfl Tryd.underlying77 Tryd.underlying5) ?_
    refine JO_read (Value.pointer (some ⟨b1, k, none⟩)) rfl trivial (fun _ _ => x_indexAddr_arr (k := k) Tryd.underlying94 Ty.sz5 rfl rfl lt_ (add_0k1 _ _)) ?_
    refine JO_op rfl trivial (O_store_arr (a := m.toUInt8) 0 vU8 [Ent.blk b1 94 ((bs.set k m.toUInt8).map vU8)] rfl rfl rfl Ty.sz5 rfl lt_ rfl ?_)
    refine JO_nil ?_
    refine JX_then ?_
    refine J_seq ?_
    refine J_region ?_
    refine JO_read (vS s) rfl trivial (fun _ _ => rfl) ?_
    refine JO_read (vI ((k : Nat) : Int)) rfl trivial (fun _ _ => rfl) ?_
    refine JO_read (vI ((k + 1 : Nat) : Int)) rfl trivial (fun _ _ => x_add_n (a := k) (b := 1) rfl rfl (by omega)) ?_
    refine JO_read (Value.slice (some ⟨b1, 0, none⟩) (k + 1) 10) rfl trivial (fun _ _ => x_subarr (lo := 0) (hi := k + 1) rfl Tryd.underlying94 Ty.sz5 (.inr ⟨rfl, rfl⟩) (.inl rfl) lt_ lt_ lt_ rfl) ?_
    refine JO_read (vS (((bs.set k m.toUInt8).drop 0).take (k + 1))) rfl trivial (x_str_arr 0 (off := 0) (n := k + 1) rfl Tryd.underlying74 Tryd.underlying5 Tryd.underlying9 rfl lt_) ?_
    refine JO_read (vS (s ++ (((bs.set k m.toUInt8).drop 0).take (k + 1)))) rfl trivial (fun _ _ => x_cat_s rfl rfl (by first | omega | (simp only [List.length_append, List.length_cons, List.length_nil]; omega) | (simp; omega) | (simp_all; omega))) ?_
    refine JO_read (vS (s ++ (((bs.set k m.toUInt8).drop 0).take (k + 1)))) rfl trivial (fun _ _ => rfl) ?_
    refine JO_nil ?_
    refine JX_then ?_
    refine J_ret ?_
    refine JX_rets [vS (s ++ (((bs.set k m.toUInt8).drop 0).take (k + 1)))] (vS (s ++ (((bs.set k m.toUInt8).drop 0).take (k + 1)))) Tryd.results64 (fun w h => ⟨rfl, trivial⟩) rfl [] (fun _ h => h.keep [false] rfl) ⟨?_, ?_⟩
    · have e_x0 : (s ++ (((bs.set k m.toUInt8).drop 0).take (k + 1)) : Bytes) = (s ++ R01.num n.toNat) := by
        exact R01.app_done i1_1 i1_0 i1_2 (by assumption)
      exact congrArg (fun (x0 : Bytes) => vS x0) e_x0
    · rfl

set_option maxRecDepth 20000 in
theorem f66_ok_aux (m : Nat) : ∀ (n : UInt64) (w : World), n.toNat < m → Calls Tryd.prog 66 #[vU64 n] w (Gives [] w fun v L => v = vS (R01.num n.toNat) ∧ L = []) := by
  induction m with
  | zero => intro n w hm; omega
  | succ m ih =>
    intro n w hm
    have hn := R01.num_len (n / 128)
    refine calls_J [] 19 Tryd.func66 rfl Tryd.ntmps66 [(0, vU64 n)] rfl rfl (Give.nil w) ?_
    refine J_seq ?_
    refine J_region ?_
    refine JO_read (vS []) rfl trivial (fun _ _ => rfl) ?_
    refine JO_nil ?_
    refine JX_then ?_
    refine J_seq ?_
    refine J_seq ?_
    refine J_region ?_
    refine JO_read (vU64 n) rfl trivial (fun _ _ => rfl) ?_
    refine JO_read (vB (decide (n < (128 : UInt64)))) rfl trivial (fun _ _ => x_lss_u64 rfl rfl) ?_
    refine JO_nil ?_
    refine JX_then ?_
    refine J_cond (decide (n < (128 : UInt64))) rfl rfl (fun h1 => ?_) (fun h1 => ?_)
    · have h1 := of_decide_eq_true h1
      have h1u := h1
      try simp only [UInt8.lt_iff_toNat_lt, UInt8.le_iff_toNat_le, UInt8.reduceToNat, UInt32.lt_iff_toNat_lt, UInt32.le_iff_toNat_le, UInt32.reduceToNat, UInt64.lt_iff_toNat_lt, UInt64.le_iff_toNat_le, UInt64.reduceToNat] at h1u
      refine J_seq ?_
      refine J_region ?_
      refine JO_read (vU64 n) rfl trivial (fun _ _ => rfl) ?_
      refine JO_read (vU8 n.toUInt8) rfl trivial (fun _ _ => x_conv_u64_u8 rfl Tryd.underlying77 Tryd.underlying5) ?_
      refine JO_op rfl trivial (O_buildSlice (cs := [vU8 n.toUInt8]) Tryd.underlying74 Ty.sz5 Ty.ze5 (by decide) (by decide) (by kernel_rfl) fun b2 => ?_)
      refine JO_read (vS [n.toUInt8]) rfl trivial (x_str_blk 0 (l := [n.toUInt8]) rfl Tryd.underlying74 Tryd.underlying5 Tryd.underlying9 rfl rfl rfl) ?_
      refine JO_read (vS [n.toUInt8]) rfl trivial (fun _ _ => rfl) ?_
      refine JO_nil ?_
      refine JX_then ?_
      refine J_ret ?_
      refine JX_then_ret ?_
      refine JX_rets [vS [n.toUInt8]] (vS [n.toUInt8]) Tryd.results66 (fun w h => ⟨rfl, trivial⟩) rfl [] (fun _ h => h.keep [false] rfl) ⟨?_, ?_⟩
      · have e_x0 : ([n.toUInt8] : Bytes) = (R01.num n.toNat) := by
          first | exact R01.number_small (by assumption) | exact R01.number_big (by assumption)
        exact congrArg (fun (x0 : Bytes) => vS x0) e_x0
      · rfl
    · have h1 := of_decide_eq_false h1
      have h1u := h1
      try simp only [UInt8.lt_iff_toNat_lt, UInt8.le_iff_toNat_le, UInt8.reduceToNat, UInt32.lt_iff_toNat_lt, UInt32.le_iff_toNat_le, UInt32.reduceToNat, UInt64.lt_iff_toNat_lt, UInt64.le_iff_toNat_le, UInt64.reduceToNat] at h1u
      refine J_skip ?_
      refine JX_then ?_
      refine J_seq ?_
      refine J_draw [] [] [] 11 Ty.mixed rfl ?_
      refine JA_take 0 (vU64 n) rfl (by kernel_rfl) (by kernel_rfl) (by kernel_rfl) rfl (fun _ _ _ h => h) rfl trivial (fun _ _ => rfl) ?_
      refine JA_take 1 (vU64 (n % 128)) rfl (by kernel_rfl) (by kernel_rfl) (by kernel_rfl) rfl (fun _ _ _ h => h) rfl trivial (fun _ _ => x_rem_u64 rfl rfl (by decide)) ?_
      refine JA_take 2 (vU64 ((n % 128) + 128)) rfl (by kernel_rfl) (by kernel_rfl) (by kernel_rfl) rfl (fun _ _ _ h => h) rfl trivial (fun _ _ => x_add_u64 rfl rfl) ?_
      refine JA_take 3 (vU8 (((n % 128) + 128).toUInt8)) rfl (by kernel_rfl) (by kernel_rfl) (by kernel_rfl) rfl (fun _ _ _ h => h) rfl trivial (fun _ _ => x_conv_u64_u8 rfl Tryd.underlying77 Tryd.underlying5) ?_
      refine JA_take 6 (vU64 n) rfl (by kernel_rfl) (by kernel_rfl) (by kernel_rfl) rfl (fun _ _ _ h => h) rfl trivial (fun _ _ => rfl) ?_
      refine JA_take 7 (vU64 (n / 128)) rfl (by kernel_rfl) (by kernel_rfl) (by kernel_rfl) rfl (fun _ _ _ h => h) rfl trivial (fun _ _ => x_quo_u64 rfl rfl (by decide)) ?_
      refine JA_fin [(2, vS ([((n % 128) + 128).toUInt8] ++ (R01.num (n / 128).toNat)))] [] ?_ (fun key3 => ?_)
      · refine JX_then ?_
        refine J_ret ?_
        refine JX_rets [vS ([((n % 128) + 128).toUInt8] ++ (R01.num (n / 128).toNat))] (vS ([((n % 128) + 128).toUInt8] ++ (R01.num (n / 128).toNat))) Tryd.results66 (fun w h => ⟨rfl, trivial⟩) rfl [] (fun _ h => h) ⟨?_, ?_⟩
        · have e_x0 : ([((n % 128) + 128).toUInt8] ++ (R01.num (n / 128).toNat) : Bytes) = (R01.num n.toNat) := by
            first | exact R01.number_small (by assumption) | exact R01.number_big (by assumption)
          exact congrArg (fun (x0 : Bytes) => vS x0) e_x0
        · rfl
      · refine JA_ready (rs := [4, 8]) (by kernel_rfl) (by decide) (fun _ h => ⟨h, fun _ => h⟩) (List.forall_mem_cons.2 ⟨?_, (List.forall_mem_cons.2 ⟨?_, all_nil⟩)⟩)
        · refine JI_op rfl rfl trivial (O_buildSlice (cs := [vU8 (((n % 128) + 128).toUInt8)]) Tryd.underlying74 Ty.sz5 Ty.ze5 (by decide) (by decide) (by kernel_rfl) fun b4 => ?_)
          refine JA_ready (rs := [5, 8]) (by kernel_rfl) (by decide) (fun _ h => ⟨h.keep [false] rfl, fun _ => h.keep [false] rfl⟩) (List.forall_mem_cons.2 ⟨?_, (List.forall_mem_cons.2 ⟨?_, all_nil⟩)⟩)
          · refine JI_read (vS [((n % 128) + 128).toUInt8]) rfl rfl trivial (x_str_blk 0 (l := [((n % 128) + 128).toUInt8]) rfl Tryd.underlying74 Tryd.underlying5 Tryd.underlying9 rfl rfl rfl) ?_
            refine JA_one 8 (by kernel_rfl) (fun _ h => ⟨h.keep [false] rfl, fun _ => h.keep [false] rfl⟩) ?_
            refine JI_call [] [] [Ent.blk b4 5 [vU8 (((n % 128) + 128).toUInt8)]] rfl rfl trivial (fun _ => x_call Ty.ca66 rfl) (fun _ h => h) (fun _ h => by cases h) (fun w hS => ih (n / 128) w (by have := R01.num_dec n (by assumption); omega)) ?_
            rintro _ _ ⟨rfl, rfl⟩
            have ha5 := R01.num_len (n / 128)
            refine JA_take 9 (vS ([((n % 128) + 128).toUInt8] ++ (R01.num (n / 128).toNat))) rfl (by kernel_rfl) (by kernel_rfl) (by kernel_rfl) rfl (fun _ _ _ h => h) rfl trivial (fun _ _ => x_cat_s rfl rfl (by first | omega | (simp only [List.length_append, List.length_cons, List.length_nil]; omega) | (simp; omega) | (simp_all; omega))) ?_
            refine JA_take 10 (vS ([((n % 128) + 128).toUInt8] ++ (R01.num (n / 128).toNat))) rfl (by kernel_rfl) (by kernel_rfl) (by kernel_rfl) rfl (fun _ _ _ h => h) rfl trivial (fun _ _ => rfl) ?_
            exact JA_done (by kernel_rfl) (fun _ h => ⟨h.keep [false] rfl, fun _ => h.keep [false] rfl⟩) (JX_weaken (E' := [(2, vS ([((n % 128) + 128).toUInt8] ++ (R01.num (n / 128).toNat)))]) (L' := []) ⟨rfl, trivial⟩ (fun _ h => h.keep [false] rfl) key3)
          · refine JI_call [] [] [Ent.blk b4 5 [vU8 (((n % 128) + 128).toUInt8)]] rfl rfl trivial (fun _ => x_call Ty.ca66 rfl) (fun _ h => h) (fun _ h => by cases h) (fun w hS => ih (n / 128) w (by have := R01.num_dec n (by assumption); omega)) ?_
            rintro _ _ ⟨rfl, rfl⟩
            have ha6 := R01.num_len (n / 128)
            refine JA_one 5 (by kernel_rfl) (fun _ h => ⟨h.keep [false] rfl, fun _ => h.keep [false] rfl⟩) ?_
            refine JI_read (vS [((n % 128) + 128).toUInt8]) rfl rfl trivial (x_str_blk 0 (l := [((n % 128) + 128).toUInt8]) rfl Tryd.underlying74 Tryd.underlying5 Tryd.underlying9 rfl rfl rfl) ?_
            refine JA_take 9 (vS ([((n % 128) + 128).toUInt8] ++ (R01.num (n / 128).toNat))) rfl (by kernel_rfl) (by kernel_rfl) (by kernel_rfl) rfl (fun _ _ _ h => h) rfl trivial (fun _ _ => x_cat_s rfl rfl (by first | omega | (simp only [List.length_append, List.length_cons, List.length_nil]; omega) | (simp; omega) | (simp_all; omega))) ?_
            refine JA_take 10 (vS ([((n % 128) + 128).toUInt8] ++ (R01.num (n / 128).toNat))) rfl (by kernel_rfl) (by kernel_rfl) (by kernel_rfl) rfl (fun _ _ _ h => h) rfl trivial (fun _ _ => rfl) ?_
            exact JA_done (by kernel_rfl) (fun _ h => ⟨h.keep [false] rfl, fun _ => h.keep [false] rfl⟩) (JX_weaken (E' := [(2, vS ([((n % 128) + 128).toUInt8] ++ (R01.num (n / 128).toNat)))]) (L' := []) ⟨rfl, trivial⟩ (fun _ h => h.keep [false] rfl) key3)
        · refine JI_call [] [] [] rfl rfl trivial (fun _ => x_call Ty.ca66 rfl) (fun _ h => h) (fun _ h => by cases h) (fun w hS => ih (n / 128) w (by have := R01.num_dec n (by assumption); omega)) ?_
          rintro _ _ ⟨rfl, rfl⟩
          have ha7 := R01.num_len (n / 128)
          refine JA_one 4 (by kernel_rfl) (fun _ h => ⟨h, fun _ => h⟩) ?_
          refine JI_op rfl rfl trivial (O_buildSlice (cs := [vU8 (((n % 128) + 128).toUInt8)]) Tryd.underlying74 Ty.sz5 Ty.ze5 (by decide) (by decide) (by kernel_rfl) fun b9 => ?_)
          refine JA_one 5 (by kernel_rfl) (fun _ h => ⟨h.keep [false] rfl, fun _ => h.keep [false] rfl⟩) ?_
          refine JI_read (vS [((n % 128) + 128).toUInt8]) rfl rfl trivial (x_str_blk 0 (l := [((n % 128) + 128).toUInt8]) rfl Tryd.underlying74 Tryd.underlying5 Tryd.underlying9 rfl rfl rfl) ?_
          refine JA_take 9 (vS ([((n % 128) + 128).toUInt8] ++ (R01.num (n / 128).toNat))) rfl (by kernel_rfl) (by kernel_rfl) (by kernel_rfl) rfl (fun _ _ _ h => h) rfl trivial (fun _ _ => x_cat_s rfl rfl (by first | omega | (simp only [List.length_append, List.length_cons, List.length_nil]; omega) | (simp; omega) | (simp_all; omega))) ?_
          refine JA_take 10 (vS ([((n % 128) + 128).toUInt8] ++ (R01.num (n / 128).toNat))) rfl (by kernel_rfl) (by kernel_rfl) (by kernel_rfl) rfl (fun _ _ _ h => h) rfl trivial (fun _ _ => rfl) ?_
          exact JA_done (by kernel_rfl) (fun _ h => ⟨h.keep [false] rfl, fun _ => h.keep [false] rfl⟩) (JX_weaken (E' := [(2, vS ([((n % 128) + 128).toUInt8] ++ (R01.num (n / 128).toNat)))]) (L' := []) ⟨rfl, trivial⟩ (fun _ h => h.keep [false] rfl) key3)
theorem f66_ok (n : UInt64) (w : World) : Calls Tryd.prog 66 #[vU64 n] w (Gives [] w fun v L => v = vS (R01.num n.toNat) ∧ L = []) :=
  f66_ok_aux (n.toNat + 1) n w (Nat.lt_succ_self _)

set_option maxRecDepth 20000 in
theorem f65_ok (s : Bytes) (t : Bytes) (w : World) (q0 : s.length ≤ 1073741824) (q1 : t.length ≤ 1073741824) : Calls Tryd.prog 65 #[vS s, vS t] w (Gives [] w fun v L => v = vS (s ++ R01.text t) ∧ L = []) := by
  have hn := R01.num_len (UInt64.ofNat t.length)
  refine calls_J [] 12 Tryd.func65 rfl Tryd.ntmps65 [(0, vS s), (1, vS t)] rfl rfl (Give.nil w) ?_
  refine J_seq ?_
  refine J_region ?_
  refine JO_read (vS []) rfl trivial (fun _ _ => rfl) ?_
  refine JO_nil ?_
  refine JX_then ?_
  refine J_seq ?_
  refine J_region ?_
  refine JO_read (vS s) rfl trivial (fun _ _ => rfl) ?_
  refine JO_read (vS t) rfl trivial (fun _ _ => rfl) ?_
  refine JO_read (vI ((t.length : Nat) : Int)) rfl trivial (fun _ _ => x_len_s rfl Tryd.underlying9) ?_
  refine JO_read (vU64 (UInt64.ofNat t.length)) rfl trivial (fun _ _ => x_conv_n_u64 (a := t.length) rfl Tryd.underlying3 Tryd.underlying77) ?_
  refine JO_call [] [] [] rfl trivial (fun _ => x_call Ty.ca64 rfl) (fun _ h => h) (fun _ h => by cases h) (fun w hS => f64_ok s (UInt64.ofNat t.length) w hy_) ?_
  rintro _ _ ⟨rfl, rfl⟩
  have ha1 := R01.num_len (UInt64.ofNat t.length)
  refine JO_read (vS t) rfl trivial (fun _ _ => rfl) ?_
  refine JO_read (vS ((s ++ R01.num (UInt64.ofNat t.length).toNat) ++ t)) rfl trivial (fun _ _ => x_cat_s rfl rfl (by first | omega | (simp only [List.length_append, List.length_cons, List.length_nil]; omega) | (simp; omega) | (simp_all; omega))) ?_
  refine JO_read (vS ((s ++ R01.num (UInt64.ofNat t.length).toNat) ++ t)) rfl trivial (fun _ _ => rfl) ?_
  refine JO_nil ?_
  refine JX_then ?_
  refine J_ret ?_
  refine JX_rets [vS ((s ++ R01.num (UInt64.ofNat t.length).toNat) ++ t)] (vS ((s ++ R01.num (UInt64.ofNat t.length).toNat) ++ t)) Tryd.results65 (fun w h => ⟨rfl, trivial⟩) rfl [] (fun _ h => h) ⟨?_, ?_⟩
  · have e_x0 : ((s ++ R01.num (UInt64.ofNat t.length).toNat) ++ t : Bytes) = (s ++ R01.text t) := by
      rw [List.append_assoc, R01.text_eq (by omega)]
    exact congrArg (fun (x0 : Bytes) => vS x0) e_x0
  · rfl

set_option maxRecDepth 20000 in
theorem f67_ok (t : Bytes) (w : World) (q0 : t.length ≤ 1073741824) : Calls Tryd.prog 67 #[vS t] w (Gives [] w fun v L => v = vS (R01.text t) ∧ L = []) := by
  have hn := R01.num_len (UInt64.ofNat t.length)
  refine calls_J [] 9 Tryd.func67 rfl Tryd.ntmps67 [(0, vS t)] rfl rfl (Give.nil w) ?_
  refine J_seq ?_
  refine J_region ?_
  refine JO_read (vS []) rfl trivial (fun _ _ => rfl) ?_
  refine JO_nil ?_
  refine JX_then ?_
  refine J_seq ?_
  refine J_region ?_
  refine JO_read (vS t) rfl trivial (fun _ _ => rfl) ?_
  refine JO_read (vI ((t.length : Nat) : Int)) rfl trivial (fun _ _ => x_len_s rfl Tryd.underlying9) ?_
  refine JO_read (vU64 (UInt64.ofNat t.length)) rfl trivial (fun _ _ => x_conv_n_u64 (a := t.length) rfl Tryd.underlying3 Tryd.underlying77) ?_
  refine JO_call [] [] [] rfl trivial (fun _ => x_call Ty.ca66 rfl) (fun _ h => h) (fun _ h => by cases h) (fun w hS => f66_ok (UInt64.ofNat t.length) w) ?_
  rintro _ _ ⟨rfl, rfl⟩
  have ha1 := R01.num_len (UInt64.ofNat t.length)
  refine JO_read (vS t) rfl trivial (fun _ _ => rfl) ?_
  refine JO_read (vS ((R01.num (UInt64.ofNat t.length).toNat) ++ t)) rfl trivial (fun _ _ => x_cat_s rfl rfl (by first | omega | (simp only [List.length_append, List.length_cons, List.length_nil]; omega) | (simp; omega) | (simp_all; omega))) ?_
  refine JO_read (vS ((R01.num (UInt64.ofNat t.length).toNat) ++ t)) rfl trivial (fun _ _ => rfl) ?_
  refine JO_nil ?_
  refine JX_then ?_
  refine J_ret ?_
  refine JX_rets [vS ((R01.num (UInt64.ofNat t.length).toNat) ++ t)] (vS ((R01.num (UInt64.ofNat t.length).toNat) ++ t)) Tryd.results67 (fun w h => ⟨rfl, trivial⟩) rfl [] (fun _ h => h) ⟨?_, ?_⟩
  · have e_x0 : ((R01.num (UInt64.ofNat t.length).toNat) ++ t : Bytes) = (R01.text t) := by
      exact R01.text_eq (by omega)
    exact congrArg (fun (x0 : Bytes) => vS x0) e_x0
  · rfl

set_option maxRecDepth 20000 in
theorem f47_ok (num : Int) (unit : Int) (ch : List Change) (chA : Option Addr) (chC : Nat) (w : World) (chR : RO [] w chA (ch.flatMap Change.enc)) (q0 : ch.length ≤ 300) (q1 : ∀ i, i < ch.length → (ch.getD i default).Key.length ≤ 2000 ∧ (ch.getD i default).Record.length ≤ 2000 ∧ (ch.getD i default).Volume.length ≤ 2000) : Calls Tryd.prog 47 #[Value.agg #[vI num, vI unit, Value.slice chA ch.length chC]] w (Gives [] w fun v L => v = vS (R47.enc num unit ch) ∧ L = []) := by
  refine calls_J [] 62 Tryd.func47 rfl Tryd.ntmps47 [(0, Value.agg #[vI num, vI unit, Value.slice chA ch.length chC])] rfl rfl (Give.nil w) ?_
  refine J_seq ?_
  refine J_region ?_
  refine JO_op rfl trivial (O_box rfl rfl fun b1 => ?_)
  refine JO_read (vS []) rfl trivial (fun _ _ => rfl) ?_
  refine JO_nil ?_
  refine JX_then ?_
  refine J_seq ?_
  refine J_region ?_
  refine JO_read (vS []) rfl trivial (fun _ _ => rfl) ?_
  refine JO_nil ?_
  refine JX_then ?_
  refine J_seq ?_
  refine J_seq ?_
  refine J_region ?_
  refine JO_read (Value.pointer (some ⟨b1, 0, none⟩)) rfl trivial (fun _ _ => x_fieldAddr Ty.fi29_0 rfl rfl) ?_
  refine JO_read (vI num) rfl trivial (x_load 0 rfl rfl Ty.sc3 rfl) ?_
  refine JO_read (Value.pointer (some ⟨b1, 1, none⟩)) rfl trivial (fun _ _ => x_fieldAddr Ty.fi29_1 rfl rfl) ?_
  refine JO_read (vI unit) rfl trivial (x_load 0 rfl rfl Ty.sc3 rfl) ?_
  refine JO_read (Value.pointer (some ⟨b1, 2, none⟩)) rfl trivial (fun _ _ => x_fieldAddr Ty.fi29_2 rfl rfl) ?_
  refine JO_read (Value.slice chA ch.length chC) rfl trivial (x_load 0 rfl rfl Ty.sc27 rfl) ?_
  refine JO_read (vI ((ch.length : Nat) : Int)) rfl trivial (fun _ _ => x_len_sl Tryd.underlying27 rfl) ?_
  refine JO_op rfl trivial (O_buildSlice (cs := [vI num, vI unit, vI ((ch.length : Nat) : Int)]) Tryd.underlying48 Ty.sz3 Ty.ze3 (by decide) (by decide) (by kernel_rfl) fun b2 => ?_)
  refine JO_read (vI 3) rfl trivial (fun _ _ => x_len_sl Tryd.underlying48 rfl) ?_
  refine JO_read (vI 0) rfl trivial (fun _ _ => rfl) ?_
  refine JO_nil ?_
  refine JX_then ?_
  refine J_block ?_
  refine J_loop (X := Nat × Bytes × (List Int)) (fun (⟨k, t, ns⟩ : Nat × Bytes × (List Int)) => (k ≤ 3) ∧ (ns = [num, unit, (ch.length : Int)]) ∧ (t = (ns.take k).flatMap R47.encn) ∧ (t.length ≤ 10 * k)) (fun (⟨k, t, ns⟩ : Nat × Bytes × (List Int)) => [(1, Value.pointer (some ⟨b1, 0, none⟩)), (2, vS []), (3, vS t), (17, Value.slice (some ⟨b2, 0, none⟩) 3 3), (18, vI 3), (19, vI ((k : Nat) : Int))]) (fun (⟨k, t, ns⟩ : Nat × Bytes × (List Int)) => [Ent.blk b2 3 (ns.map vI), Ent.blk b1 29 [vI num, vI unit, Value.slice chA ch.length chC]]) (fun (⟨k, t, ns⟩ : Nat × Bytes × (List Int)) => 3 - k) ((0, [], [num, unit, ((ch.length : Nat) : Int)]) : Nat × Bytes × (List Int)) ?_ ⟨rfl, rfl, rfl, rfl, rfl, rfl, trivial⟩ (fun _ h => h) ?_
  · show (0 ≤ 3) ∧ ([num, unit, ((ch.length : Nat) : Int)] = [num, unit, (ch.length : Int)]) ∧ ([] = ([num, unit, ((ch.length : Nat) : Int)].take 0).flatMap R47.encn) ∧ ([].length ≤ 10 * 0)
    refine ⟨?_, ?_, ?_, ?_⟩
    · first | rfl | omega | (simp_all; done) | (simp_all; omega)
    · rfl
    · rfl
    · exact Nat.le_refl _
  rintro ⟨k, t, ns⟩ hI1
  obtain ⟨i1_0, i1_1, i1_2, i1_3⟩ : (k ≤ 3) ∧ (ns = [num, unit, (ch.length : Int)]) ∧ (t = (ns.take k).flatMap R47.encn) ∧ (t.length ≤ 10 * k) := hI1
  have hl : ns.length = 3 := by rw [i1_1]; rfl
  refine J_weaken (E' := [(1, Value.pointer (some ⟨b1, 0, none⟩)), (2, vS []), (3, vS t), (17, Value.slice (some ⟨b2, 0, none⟩) 3 3), (18, vI 3), (19, vI ((k : Nat) : Int))]) (L' := [Ent.blk b2 3 (ns.map vI), Ent.blk b1 29 [vI num, vI unit, Value.slice chA ch.length chC]]) ⟨rfl, rfl, rfl, rfl, rfl, rfl, trivial⟩ (fun _ h => h) ?_
  refine J_seq ?_
  refine J_region ?_
  refine JO_read (vB (decide (((k : Nat) : Int) < 3))) rfl trivial (fun _ _ => x_lss_i rfl rfl) ?_
  refine JO_nil ?_
  refine JX_then ?_
  refine J_seq ?_
  refine J_cond (decide (((k : Nat) : Int) < 3)) rfl rfl (fun h3 => ?_) (fun h3 => ?_)
  · have h3 := of_decide_eq_true h3
    refine J_skip ?_
    refine JX_then ?_
    refine J_seq ?_
    refine J_block ?_
    refine J_seq ?_
    refine J_region ?_
    refine JO_read (Value.pointer (some ⟨b2, k, none⟩)) rfl trivial (fun _ _ => x_indexAddr_sl (k := k) Tryd.underlying48 Ty.sz3 rfl rfl lt_ (add_0k1 _ _)) ?_
    refine JO_read (vI (ns.getD k 0)) rfl trivial (x_load_arr 0 vI 0 rfl rfl Ty.sc3 lt_) ?_
    refine JO_read (vI (ns.getD k 0)) rfl trivial (fun _ _ => rfl) ?_
    refine JO_nil ?_
    refine JX_then ?_
    refine J_region ?_
    refine JO_read (vS t) rfl trivial (fun _ _ => rfl) ?_
    refine JO_read (vI (ns.getD k 0)) rfl trivial (fun _ _ => rfl) ?_
    refine JO_read (vU64 (UInt64.ofInt (ns.getD k 0))) rfl trivial (fun _ _ => x_conv_i64_u64 (a := (ns.getD k 0)) rfl Tryd.underlying3 Tryd.underlying77) ?_
    refine JO_call [] [] [Ent.blk b2 3 (ns.map vI), Ent.blk b1 29 [vI num, vI unit, Value.slice chA ch.length chC]] rfl trivial (fun _ => x_call Ty.ca64 rfl) (fun _ h => h) (fun _ h => by cases h) (fun w hS => f64_ok t (UInt64.ofInt (ns.getD k 0)) w hy_) ?_
    rintro _ _ ⟨rfl, rfl⟩
    have ha4 := R01.num_len (UInt64.ofInt (ns.getD k 0))
    refine JO_read (vS (t ++ R01.num (UInt64.ofInt (ns.getD k 0)).toNat)) rfl trivial (fun _ _ => rfl) ?_
    refine JO_nil ?_
    refine JX_block ?_
    refine JX_then ?_
    refine J_region ?_
    refine JO_read (vI ((k + 1 : Nat) : Int)) rfl trivial (fun _ _ => x_add_n (a := k) (b := 1) rfl rfl (by omega)) ?_
    refine JO_read (vI ((k + 1 : Nat) : Int)) rfl trivial (fun _ _ => rfl) ?_
    refine JO_nil ?_
    refine JX_round ((k + 1, t ++ R01.num (UInt64.ofInt (ns.getD k 0)).toNat, ns) : Nat × Bytes × (List Int)) ?_ ?_ ⟨rfl, rfl, rfl, rfl, rfl, rfl, trivial⟩ (fun _ h => h)
    · show ((k + 1) ≤ 3) ∧ (ns = [num, unit, (ch.length : Int)]) ∧ ((t ++ R01.num (UInt64.ofInt (ns.getD k 0)).toNat) = (ns.take (k + 1)).flatMap R47.encn) ∧ ((t ++ R01.num (UInt64.ofInt (ns.getD k 0)).toNat).length ≤ 10 * (k + 1))
      refine ⟨?_, ?_, ?_, ?_⟩
      · first | rfl | omega | (simp_all; done) | (simp_all; omega)
      · exact i1_1
      · rw [R47.flat_step (d := 0) (by omega), i1_2]; rfl
      · rw [List.length_append]; omega
    · show 3 - (k + 1) < 3 - k
      first | omega | (simp; omega) | (simp_all; omega)
  · have h3 := of_decide_eq_false h3
    refine J_exit ?_
    refine JX_then_exit ?_
    refine JX_round_exit ?_
    refine JX_block_hit ?_
    refine JX_then ?_
    refine J_seq ?_
    refine J_seq ?_
    refine J_region ?_
    refine JO_read (Value.pointer (some ⟨b1, 2, none⟩)) rfl trivial (fun _ _ => x_fieldAddr Ty.fi29_2 rfl rfl) ?_
    refine JO_read (Value.slice chA ch.length chC) rfl trivial (x_load 1 rfl rfl Ty.sc27 rfl) ?_
    refine JO_read (vI ((ch.length : Nat) : Int)) rfl trivial (fun _ _ => x_len_sl Tryd.underlying27 rfl) ?_
    refine JO_read (vI 0) rfl trivial (fun _ _ => rfl) ?_
    refine JO_nil ?_
    refine JX_then ?_
    refine J_block ?_
    refine J_loop (X := Nat × Bytes) (fun (⟨j, t2⟩ : Nat × Bytes) => (j ≤ ch.length) ∧ (t2 = [num, unit, (ch.length : Int)].flatMap R47.encn ++ (ch.take j).flatMap R47.encC) ∧ (t2.length ≤ 30 + 6050 * j)) (fun (⟨j, t2⟩ : Nat × Bytes) => [(2, vS []), (3, vS t2), (29, Value.slice chA ch.length chC), (30, vI ((ch.length : Nat) : Int)), (31, vI ((j : Nat) : Int))]) (fun (⟨j, t2⟩ : Nat × Bytes) => []) (fun (⟨j, t2⟩ : Nat × Bytes) => ch.length - j) ((0, t) : Nat × Bytes) ?_ ⟨rfl, rfl, rfl, rfl, rfl, trivial⟩ (fun _ h => h.keep [false, false] rfl) ?_
    · show (0 ≤ ch.length) ∧ (t = [num, unit, (ch.length : Int)].flatMap R47.encn ++ (ch.take 0).flatMap R47.encC) ∧ (t.length ≤ 30 + 6050 * 0)
      refine ⟨?_, ?_, ?_⟩
      · first | rfl | omega | (simp_all; done) | (simp_all; omega)
      · rw [i1_2, show k = 3 by omega, i1_1]; exact (List.append_nil _).symm
      · omega
    rintro ⟨j, t2⟩ hI2
    obtain ⟨i2_0, i2_1, i2_2⟩ : (j ≤ ch.length) ∧ (t2 = [num, unit, (ch.length : Int)].flatMap R47.encn ++ (ch.take j).flatMap R47.encC) ∧ (t2.length ≤ 30 + 6050 * j) := hI2
    have hqj := q1 j
    refine J_weaken (E' := [(2, vS []), (3, vS t2), (29, Value.slice chA ch.length chC), (30, vI ((ch.length : Nat) : Int)), (31, vI ((j : Nat) : Int))]) (L' := []) ⟨rfl, rfl, rfl, rfl, rfl, trivial⟩ (fun _ h => h) ?_
    refine J_seq ?_
    refine J_region ?_
    refine JO_read (vB (decide (((j : Nat) : Int) < ((ch.length : Nat) : Int)))) rfl trivial (fun _ _ => x_lss_i rfl rfl) ?_
    refine JO_nil ?_
    refine JX_then ?_
    refine J_seq ?_
    refine J_cond (decide (((j : Nat) : Int) < ((ch.length : Nat) : Int))) rfl rfl (fun h5 => ?_) (fun h5 => ?_)
    · have h5 := of_decide_eq_true h5
      refine J_skip ?_
      refine JX_then ?_
      refine J_seq ?_
      refine J_block ?_
      refine J_seq ?_
      refine J_region ?_
      refine JO_read (Value.pointer (some (adr chA (j * 5)))) rfl trivial (x_indexAddr_at (k := j) (off := j * 5) (cells_ro chR) Tryd.underlying27 Ty.sz23 rfl rfl lt_ (by rw [flat_length Change.enc 5 Change.enc_len]; first | omega | (simp; omega) | (simp_all; omega) | (simp_all; done)) rfl) ?_
      refine JO_read (Value.agg ((Change.enc (ch.getD j default))).toArray) rfl trivial (x_loadN_at (Change.enc (ch.getD j default)) (cells_ro chR) rfl Ty.ag23 Ty.sz23 (flat_drop Change.enc 5 Change.enc_len ch default j lt_)) ?_
      refine JO_op rfl trivial (O_alloc Ty.ze23 rfl fun b6 => ?_)
      refine JO_op rfl trivial (O_storeS (vs := (Change.enc (ch.getD j default))) 0 (Change.enc (ch.getD j default)) [Ent.blk b6 23 (Change.enc (ch.getD j default))] rfl rfl rfl Ty.sz23 rfl (Nat.le_of_ble_eq_true rfl) rfl rfl rfl ?_)
      refine JO_nil ?_
      refine JX_then ?_
      refine J_seq ?_
      refine J_draw [Ent.blk b6 23 (Change.enc (ch.getD j default))] [] [Ent.blk b6 23 (Change.enc (ch.getD j default))] 10 Ty.mixed rfl ?_
      refine JA_take 0 (vS t2) rfl (by kernel_rfl) (by kernel_rfl) (by kernel_rfl) rfl (fun _ _ _ h => h) rfl trivial (fun _ _ => rfl) ?_
      refine JA_take 1 (Value.pointer (some ⟨b6, 0, none⟩)) rfl (by kernel_rfl) (by kernel_rfl) (by kernel_rfl) rfl (fun _ _ _ h => h) rfl trivial (fun _ _ => x_fieldAddr Ty.fi23_0 rfl rfl) ?_
      refine JA_take 2 (vI ((ch.getD j default).Kind)) rfl (by kernel_rfl) (by kernel_rfl) (by kernel_rfl) rfl (fun _ _ _ h => h) rfl trivial (x_load 0 rfl rfl Ty.sc3 rfl) ?_
      refine JA_take 3 (vU64 (UInt64.ofInt ((ch.getD j default).Kind))) rfl (by kernel_rfl) (by kernel_rfl) (by kernel_rfl) rfl (fun _ _ _ h => h) rfl trivial (fun _ _ => x_conv_i64_u64 (a := (ch.getD j default).Kind) rfl Tryd.underlying3 Tryd.underlying77) ?_
      refine JA_take 5 (Value.pointer (some ⟨b6, 1, none⟩)) rfl (by kernel_rfl) (by kernel_rfl) (by kernel_rfl) rfl (fun _ _ _ h => h) rfl trivial (fun _ _ => x_fieldAddr Ty.fi23_1 rfl rfl) ?_
      refine JA_take 6 (vI ((ch.getD j default).Id)) rfl (by kernel_rfl) (by kernel_rfl) (by kernel_rfl) rfl (fun _ _ _ h => h) rfl trivial (x_load 0 rfl rfl Ty.sc3 rfl) ?_
      refine JA_take 7 (vU64 (UInt64.ofInt ((ch.getD j default).Id))) rfl (by kernel_rfl) (by kernel_rfl) (by kernel_rfl) rfl (fun _ _ _ h => h) rfl trivial (fun _ _ => x_conv_i64_u64 (a := (ch.getD j default).Id) rfl Tryd.underlying3 Tryd.underlying77) ?_
      refine JA_one 4 (by kernel_rfl) (fun _ h => ⟨h, fun _ => h⟩) ?_
      refine JI_call [] [] [Ent.blk b6 23 (Change.enc (ch.getD j default))] rfl rfl trivial (fun _ => x_call Ty.ca64 rfl) (fun _ h => h) (fun _ h => by cases h) (fun w hS => f64_ok t2 (UInt64.ofInt ((ch.getD j default).Kind)) w hy_) ?_
      rintro _ _ ⟨rfl, rfl⟩
      have ha7 := R01.num_len (UInt64.ofInt ((ch.getD j default).Kind))
      refine JA_one 8 (by kernel_rfl) (fun _ h => ⟨h, fun _ => h⟩) ?_
      refine JI_call [] [] [Ent.blk b6 23 (Change.enc (ch.getD j default))] rfl rfl trivial (fun _ => x_call Ty.ca64 rfl) (fun _ h => h) (fun _ h => by cases h) (fun w hS => f64_ok (t2 ++ R01.num (UInt64.ofInt ((ch.getD j default).Kind)).toNat) (UInt64.ofInt ((ch.getD j default).Id)) w hy_) ?_
      rintro _ _ ⟨rfl, rfl⟩
      have ha8 := R01.num_len (UInt64.ofInt ((ch.getD j default).Id))
      refine JA_take 9 (vS ((t2 ++ R01.num (UInt64.ofInt ((ch.getD j default).Kind)).toNat) ++ R01.num (UInt64.ofInt ((ch.getD j default).Id)).toNat)) rfl (by kernel_rfl) (by kernel_rfl) (by kernel_rfl) rfl (fun _ _ _ h => h) rfl trivial (fun _ _ => rfl) ?_
      refine JA_done (by kernel_rfl) (fun _ h => ⟨h, fun _ => h⟩) ?_
      refine JX_then ?_
      refine J_seq ?_
      refine J_region ?_
      refine JO_read (Value.pointer (some ⟨b6, 2, none⟩)) rfl trivial (fun _ _ => x_fieldAddr Ty.fi23_2 rfl rfl) ?_
      refine JO_read (vS ((ch.getD j default).Key)) rfl trivial (x_load 0 rfl rfl Ty.sc9 rfl) ?_
      refine JO_read (Value.pointer (some ⟨b6, 3, none⟩)) rfl trivial (fun _ _ => x_fieldAddr Ty.fi23_3 rfl rfl) ?_
      refine JO_read (vS ((ch.getD j default).Record)) rfl trivial (x_load 0 rfl rfl Ty.sc9 rfl) ?_
      refine JO_read (Value.pointer (some ⟨b6, 4, none⟩)) rfl trivial (fun _ _ => x_fieldAddr Ty.fi23_4 rfl rfl) ?_
      refine JO_read (vS ((ch.getD j default).Volume)) rfl trivial (x_load 0 rfl rfl Ty.sc9 rfl) ?_
      refine JO_op rfl trivial (O_buildSlice (cs := [vS ((ch.getD j default).Key), vS ((ch.getD j default).Record), vS ((ch.getD j default).Volume)]) Tryd.underlying82 Ty.sz9 Ty.ze9 (by decide) (by decide) (by kernel_rfl) fun b9 => ?_)
      refine JO_read (vI 3) rfl trivial (fun _ _ => x_len_sl Tryd.underlying82 rfl) ?_
      refine JO_read (vI 0) rfl trivial (fun _ _ => rfl) ?_
      refine JO_nil ?_
      refine JX_then ?_
      refine J_block ?_
      refine J_loop (X := Nat × Bytes × (List Bytes)) (fun (⟨i, t3, ts⟩ : Nat × Bytes × (List Bytes)) => (i ≤ 3) ∧ (ts = [(ch.getD j default).Key, (ch.getD j default).Record, (ch.getD j default).Volume]) ∧ (t3 = (t2 ++ R47.encn (ch.getD j default).Kind ++ R47.encn (ch.getD j default).Id) ++ (ts.take i).flatMap R01.text) ∧ (t3.length ≤ t2.length + 20 + 2010 * i)) (fun (⟨i, t3, ts⟩ : Nat × Bytes × (List Bytes)) => [(2, vS []), (3, vS t3), (29, Value.slice chA ch.length chC), (30, vI ((ch.length : Nat) : Int)), (31, vI ((j : Nat) : Int)), (50, Value.slice (some ⟨b9, 0, none⟩) 3 3), (51, vI 3), (52, vI ((i : Nat) : Int))]) (fun (⟨i, t3, ts⟩ : Nat × Bytes × (List Bytes)) => [Ent.blk b9 9 (ts.map vS)]) (fun (⟨i, t3, ts⟩ : Nat × Bytes × (List Bytes)) => 3 - i) ((0, (t2 ++ R01.num (UInt64.ofInt ((ch.getD j default).Kind)).toNat) ++ R01.num (UInt64.ofInt ((ch.getD j default).Id)).toNat, [(ch.getD j default).Key, (ch.getD j default).Record, (ch.getD j default).Volume]) : Nat × Bytes × (List Bytes)) ?_ ⟨rfl, rfl, rfl, rfl, rfl, rfl, rfl, rfl, trivial⟩ (fun _ h => h.keep [true, false] rfl) ?_
      · show (0 ≤ 3) ∧ ([(ch.getD j default).Key, (ch.getD j default).Record, (ch.getD j default).Volume] = [(ch.getD j default).Key, (ch.getD j default).Record, (ch.getD j default).Volume]) ∧ (((t2 ++ R01.num (UInt64.ofInt ((ch.getD j default).Kind)).toNat) ++ R01.num (UInt64.ofInt ((ch.getD j default).Id)).toNat) = (t2 ++ R47.encn (ch.getD j default).Kind ++ R47.encn (ch.getD j default).Id) ++ ([(ch.getD j default).Key, (ch.getD j default).Record, (ch.getD j default).Volume].take 0).flatMap R01.text) ∧ (((t2 ++ R01.num (UInt64.ofInt ((ch.getD j default).Kind)).toNat) ++ R01.num (UInt64.ofInt ((ch.getD j default).Id)).toNat).length ≤ t2.length + 20 + 2010 * 0)
        refine ⟨?_, ?_, ?_, ?_⟩
        · first | rfl | omega | (simp_all; done) | (simp_all; omega)
        · rfl
        · exact (List.append_nil _).symm
        · simp only [List.length_append]; omega
      rintro ⟨i, t3, ts⟩ hI3
      obtain ⟨i3_0, i3_1, i3_2, i3_3⟩ : (i ≤ 3) ∧ (ts = [(ch.getD j default).Key, (ch.getD j default).Record, (ch.getD j default).Volume]) ∧ (t3 = (t2 ++ R47.encn (ch.getD j default).Kind ++ R47.encn (ch.getD j default).Id) ++ (ts.take i).flatMap R01.text) ∧ (t3.length ≤ t2.length + 20 + 2010 * i) := hI3
      have hl : ts.length = 3 := by rw [i3_1]; rfl
      have hq := R47.three_len (n := i) (hqj (by omega)) i3_1
      refine J_weaken (E' := [(2, vS []), (3, vS t3), (29, Value.slice chA ch.length chC), (30, vI ((ch.length : Nat) : Int)), (31, vI ((j : Nat) : Int)), (50, Value.slice (some ⟨b9, 0, none⟩) 3 3), (51, vI 3), (52, vI ((i : Nat) : Int))]) (L' := [Ent.blk b9 9 (ts.map vS)]) ⟨rfl, rfl, rfl, rfl, rfl, rfl, rfl, rfl, trivial⟩ (fun _ h => h) ?_
      refine J_seq ?_
      refine J_region ?_
      refine JO_read (vB (decide (((i : Nat) : Int) < 3))) rfl trivial (fun _ _ => x_lss_i rfl rfl) ?_
      refine JO_nil ?_
      refine JX_then ?_
      refine J_seq ?_
      refine J_cond (decide (((i : Nat) : Int) < 3)) rfl rfl (fun h10 => ?_) (fun h10 => ?_)
      · have h10 := of_decide_eq_true h10
        refine J_skip ?_
        refine JX_then ?_
        refine J_seq ?_
        refine J_block ?_
        refine J_seq ?_
        refine J_region ?_
        refine JO_read (Value.pointer (some ⟨b9, i, none⟩)) rfl trivial (fun _ _ => x_indexAddr_sl (k := i) Tryd.underlying82 Ty.sz9 rfl rfl lt_ (add_0k1 _ _)) ?_
        refine JO_read (vS (ts.getD i [])) rfl trivial (x_load_arr 0 vS [] rfl rfl Ty.sc9 lt_) ?_
        refine JO_read (vS (ts.getD i [])) rfl trivial (fun _ _ => rfl) ?_
        refine JO_nil ?_
        refine JX_then ?_
        refine J_region ?_
        refine JO_read (vS t3) rfl trivial (fun _ _ => rfl) ?_
        refine JO_read (vS (ts.getD i [])) rfl trivial (fun _ _ => rfl) ?_
        refine JO_call [] [] [Ent.blk b9 9 (ts.map vS)] rfl trivial (fun _ => x_call Ty.ca65 rfl) (fun _ h => h) (fun _ h => by cases h) (fun w hS => f65_ok t3 (ts.getD i []) w hy_ hy_) ?_
        rintro _ _ ⟨rfl, rfl⟩
        have ha11 := R01.text_len (ts.getD i []) (by omega)
        try simp only [List.length_cons, List.length_nil, Nat.zero_add, Nat.reduceAdd, Nat.reduceMul] at ha11
        refine JO_read (vS (t3 ++ R01.text (ts.getD i []))) rfl trivial (fun _ _ => rfl) ?_
        refine JO_nil ?_
        refine JX_block ?_
        refine JX_then ?_
        refine J_region ?_
        refine JO_read (vI ((i + 1 : Nat) : Int)) rfl trivial (fun _ _ => x_add_n (a := i) (b := 1) rfl rfl (by omega)) ?_
        refine JO_read (vI ((i + 1 : Nat) : Int)) rfl trivial (fun _ _ => rfl) ?_
        refine JO_nil ?_
        refine JX_round ((i + 1, t3 ++ R01.text (ts.getD i []), ts) : Nat × Bytes × (List Bytes)) ?_ ?_ ⟨rfl, rfl, rfl, rfl, rfl, rfl, rfl, rfl, trivial⟩ (fun _ h => h)
        · show ((i + 1) ≤ 3) ∧ (ts = [(ch.getD j default).Key, (ch.getD j default).Record, (ch.getD j default).Volume]) ∧ ((t3 ++ R01.text (ts.getD i [])) = (t2 ++ R47.encn (ch.getD j default).Kind ++ R47.encn (ch.getD j default).Id) ++ (ts.take (i + 1)).flatMap R01.text) ∧ ((t3 ++ R01.text (ts.getD i [])).length ≤ t2.length + 20 + 2010 * (i + 1))
          refine ⟨?_, ?_, ?_, ?_⟩
          · first | rfl | omega | (simp_all; done) | (simp_all; omega)
          · exact i3_1
          · rw [R47.flat_step (d := []) (by omega), i3_2]; exact List.append_assoc _ _ _
          · rw [List.length_append]; omega
        · show 3 - (i + 1) < 3 - i
          first | omega | (simp; omega) | (simp_all; omega)
      · have h10 := of_decide_eq_false h10
        refine J_exit ?_
        refine JX_then_exit ?_
        refine JX_round_exit ?_
        refine JX_block_hit ?_
        refine JX_block ?_
        refine JX_then ?_
        refine J_region ?_
        refine JO_read (vI ((j + 1 : Nat) : Int)) rfl trivial (fun _ _ => x_add_n (a := j) (b := 1) rfl rfl (by omega)) ?_
        refine JO_read (vI ((j + 1 : Nat) : Int)) rfl trivial (fun _ _ => rfl) ?_
        refine JO_nil ?_
        refine JX_round ((j + 1, t3) : Nat × Bytes) ?_ ?_ ⟨rfl, rfl, rfl, rfl, rfl, trivial⟩ (fun _ h => h.keep [false] rfl)
        · show ((j + 1) ≤ ch.length) ∧ (t3 = [num, unit, (ch.length : Int)].flatMap R47.encn ++ (ch.take (j + 1)).flatMap R47.encC) ∧ (t3.length ≤ 30 + 6050 * (j + 1))
          refine ⟨?_, ?_, ?_⟩
          · first | rfl | omega | (simp_all; done) | (simp_all; omega)
          · exact R47.enc_step (by omega) i2_1 i3_1 (by omega) i3_2
          · omega
        · show ch.length - (j + 1) < ch.length - j
          first | omega | (simp; omega) | (simp_all; omega)
    · have h5 := of_decide_eq_false h5
      refine J_exit ?_
      refine JX_then_exit ?_
      refine JX_round_exit ?_
      refine JX_block_hit ?_
      refine JX_then ?_
      refine J_seq ?_
      refine J_region ?_
      refine JO_read (vS t2) rfl trivial (fun _ _ => rfl) ?_
      refine JO_read (vS t2) rfl trivial (fun _ _ => rfl) ?_
      refine JO_nil ?_
      refine JX_then ?_
      refine J_ret ?_
      refine JX_rets [vS t2] (vS t2) Tryd.results47 (fun w h => ⟨rfl, trivial⟩) rfl [] (fun _ h => h) ⟨?_, ?_⟩
      · have e_x0 : (t2 : Bytes) = (R47.enc num unit ch) := by
          rw [i2_1, show j = ch.length by omega, List.take_length]; exact R47.enc_eq
        exact congrArg (fun (x0 : Bytes) => vS x0) e_x0
      · rfl

set_option maxRecDepth 20000 in
theorem f49_ok (num : Int) (unit : Int) (ch : List Change) (chA : Option Addr) (chC : Nat) (w : World) (chR : RO [] w chA (ch.flatMap Change.enc)) (q0 : ch.length ≤ 300) (q1 : ∀ i, i < ch.length → (ch.getD i default).Key.length ≤ 2000 ∧ (ch.getD i default).Record.length ≤ 2000 ∧ (ch.getD i default).Volume.length ≤ 2000) : Calls Tryd.prog 49 #[Value.agg #[vI num, vI unit, Value.slice chA ch.length chC]] w (Gives [] w fun v L => v = vS (R47.enc num unit ch) ∧ L = []) := by
  refine calls_J [] 57 Tryd.func49 rfl Tryd.ntmps49 [(0, Value.agg #[vI num, vI unit, Value.slice chA ch.length chC])] rfl rfl (Give.nil w) ?_
  refine J_seq ?_
  refine J_region ?_
  refine JO_op rfl trivial (O_box rfl rfl fun b1 => ?_)
  refine JO_read (vS []) rfl trivial (fun _ _ => rfl) ?_
  refine JO_nil ?_
  refine JX_then ?_
  refine J_seq ?_
  refine J_draw [Ent.blk b1 29 [vI num, vI unit, Value.slice chA ch.length chC]] [] [Ent.blk b1 29 [vI num, vI unit, Value.slice chA ch.length chC]] 16 Ty.mixed rfl ?_
  refine JA_take 0 (Value.pointer (some ⟨b1, 0, none⟩)) rfl (by kernel_rfl) (by kernel_rfl) (by kernel_rfl) rfl (fun _ _ _ h => h) rfl trivial (fun _ _ => x_fieldAddr Ty.fi29_0 rfl rfl) ?_
  refine JA_take 1 (vI num) rfl (by kernel_rfl) (by kernel_rfl) (by kernel_rfl) rfl (fun _ _ _ h => h) rfl trivial (x_load 0 rfl rfl Ty.sc3 rfl) ?_
  refine JA_take 2 (vU64 (UInt64.ofInt num)) rfl (by kernel_rfl) (by kernel_rfl) (by kernel_rfl) rfl (fun _ _ _ h => h) rfl trivial (fun _ _ => x_conv_i64_u64 (a := num) rfl Tryd.underlying3 Tryd.underlying77) ?_
  refine JA_take 4 (Value.pointer (some ⟨b1, 1, none⟩)) rfl (by kernel_rfl) (by kernel_rfl) (by kernel_rfl) rfl (fun _ _ _ h => h) rfl trivial (fun _ _ => x_fieldAddr Ty.fi29_1 rfl rfl) ?_
  refine JA_take 5 (vI unit) rfl (by kernel_rfl) (by kernel_rfl) (by kernel_rfl) rfl (fun _ _ _ h => h) rfl trivial (x_load 0 rfl rfl Ty.sc3 rfl) ?_
  refine JA_take 6 (vU64 (UInt64.ofInt unit)) rfl (by kernel_rfl) (by kernel_rfl) (by kernel_rfl) rfl (fun _ _ _ h => h) rfl trivial (fun _ _ => x_conv_i64_u64 (a := unit) rfl Tryd.underlying3 Tryd.underlying77) ?_
  refine JA_take 9 (Value.pointer (some ⟨b1, 2, none⟩)) rfl (by kernel_rfl) (by kernel_rfl) (by kernel_rfl) rfl (fun _ _ _ h => h) rfl trivial (fun _ _ => x_fieldAddr Ty.fi29_2 rfl rfl) ?_
  refine JA_take 10 (Value.slice chA ch.length chC) rfl (by kernel_rfl) (by kernel_rfl) (by kernel_rfl) rfl (fun _ _ _ h => h) rfl trivial (x_load 0 rfl rfl Ty.sc27 rfl) ?_
  refine JA_take 11 (vI ((ch.length : Nat) : Int)) rfl (by kernel_rfl) (by kernel_rfl) (by kernel_rfl) rfl (fun _ _ _ h => h) rfl trivial (fun _ _ => x_len_sl Tryd.underlying27 rfl) ?_
  refine JA_take 12 (vU64 (UInt64.ofNat ch.length)) rfl (by kernel_rfl) (by kernel_rfl) (by kernel_rfl) rfl (fun _ _ _ h => h) rfl trivial (fun _ _ => x_conv_n_u64 (a := ch.length) rfl Tryd.underlying3 Tryd.underlying77) ?_
  refine JA_one 3 (by kernel_rfl) (fun _ h => ⟨h, fun _ => h⟩) ?_
  refine JI_call [] [] [Ent.blk b1 29 [vI num, vI unit, Value.slice chA ch.length chC]] rfl rfl trivial (fun _ => x_call Ty.ca66 rfl) (fun _ h => h) (fun _ h => by cases h) (fun w hS => f66_ok (UInt64.ofInt num) w) ?_
  rintro _ _ ⟨rfl, rfl⟩
  have ha2 := R01.num_len (UInt64.ofInt num)
  refine JA_one 7 (by kernel_rfl) (fun _ h => ⟨h, fun _ => h⟩) ?_
  refine JI_call [] [] [Ent.blk b1 29 [vI num, vI unit, Value.slice chA ch.length chC]] rfl rfl trivial (fun _ => x_call Ty.ca66 rfl) (fun _ h => h) (fun _ h => by cases h) (fun w hS => f66_ok (UInt64.ofInt unit) w) ?_
  rintro _ _ ⟨rfl, rfl⟩
  have ha3 := R01.num_len (UInt64.ofInt unit)
  refine JA_take 8 (vS ((R01.num (UInt64.ofInt num).toNat) ++ (R01.num (UInt64.ofInt unit).toNat))) rfl (by kernel_rfl) (by kernel_rfl) (by kernel_rfl) rfl (fun _ _ _ h => h) rfl trivial (fun _ _ => x_cat_s rfl rfl (by first | omega | (simp only [List.length_append, List.length_cons, List.length_nil]; omega) | (simp; omega) | (simp_all; omega))) ?_
  refine JA_one 13 (by kernel_rfl) (fun _ h => ⟨h, fun _ => h⟩) ?_
  refine JI_call [] [] [Ent.blk b1 29 [vI num, vI unit, Value.slice chA ch.length chC]] rfl rfl trivial (fun _ => x_call Ty.ca66 rfl) (fun _ h => h) (fun _ h => by cases h) (fun w hS => f66_ok (UInt64.ofNat ch.length) w) ?_
  rintro _ _ ⟨rfl, rfl⟩
  have ha4 := R01.num_len (UInt64.ofNat ch.length)
  refine JA_take 14 (vS (((R01.num (UInt64.ofInt num).toNat) ++ (R01.num (UInt64.ofInt unit).toNat)) ++ (R01.num (UInt64.ofNat ch.length).toNat))) rfl (by kernel_rfl) (by kernel_rfl) (by kernel_rfl) rfl (fun _ _ _ h => h) rfl trivial (fun _ _ => x_cat_s rfl rfl (by first | omega | (simp only [List.length_append, List.length_cons, List.length_nil]; omega) | (simp; omega) | (simp_all; omega))) ?_
  refine JA_take 15 (vS (((R01.num (UInt64.ofInt num).toNat) ++ (R01.num (UInt64.ofInt unit).toNat)) ++ (R01.num (UInt64.ofNat ch.length).toNat))) rfl (by kernel_rfl) (by kernel_rfl) (by kernel_rfl) rfl (fun _ _ _ h => h) rfl trivial (fun _ _ => rfl) ?_
  refine JA_done (by kernel_rfl) (fun _ h => ⟨h, fun _ => h⟩) ?_
  refine JX_then ?_
  refine J_seq ?_
  refine J_seq ?_
  refine J_region ?_
  refine JO_read (vI 0) rfl trivial (fun _ _ => rfl) ?_
  refine JO_nil ?_
  refine JX_then ?_
  refine J_block ?_
  refine J_loop (X := Nat × Bytes) (fun (⟨j, t⟩ : Nat × Bytes) => (j ≤ ch.length) ∧ (t = R47.encn num ++ R47.encn unit ++ R47.encn ch.length ++ (ch.take j).flatMap R47.encC) ∧ (t.length ≤ 30 + 6050 * j)) (fun (⟨j, t⟩ : Nat × Bytes) => [(1, Value.pointer (some ⟨b1, 0, none⟩)), (2, vS []), (3, vS t), (4, vI ((j : Nat) : Int))]) (fun (⟨j, t⟩ : Nat × Bytes) => [Ent.blk b1 29 [vI num, vI unit, Value.slice chA ch.length chC]]) (fun (⟨j, t⟩ : Nat × Bytes) => ch.length - j) ((0, ((R01.num (UInt64.ofInt num).toNat) ++ (R01.num (UInt64.ofInt unit).toNat)) ++ (R01.num (UInt64.ofNat ch.length).toNat)) : Nat × Bytes) ?_ ⟨rfl, rfl, rfl, rfl, trivial⟩ (fun _ h => h) ?_
  · show (0 ≤ ch.length) ∧ ((((R01.num (UInt64.ofInt num).toNat) ++ (R01.num (UInt64.ofInt unit).toNat)) ++ (R01.num (UInt64.ofNat ch.length).toNat)) = R47.encn num ++ R47.encn unit ++ R47.encn ch.length ++ (ch.take 0).flatMap R47.encC) ∧ ((((R01.num (UInt64.ofInt num).toNat) ++ (R01.num (UInt64.ofInt unit).toNat)) ++ (R01.num (UInt64.ofNat ch.length).toNat)).length ≤ 30 + 6050 * 0)
    refine ⟨?_, ?_, ?_⟩
    · first | rfl | omega | (simp_all; done) | (simp_all; omega)
    · exact R47.form_init
    · simp only [List.length_append]; omega
  rintro ⟨j, t⟩ hI1
  obtain ⟨i1_0, i1_1, i1_2⟩ : (j ≤ ch.length) ∧ (t = R47.encn num ++ R47.encn unit ++ R47.encn ch.length ++ (ch.take j).flatMap R47.encC) ∧ (t.length ≤ 30 + 6050 * j) := hI1
  have hqj := q1 j
  refine J_weaken (E' := [(1, Value.pointer (some ⟨b1, 0, none⟩)), (2, vS []), (3, vS t), (4, vI ((j : Nat) : Int))]) (L' := [Ent.blk b1 29 [vI num, vI unit, Value.slice chA ch.length chC]]) ⟨rfl, rfl, rfl, rfl, trivial⟩ (fun _ h => h) ?_
  refine J_seq ?_
  refine J_seq ?_
  refine J_region ?_
  refine JO_read (vI ((j : Nat) : Int)) rfl trivial (fun _ _ => rfl) ?_
  refine JO_read (Value.pointer (some ⟨b1, 2, none⟩)) rfl trivial (fun _ _ => x_fieldAddr Ty.fi29_2 rfl rfl) ?_
  refine JO_read (Value.slice chA ch.length chC) rfl trivial (x_load 0 rfl rfl Ty.sc27 rfl) ?_
  refine JO_read (vI ((ch.length : Nat) : Int)) rfl trivial (fun _ _ => x_len_sl Tryd.underlying27 rfl) ?_
  refine JO_read (vB (decide (((j : Nat) : Int) < ((ch.length : Nat) : Int)))) rfl trivial (fun _ _ => x_lss_i rfl rfl) ?_
  refine JO_nil ?_
  refine JX_then ?_
  refine J_cond (decide (((j : Nat) : Int) < ((ch.length : Nat) : Int))) rfl rfl (fun h5 => ?_) (fun h5 => ?_)
  · have h5 := of_decide_eq_true h5
    refine J_skip ?_
    refine JX_then ?_
    refine J_seq ?_
    refine J_block ?_
    refine J_seq ?_
    refine J_region ?_
    refine JO_read (Value.pointer (some ⟨b1, 2, none⟩)) rfl trivial (fun _ _ => x_fieldAddr Ty.fi29_2 rfl rfl) ?_
    refine JO_read (Value.slice chA ch.length chC) rfl trivial (x_load 0 rfl rfl Ty.sc27 rfl) ?_
    refine JO_read (vI ((j : Nat) : Int)) rfl trivial (fun _ _ => rfl) ?_
    refine JO_read (Value.pointer (some (adr chA (j * 5)))) rfl trivial (x_indexAddr_at (k := j) (off := j * 5) (cells_ro chR) Tryd.underlying27 Ty.sz23 rfl rfl lt_ (by rw [flat_length Change.enc 5 Change.enc_len]; first | omega | (simp; omega) | (simp_all; omega) | (simp_all; done)) rfl) ?_
    refine JO_read (Value.agg ((Change.enc (ch.getD j default))).toArray) rfl trivial (x_loadN_at (Change.enc (ch.getD j default)) (cells_ro chR) rfl Ty.ag23 Ty.sz23 (flat_drop Change.enc 5 Change.enc_len ch default j lt_)) ?_
    refine JO_op rfl trivial (O_alloc Ty.ze23 rfl fun b6 => ?_)
    refine JO_op rfl trivial (O_storeS (vs := (Change.enc (ch.getD j default))) 0 (Change.enc (ch.getD j default)) [Ent.blk b6 23 (Change.enc (ch.getD j default)), Ent.blk b1 29 [vI num, vI unit, Value.slice chA ch.length chC]] rfl rfl rfl Ty.sz23 rfl (Nat.le_of_ble_eq_true rfl) rfl rfl rfl ?_)
    refine JO_nil ?_
    refine JX_then ?_
    refine J_draw [Ent.blk b6 23 (Change.enc (ch.getD j default)), Ent.blk b1 29 [vI num, vI unit, Value.slice chA ch.length chC]] [] [Ent.blk b6 23 (Change.enc (ch.getD j default)), Ent.blk b1 29 [vI num, vI unit, Value.slice chA ch.length chC]] 24 Ty.mixed rfl ?_
    refine JA_take 0 (vS t) rfl (by kernel_rfl) (by kernel_rfl) (by kernel_rfl) rfl (fun _ _ _ h => h) rfl trivial (fun _ _ => rfl) ?_
    refine JA_take 1 (Value.pointer (some ⟨b6, 0, none⟩)) rfl (by kernel_rfl) (by kernel_rfl) (by kernel_rfl) rfl (fun _ _ _ h => h) rfl trivial (fun _ _ => x_fieldAddr Ty.fi23_0 rfl rfl) ?_
    refine JA_take 2 (vI ((ch.getD j default).Kind)) rfl (by kernel_rfl) (by kernel_rfl) (by kernel_rfl) rfl (fun _ _ _ h => h) rfl trivial (x_load 0 rfl rfl Ty.sc3 rfl) ?_
    refine JA_take 3 (vU64 (UInt64.ofInt ((ch.getD j default).Kind))) rfl (by kernel_rfl) (by kernel_rfl) (by kernel_rfl) rfl (fun _ _ _ h => h) rfl trivial (fun _ _ => x_conv_i64_u64 (a := (ch.getD j default).Kind) rfl Tryd.underlying3 Tryd.underlying77) ?_
    refine JA_take 6 (Value.pointer (some ⟨b6, 1, none⟩)) rfl (by kernel_rfl) (by kernel_rfl) (by kernel_rfl) rfl (fun _ _ _ h => h) rfl trivial (fun _ _ => x_fieldAddr Ty.fi23_1 rfl rfl) ?_
    refine JA_take 7 (vI ((ch.getD j default).Id)) rfl (by kernel_rfl) (by kernel_rfl) (by kernel_rfl) rfl (fun _ _ _ h => h) rfl trivial (x_load 0 rfl rfl Ty.sc3 rfl) ?_
    refine JA_take 8 (vU64 (UInt64.ofInt ((ch.getD j default).Id))) rfl (by kernel_rfl) (by kernel_rfl) (by kernel_rfl) rfl (fun _ _ _ h => h) rfl trivial (fun _ _ => x_conv_i64_u64 (a := (ch.getD j default).Id) rfl Tryd.underlying3 Tryd.underlying77) ?_
    refine JA_take 11 (Value.pointer (some ⟨b6, 2, none⟩)) rfl (by kernel_rfl) (by kernel_rfl) (by kernel_rfl) rfl (fun _ _ _ h => h) rfl trivial (fun _ _ => x_fieldAddr Ty.fi23_2 rfl rfl) ?_
    refine JA_take 12 (vS ((ch.getD j default).Key)) rfl (by kernel_rfl) (by kernel_rfl) (by kernel_rfl) rfl (fun _ _ _ h => h) rfl trivial (x_load 0 rfl rfl Ty.sc9 rfl) ?_
    refine JA_take 15 (Value.pointer (some ⟨b6, 3, none⟩)) rfl (by kernel_rfl) (by kernel_rfl) (by kernel_rfl) rfl (fun _ _ _ h => h) rfl trivial (fun _ _ => x_fieldAddr Ty.fi23_3 rfl rfl) ?_
    refine JA_take 16 (vS ((ch.getD j default).Record)) rfl (by kernel_rfl) (by kernel_rfl) (by kernel_rfl) rfl (fun _ _ _ h => h) rfl trivial (x_load 0 rfl rfl Ty.sc9 rfl) ?_
    refine JA_take 19 (Value.pointer (some ⟨b6, 4, none⟩)) rfl (by kernel_rfl) (by kernel_rfl) (by kernel_rfl) rfl (fun _ _ _ h => h) rfl trivial (fun _ _ => x_fieldAddr Ty.fi23_4 rfl rfl) ?_
    refine JA_take 20 (vS ((ch.getD j default).Volume)) rfl (by kernel_rfl) (by kernel_rfl) (by kernel_rfl) rfl (fun _ _ _ h => h) rfl trivial (x_load 0 rfl rfl Ty.sc9 rfl) ?_
    refine JA_one 4 (by kernel_rfl) (fun _ h => ⟨h, fun _ => h⟩) ?_
    refine JI_call [] [] [Ent.blk b6 23 (Change.enc (ch.getD j default)), Ent.blk b1 29 [vI num, vI unit, Value.slice chA ch.length chC]] rfl rfl trivial (fun _ => x_call Ty.ca66 rfl) (fun _ h => h) (fun _ h => by cases h) (fun w hS => f66_ok (UInt64.ofInt ((ch.getD j default).Kind)) w) ?_
    rintro _ _ ⟨rfl, rfl⟩
    have ha7 := R01.num_len (UInt64.ofInt ((ch.getD j default).Kind))
    refine JA_take 5 (vS (t ++ (R01.num (UInt64.ofInt ((ch.getD j default).Kind)).toNat))) rfl (by kernel_rfl) (by kernel_rfl) (by kernel_rfl) rfl (fun _ _ _ h => h) rfl trivial (fun _ _ => x_cat_s rfl rfl (by first | omega | (simp only [List.length_append, List.length_cons, List.length_nil]; omega) | (simp; omega) | (simp_all; omega))) ?_
    refine JA_one 9 (by kernel_rfl) (fun _ h => ⟨h, fun _ => h⟩) ?_
    refine JI_call [] [] [Ent.blk b6 23 (Change.enc (ch.getD j default)), Ent.blk b1 29 [vI num, vI unit, Value.slice chA ch.length chC]] rfl rfl trivial (fun _ => x_call Ty.ca66 rfl) (fun _ h => h) (fun _ h => by cases h) (fun w hS => f66_ok (UInt64.ofInt ((ch.getD j default).Id)) w) ?_
    rintro _ _ ⟨rfl, rfl⟩
    have ha8 := R01.num_len (UInt64.ofInt ((ch.getD j default).Id))
    refine JA_take 10 (vS ((t ++ (R01.num (UInt64.ofInt ((ch.getD j default).Kind)).toNat)) ++ (R01.num (UInt64.ofInt ((ch.getD j default).Id)).toNat))) rfl (by kernel_rfl) (by kernel_rfl) (by kernel_rfl) rfl (fun _ _ _ h => h) rfl trivial (fun _ _ => x_cat_s rfl rfl (by first | omega | (simp only [List.length_append, List.length_cons, List.length_nil]; omega) | (simp; omega) | (simp_all; omega))) ?_
    refine JA_one 13 (by kernel_rfl) (fun _ h => ⟨h, fun _ => h⟩) ?_
    refine JI_call [] [] [Ent.blk b6 23 (Change.enc (ch.getD j default)), Ent.blk b1 29 [vI num, vI unit, Value.slice chA ch.length chC]] rfl rfl trivial (fun _ => x_call Ty.ca67 rfl) (fun _ h => h) (fun _ h => by cases h) (fun w hS => f67_ok ((ch.getD j default).Key) w hy_) ?_
    rintro _ _ ⟨rfl, rfl⟩
    have ha9 := R01.text_len ((ch.getD j default).Key) (by omega)
    refine JA_take 14 (vS (((t ++ (R01.num (UInt64.ofInt ((ch.getD j default).Kind)).toNat)) ++ (R01.num (UInt64.ofInt ((ch.getD j default).Id)).toNat)) ++ (R01.text ((ch.getD j default).Key)))) rfl (by kernel_rfl) (by kernel_rfl) (by kernel_rfl) rfl (fun _ _ _ h => h) rfl trivial (fun _ _ => x_cat_s rfl rfl (by first | omega | (simp only [List.length_append, List.length_cons, List.length_nil]; omega) | (simp; omega) | (simp_all; omega))) ?_
    refine JA_one 17 (by kernel_rfl) (fun _ h => ⟨h, fun _ => h⟩) ?_
    refine JI_call [] [] [Ent.blk b6 23 (Change.enc (ch.getD j default)), Ent.blk b1 29 [vI num, vI unit, Value.slice chA ch.length chC]] rfl rfl trivial (fun _ => x_call Ty.ca67 rfl) (fun _ h => h) (fun _ h => by cases h) (fun w hS => f67_ok ((ch.getD j default).Record) w hy_) ?_
    rintro _ _ ⟨rfl, rfl⟩
    have ha10 := R01.text_len ((ch.getD j default).Record) (by omega)
    refine JA_take 18 (vS ((((t ++ (R01.num (UInt64.ofInt ((ch.getD j default).Kind)).toNat)) ++ (R01.num (UInt64.ofInt ((ch.getD j default).Id)).toNat)) ++ (R01.text ((ch.getD j default).Key))) ++ (R01.text ((ch.getD j default).Record)))) rfl (by kernel_rfl) (by kernel_rfl) (by kernel_rfl) rfl (fun _ _ _ h => h) rfl trivial (fun _ _ => x_cat_s rfl rfl (by first | omega | (simp only [List.length_append, List.length_cons, List.length_nil]; omega) | (simp; omega) | (simp_all; omega))) ?_
    refine JA_one 21 (by kernel_rfl) (fun _ h => ⟨h, fun _ => h⟩) ?_
    refine JI_call [] [] [Ent.blk b6 23 (Change.enc (ch.getD j default)), Ent.blk b1 29 [vI num, vI unit, Value.slice chA ch.length chC]] rfl rfl trivial (fun _ => x_call Ty.ca67 rfl) (fun _ h => h) (fun _ h => by cases h) (fun w hS => f67_ok ((ch.getD j default).Volume) w hy_) ?_
    rintro _ _ ⟨rfl, rfl⟩
    have ha11 := R01.text_len ((ch.getD j default).Volume) (by omega)
    refine JA_take 22 (vS (((((t ++ (R01.num (UInt64.ofInt ((ch.getD j default).Kind)).toNat)) ++ (R01.num (UInt64.ofInt ((ch.getD j default).Id)).toNat)) ++ (R01.text ((ch.getD j default).Key))) ++ (R01.text ((ch.getD j default).Record))) ++ (R01.text ((ch.getD j default).Volume)))) rfl (by kernel_rfl) (by kernel_rfl) (by kernel_rfl) rfl (fun _ _ _ h => h) rfl trivial (fun _ _ => x_cat_s rfl rfl (by first | omega | (simp only [List.length_append, List.length_cons, List.length_nil]; omega) | (simp; omega) | (simp_all; omega))) ?_
    refine JA_take 23 (vS (((((t ++ (R01.num (UInt64.ofInt ((ch.getD j default).Kind)).toNat)) ++ (R01.num (UInt64.ofInt ((ch.getD j default).Id)).toNat)) ++ (R01.text ((ch.getD j default).Key))) ++ (R01.text ((ch.getD j default).Record))) ++ (R01.text ((ch.getD j default).Volume)))) rfl (by kernel_rfl) (by kernel_rfl) (by kernel_rfl) rfl (fun _ _ _ h => h) rfl trivial (fun _ _ => rfl) ?_
    refine JA_done (by kernel_rfl) (fun _ h => ⟨h, fun _ => h⟩) ?_
    refine JX_block ?_
    refine JX_then ?_
    refine J_region ?_
    refine JO_read (vI ((j : Nat) : Int)) rfl trivial (fun _ _ => rfl) ?_
    refine JO_read (vI ((j + 1 : Nat) : Int)) rfl trivial (fun _ _ => x_add_n (a := j) (b := 1) rfl rfl (by omega)) ?_
    refine JO_read (vI ((j + 1 : Nat) : Int)) rfl trivial (fun _ _ => rfl) ?_
    refine JO_nil ?_
    refine JX_round ((j + 1, ((((t ++ (R01.num (UInt64.ofInt ((ch.getD j default).Kind)).toNat)) ++ (R01.num (UInt64.ofInt ((ch.getD j default).Id)).toNat)) ++ (R01.text ((ch.getD j default).Key))) ++ (R01.text ((ch.getD j default).Record))) ++ (R01.text ((ch.getD j default).Volume))) : Nat × Bytes) ?_ ?_ ⟨rfl, rfl, rfl, rfl, trivial⟩ (fun _ h => h.keep [false, true] rfl)
    · show ((j + 1) ≤ ch.length) ∧ ((((((t ++ (R01.num (UInt64.ofInt ((ch.getD j default).Kind)).toNat)) ++ (R01.num (UInt64.ofInt ((ch.getD j default).Id)).toNat)) ++ (R01.text ((ch.getD j default).Key))) ++ (R01.text ((ch.getD j default).Record))) ++ (R01.text ((ch.getD j default).Volume))) = R47.encn num ++ R47.encn unit ++ R47.encn ch.length ++ (ch.take (j + 1)).flatMap R47.encC) ∧ ((((((t ++ (R01.num (UInt64.ofInt ((ch.getD j default).Kind)).toNat)) ++ (R01.num (UInt64.ofInt ((ch.getD j default).Id)).toNat)) ++ (R01.text ((ch.getD j default).Key))) ++ (R01.text ((ch.getD j default).Record))) ++ (R01.text ((ch.getD j default).Volume))).length ≤ 30 + 6050 * (j + 1))
      refine ⟨?_, ?_, ?_⟩
      · first | rfl | omega | (simp_all; done) | (simp_all; omega)
      · exact R47.form_step (by omega) i1_1
      · have := hqj (by omega); simp only [List.length_append]; omega
    · show ch.length - (j + 1) < ch.length - j
      first | omega | (simp; omega) | (simp_all; omega)
  · have h5 := of_decide_eq_false h5
    refine J_exit ?_
    refine JX_then_exit ?_
    refine JX_round_exit ?_
    refine JX_block_hit ?_
    refine JX_then ?_
    refine J_seq ?_
    refine J_region ?_
    refine JO_read (vS t) rfl trivial (fun _ _ => rfl) ?_
    refine JO_read (vS t) rfl trivial (fun _ _ => rfl) ?_
    refine JO_nil ?_
    refine JX_then ?_
    refine J_ret ?_
    refine JX_rets [vS t] (vS t) Tryd.results49 (fun w h => ⟨rfl, trivial⟩) rfl [] (fun _ h => h.keep [false] rfl) ⟨?_, ?_⟩
    · have e_x0 : (t : Bytes) = (R47.enc num unit ch) := by
        rw [i1_1, show j = ch.length by omega, List.take_length]; rfl
      exact congrArg (fun (x0 : Bytes) => vS x0) e_x0
    · rfl

set_option maxRecDepth 20000 in
theorem f17_ok (num : Int) (unit : Int) (ch : List Change) (chA : Option Addr) (chC : Nat) (w : World) (chR : RO [] w chA (ch.flatMap Change.enc)) (q0 : ch.length ≤ 9223372036854775807) (q1 : ∀ i, i < ch.length → (ch.getD i default).Volume.length ≤ 9223372036854775807) : Calls Tryd.prog 17 #[Value.agg #[vI num, vI unit, Value.slice chA ch.length chC]] w (Gives [] w fun v L => v = Value.tuple #[vS ((R47.encode num unit ch).1), vI ((R47.encode num unit ch).2)] ∧ L = []) := by
  refine calls_J [] 14 Tryd.func17 rfl Tryd.ntmps17 [(0, Value.agg #[vI num, vI unit, Value.slice chA ch.length chC])] rfl rfl (Give.nil w) ?_
  refine J_seq ?_
  refine J_region ?_
  refine JO_op rfl trivial (O_box rfl rfl fun b1 => ?_)
  refine JO_read (vS []) rfl trivial (fun _ _ => rfl) ?_
  refine JO_read (vI 0) rfl trivial (fun _ _ => rfl) ?_
  refine JO_nil ?_
  refine JX_then ?_
  refine J_seq ?_
  refine J_seq ?_
  refine J_region ?_
  refine JO_read (Value.agg #[vI num, vI unit, Value.slice chA ch.length chC]) rfl trivial (x_loadN 0 [vI num, vI unit, Value.slice chA ch.length chC] rfl rfl Ty.ag29 Ty.sz29 rfl) ?_
  refine JO_call [] [] [Ent.blk b1 29 [vI num, vI unit, Value.slice chA ch.length chC]] rfl trivial (fun _ => x_call Ty.ca45 rfl) (fun _ h => h) (fun _ h => by cases h) (fun w hS => f45_ok num unit ch chA chC w (chR.on hS (fun _ h => by cases h)) hy_ hy_) ?_
  rintro _ _ ⟨rfl, rfl⟩
  refine JO_read (vB (!(R47.sound num unit ch))) rfl trivial (fun _ _ => x_not rfl) ?_
  refine JO_nil ?_
  refine JX_then ?_
  refine J_cond (!(R47.sound num unit ch)) rfl rfl (fun h2 => ?_) (fun h2 => ?_)
  · have h2 : (R47.sound num unit ch) = false := bnot_true h2
    refine J_seq ?_
    refine J_region ?_
    refine JO_read (vS []) rfl trivial (fun _ _ => rfl) ?_
    refine JO_read (vI 1) rfl trivial (fun _ _ => rfl) ?_
    refine JO_nil ?_
    refine JX_then ?_
    refine J_ret ?_
    refine JX_then_ret ?_
    first
      | have hd := R47.encode_no (by assumption)
      | have hd := R47.encode_big (by assumption) (by omega)
      | have hd := R47.encode_ok (by assumption) (by omega)
    refine JX_rets [vS [], vI 1] (Value.tuple #[vS [], vI 1]) Tryd.results17 (fun w h => ⟨rfl, rfl, trivial⟩) rfl [] (fun _ h => h.keep [false] rfl) ⟨?_, ?_⟩
    · have e_x0 : ([] : Bytes) = ((R47.encode num unit ch).1) := by
        first | (rw [hd]; done) | (rw [hd]; rfl)
      have e_x1 : (1 : Int) = ((R47.encode num unit ch).2) := by
        first | (rw [hd]; done) | (rw [hd]; rfl)
      have e_all := (congr (congrArg (fun (x0 : Bytes) (x1 : Int) => Value.tuple #[vS x0, vI x1]) e_x0) e_x1)
      exact e_all
    · rfl
  · have h2 : (R47.sound num unit ch) = true := bnot_false h2
    have hi3 := R47.sound_facts h2
    refine J_skip ?_
    refine JX_then ?_
    refine J_seq ?_
    refine J_region ?_
    refine JO_read (Value.agg #[vI num, vI unit, Value.slice chA ch.length chC]) rfl trivial (x_loadN 0 [vI num, vI unit, Value.slice chA ch.length chC] rfl rfl Ty.ag29 Ty.sz29 rfl) ?_
    refine JO_call [] [] [Ent.blk b1 29 [vI num, vI unit, Value.slice chA ch.length chC]] rfl trivial (fun _ => x_call Ty.ca47 rfl) (fun _ h => h) (fun _ h => by cases h) (fun w hS => f47_ok num unit ch chA chC w (chR.on hS (fun _ h => by cases h)) (by have := R47.sound_facts (by assumption); omega) (by intro i hi; have := R47.sound_lens (by assumption) i hi; omega)) ?_
    rintro _ _ ⟨rfl, rfl⟩
    refine JO_read (vS (R47.enc num unit ch)) rfl trivial (fun _ _ => rfl) ?_
    refine JO_nil ?_
    refine JX_then ?_
    refine J_seq ?_
    refine J_seq ?_
    refine J_region ?_
    refine JO_read (vS (R47.enc num unit ch)) rfl trivial (fun _ _ => rfl) ?_
    refine JO_read (vI (((R47.enc num unit ch).length : Nat) : Int)) rfl trivial (fun _ _ => x_len_s rfl Tryd.underlying9) ?_
    refine JO_read (vB (decide ((16384 : Int) < (((R47.enc num unit ch).length : Nat) : Int)))) rfl trivial (fun _ _ => x_gtr_i rfl rfl) ?_
    refine JO_nil ?_
    refine JX_then ?_
    refine J_cond (decide ((16384 : Int) < (((R47.enc num unit ch).length : Nat) : Int))) rfl rfl (fun h4 => ?_) (fun h4 => ?_)
    · have h4 := of_decide_eq_true h4
      refine J_seq ?_
      refine J_region ?_
      refine JO_read (vS []) rfl trivial (fun _ _ => rfl) ?_
      refine JO_read (vI 8) rfl trivial (fun _ _ => rfl) ?_
      refine JO_nil ?_
      refine JX_then ?_
      refine J_ret ?_
      refine JX_then_ret ?_
      first
        | have hd := R47.encode_no (by assumption)
        | have hd := R47.encode_big (by assumption) (by omega)
        | have hd := R47.encode_ok (by assumption) (by omega)
      refine JX_rets [vS [], vI 8] (Value.tuple #[vS [], vI 8]) Tryd.results17 (fun w h => ⟨rfl, rfl, trivial⟩) rfl [] (fun _ h => h.keep [false] rfl) ⟨?_, ?_⟩
      · have e_x0 : ([] : Bytes) = ((R47.encode num unit ch).1) := by
          first | (rw [hd]; done) | (rw [hd]; rfl)
        have e_x1 : (8 : Int) = ((R47.encode num unit ch).2) := by
          first | (rw [hd]; done) | (rw [hd]; rfl)
        have e_all := (congr (congrArg (fun (x0 : Bytes) (x1 : Int) => Value.tuple #[vS x0, vI x1]) e_x0) e_x1)
        exact e_all
      · rfl
    · have h4 := of_decide_eq_false h4
      refine J_skip ?_
      refine JX_then ?_
      refine J_seq ?_
      refine J_region ?_
      refine JO_read (vS (R47.enc num unit ch)) rfl trivial (fun _ _ => rfl) ?_
      refine JO_read (vS (R47.enc num unit ch)) rfl trivial (fun _ _ => rfl) ?_
      refine JO_read (vI 0) rfl trivial (fun _ _ => rfl) ?_
      refine JO_nil ?_
      refine JX_then ?_
      refine J_ret ?_
      first
        | have hd := R47.encode_no (by assumption)
        | have hd := R47.encode_big (by assumption) (by omega)
        | have hd := R47.encode_ok (by assumption) (by omega)
      refine JX_rets [vS (R47.enc num unit ch), vI 0] (Value.tuple #[vS (R47.enc num unit ch), vI 0]) Tryd.results17 (fun w h => ⟨rfl, rfl, trivial⟩) rfl [] (fun _ h => h.keep [false] rfl) ⟨?_, ?_⟩
      · have e_x0 : (R47.enc num unit ch : Bytes) = ((R47.encode num unit ch).1) := by
          first | (rw [hd]; done) | (rw [hd]; rfl)
        have e_x1 : (0 : Int) = ((R47.encode num unit ch).2) := by
          first | (rw [hd]; done) | (rw [hd]; rfl)
        have e_all := (congr (congrArg (fun (x0 : Bytes) (x1 : Int) => Value.tuple #[vS x0, vI x1]) e_x0) e_x1)
        exact e_all
      · rfl

set_option maxRecDepth 20000 in
theorem f22_ok (num : Int) (unit : Int) (ch : List Change) (chA : Option Addr) (chC : Nat) (w : World) (chR : RO [] w chA (ch.flatMap Change.enc)) (q0 : ch.length ≤ 9223372036854775807) (q1 : ∀ i, i < ch.length → (ch.getD i default).Volume.length ≤ 9223372036854775807) : Calls Tryd.prog 22 #[Value.agg #[vI num, vI unit, Value.slice chA ch.length chC]] w (Gives [] w fun v L => v = Value.tuple #[vS ((R47.encode num unit ch).1), vI ((R47.encode num unit ch).2)] ∧ L = []) := by
  refine calls_J [] 14 Tryd.func22 rfl Tryd.ntmps22 [(0, Value.agg #[vI num, vI unit, Value.slice chA ch.length chC])] rfl rfl (Give.nil w) ?_
  refine J_seq ?_
  refine J_region ?_
  refine JO_op rfl trivial (O_box rfl rfl fun b1 => ?_)
  refine JO_read (vS []) rfl trivial (fun _ _ => rfl) ?_
  refine JO_read (vI 0) rfl trivial (fun _ _ => rfl) ?_
  refine JO_nil ?_
  refine JX_then ?_
  refine J_seq ?_
  refine J_seq ?_
  refine J_region ?_
  refine JO_read (Value.agg #[vI num, vI unit, Value.slice chA ch.length chC]) rfl trivial (x_loadN 0 [vI num, vI unit, Value.slice chA ch.length chC] rfl rfl Ty.ag29 Ty.sz29 rfl) ?_
  refine JO_call [] [] [Ent.blk b1 29 [vI num, vI unit, Value.slice chA ch.length chC]] rfl trivial (fun _ => x_call Ty.ca48 rfl) (fun _ h => h) (fun _ h => by cases h) (fun w hS => f48_ok num unit ch chA chC w (chR.on hS (fun _ h => by cases h)) hy_ hy_) ?_
  rintro _ _ ⟨rfl, rfl⟩
  refine JO_read (vB (!(R47.sound num unit ch))) rfl trivial (fun _ _ => x_not rfl) ?_
  refine JO_nil ?_
  refine JX_then ?_
  refine J_cond (!(R47.sound num unit ch)) rfl rfl (fun h2 => ?_) (fun h2 => ?_)
  · have h2 : (R47.sound num unit ch) = false := bnot_true h2
    refine J_seq ?_
    refine J_region ?_
    refine JO_read (vS []) rfl trivial (fun _ _ => rfl) ?_
    refine JO_read (vI 1) rfl trivial (fun _ _ => rfl) ?_
    refine JO_nil ?_
    refine JX_then ?_
    refine J_ret ?_
    refine JX_then_ret ?_
    first
      | have hd := R47.encode_no (by assumption)
      | have hd := R47.encode_big (by assumption) (by omega)
      | have hd := R47.encode_ok (by assumption) (by omega)
    refine JX_rets [vS [], vI 1] (Value.tuple #[vS [], vI 1]) Tryd.results22 (fun w h => ⟨rfl, rfl, trivial⟩) rfl [] (fun _ h => h.keep [false] rfl) ⟨?_, ?_⟩
    · have e_x0 : ([] : Bytes) = ((R47.encode num unit ch).1) := by
        first | (rw [hd]; done) | (rw [hd]; rfl)
      have e_x1 : (1 : Int) = ((R47.encode num unit ch).2) := by
        first | (rw [hd]; done) | (rw [hd]; rfl)
      have e_all := (congr (congrArg (fun (x0 : Bytes) (x1 : Int) => Value.tuple #[vS x0, vI x1]) e_x0) e_x1)
      exact e_all
    · rfl
  · have h2 : (R47.sound num unit ch) = true := bnot_false h2
    have hi3 := R47.sound_facts h2
    refine J_skip ?_
    refine JX_then ?_
    refine J_seq ?_
    refine J_region ?_
    refine JO_read (Value.agg #[vI num, vI unit, Value.slice chA ch.length chC]) rfl trivial (x_loadN 0 [vI num, vI unit, Value.slice chA ch.length chC] rfl rfl Ty.ag29 Ty.sz29 rfl) ?_
    refine JO_call [] [] [Ent.blk b1 29 [vI num, vI unit, Value.slice chA ch.length chC]] rfl trivial (fun _ => x_call Ty.ca49 rfl) (fun _ h => h) (fun _ h => by cases h) (fun w hS => f49_ok num unit ch chA chC w (chR.on hS (fun _ h => by cases h)) (by have := R47.sound_facts (by assumption); omega) (by intro i hi; have := R47.sound_lens (by assumption) i hi; omega)) ?_
    rintro _ _ ⟨rfl, rfl⟩
    refine JO_read (vS (R47.enc num unit ch)) rfl trivial (fun _ _ => rfl) ?_
    refine JO_nil ?_
    refine JX_then ?_
    refine J_seq ?_
    refine J_seq ?_
    refine J_region ?_
    refine JO_read (vS (R47.enc num unit ch)) rfl trivial (fun _ _ => rfl) ?_
    refine JO_read (vI (((R47.enc num unit ch).length : Nat) : Int)) rfl trivial (fun _ _ => x_len_s rfl Tryd.underlying9) ?_
    refine JO_read (vB (decide ((16384 : Int) < (((R47.enc num unit ch).length : Nat) : Int)))) rfl trivial (fun _ _ => x_gtr_i rfl rfl) ?_
    refine JO_nil ?_
    refine JX_then ?_
    refine J_cond (decide ((16384 : Int) < (((R47.enc num unit ch).length : Nat) : Int))) rfl rfl (fun h4 => ?_) (fun h4 => ?_)
    · have h4 := of_decide_eq_true h4
      refine J_seq ?_
      refine J_region ?_
      refine JO_read (vS []) rfl trivial (fun _ _ => rfl) ?_
      refine JO_read (vI 8) rfl trivial (fun _ _ => rfl) ?_
      refine JO_nil ?_
      refine JX_then ?_
      refine J_ret ?_
      refine JX_then_ret ?_
      first
        | have hd := R47.encode_no (by assumption)
        | have hd := R47.encode_big (by assumption) (by omega)
        | have hd := R47.encode_ok (by assumption) (by omega)
      refine JX_rets [vS [], vI 8] (Value.tuple #[vS [], vI 8]) Tryd.results22 (fun w h => ⟨rfl, rfl, trivial⟩) rfl [] (fun _ h => h.keep [false] rfl) ⟨?_, ?_⟩
      · have e_x0 : ([] : Bytes) = ((R47.encode num unit ch).1) := by
          first | (rw [hd]; done) | (rw [hd]; rfl)
        have e_x1 : (8 : Int) = ((R47.encode num unit ch).2) := by
          first | (rw [hd]; done) | (rw [hd]; rfl)
        have e_all := (congr (congrArg (fun (x0 : Bytes) (x1 : Int) => Value.tuple #[vS x0, vI x1]) e_x0) e_x1)
        exact e_all
      · rfl
    · have h4 := of_decide_eq_false h4
      refine J_skip ?_
      refine JX_then ?_
      refine J_seq ?_
      refine J_region ?_
      refine JO_read (vS (R47.enc num unit ch)) rfl trivial (fun _ _ => rfl) ?_
      refine JO_read (vS (R47.enc num unit ch)) rfl trivial (fun _ _ => rfl) ?_
      refine JO_read (vI 0) rfl trivial (fun _ _ => rfl) ?_
      refine JO_nil ?_
      refine JX_then ?_
      refine J_ret ?_
      first
        | have hd := R47.encode_no (by assumption)
        | have hd := R47.encode_big (by assumption) (by omega)
        | have hd := R47.encode_ok (by assumption) (by omega)
      refine JX_rets [vS (R47.enc num unit ch), vI 0] (Value.tuple #[vS (R47.enc num unit ch), vI 0]) Tryd.results22 (fun w h => ⟨rfl, rfl, trivial⟩) rfl [] (fun _ h => h.keep [false] rfl) ⟨?_, ?_⟩
      · have e_x0 : (R47.enc num unit ch : Bytes) = ((R47.encode num unit ch).1) := by
          first | (rw [hd]; done) | (rw [hd]; rfl)
        have e_x1 : (0 : Int) = ((R47.encode num unit ch).2) := by
          first | (rw [hd]; done) | (rw [hd]; rfl)
        have e_all := (congr (congrArg (fun (x0 : Bytes) (x1 : Int) => Value.tuple #[vS x0, vI x1]) e_x0) e_x1)
        exact e_all
      · rfl

set_option maxRecDepth 20000 in
theorem f23_ok (num : Int) (unit : Int) (ch : List Change) (chA : Option Addr) (chC : Nat) (w : World) (chR : RO [] w chA (ch.flatMap Change.enc)) (q0 : ch.length ≤ 9223372036854775807) (q1 : ∀ i, i < ch.length → (ch.getD i default).Volume.length ≤ 9223372036854775807) : Calls Tryd.prog 23 #[Value.agg #[vI num, vI unit, Value.slice chA ch.length chC]] w (Gives [] w fun v L => v = vB ((R47.sound num unit ch) && (decide (((R47.enc num unit ch).length : Int) ≤ 16384))) ∧ L = []) := by
  refine calls_J [] 11 Tryd.func23 rfl Tryd.ntmps23 [(0, Value.agg #[vI num, vI unit, Value.slice chA ch.length chC])] rfl rfl (Give.nil w) ?_
  refine J_seq ?_
  refine J_region ?_
  refine JO_op rfl trivial (O_box rfl rfl fun b1 => ?_)
  refine JO_read (vB false) rfl trivial (fun _ _ => rfl) ?_
  refine JO_nil ?_
  refine JX_then ?_
  refine J_seq ?_
  refine J_region ?_
  refine JO_read (Value.agg #[vI num, vI unit, Value.slice chA ch.length chC]) rfl trivial (x_loadN 0 [vI num, vI unit, Value.slice chA ch.length chC] rfl rfl Ty.ag29 Ty.sz29 rfl) ?_
  refine JO_call [] [] [Ent.blk b1 29 [vI num, vI unit, Value.slice chA ch.length chC]] rfl trivial (fun _ => x_call Ty.ca45 rfl) (fun _ h => h) (fun _ h => by cases h) (fun w hS => f45_ok num unit ch chA chC w (chR.on hS (fun _ h => by cases h)) hy_ hy_) ?_
  rintro _ _ ⟨rfl, rfl⟩
  refine JO_read (vB (R47.sound num unit ch)) rfl trivial (fun _ _ => rfl) ?_
  refine JO_cut (X := Bool) 5 (fun z => z = ((R47.sound num unit ch) && (decide ((((R47.enc num unit ch).length : Nat) : Int) ≤ 16384)))) (fun z => [(2, vB false), (10, vB z)]) (fun _ => [Ent.blk b1 29 [vI num, vI unit, Value.slice chA ch.length chC]]) ?_ ?_
  · rcases Bool.eq_false_or_eq_true (R47.sound num unit ch) with g3 | g3
    · have g3r := g3
      have hi4 := R47.sound_facts g3r
      refine JO_read (Value.agg #[vI num, vI unit, Value.slice chA ch.length chC]) rfl ⟨_, rfl, g3⟩ (x_loadN 0 [vI num, vI unit, Value.slice chA ch.length chC] rfl rfl Ty.ag29 Ty.sz29 rfl) ?_
      refine JO_call [] [] [Ent.blk b1 29 [vI num, vI unit, Value.slice chA ch.length chC]] rfl ⟨_, rfl, g3⟩ (fun _ => x_call Ty.ca47 rfl) (fun _ h => h) (fun _ h => by cases h) (fun w hS => f47_ok num unit ch chA chC w (chR.on hS (fun _ h => by cases h)) (by have := R47.sound_facts (by assumption); omega) (by intro i hi; have := R47.sound_lens (by assumption) i hi; omega)) ?_
      rintro _ _ ⟨rfl, rfl⟩
      refine JO_read (vI (((R47.enc num unit ch).length : Nat) : Int)) rfl ⟨_, rfl, g3⟩ (fun _ _ => x_len_s rfl Tryd.underlying9) ?_
      refine JO_read (vB (decide ((((R47.enc num unit ch).length : Nat) : Int) ≤ 16384))) rfl ⟨_, rfl, g3⟩ (fun _ _ => x_leq_i rfl rfl) ?_
      refine JO_read (vB (decide ((((R47.enc num unit ch).length : Nat) : Int) ≤ 16384))) rfl trivial (fun _ _ => x_pick_t rfl g3 rfl) ?_
      refine JO_nil (JX_cut (decide ((((R47.enc num unit ch).length : Nat) : Int) ≤ 16384)) (by rw [g3]; simp) ⟨rfl, rfl, trivial⟩ (fun _ h => h))
    · have g3r := g3
      refine JO_shun rfl ⟨_, rfl, g3⟩ ?_
      refine JO_shun rfl ⟨_, rfl, g3⟩ ?_
      refine JO_shun rfl ⟨_, rfl, g3⟩ ?_
      refine JO_shun rfl ⟨_, rfl, g3⟩ ?_
      refine JO_read (vB false) rfl trivial (fun _ _ => x_pick_f rfl g3 rfl) ?_
      refine JO_nil (JX_cut (false) (by rw [g3]; simp) ⟨rfl, rfl, trivial⟩ (fun _ h => h))
  rintro z2 rfl
  refine JO_read (vB ((R47.sound num unit ch) && (decide ((((R47.enc num unit ch).length : Nat) : Int) ≤ 16384)))) rfl trivial (fun _ _ => rfl) ?_
  refine JO_nil ?_
  refine JX_then ?_
  refine J_ret ?_
  refine JX_rets [vB ((R47.sound num unit ch) && (decide ((((R47.enc num unit ch).length : Nat) : Int) ≤ 16384)))] (vB ((R47.sound num unit ch) && (decide ((((R47.enc num unit ch).length : Nat) : Int) ≤ 16384)))) Tryd.results23 (fun w h => ⟨rfl, trivial⟩) rfl [] (fun _ h => h.keep [false] rfl) ⟨?_, ?_⟩
  · have e_x0 : ((R47.sound num unit ch) && (decide ((((R47.enc num unit ch).length : Nat) : Int) ≤ 16384)) : Bool) = ((R47.sound num unit ch) && (decide (((R47.enc num unit ch).length : Int) ≤ 16384))) := by
      first | rfl | omega | (simp_all; done) | (simp_all; omega)
    exact congrArg (fun (x0 : Bool) => vB x0) e_x0
  · rfl

set_option maxRecDepth 20000 in
theorem f18_ok (num : Int) (unit : Int) (ch : List Change) (chA : Option Addr) (chC : Nat) (w : World) (chR : RO [] w chA (ch.flatMap Change.enc)) (q0 : ch.length ≤ 9223372036854775807) (q1 : ∀ i, i < ch.length → (ch.getD i default).Volume.length ≤ 9223372036854775807) : Calls Tryd.prog 18 #[Value.agg #[vI num, vI unit, Value.slice chA ch.length chC]] w (Gives [] w fun v L => v = vB ((R47.sound num unit ch) && (decide (((R47.enc num unit ch).length : Int) ≤ 16384))) ∧ L = []) := by
  refine calls_J [] 11 Tryd.func18 rfl Tryd.ntmps18 [(0, Value.agg #[vI num, vI unit, Value.slice chA ch.length chC])] rfl rfl (Give.nil w) ?_
  refine J_seq ?_
  refine J_region ?_
  refine JO_op rfl trivial (O_box rfl rfl fun b1 => ?_)
  refine JO_read (vB false) rfl trivial (fun _ _ => rfl) ?_
  refine JO_nil ?_
  refine JX_then ?_
  refine J_seq ?_
  refine J_region ?_
  refine JO_read (Value.agg #[vI num, vI unit, Value.slice chA ch.length chC]) rfl trivial (x_loadN 0 [vI num, vI unit, Value.slice chA ch.length chC] rfl rfl Ty.ag29 Ty.sz29 rfl) ?_
  refine JO_call [] [] [Ent.blk b1 29 [vI num, vI unit, Value.slice chA ch.length chC]] rfl trivial (fun _ => x_call Ty.ca48 rfl) (fun _ h => h) (fun _ h => by cases h) (fun w hS => f48_ok num unit ch chA chC w (chR.on hS (fun _ h => by cases h)) hy_ hy_) ?_
  rintro _ _ ⟨rfl, rfl⟩
  refine JO_read (vB (R47.sound num unit ch)) rfl trivial (fun _ _ => rfl) ?_
  refine JO_cut (X := Bool) 5 (fun z => z = ((R47.sound num unit ch) && (decide ((((R47.enc num unit ch).length : Nat) : Int) ≤ 16384)))) (fun z => [(2, vB false), (10, vB z)]) (fun _ => [Ent.blk b1 29 [vI num, vI unit, Value.slice chA ch.length chC]]) ?_ ?_
  · rcases Bool.eq_false_or_eq_true (R47.sound num unit ch) with g3 | g3
    · have g3r := g3
      have hi4 := R47.sound_facts g3r
      refine JO_read (Value.agg #[vI num, vI unit, Value.slice chA ch.length chC]) rfl ⟨_, rfl, g3⟩ (x_loadN 0 [vI num, vI unit, Value.slice chA ch.length chC] rfl rfl Ty.ag29 Ty.sz29 rfl) ?_
      refine JO_call [] [] [Ent.blk b1 29 [vI num, vI unit, Value.slice chA ch.length chC]] rfl ⟨_, rfl, g3⟩ (fun _ => x_call Ty.ca49 rfl) (fun _ h => h) (fun _ h => by cases h) (fun w hS => f49_ok num unit ch chA chC w (chR.on hS (fun _ h => by cases h)) (by have := R47.sound_facts (by assumption); omega) (by intro i hi; have := R47.sound_lens (by assumption) i hi; omega)) ?_
      rintro _ _ ⟨rfl, rfl⟩
      refine JO_read (vI (((R47.enc num unit ch).length : Nat) : Int)) rfl ⟨_, rfl, g3⟩ (fun _ _ => x_len_s rfl Tryd.underlying9) ?_
      refine JO_read (vB (decide ((((R47.enc num unit ch).length : Nat) : Int) ≤ 16384))) rfl ⟨_, rfl, g3⟩ (fun _ _ => x_leq_i rfl rfl) ?_
      refine JO_read (vB (decide ((((R47.enc num unit ch).length : Nat) : Int) ≤ 16384))) rfl trivial (fun _ _ => x_pick_t rfl g3 rfl) ?_
      refine JO_nil (JX_cut (decide ((((R47.enc num unit ch).length : Nat) : Int) ≤ 16384)) (by rw [g3]; simp) ⟨rfl, rfl, trivial⟩ (fun _ h => h))
    · have g3r := g3
      refine JO_shun rfl ⟨_, rfl, g3⟩ ?_
      refine JO_shun rfl ⟨_, rfl, g3⟩ ?_
      refine JO_shun rfl ⟨_, rfl, g3⟩ ?_
      refine JO_shun rfl ⟨_, rfl, g3⟩ ?_
      refine JO_read (vB false) rfl trivial (fun _ _ => x_pick_f rfl g3 rfl) ?_
      refine JO_nil (JX_cut (false) (by rw [g3]; simp) ⟨rfl, rfl, trivial⟩ (fun _ h => h))
  rintro z2 rfl
  refine JO_read (vB ((R47.sound num unit ch) && (decide ((((R47.enc num unit ch).length : Nat) : Int) ≤ 16384)))) rfl trivial (fun _ _ => rfl) ?_
  refine JO_nil ?_
  refine JX_then ?_
  refine J_ret ?_
  refine JX_rets [vB ((R47.sound num unit ch) && (decide ((((R47.enc num unit ch).length : Nat) : Int) ≤ 16384)))] (vB ((R47.sound num unit ch) && (decide ((((R47.enc num unit ch).length : Nat) : Int) ≤ 16384)))) Tryd.results18 (fun w h => ⟨rfl, trivial⟩) rfl [] (fun _ h => h.keep [false] rfl) ⟨?_, ?_⟩
  · have e_x0 : ((R47.sound num unit ch) && (decide ((((R47.enc num unit ch).length : Nat) : Int) ≤ 16384)) : Bool) = ((R47.sound num unit ch) && (decide (((R47.enc num unit ch).length : Int) ≤ 16384))) := by
      first | rfl | omega | (simp_all; done) | (simp_all; omega)
    exact congrArg (fun (x0 : Bool) => vB x0) e_x0
  · rfl

end Go.Proofs.YtknibpmmjhmjeaaDoor
