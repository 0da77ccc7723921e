/- contracts C14m -/
import Derived.Test.YtodfebhimadaiaaC14h
import Derived.Test.YtodfebhimadaiaaPl14g
namespace Go.Proofs.Ytodfebhimadaiaa
open Go.GV
set_option linter.unusedVariables false
set_option linter.unusedSimpArgs false
set_option maxRecDepth 20000 in
theorem f87_ok (e : Int) (w : World) : Calls Try.prog 87 #[vI e] w (Gives [] w fun v L => v = Value.agg #[vS [], vI e] ∧ L = []) := by
  refine calls_J [] 5 Try.func87 rfl Try.ntmps87 [(0, vI e)] rfl rfl (Give.nil w) ?_
  refine J_seq (J_region ?_)
  refine JO_op rfl trivial (O_alloc Ty.ze116 rfl fun b1 => ?_)
  refine JO_nil (JX_then (J_seq (J_region ?_)))
  refine jr_ (vI e) ?_
  refine JO_read (Value.agg #[vS [], vI e]) rfl trivial (fun _ _ => x_build (by kernel_rfl)) ?_
  refine JO_op rfl trivial (O_store 0 [vS [], vI e] [Ent.blk b1 116 [vS [], vI e]] rfl rfl rfl Ty.sz116 rfl (Nat.le_of_ble_eq_true rfl) rfl rfl rfl ?_)
  refine JO_nil (JX_then (J_ret ?_))
  refine JX_rets [Value.agg #[vS [], vI e]] (Value.agg #[vS [], vI e]) Try.results87 (fun w h => ⟨⟨_, rfl, load_blkN 0 [vS [], vI e] h rfl Ty.ag116 Ty.sz116 rfl⟩, trivial⟩) rfl [] (fun _ h => h.keep [false] rfl) ⟨?_, ?_⟩
  · rfl
  · rfl
set_option maxRecDepth 20000 in
theorem f86_ok (rd : Reader) (w : World) (q0 : rd.left.length ≤ 4611686018427387904) : Calls Try.prog 86 #[Value.agg #[vS rd.left, vI rd.err]] w (Gives [] w fun v L => v = Value.tuple #[vU64 ((Rd.number rd).1), Value.agg #[vS (((Rd.number rd).2).left), vI (((Rd.number rd).2).err)]] ∧ L = []) := by
  refine calls_J [] 58 Try.func86 rfl Try.ntmps86 [(0, Value.agg #[vS rd.left, vI rd.err])] rfl rfl (Give.nil w) ?_
  refine J_seq (J_region ?_)
  refine JO_op rfl trivial (O_box rfl rfl fun b1 => ?_)
  refine jr_ (vU64 0) ?_
  refine JO_op rfl trivial (O_alloc Ty.ze116 rfl fun b2 => ?_)
  refine JO_nil (JX_then (J_seq (J_seq (J_region ?_))))
  refine JO_read (Value.pointer (some ⟨b1, 1, none⟩)) rfl trivial (fun _ _ => x_fieldAddr Ty.fi116_1 rfl rfl) ?_
  refine JO_read (vI rd.err) rfl trivial (x_load 1 rfl rfl Ty.sc23 rfl) ?_
  refine JO_read (vB (decide (rd.err ≠ 0))) rfl trivial (fun _ _ => x_neq_i rfl rfl) ?_
  refine JO_nil (JX_then ?_)
  refine J_cond (decide (rd.err ≠ 0)) rfl rfl (fun h3 => ?_) (fun h3 => ?_)
  · have h3w := h3
    have h3 := of_decide_eq_true h3
    refine J_seq ?_
    refine J_draw [Ent.blk b1 116 [vS rd.left, vI rd.err]] [2] [Ent.blk b2 116 [vS [], vI 0], Ent.blk b1 116 [vS rd.left, vI rd.err]] 3 Ty.mixed rfl ?_
    refine jt_ 0 (Value.agg #[vS rd.left, vI rd.err]) rfl (x_loadN 0 [vS rd.left, vI rd.err] rfl rfl Ty.ag116 Ty.sz116 rfl) ?_
    refine jt_ 1 (vU64 0) rfl (fun _ _ => rfl) ?_
    refine JA_one 2 (by kernel_rfl) (fun _ h => ⟨h.keep [false, true] rfl, fun _ => h⟩) ?_
    refine JI_op rfl rfl trivial (O_store 0 [vS rd.left, vI rd.err] [Ent.blk b2 116 [vS rd.left, vI rd.err], Ent.blk b1 116 [vS rd.left, vI rd.err]] rfl rfl rfl Ty.sz116 rfl (Nat.le_of_ble_eq_true rfl) rfl rfl rfl ?_)
    refine JA_done (by kernel_rfl) (fun _ h => ⟨h.keep [false, true] rfl, fun hh => Bool.noConfusion (show false = true from hh)⟩) ?_
    refine JX_then (J_ret (JX_then_ret ?_))
    first
      | have hd := Rd.number_no (r := rd) (by assumption)
      | have hd := Rd.num_bad i1_4 (R01.go_bad1 i1_3 (by omega) (by omega) (by assumption))
      | have hd := Rd.num_bad i1_4 (R01.go_bad2 i1_3 (by omega) (by omega) (by assumption) (by assumption) (by assumption))
      | have hd := Rd.num_hit i1_4 (R01.go_hit i1_3 i1_2 (by omega) (by omega) (by assumption) (by assumption) (by assumption))
      | have hd := Rd.num_bad i1_4 (R01.at_end i1_3 (by first | omega | (simp_all; omega)))
    refine JX_rets [vU64 0, Value.agg #[vS rd.left, vI rd.err]] (Value.tuple #[vU64 0, Value.agg #[vS rd.left, vI rd.err]]) Try.results86 (fun w h => ⟨rfl, ⟨_, rfl, load_blkN 0 [vS rd.left, vI rd.err] h rfl Ty.ag116 Ty.sz116 rfl⟩, trivial⟩) rfl [] (fun _ h => h.keep [false, false] rfl) ⟨?_, ?_⟩
    · have e_x0 : (0 : UInt64) = ((Rd.number rd).1) := by first | (rw [hd]; done) | (rw [hd]; rfl) | (rw [hd]; exact hsh (by omega) (by assumption)) | (rw [hd]; exact sub_from _ _)
      have e_x1 : (rd.left : Bytes) = (((Rd.number rd).2).left) := by first | (rw [hd]; done) | (rw [hd]; rfl) | (rw [hd]; exact hsh (by omega) (by assumption)) | (rw [hd]; exact sub_from _ _)
      have e_x2 : (rd.err : Int) = (((Rd.number rd).2).err) := by first | (rw [hd]; done) | (rw [hd]; rfl) | (rw [hd]; exact hsh (by omega) (by assumption)) | (rw [hd]; exact sub_from _ _)
      have e_all := (congr (congr (congrArg (fun (x0 : UInt64) (x1 : Bytes) (x2 : Int) => Value.tuple #[vU64 x0, Value.agg #[vS x1, vI x2]]) e_x0) e_x1) e_x2)
      exact e_all
    · rfl
  · have h3w := h3
    have h3 := of_decide_eq_false h3
    refine J_skip (JX_then (J_seq (J_region ?_)))
    refine jr_ (vU64 0) ?_
    refine JO_nil (JX_then (J_seq (J_seq (J_region ?_))))
    refine jr_ (vI 0) ?_
    refine JO_nil (JX_then (J_block ?_))
    refine J_loop (X := Nat × UInt64) (fun (⟨k, n⟩ : Nat × UInt64) => (k ≤ 10) ∧ (k ≤ rd.left.length) ∧ (n.toNat < 2 ^ (7 * k)) ∧ (R01.at_ rd.left k n) ∧ (rd.err = 0)) (fun (⟨k, n⟩ : Nat × UInt64) => [(1, Value.pointer (some ⟨b1, 0, none⟩)), (3, Value.pointer (some ⟨b2, 0, none⟩)), (4, vU64 n), (5, vI ((k : Nat) : Int))]) (fun (⟨k, n⟩ : Nat × UInt64) => [Ent.blk b2 116 [vS [], vI 0], Ent.blk b1 116 [vS rd.left, vI rd.err]]) (fun (⟨k, n⟩ : Nat × UInt64) => 10 - k) ((0, (0 : UInt64)) : Nat × UInt64) ?_ ⟨rfl, rfl, rfl, rfl, trivial⟩ (fun _ h => h) ?_
    · show (0 ≤ 10) ∧ (0 ≤ rd.left.length) ∧ ((0 : UInt64).toNat < 2 ^ (7 * 0)) ∧ (R01.at_ rd.left 0 (0 : UInt64)) ∧ (rd.err = 0)
      refine ⟨?_, ?_, ?_, ?_, ?_⟩
      · first | rfl | omega | (simp_all; done) | (simp_all; omega)
      · first | rfl | omega | (simp_all; done) | (simp_all; omega)
      · decide
      · exact R01.at_zero _
      · omega
    rintro ⟨k, n⟩ hI1
    obtain ⟨i1_0, i1_1, i1_2, i1_3, i1_4⟩ : (k ≤ 10) ∧ (k ≤ rd.left.length) ∧ (n.toNat < 2 ^ (7 * k)) ∧ (R01.at_ rd.left k n) ∧ (rd.err = 0) := hI1
    have hsh := Rd.shl_add (b := rd.left.getD k 0) (k := k) (n := n) i1_2
    refine J_weaken (E' := [(1, Value.pointer (some ⟨b1, 0, none⟩)), (3, Value.pointer (some ⟨b2, 0, none⟩)), (4, vU64 n), (5, vI ((k : Nat) : Int))]) (L' := [Ent.blk b2 116 [vS [], vI 0], Ent.blk b1 116 [vS rd.left, vI rd.err]]) ⟨rfl, rfl, rfl, rfl, trivial⟩ (fun _ h => h) ?_
    refine J_seq (J_seq (J_region ?_))
    refine jr_ (vI ((k : Nat) : Int)) ?_
    refine JO_read (Value.pointer (some ⟨b1, 0, none⟩)) rfl trivial (fun _ _ => x_fieldAddr Ty.fi116_0 rfl rfl) ?_
    refine JO_read (vS rd.left) rfl trivial (x_load 1 rfl rfl Ty.sc9 rfl) ?_
    refine JO_read (vI ((rd.left.length : Nat) : Int)) rfl trivial (fun _ _ => x_len_s rfl Try.underlying9) ?_
    refine JO_read (vB (decide (((k : Nat) : Int) < ((rd.left.length : Nat) : Int)))) rfl trivial (fun _ _ => x_lss_i rfl rfl) ?_
    refine jr_ (vB (decide (((k : Nat) : Int) < ((rd.left.length : Nat) : Int)))) ?_
    refine JO_cut (X := Bool) 3 (fun z => z = ((decide (((k : Nat) : Int) < ((rd.left.length : Nat) : Int))) && (decide (((k : Nat) : Int) < 10)))) (fun z => [(1, Value.pointer (some ⟨b1, 0, none⟩)), (3, Value.pointer (some ⟨b2, 0, none⟩)), (4, vU64 n), (5, vI ((k : Nat) : Int)), (19, vB z)]) (fun _ => [Ent.blk b2 116 [vS [], vI 0], Ent.blk b1 116 [vS rd.left, vI rd.err]]) ?_ ?_
    · rcases Bool.eq_false_or_eq_true (decide (((k : Nat) : Int) < ((rd.left.length : Nat) : Int))) with g5 | g5
      · have g5r := g5
        have g5r := of_decide_eq_true g5r
        refine JO_read (vI ((k : Nat) : Int)) rfl ⟨_, rfl, g5⟩ (fun _ _ => rfl) ?_
        refine JO_read (vB (decide (((k : Nat) : Int) < 10))) rfl ⟨_, rfl, g5⟩ (fun _ _ => x_lss_i rfl rfl) ?_
        refine JO_read (vB (decide (((k : Nat) : Int) < 10))) rfl trivial (fun _ _ => x_pick_t rfl g5 rfl) ?_
        refine JO_nil (JX_cut (decide (((k : Nat) : Int) < 10)) (by rw [g5]; simp) ⟨rfl, rfl, rfl, rfl, rfl, trivial⟩ (fun _ h => h))
      · have g5r := g5
        have g5r := of_decide_eq_false g5r
        refine JO_shun rfl ⟨_, rfl, g5⟩ ?_
        refine JO_shun rfl ⟨_, rfl, g5⟩ ?_
        refine JO_read (vB false) rfl trivial (fun _ _ => x_pick_f rfl g5 rfl) ?_
        refine JO_nil (JX_cut (false) (by rw [g5]; simp) ⟨rfl, rfl, rfl, rfl, rfl, trivial⟩ (fun _ h => h))
    rintro z4 rfl
    refine JO_nil (JX_then ?_)
    refine J_cond ((decide (((k : Nat) : Int) < ((rd.left.length : Nat) : Int))) && (decide (((k : Nat) : Int) < 10))) rfl rfl (fun h6 => ?_) (fun h6 => ?_)
    · have h6w := h6
      have ⟨h6, h7⟩ := band_true h6
      have h6 := of_decide_eq_true h6
      have h7 := of_decide_eq_true h7
      refine J_skip (JX_then (J_seq (J_block (J_seq (J_region ?_)))))
      refine JO_read (Value.pointer (some ⟨b1, 0, none⟩)) rfl trivial (fun _ _ => x_fieldAddr Ty.fi116_0 rfl rfl) ?_
      refine JO_read (vS rd.left) rfl trivial (x_load 1 rfl rfl Ty.sc9 rfl) ?_
      refine jr_ (vI ((k : Nat) : Int)) ?_
      refine JO_read (vU8 (rd.left.getD k 0)) rfl trivial (fun _ _ => x_idx_s (k := k) rfl rfl Try.underlying9 (by omega)) ?_
      refine jr_ (vU8 (rd.left.getD k 0)) ?_
      refine JO_nil (JX_then (J_seq (J_seq (J_region ?_))))
      refine jr_ (vI ((k : Nat) : Int)) ?_
      refine JO_read (vB (decide (((k : Nat) : Int) = 9))) rfl trivial (fun _ _ => x_eql_i rfl rfl) ?_
      refine jr_ (vB (decide (((k : Nat) : Int) = 9))) ?_
      refine JO_cut (X := Bool) 3 (fun z => z = ((decide (((k : Nat) : Int) = 9)) && (decide ((1 : UInt8) < rd.left.getD k 0)))) (fun z => [(1, Value.pointer (some ⟨b1, 0, none⟩)), (3, Value.pointer (some ⟨b2, 0, none⟩)), (4, vU64 n), (5, vI ((k : Nat) : Int)), (6, vU8 (rd.left.getD k 0)), (31, vB z)]) (fun _ => [Ent.blk b2 116 [vS [], vI 0], Ent.blk b1 116 [vS rd.left, vI rd.err]]) ?_ ?_
      · rcases Bool.eq_false_or_eq_true (decide (((k : Nat) : Int) = 9)) with g9 | g9
        · have g9r := g9
          have g9r := of_decide_eq_true g9r
          refine JO_read (vU8 (rd.left.getD k 0)) rfl ⟨_, rfl, g9⟩ (fun _ _ => rfl) ?_
          refine JO_read (vB (decide ((1 : UInt8) < rd.left.getD k 0))) rfl ⟨_, rfl, g9⟩ (fun _ _ => x_gtr_u8 rfl rfl) ?_
          refine JO_read (vB (decide ((1 : UInt8) < rd.left.getD k 0))) rfl trivial (fun _ _ => x_pick_t rfl g9 rfl) ?_
          refine JO_nil (JX_cut (decide ((1 : UInt8) < rd.left.getD k 0)) (by rw [g9]; simp) ⟨rfl, rfl, rfl, rfl, rfl, rfl, trivial⟩ (fun _ h => h))
        · have g9r := g9
          have g9r := of_decide_eq_false g9r
          refine JO_shun rfl ⟨_, rfl, g9⟩ ?_
          refine JO_shun rfl ⟨_, rfl, g9⟩ ?_
          refine JO_read (vB false) rfl trivial (fun _ _ => x_pick_f rfl g9 rfl) ?_
          refine JO_nil (JX_cut (false) (by rw [g9]; simp) ⟨rfl, rfl, rfl, rfl, rfl, rfl, trivial⟩ (fun _ h => h))
      rintro z8 rfl
      refine JO_nil (JX_then ?_)
      refine J_cond ((decide (((k : Nat) : Int) = 9)) && (decide ((1 : UInt8) < rd.left.getD k 0))) rfl rfl (fun h10 => ?_) (fun h10 => ?_)
      · have h10w := h10
        have ⟨h10, h11⟩ := band_true h10
        have h10 := of_decide_eq_true h10
        have h11 := of_decide_eq_true h11
        have h11u := h11
        try simp only [UInt8.lt_iff_toNat_lt, UInt8.le_iff_toNat_le, UInt8.reduceToNat, UInt32.lt_iff_toNat_lt, UInt32.le_iff_toNat_le, UInt32.reduceToNat, UInt64.lt_iff_toNat_lt, UInt64.le_iff_toNat_le, UInt64.reduceToNat] at h11u
        refine J_seq (J_region ?_)
        refine JO_call [] [] [Ent.blk b2 116 [vS [], vI 0], Ent.blk b1 116 [vS rd.left, vI rd.err]] rfl trivial (fun _ => x_call Ty.ca87 rfl) (fun _ h => h) (fun _ h => by cases h) (fun w hS => f87_ok 11 w) ?_
        rintro _ _ ⟨rfl, rfl⟩
        refine jr_ (vU64 0) ?_
        refine JO_op rfl trivial (O_store 0 [vS [], vI 11] [Ent.blk b2 116 [vS [], vI 11], Ent.blk b1 116 [vS rd.left, vI rd.err]] rfl rfl rfl Ty.sz116 rfl (Nat.le_of_ble_eq_true rfl) rfl rfl rfl ?_)
        refine JO_nil (JX_then (J_ret (JX_then_ret (JX_block_ret (JX_then_ret ?_)))))
        refine JX_round_ret (JX_block_ret (JX_then_ret ?_))
        first
          | have hd := Rd.number_no (r := rd) (by assumption)
          | have hd := Rd.num_bad i1_4 (R01.go_bad1 i1_3 (by omega) (by omega) (by assumption))
          | have hd := Rd.num_bad i1_4 (R01.go_bad2 i1_3 (by omega) (by omega) (by assumption) (by assumption) (by assumption))
          | have hd := Rd.num_hit i1_4 (R01.go_hit i1_3 i1_2 (by omega) (by omega) (by assumption) (by assumption) (by assumption))
          | have hd := Rd.num_bad i1_4 (R01.at_end i1_3 (by first | omega | (simp_all; omega)))
        refine JX_rets [vU64 0, Value.agg #[vS [], vI 11]] (Value.tuple #[vU64 0, Value.agg #[vS [], vI 11]]) Try.results86 (fun w h => ⟨rfl, ⟨_, rfl, load_blkN 0 [vS [], vI 11] h rfl Ty.ag116 Ty.sz116 rfl⟩, trivial⟩) rfl [] (fun _ h => h.keep [false, false] rfl) ⟨?_, ?_⟩
        · have e_x0 : (0 : UInt64) = ((Rd.number rd).1) := by first | (rw [hd]; done) | (rw [hd]; rfl) | (rw [hd]; exact hsh (by omega) (by assumption)) | (rw [hd]; exact sub_from _ _)
          have e_x1 : ([] : Bytes) = (((Rd.number rd).2).left) := by first | (rw [hd]; done) | (rw [hd]; rfl) | (rw [hd]; exact hsh (by omega) (by assumption)) | (rw [hd]; exact sub_from _ _)
          have e_x2 : (11 : Int) = (((Rd.number rd).2).err) := by first | (rw [hd]; done) | (rw [hd]; rfl) | (rw [hd]; exact hsh (by omega) (by assumption)) | (rw [hd]; exact sub_from _ _)
          have e_all := (congr (congr (congrArg (fun (x0 : UInt64) (x1 : Bytes) (x2 : Int) => Value.tuple #[vU64 x0, Value.agg #[vS x1, vI x2]]) e_x0) e_x1) e_x2)
          exact e_all
        · rfl
      · have h10w := h10
        simp only [Bool.and_eq_true, Bool.or_eq_true, Bool.and_eq_false_iff, Bool.or_eq_false_iff, Bool.not_eq_true', Bool.not_eq_false', decide_eq_true_eq, decide_eq_false_iff_not] at h10
        refine J_skip (JX_then (J_seq (J_region ?_)))
        refine jr_ (vU64 n) ?_
        refine jr_ (vU8 (rd.left.getD k 0)) ?_
        refine JO_read (vU8 ((rd.left.getD k 0) % 128)) rfl trivial (fun _ _ => x_rem_u8 rfl rfl (by decide)) ?_
        refine JO_read (vU64 (((rd.left.getD k 0) % 128).toUInt64)) rfl trivial (fun _ _ => x_conv_u8_u64 rfl Try.underlying5 Try.underlying104) ?_
        refine jr_ (vI ((k : Nat) : Int)) ?_
        refine JO_read (vI ((7 * k : Nat) : Int)) rfl trivial (fun _ _ => x_mul_n (a := 7) (b := k) rfl rfl (by omega)) ?_
        refine JO_read (vU64 (UInt64.ofBitVec ((((rd.left.getD k 0) % 128).toUInt64).toBitVec <<< ((7 * k) : Nat)))) rfl trivial (fun _ _ => x_shl_u64 (m := (7 * k)) rfl rfl (by omega)) ?_
        refine JO_read (vU64 (n + (UInt64.ofBitVec ((((rd.left.getD k 0) % 128).toUInt64).toBitVec <<< ((7 * k) : Nat))))) rfl trivial (fun _ _ => x_add_u64 rfl rfl) ?_
        refine jr_ (vU64 (n + (UInt64.ofBitVec ((((rd.left.getD k 0) % 128).toUInt64).toBitVec <<< ((7 * k) : Nat))))) ?_
        refine JO_nil (JX_then (J_seq (J_region ?_)))
        refine jr_ (vU8 (rd.left.getD k 0)) ?_
        refine JO_read (vB (decide (rd.left.getD k 0 < (128 : UInt8)))) rfl trivial (fun _ _ => x_lss_u8 rfl rfl) ?_
        refine JO_nil (JX_then ?_)
        refine J_cond (decide (rd.left.getD k 0 < (128 : UInt8))) rfl rfl (fun h12 => ?_) (fun h12 => ?_)
        · have h12w := h12
          have h12 := of_decide_eq_true h12
          have h12u := h12
          try simp only [UInt8.lt_iff_toNat_lt, UInt8.le_iff_toNat_le, UInt8.reduceToNat, UInt32.lt_iff_toNat_lt, UInt32.le_iff_toNat_le, UInt32.reduceToNat, UInt64.lt_iff_toNat_lt, UInt64.le_iff_toNat_le, UInt64.reduceToNat] at h12u
          refine J_seq (J_seq (J_region ?_))
          refine jr_ (vU8 (rd.left.getD k 0)) ?_
          refine JO_read (vB (decide (rd.left.getD k 0 = (0 : UInt8)))) rfl trivial (fun _ _ => x_eql_u8 rfl rfl) ?_
          refine jr_ (vB (decide (rd.left.getD k 0 = (0 : UInt8)))) ?_
          refine JO_cut (X := Bool) 3 (fun z => z = ((decide (rd.left.getD k 0 = (0 : UInt8))) && (decide ((0 : Int) < ((k : Nat) : Int))))) (fun z => [(1, Value.pointer (some ⟨b1, 0, none⟩)), (3, Value.pointer (some ⟨b2, 0, none⟩)), (4, vU64 (n + (UInt64.ofBitVec ((((rd.left.getD k 0) % 128).toUInt64).toBitVec <<< ((7 * k) : Nat))))), (5, vI ((k : Nat) : Int)), (48, vB z)]) (fun _ => [Ent.blk b2 116 [vS [], vI 0], Ent.blk b1 116 [vS rd.left, vI rd.err]]) ?_ ?_
          · rcases Bool.eq_false_or_eq_true (decide (rd.left.getD k 0 = (0 : UInt8))) with g14 | g14
            · have g14r := g14
              have g14r := of_decide_eq_true g14r
              refine JO_read (vI ((k : Nat) : Int)) rfl ⟨_, rfl, g14⟩ (fun _ _ => rfl) ?_
              refine JO_read (vB (decide ((0 : Int) < ((k : Nat) : Int)))) rfl ⟨_, rfl, g14⟩ (fun _ _ => x_gtr_i rfl rfl) ?_
              refine JO_read (vB (decide ((0 : Int) < ((k : Nat) : Int)))) rfl trivial (fun _ _ => x_pick_t rfl g14 rfl) ?_
              refine JO_nil (JX_cut (decide ((0 : Int) < ((k : Nat) : Int))) (by rw [g14]; simp) ⟨rfl, rfl, rfl, rfl, rfl, trivial⟩ (fun _ h => h))
            · have g14r := g14
              have g14r := of_decide_eq_false g14r
              refine JO_shun rfl ⟨_, rfl, g14⟩ ?_
              refine JO_shun rfl ⟨_, rfl, g14⟩ ?_
              refine JO_read (vB false) rfl trivial (fun _ _ => x_pick_f rfl g14 rfl) ?_
              refine JO_nil (JX_cut (false) (by rw [g14]; simp) ⟨rfl, rfl, rfl, rfl, rfl, trivial⟩ (fun _ h => h))
          rintro z13 rfl
          refine JO_nil (JX_then ?_)
          refine J_cond ((decide (rd.left.getD k 0 = (0 : UInt8))) && (decide ((0 : Int) < ((k : Nat) : Int)))) rfl rfl (fun h15 => ?_) (fun h15 => ?_)
          · have h15w := h15
            have ⟨h15, h16⟩ := band_true h15
            have h15 := of_decide_eq_true h15
            have h16 := of_decide_eq_true h16
            refine J_seq (J_region ?_)
            refine JO_call [] [] [Ent.blk b2 116 [vS [], vI 0], Ent.blk b1 116 [vS rd.left, vI rd.err]] rfl trivial (fun _ => x_call Ty.ca87 rfl) (fun _ h => h) (fun _ h => by cases h) (fun w hS => f87_ok 11 w) ?_
            rintro _ _ ⟨rfl, rfl⟩
            refine jr_ (vU64 0) ?_
            refine JO_op rfl trivial (O_store 0 [vS [], vI 11] [Ent.blk b2 116 [vS [], vI 11], Ent.blk b1 116 [vS rd.left, vI rd.err]] rfl rfl rfl Ty.sz116 rfl (Nat.le_of_ble_eq_true rfl) rfl rfl rfl ?_)
            refine JO_nil (JX_then (J_ret (JX_then_ret (JX_block_ret (JX_then_ret ?_)))))
            refine JX_round_ret (JX_block_ret (JX_then_ret ?_))
            first
              | have hd := Rd.number_no (r := rd) (by assumption)
              | have hd := Rd.num_bad i1_4 (R01.go_bad1 i1_3 (by omega) (by omega) (by assumption))
              | have hd := Rd.num_bad i1_4 (R01.go_bad2 i1_3 (by omega) (by omega) (by assumption) (by assumption) (by assumption))
              | have hd := Rd.num_hit i1_4 (R01.go_hit i1_3 i1_2 (by omega) (by omega) (by assumption) (by assumption) (by assumption))
              | have hd := Rd.num_bad i1_4 (R01.at_end i1_3 (by first | omega | (simp_all; omega)))
            refine JX_rets [vU64 0, Value.agg #[vS [], vI 11]] (Value.tuple #[vU64 0, Value.agg #[vS [], vI 11]]) Try.results86 (fun w h => ⟨rfl, ⟨_, rfl, load_blkN 0 [vS [], vI 11] h rfl Ty.ag116 Ty.sz116 rfl⟩, trivial⟩) rfl [] (fun _ h => h.keep [false, false] rfl) ⟨?_, ?_⟩
            · have e_x0 : (0 : UInt64) = ((Rd.number rd).1) := by first | (rw [hd]; done) | (rw [hd]; rfl) | (rw [hd]; exact hsh (by omega) (by assumption)) | (rw [hd]; exact sub_from _ _)
              have e_x1 : ([] : Bytes) = (((Rd.number rd).2).left) := by first | (rw [hd]; done) | (rw [hd]; rfl) | (rw [hd]; exact hsh (by omega) (by assumption)) | (rw [hd]; exact sub_from _ _)
              have e_x2 : (11 : Int) = (((Rd.number rd).2).err) := by first | (rw [hd]; done) | (rw [hd]; rfl) | (rw [hd]; exact hsh (by omega) (by assumption)) | (rw [hd]; exact sub_from _ _)
              have e_all := (congr (congr (congrArg (fun (x0 : UInt64) (x1 : Bytes) (x2 : Int) => Value.tuple #[vU64 x0, Value.agg #[vS x1, vI x2]]) e_x0) e_x1) e_x2)
              exact e_all
            · rfl
          · have h15w := h15
            simp only [Bool.and_eq_true, Bool.or_eq_true, Bool.and_eq_false_iff, Bool.or_eq_false_iff, Bool.not_eq_true', Bool.not_eq_false', decide_eq_true_eq, decide_eq_false_iff_not] at h15
            refine J_skip (JX_then (J_seq ?_))
            refine J_draw [Ent.blk b1 116 [vS rd.left, vI rd.err]] [8] [Ent.blk b2 116 [vS [], vI 0], Ent.blk b1 116 [vS rd.left, vI rd.err]] 9 Ty.mixed rfl ?_
            refine jt_ 0 (vU64 (n + (UInt64.ofBitVec ((((rd.left.getD k 0) % 128).toUInt64).toBitVec <<< ((7 * k) : Nat))))) rfl (fun _ _ => rfl) ?_
            refine jt_ 1 (Value.pointer (some ⟨b1, 0, none⟩)) rfl (fun _ _ => x_fieldAddr Ty.fi116_0 rfl rfl) ?_
            refine jt_ 2 (vS rd.left) rfl (x_load 0 rfl rfl Ty.sc9 rfl) ?_
            refine jt_ 3 (vI ((k : Nat) : Int)) rfl (fun _ _ => rfl) ?_
            refine jt_ 4 (vI ((k + 1 : Nat) : Int)) rfl (fun _ _ => x_add_n (a := k) (b := 1) rfl rfl (by omega)) ?_
            refine jt_ 5 (vS (sub rd.left (k + 1) rd.left.length)) rfl (fun _ _ => x_sub_s (lo := k + 1) (hi := rd.left.length) rfl Try.underlying9 (.inl rfl) (.inr ⟨rfl, rfl⟩) lt_ (by first | omega | (simp only [sub, List.length_drop, List.length_take]; omega) | (simp; omega) | (simp_all; omega))) ?_
            refine jt_ 6 (Value.agg #[vS (sub rd.left (k + 1) rd.left.length), vI 0]) rfl (fun _ _ => x_build (by kernel_rfl)) ?_
            refine jt_ 7 (vU64 (n + (UInt64.ofBitVec ((((rd.left.getD k 0) % 128).toUInt64).toBitVec <<< ((7 * k) : Nat))))) rfl (fun _ _ => rfl) ?_
            refine JA_one 8 (by kernel_rfl) (fun _ h => ⟨h.keep [false, true] rfl, fun _ => h⟩) ?_
            refine JI_op rfl rfl trivial (O_store 0 [vS (sub rd.left (k + 1) rd.left.length), vI 0] [Ent.blk b2 116 [vS (sub rd.left (k + 1) rd.left.length), vI 0], Ent.blk b1 116 [vS rd.left, vI rd.err]] rfl rfl rfl Ty.sz116 rfl (Nat.le_of_ble_eq_true rfl) rfl rfl rfl ?_)
            refine JA_done (by kernel_rfl) (fun _ h => ⟨h.keep [false, true] rfl, fun hh => Bool.noConfusion (show false = true from hh)⟩) ?_
            refine JX_then (J_ret (JX_block_ret (JX_then_ret (JX_round_ret (JX_block_ret ?_)))))
            refine JX_then_ret ?_
            first
              | have hd := Rd.number_no (r := rd) (by assumption)
              | have hd := Rd.num_bad i1_4 (R01.go_bad1 i1_3 (by omega) (by omega) (by assumption))
              | have hd := Rd.num_bad i1_4 (R01.go_bad2 i1_3 (by omega) (by omega) (by assumption) (by assumption) (by assumption))
              | have hd := Rd.num_hit i1_4 (R01.go_hit i1_3 i1_2 (by omega) (by omega) (by assumption) (by assumption) (by assumption))
              | have hd := Rd.num_bad i1_4 (R01.at_end i1_3 (by first | omega | (simp_all; omega)))
            refine JX_rets [vU64 (n + (UInt64.ofBitVec ((((rd.left.getD k 0) % 128).toUInt64).toBitVec <<< ((7 * k) : Nat)))), Value.agg #[vS (sub rd.left (k + 1) rd.left.length), vI 0]] (Value.tuple #[vU64 (n + (UInt64.ofBitVec ((((rd.left.getD k 0) % 128).toUInt64).toBitVec <<< ((7 * k) : Nat)))), Value.agg #[vS (sub rd.left (k + 1) rd.left.length), vI 0]]) Try.results86 (fun w h => ⟨rfl, ⟨_, rfl, load_blkN 0 [vS (sub rd.left (k + 1) rd.left.length), vI 0] h rfl Ty.ag116 Ty.sz116 rfl⟩, trivial⟩) rfl [] (fun _ h => h.keep [false, false] rfl) ⟨?_, ?_⟩
            · have e_x0 : (n + (UInt64.ofBitVec ((((rd.left.getD k 0) % 128).toUInt64).toBitVec <<< ((7 * k) : Nat))) : UInt64) = ((Rd.number rd).1) := by first | (rw [hd]; done) | (rw [hd]; rfl) | (rw [hd]; exact hsh (by omega) (by assumption)) | (rw [hd]; exact sub_from _ _)
              have e_x1 : (sub rd.left (k + 1) rd.left.length : Bytes) = (((Rd.number rd).2).left) := by first | (rw [hd]; done) | (rw [hd]; rfl) | (rw [hd]; exact hsh (by omega) (by assumption)) | (rw [hd]; exact sub_from _ _)
              have e_x2 : (0 : Int) = (((Rd.number rd).2).err) := by first | (rw [hd]; done) | (rw [hd]; rfl) | (rw [hd]; exact hsh (by omega) (by assumption)) | (rw [hd]; exact sub_from _ _)
              have e_all := (congr (congr (congrArg (fun (x0 : UInt64) (x1 : Bytes) (x2 : Int) => Value.tuple #[vU64 x0, Value.agg #[vS x1, vI x2]]) e_x0) e_x1) e_x2)
              exact e_all
            · rfl
        · have h12w := h12
          have h12 := of_decide_eq_false h12
          have h12u := h12
          try simp only [UInt8.lt_iff_toNat_lt, UInt8.le_iff_toNat_le, UInt8.reduceToNat, UInt32.lt_iff_toNat_lt, UInt32.le_iff_toNat_le, UInt32.reduceToNat, UInt64.lt_iff_toNat_lt, UInt64.le_iff_toNat_le, UInt64.reduceToNat] at h12u
          refine J_skip (JX_block (JX_then (J_region ?_)))
          refine jr_ (vI ((k : Nat) : Int)) ?_
          refine JO_read (vI ((k + 1 : Nat) : Int)) rfl trivial (fun _ _ => x_add_n (a := k) (b := 1) rfl rfl (by omega)) ?_
          refine jr_ (vI ((k + 1 : Nat) : Int)) ?_
          refine JO_nil ?_
          refine JX_round ((k + 1, n + (UInt64.ofBitVec ((((rd.left.getD k 0) % 128).toUInt64).toBitVec <<< ((7 * k) : Nat)))) : Nat × UInt64) ?_ ?_ ⟨rfl, rfl, rfl, rfl, trivial⟩ (fun _ h => h)
          · show ((k + 1) ≤ 10) ∧ ((k + 1) ≤ rd.left.length) ∧ ((n + (UInt64.ofBitVec ((((rd.left.getD k 0) % 128).toUInt64).toBitVec <<< ((7 * k) : Nat)))).toNat < 2 ^ (7 * (k + 1))) ∧ (R01.at_ rd.left (k + 1) (n + (UInt64.ofBitVec ((((rd.left.getD k 0) % 128).toUInt64).toBitVec <<< ((7 * k) : Nat))))) ∧ (rd.err = 0)
            refine ⟨?_, ?_, ?_, ?_, ?_⟩
            · first | rfl | omega | (simp_all; done) | (simp_all; omega)
            · first | rfl | omega | (simp_all; done) | (simp_all; omega)
            · rw [hsh (by omega) (by assumption)]; exact (R01.go_step i1_3 i1_2 (by omega) (by omega) (by assumption) (by assumption)).2
            · rw [hsh (by omega) (by assumption)]; exact (R01.go_step i1_3 i1_2 (by omega) (by omega) (by assumption) (by assumption)).1
            · first | rfl | omega | (simp_all; done) | (simp_all; omega)
          · show 10 - (k + 1) < 10 - k
            first | omega | (simp; omega) | (simp_all; omega)
    · have h6w := h6
      simp only [Bool.and_eq_true, Bool.or_eq_true, Bool.and_eq_false_iff, Bool.or_eq_false_iff, Bool.not_eq_true', Bool.not_eq_false', decide_eq_true_eq, decide_eq_false_iff_not] at h6
      refine J_exit (JX_then_exit (JX_round_exit (JX_block_hit (JX_then (J_seq ?_)))))
      refine J_region ?_
      refine JO_call [] [] [Ent.blk b2 116 [vS [], vI 0], Ent.blk b1 116 [vS rd.left, vI rd.err]] rfl trivial (fun _ => x_call Ty.ca87 rfl) (fun _ h => h) (fun _ h => by cases h) (fun w hS => f87_ok 11 w) ?_
      rintro _ _ ⟨rfl, rfl⟩
      refine jr_ (vU64 0) ?_
      refine JO_op rfl trivial (O_store 0 [vS [], vI 11] [Ent.blk b2 116 [vS [], vI 11], Ent.blk b1 116 [vS rd.left, vI rd.err]] rfl rfl rfl Ty.sz116 rfl (Nat.le_of_ble_eq_true rfl) rfl rfl rfl ?_)
      refine JO_nil (JX_then (J_ret ?_))
      first
        | have hd := Rd.number_no (r := rd) (by assumption)
        | have hd := Rd.num_bad i1_4 (R01.go_bad1 i1_3 (by omega) (by omega) (by assumption))
        | have hd := Rd.num_bad i1_4 (R01.go_bad2 i1_3 (by omega) (by omega) (by assumption) (by assumption) (by assumption))
        | have hd := Rd.num_hit i1_4 (R01.go_hit i1_3 i1_2 (by omega) (by omega) (by assumption) (by assumption) (by assumption))
        | have hd := Rd.num_bad i1_4 (R01.at_end i1_3 (by first | omega | (simp_all; omega)))
      refine JX_rets [vU64 0, Value.agg #[vS [], vI 11]] (Value.tuple #[vU64 0, Value.agg #[vS [], vI 11]]) Try.results86 (fun w h => ⟨rfl, ⟨_, rfl, load_blkN 0 [vS [], vI 11] h rfl Ty.ag116 Ty.sz116 rfl⟩, trivial⟩) rfl [] (fun _ h => h.keep [false, false] rfl) ⟨?_, ?_⟩
      · have e_x0 : (0 : UInt64) = ((Rd.number rd).1) := by first | (rw [hd]; done) | (rw [hd]; rfl) | (rw [hd]; exact hsh (by omega) (by assumption)) | (rw [hd]; exact sub_from _ _)
        have e_x1 : ([] : Bytes) = (((Rd.number rd).2).left) := by first | (rw [hd]; done) | (rw [hd]; rfl) | (rw [hd]; exact hsh (by omega) (by assumption)) | (rw [hd]; exact sub_from _ _)
        have e_x2 : (11 : Int) = (((Rd.number rd).2).err) := by first | (rw [hd]; done) | (rw [hd]; rfl) | (rw [hd]; exact hsh (by omega) (by assumption)) | (rw [hd]; exact sub_from _ _)
        have e_all := (congr (congr (congrArg (fun (x0 : UInt64) (x1 : Bytes) (x2 : Int) => Value.tuple #[vU64 x0, Value.agg #[vS x1, vI x2]]) e_x0) e_x1) e_x2)
        exact e_all
      · rfl
set_option maxRecDepth 20000 in
theorem f72_ok (rd : Reader) (most : Int) (w : World) (q0 : rd.left.length ≤ 4611686018427387904) (q1 : 0 ≤ most) (q2 : most ≤ 1099511627776) : Calls Try.prog 72 #[Value.agg #[vS rd.left, vI rd.err], vI most] w (Gives [] w fun v L => v = Value.tuple #[vI ((Rd.count rd most).1), Value.agg #[vS (((Rd.count rd most).2).left), vI (((Rd.count rd most).2).err)]] ∧ L = []) := by
  have hm := Rd.ofInt64 most q1 (by omega)
  have hz := Rd.number_zeroN rd
  refine calls_J [] 30 Try.func72 rfl Try.ntmps72 [(0, Value.agg #[vS rd.left, vI rd.err]), (1, vI most)] rfl rfl (Give.nil w) ?_
  refine J_seq (J_region ?_)
  refine JO_op rfl trivial (O_box rfl rfl fun b1 => ?_)
  refine jr_ (vI 0) ?_
  refine JO_op rfl trivial (O_alloc Ty.ze116 rfl fun b2 => ?_)
  refine JO_nil (JX_then (J_seq (J_region ?_)))
  refine JO_read (Value.agg #[vS rd.left, vI rd.err]) rfl trivial (x_loadN 1 [vS rd.left, vI rd.err] rfl rfl Ty.ag116 Ty.sz116 rfl) ?_
  refine JO_call [] [] [Ent.blk b2 116 [vS [], vI 0], Ent.blk b1 116 [vS rd.left, vI rd.err]] rfl trivial (fun _ => x_call Ty.ca86 rfl) (fun _ h => h) (fun _ h => by cases h) (fun w hS => f86_ok rd w hy_) ?_
  rintro _ _ ⟨rfl, rfl⟩
  refine jr_ (Value.tuple #[vU64 ((Rd.number rd).1), Value.agg #[vS (((Rd.number rd).2).left), vI (((Rd.number rd).2).err)]]) ?_
  refine jr_ (vU64 ((Rd.number rd).1)) ?_
  refine jr_ (Value.agg #[vS (((Rd.number rd).2).left), vI (((Rd.number rd).2).err)]) ?_
  refine JO_op rfl trivial (O_alloc Ty.ze116 rfl fun b3 => ?_)
  refine jr_ (vU64 ((Rd.number rd).1)) ?_
  refine JO_op rfl trivial (O_store 0 [vS (((Rd.number rd).2).left), vI (((Rd.number rd).2).err)] [Ent.blk b3 116 [vS (((Rd.number rd).2).left), vI (((Rd.number rd).2).err)], Ent.blk b2 116 [vS [], vI 0], Ent.blk b1 116 [vS rd.left, vI rd.err]] rfl rfl rfl Ty.sz116 rfl (Nat.le_of_ble_eq_true rfl) rfl rfl rfl ?_)
  refine JO_nil (JX_then (J_seq (J_seq (J_region ?_))))
  refine JO_read (Value.pointer (some ⟨b3, 1, none⟩)) rfl trivial (fun _ _ => x_fieldAddr Ty.fi116_1 rfl rfl) ?_
  refine JO_read (vI (((Rd.number rd).2).err)) rfl trivial (x_load 0 rfl rfl Ty.sc23 rfl) ?_
  refine JO_read (vB (decide (((Rd.number rd).2).err = 0))) rfl trivial (fun _ _ => x_eql_i rfl rfl) ?_
  refine jr_ (vB (decide (((Rd.number rd).2).err = 0))) ?_
  refine JO_cut (X := Bool) 9 (fun z => z = ((decide (((Rd.number rd).2).err = 0)) && ((decide (most < 0)) || (decide (UInt64.ofInt most < (Rd.number rd).1))))) (fun z => [(4, vI 0), (5, Value.pointer (some ⟨b2, 0, none⟩)), (7, Value.pointer (some ⟨b3, 0, none⟩)), (6, vU64 ((Rd.number rd).1)), (25, vB z)]) (fun _ => [Ent.blk b3 116 [vS (((Rd.number rd).2).left), vI (((Rd.number rd).2).err)], Ent.blk b2 116 [vS [], vI 0], Ent.blk b1 116 [vS rd.left, vI rd.err]]) ?_ ?_
  · rcases Bool.eq_false_or_eq_true (decide (((Rd.number rd).2).err = 0)) with g5 | g5
    · have g5r := g5
      have g5r := of_decide_eq_true g5r
      refine JO_read (vI most) rfl ⟨_, rfl, g5⟩ (fun _ _ => rfl) ?_
      refine JO_read (vB (decide (most < 0))) rfl ⟨_, rfl, g5⟩ (fun _ _ => x_lss_i rfl rfl) ?_
      refine JO_read (vB (decide (most < 0))) rfl ⟨_, rfl, g5⟩ (fun _ _ => rfl) ?_
      refine JO_cut (X := Bool) 5 (fun z => z = ((decide (most < 0)) || (decide (UInt64.ofInt most < (Rd.number rd).1)))) (fun z => [(4, vI 0), (5, Value.pointer (some ⟨b2, 0, none⟩)), (7, Value.pointer (some ⟨b3, 0, none⟩)), (6, vU64 ((Rd.number rd).1)), (16, vB (decide (((Rd.number rd).2).err = 0))), (24, vB z)]) (fun _ => [Ent.blk b3 116 [vS (((Rd.number rd).2).left), vI (((Rd.number rd).2).err)], Ent.blk b2 116 [vS [], vI 0], Ent.blk b1 116 [vS rd.left, vI rd.err]]) ?_ ?_
      · rcases Bool.eq_false_or_eq_true (decide (most < 0)) with g7 | g7
        · have g7r := g7
          have g7r := of_decide_eq_true g7r
          refine JO_shun rfl ⟨_, rfl, g7⟩ ?_
          refine JO_shun rfl ⟨_, rfl, g7⟩ ?_
          refine JO_shun rfl ⟨_, rfl, g7⟩ ?_
          refine JO_shun rfl ⟨_, rfl, g7⟩ ?_
          refine JO_read (vB true) rfl ⟨_, rfl, g5⟩ (fun _ _ => x_pick_t rfl g7 rfl) ?_
          refine JO_nil (JX_cut (true) (by rw [g7]; simp) ⟨rfl, rfl, rfl, rfl, rfl, rfl, trivial⟩ (fun _ h => h))
        · have g7r := g7
          have g7r := of_decide_eq_false g7r
          refine JO_read (vU64 ((Rd.number rd).1)) rfl ⟨_, rfl, g7⟩ (fun _ _ => rfl) ?_
          refine JO_read (vI most) rfl ⟨_, rfl, g7⟩ (fun _ _ => rfl) ?_
          refine JO_read (vU64 (UInt64.ofInt most)) rfl ⟨_, rfl, g7⟩ (fun _ _ => x_conv_i64_u64 (a := most) rfl Try.underlying3 Try.underlying104) ?_
          refine JO_read (vB (decide (UInt64.ofInt most < (Rd.number rd).1))) rfl ⟨_, rfl, g7⟩ (fun _ _ => x_gtr_u64 rfl rfl) ?_
          refine JO_read (vB (decide (UInt64.ofInt most < (Rd.number rd).1))) rfl ⟨_, rfl, g5⟩ (fun _ _ => x_pick_f rfl g7 rfl) ?_
          refine JO_nil (JX_cut (decide (UInt64.ofInt most < (Rd.number rd).1)) (by rw [g7]; simp) ⟨rfl, rfl, rfl, rfl, rfl, rfl, trivial⟩ (fun _ h => h))
      rintro z6 rfl
      refine JO_read (vB ((decide (most < 0)) || (decide (UInt64.ofInt most < (Rd.number rd).1)))) rfl trivial (fun _ _ => x_pick_t rfl g5 rfl) ?_
      refine JO_nil (JX_cut ((decide (most < 0)) || (decide (UInt64.ofInt most < (Rd.number rd).1))) (by rw [g5]; simp) ⟨rfl, rfl, rfl, rfl, rfl, trivial⟩ (fun _ h => h))
    · have g5r := g5
      have g5r := of_decide_eq_false g5r
      refine JO_shun rfl ⟨_, rfl, g5⟩ ?_
      refine JO_shun rfl ⟨_, rfl, g5⟩ ?_
      refine JO_shun rfl ⟨_, rfl, g5⟩ ?_
      refine JO_shunU rfl ⟨_, rfl, rfl⟩ ?_
      refine JO_shunU rfl ⟨_, rfl, rfl⟩ ?_
      refine JO_shunU rfl ⟨_, rfl, rfl⟩ ?_
      refine JO_shunU rfl ⟨_, rfl, rfl⟩ ?_
      refine JO_shun rfl ⟨_, rfl, g5⟩ ?_
      refine JO_read (vB false) rfl trivial (fun _ _ => x_pick_f rfl g5 rfl) ?_
      refine JO_nil (JX_cut (false) (by rw [g5]; simp) ⟨rfl, rfl, rfl, rfl, rfl, trivial⟩ (fun _ h => h))
  rintro z4 rfl
  refine JO_nil (JX_then ?_)
  refine J_cond ((decide (((Rd.number rd).2).err = 0)) && ((decide (most < 0)) || (decide (UInt64.ofInt most < (Rd.number rd).1)))) rfl rfl (fun h8 => ?_) (fun h8 => ?_)
  · have h8w := h8
    try have hi9 := Rd.cnt_small q1 hm h8w
    have ⟨h8, h10⟩ := band_true h8
    have h8 := of_decide_eq_true h8
    simp only [Bool.and_eq_true, Bool.or_eq_true, Bool.and_eq_false_iff, Bool.or_eq_false_iff, Bool.not_eq_true', Bool.not_eq_false', decide_eq_true_eq, decide_eq_false_iff_not] at h10
    refine J_seq (J_region ?_)
    refine JO_call [] [] [Ent.blk b3 116 [vS (((Rd.number rd).2).left), vI (((Rd.number rd).2).err)], Ent.blk b2 116 [vS [], vI 0], Ent.blk b1 116 [vS rd.left, vI rd.err]] rfl trivial (fun _ => x_call Ty.ca87 rfl) (fun _ h => h) (fun _ h => by cases h) (fun w hS => f87_ok 8 w) ?_
    rintro _ _ ⟨rfl, rfl⟩
    refine jr_ (vI 0) ?_
    refine JO_op rfl trivial (O_store 1 [vS [], vI 8] [Ent.blk b3 116 [vS (((Rd.number rd).2).left), vI (((Rd.number rd).2).err)], Ent.blk b2 116 [vS [], vI 8], Ent.blk b1 116 [vS rd.left, vI rd.err]] rfl rfl rfl Ty.sz116 rfl (Nat.le_of_ble_eq_true rfl) rfl rfl rfl ?_)
    refine JO_nil (JX_then (J_ret (JX_then_ret ?_)))
    first
      | have hd := Rd.cnt_big q1 hm (by assumption)
      | have hd := Rd.cnt_fine q1 hm (by assumption)
    refine JX_rets [vI 0, Value.agg #[vS [], vI 8]] (Value.tuple #[vI 0, Value.agg #[vS [], vI 8]]) Try.results72 (fun w h => ⟨rfl, ⟨_, rfl, load_blkN 1 [vS [], vI 8] h rfl Ty.ag116 Ty.sz116 rfl⟩, trivial⟩) rfl [] (fun _ h => h.keep [false, false, false] rfl) ⟨?_, ?_⟩
    · have e_x0 : (0 : Int) = ((Rd.count rd most).1) := by first | (rw [hd]; done) | (rw [hd]; rfl)
      have e_x1 : ([] : Bytes) = (((Rd.count rd most).2).left) := by first | (rw [hd]; done) | (rw [hd]; rfl)
      have e_x2 : (8 : Int) = (((Rd.count rd most).2).err) := by first | (rw [hd]; done) | (rw [hd]; rfl)
      have e_all := (congr (congr (congrArg (fun (x0 : Int) (x1 : Bytes) (x2 : Int) => Value.tuple #[vI x0, Value.agg #[vS x1, vI x2]]) e_x0) e_x1) e_x2)
      exact e_all
    · rfl
  · have h8w := h8
    try have hi11 := Rd.cnt_small q1 hm h8w
    simp only [Bool.and_eq_true, Bool.or_eq_true, Bool.and_eq_false_iff, Bool.or_eq_false_iff, Bool.not_eq_true', Bool.not_eq_false', decide_eq_true_eq, decide_eq_false_iff_not] at h8
    refine J_skip (JX_then (J_seq ?_))
    refine J_draw [Ent.blk b3 116 [vS (((Rd.number rd).2).left), vI (((Rd.number rd).2).err)], Ent.blk b1 116 [vS rd.left, vI rd.err]] [4] [Ent.blk b3 116 [vS (((Rd.number rd).2).left), vI (((Rd.number rd).2).err)], Ent.blk b2 116 [vS [], vI 0], Ent.blk b1 116 [vS rd.left, vI rd.err]] 5 Ty.mixed rfl ?_
    refine jt_ 0 (vU64 ((Rd.number rd).1)) rfl (fun _ _ => rfl) ?_
    refine jt_ 1 (vI ((((Rd.number rd).1).toNat : Nat) : Int)) rfl (fun _ _ => x_conv_u64_i64 rfl Try.underlying104 Try.underlying3 (by omega)) ?_
    refine jt_ 2 (Value.agg #[vS (((Rd.number rd).2).left), vI (((Rd.number rd).2).err)]) rfl (x_loadN 0 [vS (((Rd.number rd).2).left), vI (((Rd.number rd).2).err)] rfl rfl Ty.ag116 Ty.sz116 rfl) ?_
    refine jt_ 3 (vI ((((Rd.number rd).1).toNat : Nat) : Int)) rfl (fun _ _ => rfl) ?_
    refine JA_one 4 (by kernel_rfl) (fun _ h => ⟨h.keep [true, false, true] rfl, fun _ => h⟩) ?_
    refine JI_op rfl rfl trivial (O_store 1 [vS (((Rd.number rd).2).left), vI (((Rd.number rd).2).err)] [Ent.blk b3 116 [vS (((Rd.number rd).2).left), vI (((Rd.number rd).2).err)], Ent.blk b2 116 [vS (((Rd.number rd).2).left), vI (((Rd.number rd).2).err)], Ent.blk b1 116 [vS rd.left, vI rd.err]] rfl rfl rfl Ty.sz116 rfl (Nat.le_of_ble_eq_true rfl) rfl rfl rfl ?_)
    refine JA_done (by kernel_rfl) (fun _ h => ⟨h.keep [true, false, true] rfl, fun hh => Bool.noConfusion (show false = true from hh)⟩) ?_
    refine JX_then (J_ret ?_)
    first
      | have hd := Rd.cnt_big q1 hm (by assumption)
      | have hd := Rd.cnt_fine q1 hm (by assumption)
    refine JX_rets [vI ((((Rd.number rd).1).toNat : Nat) : Int), Value.agg #[vS (((Rd.number rd).2).left), vI (((Rd.number rd).2).err)]] (Value.tuple #[vI ((((Rd.number rd).1).toNat : Nat) : Int), Value.agg #[vS (((Rd.number rd).2).left), vI (((Rd.number rd).2).err)]]) Try.results72 (fun w h => ⟨rfl, ⟨_, rfl, load_blkN 1 [vS (((Rd.number rd).2).left), vI (((Rd.number rd).2).err)] h rfl Ty.ag116 Ty.sz116 rfl⟩, trivial⟩) rfl [] (fun _ h => h.keep [false, false, false] rfl) ⟨?_, ?_⟩
    · have e_x0 : (((((Rd.number rd).1).toNat : Nat) : Int) : Int) = ((Rd.count rd most).1) := by first | (rw [hd]; done) | (rw [hd]; rfl)
      have e_x1 : (((Rd.number rd).2).left : Bytes) = (((Rd.count rd most).2).left) := by first | (rw [hd]; done) | (rw [hd]; rfl)
      have e_x2 : (((Rd.number rd).2).err : Int) = (((Rd.count rd most).2).err) := by first | (rw [hd]; done) | (rw [hd]; rfl)
      have e_all := (congr (congr (congrArg (fun (x0 : Int) (x1 : Bytes) (x2 : Int) => Value.tuple #[vI x0, Value.agg #[vS x1, vI x2]]) e_x0) e_x1) e_x2)
      exact e_all
    · rfl
set_option maxRecDepth 20000 in
theorem f73_ok (rd : Reader) (w : World) (q0 : rd.left.length ≤ 4611686018427387904) : Calls Try.prog 73 #[Value.agg #[vS rd.left, vI rd.err]] w (Gives [] w fun v L => v = Value.tuple #[vB ((Rd.rbool rd).1), Value.agg #[vS (((Rd.rbool rd).2).left), vI (((Rd.rbool rd).2).err)]] ∧ L = []) := by
  refine calls_J [] 27 Try.func73 rfl Try.ntmps73 [(0, Value.agg #[vS rd.left, vI rd.err])] rfl rfl (Give.nil w) ?_
  refine J_seq (J_region ?_)
  refine JO_op rfl trivial (O_box rfl rfl fun b1 => ?_)
  refine jr_ (vB false) ?_
  refine JO_op rfl trivial (O_alloc Ty.ze116 rfl fun b2 => ?_)
  refine JO_nil (JX_then (J_seq (J_seq (J_region ?_))))
  refine JO_read (Value.pointer (some ⟨b1, 1, none⟩)) rfl trivial (fun _ _ => x_fieldAddr Ty.fi116_1 rfl rfl) ?_
  refine JO_read (vI rd.err) rfl trivial (x_load 1 rfl rfl Ty.sc23 rfl) ?_
  refine JO_read (vB (decide (rd.err ≠ 0))) rfl trivial (fun _ _ => x_neq_i rfl rfl) ?_
  refine JO_nil (JX_then ?_)
  refine J_cond (decide (rd.err ≠ 0)) rfl rfl (fun h3 => ?_) (fun h3 => ?_)
  · have h3w := h3
    have h3 := of_decide_eq_true h3
    refine J_seq ?_
    refine J_draw [Ent.blk b1 116 [vS rd.left, vI rd.err]] [2] [Ent.blk b2 116 [vS [], vI 0], Ent.blk b1 116 [vS rd.left, vI rd.err]] 3 Ty.mixed rfl ?_
    refine jt_ 0 (Value.agg #[vS rd.left, vI rd.err]) rfl (x_loadN 0 [vS rd.left, vI rd.err] rfl rfl Ty.ag116 Ty.sz116 rfl) ?_
    refine jt_ 1 (vB false) rfl (fun _ _ => rfl) ?_
    refine JA_one 2 (by kernel_rfl) (fun _ h => ⟨h.keep [false, true] rfl, fun _ => h⟩) ?_
    refine JI_op rfl rfl trivial (O_store 0 [vS rd.left, vI rd.err] [Ent.blk b2 116 [vS rd.left, vI rd.err], Ent.blk b1 116 [vS rd.left, vI rd.err]] rfl rfl rfl Ty.sz116 rfl (Nat.le_of_ble_eq_true rfl) rfl rfl rfl ?_)
    refine JA_done (by kernel_rfl) (fun _ h => ⟨h.keep [false, true] rfl, fun hh => Bool.noConfusion (show false = true from hh)⟩) ?_
    refine JX_then (J_ret (JX_then_ret ?_))
    first
      | have hd := Rd.rbool_no (r := rd) (by assumption)
      | have hd := Rd.rb_bad (by assumption) (by assumption)
      | have hd := Rd.rb_ok (by assumption) (by assumption)
    refine JX_rets [vB false, Value.agg #[vS rd.left, vI rd.err]] (Value.tuple #[vB false, Value.agg #[vS rd.left, vI rd.err]]) Try.results73 (fun w h => ⟨rfl, ⟨_, rfl, load_blkN 0 [vS rd.left, vI rd.err] h rfl Ty.ag116 Ty.sz116 rfl⟩, trivial⟩) rfl [] (fun _ h => h.keep [false, false] rfl) ⟨?_, ?_⟩
    · have e_x0 : (false : Bool) = ((Rd.rbool rd).1) := by first | (rw [hd]; done) | (rw [hd]; rfl) | (rw [hd]; exact sub_from _ _)
      have e_x1 : (rd.left : Bytes) = (((Rd.rbool rd).2).left) := by first | (rw [hd]; done) | (rw [hd]; rfl) | (rw [hd]; exact sub_from _ _)
      have e_x2 : (rd.err : Int) = (((Rd.rbool rd).2).err) := by first | (rw [hd]; done) | (rw [hd]; rfl) | (rw [hd]; exact sub_from _ _)
      have e_all := (congr (congr (congrArg (fun (x0 : Bool) (x1 : Bytes) (x2 : Int) => Value.tuple #[vB x0, Value.agg #[vS x1, vI x2]]) e_x0) e_x1) e_x2)
      exact e_all
    · rfl
  · have h3w := h3
    have h3 := of_decide_eq_false h3
    refine J_skip (JX_then (J_seq (J_seq (J_region ?_))))
    refine JO_read (Value.pointer (some ⟨b1, 0, none⟩)) rfl trivial (fun _ _ => x_fieldAddr Ty.fi116_0 rfl rfl) ?_
    refine JO_read (vS rd.left) rfl trivial (x_load 1 rfl rfl Ty.sc9 rfl) ?_
    refine JO_read (vI ((rd.left.length : Nat) : Int)) rfl trivial (fun _ _ => x_len_s rfl Try.underlying9) ?_
    refine JO_read (vB (decide (((rd.left.length : Nat) : Int) = 0))) rfl trivial (fun _ _ => x_eql_i rfl rfl) ?_
    refine jr_ (vB (decide (((rd.left.length : Nat) : Int) = 0))) ?_
    refine JO_cut (X := Bool) 5 (fun z => z = ((decide (((rd.left.length : Nat) : Int) = 0)) || (decide ((1 : UInt8) < rd.left.getD 0 0)))) (fun z => [(1, Value.pointer (some ⟨b1, 0, none⟩)), (2, vB false), (3, Value.pointer (some ⟨b2, 0, none⟩)), (17, vB z)]) (fun _ => [Ent.blk b2 116 [vS [], vI 0], Ent.blk b1 116 [vS rd.left, vI rd.err]]) ?_ ?_
    · rcases Bool.eq_false_or_eq_true (decide (((rd.left.length : Nat) : Int) = 0)) with g5 | g5
      · have g5r := g5
        have g5r := of_decide_eq_true g5r
        refine JO_shun rfl ⟨_, rfl, g5⟩ ?_
        refine JO_shun rfl ⟨_, rfl, g5⟩ ?_
        refine JO_shun rfl ⟨_, rfl, g5⟩ ?_
        refine JO_shun rfl ⟨_, rfl, g5⟩ ?_
        refine JO_read (vB true) rfl trivial (fun _ _ => x_pick_t rfl g5 rfl) ?_
        refine JO_nil (JX_cut (true) (by rw [g5]; simp) ⟨rfl, rfl, rfl, rfl, trivial⟩ (fun _ h => h))
      · have g5r := g5
        have g5r := of_decide_eq_false g5r
        refine JO_read (Value.pointer (some ⟨b1, 0, none⟩)) rfl ⟨_, rfl, g5⟩ (fun _ _ => x_fieldAddr Ty.fi116_0 rfl rfl) ?_
        refine JO_read (vS rd.left) rfl ⟨_, rfl, g5⟩ (x_load 1 rfl rfl Ty.sc9 rfl) ?_
        refine JO_read (vU8 (rd.left.getD 0 0)) rfl ⟨_, rfl, g5⟩ (fun _ _ => x_idx_s (k := 0) rfl rfl Try.underlying9 (by omega)) ?_
        refine JO_read (vB (decide ((1 : UInt8) < rd.left.getD 0 0))) rfl ⟨_, rfl, g5⟩ (fun _ _ => x_gtr_u8 rfl rfl) ?_
        refine JO_read (vB (decide ((1 : UInt8) < rd.left.getD 0 0))) rfl trivial (fun _ _ => x_pick_f rfl g5 rfl) ?_
        refine JO_nil (JX_cut (decide ((1 : UInt8) < rd.left.getD 0 0)) (by rw [g5]; simp) ⟨rfl, rfl, rfl, rfl, trivial⟩ (fun _ h => h))
    rintro z4 rfl
    refine JO_nil (JX_then ?_)
    refine J_cond ((decide (((rd.left.length : Nat) : Int) = 0)) || (decide ((1 : UInt8) < rd.left.getD 0 0))) rfl rfl (fun h6 => ?_) (fun h6 => ?_)
    · have h6w := h6
      simp only [Bool.and_eq_true, Bool.or_eq_true, Bool.and_eq_false_iff, Bool.or_eq_false_iff, Bool.not_eq_true', Bool.not_eq_false', decide_eq_true_eq, decide_eq_false_iff_not] at h6
      refine J_seq (J_region ?_)
      refine JO_call [] [] [Ent.blk b2 116 [vS [], vI 0], Ent.blk b1 116 [vS rd.left, vI rd.err]] rfl trivial (fun _ => x_call Ty.ca87 rfl) (fun _ h => h) (fun _ h => by cases h) (fun w hS => f87_ok 11 w) ?_
      rintro _ _ ⟨rfl, rfl⟩
      refine jr_ (vB false) ?_
      refine JO_op rfl trivial (O_store 0 [vS [], vI 11] [Ent.blk b2 116 [vS [], vI 11], Ent.blk b1 116 [vS rd.left, vI rd.err]] rfl rfl rfl Ty.sz116 rfl (Nat.le_of_ble_eq_true rfl) rfl rfl rfl ?_)
      refine JO_nil (JX_then (J_ret (JX_then_ret ?_)))
      first
        | have hd := Rd.rbool_no (r := rd) (by assumption)
        | have hd := Rd.rb_bad (by assumption) (by assumption)
        | have hd := Rd.rb_ok (by assumption) (by assumption)
      refine JX_rets [vB false, Value.agg #[vS [], vI 11]] (Value.tuple #[vB false, Value.agg #[vS [], vI 11]]) Try.results73 (fun w h => ⟨rfl, ⟨_, rfl, load_blkN 0 [vS [], vI 11] h rfl Ty.ag116 Ty.sz116 rfl⟩, trivial⟩) rfl [] (fun _ h => h.keep [false, false] rfl) ⟨?_, ?_⟩
      · have e_x0 : (false : Bool) = ((Rd.rbool rd).1) := by first | (rw [hd]; done) | (rw [hd]; rfl) | (rw [hd]; exact sub_from _ _)
        have e_x1 : ([] : Bytes) = (((Rd.rbool rd).2).left) := by first | (rw [hd]; done) | (rw [hd]; rfl) | (rw [hd]; exact sub_from _ _)
        have e_x2 : (11 : Int) = (((Rd.rbool rd).2).err) := by first | (rw [hd]; done) | (rw [hd]; rfl) | (rw [hd]; exact sub_from _ _)
        have e_all := (congr (congr (congrArg (fun (x0 : Bool) (x1 : Bytes) (x2 : Int) => Value.tuple #[vB x0, Value.agg #[vS x1, vI x2]]) e_x0) e_x1) e_x2)
        exact e_all
      · rfl
    · have h6w := h6
      have ⟨h6, h7⟩ := bor_false h6
      have h6 := of_decide_eq_false h6
      have h7 := of_decide_eq_false h7
      have h7u := h7
      try simp only [UInt8.lt_iff_toNat_lt, UInt8.le_iff_toNat_le, UInt8.reduceToNat, UInt32.lt_iff_toNat_lt, UInt32.le_iff_toNat_le, UInt32.reduceToNat, UInt64.lt_iff_toNat_lt, UInt64.le_iff_toNat_le, UInt64.reduceToNat] at h7u
      refine J_skip (JX_then (J_seq ?_))
      refine J_draw [Ent.blk b1 116 [vS rd.left, vI rd.err]] [9] [Ent.blk b2 116 [vS [], vI 0], Ent.blk b1 116 [vS rd.left, vI rd.err]] 10 Ty.mixed rfl ?_
      refine jt_ 0 (Value.pointer (some ⟨b1, 0, none⟩)) rfl (fun _ _ => x_fieldAddr Ty.fi116_0 rfl rfl) ?_
      refine jt_ 1 (vS rd.left) rfl (x_load 0 rfl rfl Ty.sc9 rfl) ?_
      refine jt_ 2 (vU8 (rd.left.getD 0 0)) rfl (fun _ _ => x_idx_s (k := 0) rfl rfl Try.underlying9 (by omega)) ?_
      refine jt_ 3 (vB (decide (rd.left.getD 0 0 = (1 : UInt8)))) rfl (fun _ _ => x_eql_u8 rfl rfl) ?_
      refine jt_ 4 (Value.pointer (some ⟨b1, 0, none⟩)) rfl (fun _ _ => x_fieldAddr Ty.fi116_0 rfl rfl) ?_
      refine jt_ 5 (vS rd.left) rfl (x_load 0 rfl rfl Ty.sc9 rfl) ?_
      refine jt_ 6 (vS (sub rd.left 1 rd.left.length)) rfl (fun _ _ => x_sub_s (lo := 1) (hi := rd.left.length) rfl Try.underlying9 (.inl rfl) (.inr ⟨rfl, rfl⟩) lt_ (by first | omega | (simp only [sub, List.length_drop, List.length_take]; omega) | (simp; omega) | (simp_all; omega))) ?_
      refine jt_ 7 (Value.agg #[vS (sub rd.left 1 rd.left.length), vI 0]) rfl (fun _ _ => x_build (by kernel_rfl)) ?_
      refine jt_ 8 (vB (decide (rd.left.getD 0 0 = (1 : UInt8)))) rfl (fun _ _ => rfl) ?_
      refine JA_one 9 (by kernel_rfl) (fun _ h => ⟨h.keep [false, true] rfl, fun _ => h⟩) ?_
      refine JI_op rfl rfl trivial (O_store 0 [vS (sub rd.left 1 rd.left.length), vI 0] [Ent.blk b2 116 [vS (sub rd.left 1 rd.left.length), vI 0], Ent.blk b1 116 [vS rd.left, vI rd.err]] rfl rfl rfl Ty.sz116 rfl (Nat.le_of_ble_eq_true rfl) rfl rfl rfl ?_)
      refine JA_done (by kernel_rfl) (fun _ h => ⟨h.keep [false, true] rfl, fun hh => Bool.noConfusion (show false = true from hh)⟩) ?_
      refine JX_then (J_ret ?_)
      first
        | have hd := Rd.rbool_no (r := rd) (by assumption)
        | have hd := Rd.rb_bad (by assumption) (by assumption)
        | have hd := Rd.rb_ok (by assumption) (by assumption)
      refine JX_rets [vB (decide (rd.left.getD 0 0 = (1 : UInt8))), Value.agg #[vS (sub rd.left 1 rd.left.length), vI 0]] (Value.tuple #[vB (decide (rd.left.getD 0 0 = (1 : UInt8))), Value.agg #[vS (sub rd.left 1 rd.left.length), vI 0]]) Try.results73 (fun w h => ⟨rfl, ⟨_, rfl, load_blkN 0 [vS (sub rd.left 1 rd.left.length), vI 0] h rfl Ty.ag116 Ty.sz116 rfl⟩, trivial⟩) rfl [] (fun _ h => h.keep [false, false] rfl) ⟨?_, ?_⟩
      · have e_x0 : (decide (rd.left.getD 0 0 = (1 : UInt8)) : Bool) = ((Rd.rbool rd).1) := by first | (rw [hd]; done) | (rw [hd]; rfl) | (rw [hd]; exact sub_from _ _)
        have e_x1 : (sub rd.left 1 rd.left.length : Bytes) = (((Rd.rbool rd).2).left) := by first | (rw [hd]; done) | (rw [hd]; rfl) | (rw [hd]; exact sub_from _ _)
        have e_x2 : (0 : Int) = (((Rd.rbool rd).2).err) := by first | (rw [hd]; done) | (rw [hd]; rfl) | (rw [hd]; exact sub_from _ _)
        have e_all := (congr (congr (congrArg (fun (x0 : Bool) (x1 : Bytes) (x2 : Int) => Value.tuple #[vB x0, Value.agg #[vS x1, vI x2]]) e_x0) e_x1) e_x2)
        exact e_all
      · rfl
set_option maxRecDepth 20000 in
theorem f74_ok (rd : Reader) (most : Int) (w : World) (q0 : rd.left.length ≤ 4611686018427387904) (q1 : 0 ≤ most) (q2 : most ≤ 1099511627776) : Calls Try.prog 74 #[Value.agg #[vS rd.left, vI rd.err], vI most] w (Gives [] w fun v L => v = Value.tuple #[vS ((Rd.rtext rd most).1), Value.agg #[vS (((Rd.rtext rd most).2).left), vI (((Rd.rtext rd most).2).err)]] ∧ L = []) := by
  refine calls_J [] 38 Try.func74 rfl Try.ntmps74 [(0, Value.agg #[vS rd.left, vI rd.err]), (1, vI most)] rfl rfl (Give.nil w) ?_
  refine J_seq (J_region ?_)
  refine JO_op rfl trivial (O_box rfl rfl fun b1 => ?_)
  refine jr_ (vS []) ?_
  refine JO_op rfl trivial (O_alloc Ty.ze116 rfl fun b2 => ?_)
  refine JO_nil (JX_then (J_seq (J_region ?_)))
  refine JO_read (Value.agg #[vS rd.left, vI rd.err]) rfl trivial (x_loadN 1 [vS rd.left, vI rd.err] rfl rfl Ty.ag116 Ty.sz116 rfl) ?_
  refine jr_ (vI most) ?_
  refine JO_call [] [] [Ent.blk b2 116 [vS [], vI 0], Ent.blk b1 116 [vS rd.left, vI rd.err]] rfl trivial (fun _ => x_call Ty.ca72 rfl) (fun _ h => h) (fun _ h => by cases h) (fun w hS => f72_ok rd most w hy_ hy_ hy_) ?_
  rintro _ _ ⟨rfl, rfl⟩
  have ha3 := Rd.count_range rd most (by omega)
  have ha4 := Rd.count_left rd most
  refine jr_ (Value.tuple #[vI ((Rd.count rd most).1), Value.agg #[vS (((Rd.count rd most).2).left), vI (((Rd.count rd most).2).err)]]) ?_
  refine jr_ (vI ((Rd.count rd most).1)) ?_
  refine jr_ (Value.agg #[vS (((Rd.count rd most).2).left), vI (((Rd.count rd most).2).err)]) ?_
  refine JO_op rfl trivial (O_alloc Ty.ze116 rfl fun b5 => ?_)
  refine jr_ (vI ((Rd.count rd most).1)) ?_
  refine JO_op rfl trivial (O_store 0 [vS (((Rd.count rd most).2).left), vI (((Rd.count rd most).2).err)] [Ent.blk b5 116 [vS (((Rd.count rd most).2).left), vI (((Rd.count rd most).2).err)], Ent.blk b2 116 [vS [], vI 0], Ent.blk b1 116 [vS rd.left, vI rd.err]] rfl rfl rfl Ty.sz116 rfl (Nat.le_of_ble_eq_true rfl) rfl rfl rfl ?_)
  refine JO_nil (JX_then (J_seq (J_seq (J_region ?_))))
  refine JO_read (Value.pointer (some ⟨b5, 1, none⟩)) rfl trivial (fun _ _ => x_fieldAddr Ty.fi116_1 rfl rfl) ?_
  refine JO_read (vI (((Rd.count rd most).2).err)) rfl trivial (x_load 0 rfl rfl Ty.sc23 rfl) ?_
  refine JO_read (vB (decide (((Rd.count rd most).2).err = 0))) rfl trivial (fun _ _ => x_eql_i rfl rfl) ?_
  refine jr_ (vB (decide (((Rd.count rd most).2).err = 0))) ?_
  refine JO_cut (X := Bool) 6 (fun z => z = ((decide (((Rd.count rd most).2).err = 0)) && (decide ((((((Rd.count rd most).2).left).length : Nat) : Int) < (Rd.count rd most).1)))) (fun z => [(4, vS []), (5, Value.pointer (some ⟨b2, 0, none⟩)), (7, Value.pointer (some ⟨b5, 0, none⟩)), (6, vI ((Rd.count rd most).1)), (23, vB z)]) (fun _ => [Ent.blk b5 116 [vS (((Rd.count rd most).2).left), vI (((Rd.count rd most).2).err)], Ent.blk b2 116 [vS [], vI 0], Ent.blk b1 116 [vS rd.left, vI rd.err]]) ?_ ?_
  · rcases Bool.eq_false_or_eq_true (decide (((Rd.count rd most).2).err = 0)) with g7 | g7
    · have g7r := g7
      have g7r := of_decide_eq_true g7r
      refine JO_read (vI ((Rd.count rd most).1)) rfl ⟨_, rfl, g7⟩ (fun _ _ => rfl) ?_
      refine JO_read (Value.pointer (some ⟨b5, 0, none⟩)) rfl ⟨_, rfl, g7⟩ (fun _ _ => x_fieldAddr Ty.fi116_0 rfl rfl) ?_
      refine JO_read (vS (((Rd.count rd most).2).left)) rfl ⟨_, rfl, g7⟩ (x_load 0 rfl rfl Ty.sc9 rfl) ?_
      refine JO_read (vI (((((Rd.count rd most).2).left).length : Nat) : Int)) rfl ⟨_, rfl, g7⟩ (fun _ _ => x_len_s rfl Try.underlying9) ?_
      refine JO_read (vB (decide ((((((Rd.count rd most).2).left).length : Nat) : Int) < (Rd.count rd most).1))) rfl ⟨_, rfl, g7⟩ (fun _ _ => x_gtr_i rfl rfl) ?_
      refine JO_read (vB (decide ((((((Rd.count rd most).2).left).length : Nat) : Int) < (Rd.count rd most).1))) rfl trivial (fun _ _ => x_pick_t rfl g7 rfl) ?_
      refine JO_nil (JX_cut (decide ((((((Rd.count rd most).2).left).length : Nat) : Int) < (Rd.count rd most).1)) (by rw [g7]; simp) ⟨rfl, rfl, rfl, rfl, rfl, trivial⟩ (fun _ h => h))
    · have g7r := g7
      have g7r := of_decide_eq_false g7r
      refine JO_shun rfl ⟨_, rfl, g7⟩ ?_
      refine JO_shun rfl ⟨_, rfl, g7⟩ ?_
      refine JO_shun rfl ⟨_, rfl, g7⟩ ?_
      refine JO_shun rfl ⟨_, rfl, g7⟩ ?_
      refine JO_shun rfl ⟨_, rfl, g7⟩ ?_
      refine JO_read (vB false) rfl trivial (fun _ _ => x_pick_f rfl g7 rfl) ?_
      refine JO_nil (JX_cut (false) (by rw [g7]; simp) ⟨rfl, rfl, rfl, rfl, rfl, trivial⟩ (fun _ h => h))
  rintro z6 rfl
  refine JO_nil (JX_then ?_)
  refine J_cond ((decide (((Rd.count rd most).2).err = 0)) && (decide ((((((Rd.count rd most).2).left).length : Nat) : Int) < (Rd.count rd most).1))) rfl rfl (fun h8 => ?_) (fun h8 => ?_)
  · have h8w := h8
    have ⟨h8, h9⟩ := band_true h8
    have h8 := of_decide_eq_true h8
    have h9 := of_decide_eq_true h9
    refine J_seq (J_region ?_)
    refine JO_call [] [] [Ent.blk b5 116 [vS (((Rd.count rd most).2).left), vI (((Rd.count rd most).2).err)], Ent.blk b2 116 [vS [], vI 0], Ent.blk b1 116 [vS rd.left, vI rd.err]] rfl trivial (fun _ => x_call Ty.ca87 rfl) (fun _ h => h) (fun _ h => by cases h) (fun w hS => f87_ok 11 w) ?_
    rintro _ _ ⟨rfl, rfl⟩
    refine jr_ (vS []) ?_
    refine JO_op rfl trivial (O_store 1 [vS [], vI 11] [Ent.blk b5 116 [vS (((Rd.count rd most).2).left), vI (((Rd.count rd most).2).err)], Ent.blk b2 116 [vS [], vI 11], Ent.blk b1 116 [vS rd.left, vI rd.err]] rfl rfl rfl Ty.sz116 rfl (Nat.le_of_ble_eq_true rfl) rfl rfl rfl ?_)
    refine JO_nil (JX_then (J_ret (JX_then_ret ?_)))
    first
      | have hd := Rd.rt_big (by assumption)
      | have hd := Rd.rt_no (r := rd) (most := most) (by assumption)
      | have hd := Rd.rt_ok (by assumption) (by assumption)
    refine JX_rets [vS [], Value.agg #[vS [], vI 11]] (Value.tuple #[vS [], Value.agg #[vS [], vI 11]]) Try.results74 (fun w h => ⟨rfl, ⟨_, rfl, load_blkN 1 [vS [], vI 11] h rfl Ty.ag116 Ty.sz116 rfl⟩, trivial⟩) rfl [] (fun _ h => h.keep [false, false, false] rfl) ⟨?_, ?_⟩
    · have e_x0 : ([] : Bytes) = ((Rd.rtext rd most).1) := by first | (rw [hd]; done) | (rw [hd]; rfl) | (rw [hd]; exact sub_to _ _) | (rw [hd]; exact sub_from _ _)
      have e_x1 : ([] : Bytes) = (((Rd.rtext rd most).2).left) := by first | (rw [hd]; done) | (rw [hd]; rfl) | (rw [hd]; exact sub_to _ _) | (rw [hd]; exact sub_from _ _)
      have e_x2 : (11 : Int) = (((Rd.rtext rd most).2).err) := by first | (rw [hd]; done) | (rw [hd]; rfl) | (rw [hd]; exact sub_to _ _) | (rw [hd]; exact sub_from _ _)
      have e_all := (congr (congr (congrArg (fun (x0 : Bytes) (x1 : Bytes) (x2 : Int) => Value.tuple #[vS x0, Value.agg #[vS x1, vI x2]]) e_x0) e_x1) e_x2)
      exact e_all
    · rfl
  · have h8w := h8
    simp only [Bool.and_eq_true, Bool.or_eq_true, Bool.and_eq_false_iff, Bool.or_eq_false_iff, Bool.not_eq_true', Bool.not_eq_false', decide_eq_true_eq, decide_eq_false_iff_not] at h8
    refine J_skip (JX_then (J_seq (J_seq (J_region ?_))))
    refine JO_read (Value.pointer (some ⟨b5, 1, none⟩)) rfl trivial (fun _ _ => x_fieldAddr Ty.fi116_1 rfl rfl) ?_
    refine JO_read (vI (((Rd.count rd most).2).err)) rfl trivial (x_load 0 rfl rfl Ty.sc23 rfl) ?_
    refine JO_read (vB (decide (((Rd.count rd most).2).err ≠ 0))) rfl trivial (fun _ _ => x_neq_i rfl rfl) ?_
    refine JO_nil (JX_then ?_)
    refine J_cond (decide (((Rd.count rd most).2).err ≠ 0)) rfl rfl (fun h10 => ?_) (fun h10 => ?_)
    · have h10w := h10
      have h10 := of_decide_eq_true h10
      refine J_seq ?_
      refine J_draw [Ent.blk b5 116 [vS (((Rd.count rd most).2).left), vI (((Rd.count rd most).2).err)], Ent.blk b1 116 [vS rd.left, vI rd.err]] [2] [Ent.blk b5 116 [vS (((Rd.count rd most).2).left), vI (((Rd.count rd most).2).err)], Ent.blk b2 116 [vS [], vI 0], Ent.blk b1 116 [vS rd.left, vI rd.err]] 3 Ty.mixed rfl ?_
      refine jt_ 0 (Value.agg #[vS (((Rd.count rd most).2).left), vI (((Rd.count rd most).2).err)]) rfl (x_loadN 0 [vS (((Rd.count rd most).2).left), vI (((Rd.count rd most).2).err)] rfl rfl Ty.ag116 Ty.sz116 rfl) ?_
      refine jt_ 1 (vS []) rfl (fun _ _ => rfl) ?_
      refine JA_one 2 (by kernel_rfl) (fun _ h => ⟨h.keep [true, false, true] rfl, fun _ => h⟩) ?_
      refine JI_op rfl rfl trivial (O_store 1 [vS (((Rd.count rd most).2).left), vI (((Rd.count rd most).2).err)] [Ent.blk b5 116 [vS (((Rd.count rd most).2).left), vI (((Rd.count rd most).2).err)], Ent.blk b2 116 [vS (((Rd.count rd most).2).left), vI (((Rd.count rd most).2).err)], Ent.blk b1 116 [vS rd.left, vI rd.err]] rfl rfl rfl Ty.sz116 rfl (Nat.le_of_ble_eq_true rfl) rfl rfl rfl ?_)
      refine JA_done (by kernel_rfl) (fun _ h => ⟨h.keep [true, false, true] rfl, fun hh => Bool.noConfusion (show false = true from hh)⟩) ?_
      refine JX_then (J_ret (JX_then_ret ?_))
      first
        | have hd := Rd.rt_big (by assumption)
        | have hd := Rd.rt_no (r := rd) (most := most) (by assumption)
        | have hd := Rd.rt_ok (by assumption) (by assumption)
      refine JX_rets [vS [], Value.agg #[vS (((Rd.count rd most).2).left), vI (((Rd.count rd most).2).err)]] (Value.tuple #[vS [], Value.agg #[vS (((Rd.count rd most).2).left), vI (((Rd.count rd most).2).err)]]) Try.results74 (fun w h => ⟨rfl, ⟨_, rfl, load_blkN 1 [vS (((Rd.count rd most).2).left), vI (((Rd.count rd most).2).err)] h rfl Ty.ag116 Ty.sz116 rfl⟩, trivial⟩) rfl [] (fun _ h => h.keep [false, false, false] rfl) ⟨?_, ?_⟩
      · have e_x0 : ([] : Bytes) = ((Rd.rtext rd most).1) := by first | (rw [hd]; done) | (rw [hd]; rfl) | (rw [hd]; exact sub_to _ _) | (rw [hd]; exact sub_from _ _)
        have e_x1 : (((Rd.count rd most).2).left : Bytes) = (((Rd.rtext rd most).2).left) := by first | (rw [hd]; done) | (rw [hd]; rfl) | (rw [hd]; exact sub_to _ _) | (rw [hd]; exact sub_from _ _)
        have e_x2 : (((Rd.count rd most).2).err : Int) = (((Rd.rtext rd most).2).err) := by first | (rw [hd]; done) | (rw [hd]; rfl) | (rw [hd]; exact sub_to _ _) | (rw [hd]; exact sub_from _ _)
        have e_all := (congr (congr (congrArg (fun (x0 : Bytes) (x1 : Bytes) (x2 : Int) => Value.tuple #[vS x0, Value.agg #[vS x1, vI x2]]) e_x0) e_x1) e_x2)
        exact e_all
      · rfl
    · have h10w := h10
      have h10 := of_decide_eq_false h10
      refine J_skip (JX_then (J_seq ?_))
      refine J_draw [Ent.blk b5 116 [vS (((Rd.count rd most).2).left), vI (((Rd.count rd most).2).err)], Ent.blk b1 116 [vS rd.left, vI rd.err]] [10] [Ent.blk b5 116 [vS (((Rd.count rd most).2).left), vI (((Rd.count rd most).2).err)], Ent.blk b2 116 [vS [], vI 0], Ent.blk b1 116 [vS rd.left, vI rd.err]] 11 Ty.mixed rfl ?_
      refine jt_ 0 (Value.pointer (some ⟨b5, 0, none⟩)) rfl (fun _ _ => x_fieldAddr Ty.fi116_0 rfl rfl) ?_
      refine jt_ 1 (vS (((Rd.count rd most).2).left)) rfl (x_load 0 rfl rfl Ty.sc9 rfl) ?_
      refine jt_ 2 (vI ((Rd.count rd most).1)) rfl (fun _ _ => rfl) ?_
      refine jt_ 3 (vS (sub (((Rd.count rd most).2).left) 0 (((Rd.count rd most).1).toNat))) rfl (fun _ _ => x_sub_s (lo := 0) (hi := ((Rd.count rd most).1).toNat) rfl Try.underlying9 (.inr ⟨rfl, rfl⟩) (.inl (lo_i (by omega))) lt_ (by first | omega | (simp only [sub, List.length_drop, List.length_take]; omega) | (simp; omega) | (simp_all; omega))) ?_
      refine jt_ 4 (Value.pointer (some ⟨b5, 0, none⟩)) rfl (fun _ _ => x_fieldAddr Ty.fi116_0 rfl rfl) ?_
      refine jt_ 5 (vS (((Rd.count rd most).2).left)) rfl (x_load 0 rfl rfl Ty.sc9 rfl) ?_
      refine jt_ 6 (vI ((Rd.count rd most).1)) rfl (fun _ _ => rfl) ?_
      refine jt_ 7 (vS (sub (((Rd.count rd most).2).left) (((Rd.count rd most).1).toNat) ((((Rd.count rd most).2).left).length))) rfl (fun _ _ => x_sub_s (lo := ((Rd.count rd most).1).toNat) (hi := (((Rd.count rd most).2).left).length) rfl Try.underlying9 (.inl (lo_i (by omega))) (.inr ⟨rfl, rfl⟩) lt_ (by first | omega | (simp only [sub, List.length_drop, List.length_take]; omega) | (simp; omega) | (simp_all; omega))) ?_
      refine jt_ 8 (Value.agg #[vS (sub (((Rd.count rd most).2).left) (((Rd.count rd most).1).toNat) ((((Rd.count rd most).2).left).length)), vI 0]) rfl (fun _ _ => x_build (by kernel_rfl)) ?_
      refine jt_ 9 (vS (sub (((Rd.count rd most).2).left) 0 (((Rd.count rd most).1).toNat))) rfl (fun _ _ => rfl) ?_
      refine JA_one 10 (by kernel_rfl) (fun _ h => ⟨h.keep [true, false, true] rfl, fun _ => h⟩) ?_
      refine JI_op rfl rfl trivial (O_store 1 [vS (sub (((Rd.count rd most).2).left) (((Rd.count rd most).1).toNat) ((((Rd.count rd most).2).left).length)), vI 0] [Ent.blk b5 116 [vS (((Rd.count rd most).2).left), vI (((Rd.count rd most).2).err)], Ent.blk b2 116 [vS (sub (((Rd.count rd most).2).left) (((Rd.count rd most).1).toNat) ((((Rd.count rd most).2).left).length)), vI 0], Ent.blk b1 116 [vS rd.left, vI rd.err]] rfl rfl rfl Ty.sz116 rfl (Nat.le_of_ble_eq_true rfl) rfl rfl rfl ?_)
      refine JA_done (by kernel_rfl) (fun _ h => ⟨h.keep [true, false, true] rfl, fun hh => Bool.noConfusion (show false = true from hh)⟩) ?_
      refine JX_then (J_ret ?_)
      first
        | have hd := Rd.rt_big (by assumption)
        | have hd := Rd.rt_no (r := rd) (most := most) (by assumption)
        | have hd := Rd.rt_ok (by assumption) (by assumption)
      refine JX_rets [vS (sub (((Rd.count rd most).2).left) 0 (((Rd.count rd most).1).toNat)), Value.agg #[vS (sub (((Rd.count rd most).2).left) (((Rd.count rd most).1).toNat) ((((Rd.count rd most).2).left).length)), vI 0]] (Value.tuple #[vS (sub (((Rd.count rd most).2).left) 0 (((Rd.count rd most).1).toNat)), Value.agg #[vS (sub (((Rd.count rd most).2).left) (((Rd.count rd most).1).toNat) ((((Rd.count rd most).2).left).length)), vI 0]]) Try.results74 (fun w h => ⟨rfl, ⟨_, rfl, load_blkN 1 [vS (sub (((Rd.count rd most).2).left) (((Rd.count rd most).1).toNat) ((((Rd.count rd most).2).left).length)), vI 0] h rfl Ty.ag116 Ty.sz116 rfl⟩, trivial⟩) rfl [] (fun _ h => h.keep [false, false, false] rfl) ⟨?_, ?_⟩
      · have e_x0 : (sub (((Rd.count rd most).2).left) 0 (((Rd.count rd most).1).toNat) : Bytes) = ((Rd.rtext rd most).1) := by first | (rw [hd]; done) | (rw [hd]; rfl) | (rw [hd]; exact sub_to _ _) | (rw [hd]; exact sub_from _ _)
        have e_x1 : (sub (((Rd.count rd most).2).left) (((Rd.count rd most).1).toNat) ((((Rd.count rd most).2).left).length) : Bytes) = (((Rd.rtext rd most).2).left) := by first | (rw [hd]; done) | (rw [hd]; rfl) | (rw [hd]; exact sub_to _ _) | (rw [hd]; exact sub_from _ _)
        have e_x2 : (0 : Int) = (((Rd.rtext rd most).2).err) := by first | (rw [hd]; done) | (rw [hd]; rfl) | (rw [hd]; exact sub_to _ _) | (rw [hd]; exact sub_from _ _)
        have e_all := (congr (congr (congrArg (fun (x0 : Bytes) (x1 : Bytes) (x2 : Int) => Value.tuple #[vS x0, Value.agg #[vS x1, vI x2]]) e_x0) e_x1) e_x2)
        exact e_all
      · rfl
set_option maxRecDepth 20000 in
theorem f75_ok (rd : Reader) (w : World) : Calls Try.prog 75 #[Value.agg #[vS rd.left, vI rd.err]] w (Gives [] w fun v L => v = vI (Rd.fin rd) ∧ L = []) := by
  refine calls_J [] 14 Try.func75 rfl Try.ntmps75 [(0, Value.agg #[vS rd.left, vI rd.err])] rfl rfl (Give.nil w) ?_
  refine J_seq (J_region ?_)
  refine JO_op rfl trivial (O_box rfl rfl fun b1 => ?_)
  refine jr_ (vI 0) ?_
  refine JO_nil (JX_then (J_seq (J_seq (J_region ?_))))
  refine JO_read (Value.pointer (some ⟨b1, 1, none⟩)) rfl trivial (fun _ _ => x_fieldAddr Ty.fi116_1 rfl rfl) ?_
  refine JO_read (vI rd.err) rfl trivial (x_load 0 rfl rfl Ty.sc23 rfl) ?_
  refine JO_read (vB (decide (rd.err = 0))) rfl trivial (fun _ _ => x_eql_i rfl rfl) ?_
  refine jr_ (vB (decide (rd.err = 0))) ?_
  refine JO_cut (X := Bool) 5 (fun z => z = ((decide (rd.err = 0)) && (decide ((0 : Int) < ((rd.left.length : Nat) : Int))))) (fun z => [(1, Value.pointer (some ⟨b1, 0, none⟩)), (2, vI 0), (11, vB z)]) (fun _ => [Ent.blk b1 116 [vS rd.left, vI rd.err]]) ?_ ?_
  · rcases Bool.eq_false_or_eq_true (decide (rd.err = 0)) with g3 | g3
    · have g3r := g3
      have g3r := of_decide_eq_true g3r
      refine JO_read (Value.pointer (some ⟨b1, 0, none⟩)) rfl ⟨_, rfl, g3⟩ (fun _ _ => x_fieldAddr Ty.fi116_0 rfl rfl) ?_
      refine JO_read (vS rd.left) rfl ⟨_, rfl, g3⟩ (x_load 0 rfl rfl Ty.sc9 rfl) ?_
      refine JO_read (vI ((rd.left.length : Nat) : Int)) rfl ⟨_, rfl, g3⟩ (fun _ _ => x_len_s rfl Try.underlying9) ?_
      refine JO_read (vB (decide ((0 : Int) < ((rd.left.length : Nat) : Int)))) rfl ⟨_, rfl, g3⟩ (fun _ _ => x_gtr_i rfl rfl) ?_
      refine JO_read (vB (decide ((0 : Int) < ((rd.left.length : Nat) : Int)))) rfl trivial (fun _ _ => x_pick_t rfl g3 rfl) ?_
      refine JO_nil (JX_cut (decide ((0 : Int) < ((rd.left.length : Nat) : Int))) (by rw [g3]; simp) ⟨rfl, rfl, rfl, trivial⟩ (fun _ h => h))
    · have g3r := g3
      have g3r := of_decide_eq_false g3r
      refine JO_shun rfl ⟨_, rfl, g3⟩ ?_
      refine JO_shun rfl ⟨_, rfl, g3⟩ ?_
      refine JO_shun rfl ⟨_, rfl, g3⟩ ?_
      refine JO_shun rfl ⟨_, rfl, g3⟩ ?_
      refine JO_read (vB false) rfl trivial (fun _ _ => x_pick_f rfl g3 rfl) ?_
      refine JO_nil (JX_cut (false) (by rw [g3]; simp) ⟨rfl, rfl, rfl, trivial⟩ (fun _ h => h))
  rintro z2 rfl
  refine JO_nil (JX_then ?_)
  refine J_cond ((decide (rd.err = 0)) && (decide ((0 : Int) < ((rd.left.length : Nat) : Int)))) rfl rfl (fun h4 => ?_) (fun h4 => ?_)
  · have h4w := h4
    have ⟨h4, h5⟩ := band_true h4
    have h4 := of_decide_eq_true h4
    have h5 := of_decide_eq_true h5
    refine J_seq (J_region ?_)
    refine jr_ (vI 11) ?_
    refine JO_nil (JX_then (J_ret (JX_then_ret ?_)))
    refine JX_rets [vI 11] (vI 11) Try.results75 (fun w h => ⟨rfl, trivial⟩) rfl [] (fun _ h => h.keep [false] rfl) ⟨?_, ?_⟩
    · have e_x0 : (11 : Int) = (Rd.fin rd) := by first | exact (Rd.end_open (by assumption)).symm | exact (Rd.end_shut (by assumption)).symm
      exact congrArg (fun (x0 : Int) => vI x0) e_x0
    · rfl
  · have h4w := h4
    simp only [Bool.and_eq_true, Bool.or_eq_true, Bool.and_eq_false_iff, Bool.or_eq_false_iff, Bool.not_eq_true', Bool.not_eq_false', decide_eq_true_eq, decide_eq_false_iff_not] at h4
    refine J_skip (JX_then (J_seq (J_region ?_)))
    refine JO_read (Value.pointer (some ⟨b1, 1, none⟩)) rfl trivial (fun _ _ => x_fieldAddr Ty.fi116_1 rfl rfl) ?_
    refine JO_read (vI rd.err) rfl trivial (x_load 0 rfl rfl Ty.sc23 rfl) ?_
    refine jr_ (vI rd.err) ?_
    refine JO_nil (JX_then (J_ret ?_))
    refine JX_rets [vI rd.err] (vI rd.err) Try.results75 (fun w h => ⟨rfl, trivial⟩) rfl [] (fun _ h => h.keep [false] rfl) ⟨?_, ?_⟩
    · have e_x0 : (rd.err : Int) = (Rd.fin rd) := by first | exact (Rd.end_open (by assumption)).symm | exact (Rd.end_shut (by assumption)).symm
      exact congrArg (fun (x0 : Int) => vI x0) e_x0
    · rfl
end Go.Proofs.Ytodfebhimadaiaa
