/- contracts C14i -/
import Derived.Test.YtodfebhimadaiaaC14g
import Derived.Test.YtodfebhimadaiaaDa14c
namespace Go.Proofs.Ytodfebhimadaiaa
open Go.GV
set_option linter.unusedVariables false
set_option linter.unusedSimpArgs false

set_option maxRecDepth 20000 in
theorem f15_ok (s : Bytes) (at_ : Nat) (m : Bytes) (w : World) (q0 : s.length ≤ 4611686018427387904) (q1 : at_ ≤ 1073741824) (q2 : m.length ≤ 1073741824) : Calls Try.prog 15 #[vS s, vI ((at_ : Nat) : Int), vS m] w (Gives [] w fun v L => v = vS (R02.xorAt s at_ m) ∧ L = []) := by
  refine calls_J [] 46 Try.func15 rfl Try.ntmps15 [(0, vS s), (1, vI ((at_ : Nat) : Int)), (2, vS m)] rfl rfl (Give.nil w) ?_
  refine J_seq ?_
  refine J_region ?_
  refine JO_read (vS []) rfl trivial (fun _ _ => rfl) ?_
  refine JO_nil ?_
  refine JX_then ?_
  refine J_seq ?_
  refine J_region ?_
  refine JO_read (vS s) rfl trivial (fun _ _ => rfl) ?_
  refine JO_op rfl trivial (O_str_bytes s rfl Try.underlying9 Try.underlying57 Try.underlying5 fun b1 c2 z3 hz4 => ?_)
  refine JO_read (Value.slice (some ⟨b1, 0, none⟩) s.length c2) rfl trivial (fun _ _ => rfl) ?_
  refine JO_nil ?_
  refine JX_then ?_
  refine J_seq ?_
  refine J_seq ?_
  refine J_region ?_
  refine JO_read (vI 0) rfl trivial (fun _ _ => rfl) ?_
  refine JO_nil ?_
  refine JX_then ?_
  refine J_block ?_
  refine J_loop (X := Nat × (List UInt8)) (fun (⟨k, bs⟩ : Nat × (List UInt8)) => (k ≤ m.length) ∧ (bs = R02.xorAt s at_ (m.take k) ++ List.replicate z3 0)) (fun (⟨k, bs⟩ : Nat × (List UInt8)) => [(1, vI ((at_ : Nat) : Int)), (2, vS m), (6, vS []), (7, Value.slice (some ⟨b1, 0, none⟩) s.length c2), (8, vI ((k : Nat) : Int))]) (fun (⟨k, bs⟩ : Nat × (List UInt8)) => [Ent.blk b1 5 (bs.map vU8) (s.length + z3, s.length + z3 + 1)]) (fun (⟨k, bs⟩ : Nat × (List UInt8)) => m.length - k) ((0, s ++ List.replicate z3 0) : Nat × (List UInt8)) ?_ ⟨rfl, rfl, rfl, rfl, rfl, trivial⟩ (fun _ h => h) ?_
  · show (0 ≤ m.length) ∧ ((s ++ List.replicate z3 0) = R02.xorAt s at_ (m.take 0) ++ List.replicate z3 0)
    refine ⟨?_, ?_⟩
    · first | rfl | omega | (simp_all; done) | (simp_all; omega)
    · rw [List.take_zero, R02.xorAt_nil]
  rintro ⟨k, bs⟩ hI1
  obtain ⟨i1_0, i1_1⟩ : (k ≤ m.length) ∧ (bs = R02.xorAt s at_ (m.take k) ++ List.replicate z3 0) := hI1
  have hbl : bs.length = s.length + z3 := by rw [i1_1]; simp
  refine J_weaken (E' := [(1, vI ((at_ : Nat) : Int)), (2, vS m), (6, vS []), (7, Value.slice (some ⟨b1, 0, none⟩) s.length c2), (8, vI ((k : Nat) : Int))]) (L' := [Ent.blk b1 5 (bs.map vU8) (s.length + z3, s.length + z3 + 1)]) ⟨rfl, rfl, rfl, rfl, rfl, trivial⟩ (fun _ h => h) ?_
  refine J_seq ?_
  refine J_seq ?_
  refine J_region ?_
  refine JO_read (vI ((k : Nat) : Int)) rfl trivial (fun _ _ => rfl) ?_
  refine JO_read (vS m) rfl trivial (fun _ _ => rfl) ?_
  refine JO_read (vI ((m.length : Nat) : Int)) rfl trivial (fun _ _ => x_len_s rfl Try.underlying9) ?_
  refine JO_read (vB (decide (((k : Nat) : Int) < ((m.length : Nat) : Int)))) rfl trivial (fun _ _ => x_lss_i rfl rfl) ?_
  refine JO_nil ?_
  refine JX_then ?_
  refine J_cond (decide (((k : Nat) : Int) < ((m.length : Nat) : Int))) rfl rfl (fun h5 => ?_) (fun h5 => ?_)
  · have h5 := of_decide_eq_true h5
    refine J_skip ?_
    refine JX_then ?_
    refine J_seq ?_
    refine J_block ?_
    refine J_seq ?_
    refine J_region ?_
    refine JO_read (vI ((at_ : Nat) : Int)) rfl trivial (fun _ _ => rfl) ?_
    refine JO_read (vI ((k : Nat) : Int)) rfl trivial (fun _ _ => rfl) ?_
    refine JO_read (vI ((at_ + k : Nat) : Int)) rfl trivial (fun _ _ => x_add_n (a := at_) (b := k) rfl rfl (by omega)) ?_
    refine JO_read (vB (decide ((0 : Int) ≤ ((at_ + k : Nat) : Int)))) rfl trivial (fun _ _ => x_geq_i rfl rfl) ?_
    refine JO_read (vB (decide ((0 : Int) ≤ ((at_ + k : Nat) : Int)))) rfl trivial (fun _ _ => rfl) ?_
    refine JO_cut (X := Bool) 7 (fun z => z = ((decide ((0 : Int) ≤ ((at_ + k : Nat) : Int))) && (decide (((at_ + k : Nat) : Int) < ((s.length : Nat) : Int))))) (fun z => [(1, vI ((at_ : Nat) : Int)), (2, vS m), (6, vS []), (7, Value.slice (some ⟨b1, 0, none⟩) s.length c2), (8, vI ((k : Nat) : Int)), (11, vI ((k : Nat) : Int)), (12, vS m), (13, vI ((m.length : Nat) : Int)), (14, vB (decide (((k : Nat) : Int) < ((m.length : Nat) : Int)))), (17, vI ((at_ : Nat) : Int)), (18, vI ((k : Nat) : Int)), (19, vI ((at_ + k : Nat) : Int)), (20, vB (decide ((0 : Int) ≤ ((at_ + k : Nat) : Int)))), (21, vB (decide ((0 : Int) ≤ ((at_ + k : Nat) : Int)))), (28, vB z)]) (fun _ => [Ent.blk b1 5 (bs.map vU8) (s.length + z3, s.length + z3 + 1)]) ?_ ?_
    · rcases Bool.eq_false_or_eq_true (decide ((0 : Int) ≤ ((at_ + k : Nat) : Int))) with g7 | g7
      · have g7r := g7
        have g7r := of_decide_eq_true g7r
        refine JO_read (vI ((at_ : Nat) : Int)) rfl ⟨_, rfl, g7⟩ (fun _ _ => rfl) ?_
        refine JO_read (vI ((k : Nat) : Int)) rfl ⟨_, rfl, g7⟩ (fun _ _ => rfl) ?_
        refine JO_read (vI ((at_ + k : Nat) : Int)) rfl ⟨_, rfl, g7⟩ (fun _ _ => x_add_n (a := at_) (b := k) rfl rfl (by omega)) ?_
        refine JO_read (Value.slice (some ⟨b1, 0, none⟩) s.length c2) rfl ⟨_, rfl, g7⟩ (fun _ _ => rfl) ?_
        refine JO_read (vI ((s.length : Nat) : Int)) rfl ⟨_, rfl, g7⟩ (fun _ _ => x_len_sl Try.underlying57 rfl) ?_
        refine JO_read (vB (decide (((at_ + k : Nat) : Int) < ((s.length : Nat) : Int)))) rfl ⟨_, rfl, g7⟩ (fun _ _ => x_lss_i rfl rfl) ?_
        refine JO_read (vB (decide (((at_ + k : Nat) : Int) < ((s.length : Nat) : Int)))) rfl trivial (fun _ _ => x_pick_t rfl g7 rfl) ?_
        refine JO_nil (JX_cut (decide (((at_ + k : Nat) : Int) < ((s.length : Nat) : Int))) (by rw [g7]; simp) ⟨rfl, rfl, rfl, rfl, rfl, rfl, rfl, rfl, rfl, rfl, rfl, rfl, rfl, rfl, rfl, trivial⟩ (fun _ h => h))
      · have g7r := g7
        have g7r := of_decide_eq_false g7r
        refine JO_shun rfl ⟨_, rfl, g7⟩ ?_
        refine JO_shun rfl ⟨_, rfl, g7⟩ ?_
        refine JO_shun rfl ⟨_, rfl, g7⟩ ?_
        refine JO_shun rfl ⟨_, rfl, g7⟩ ?_
        refine JO_shun rfl ⟨_, rfl, g7⟩ ?_
        refine JO_shun rfl ⟨_, rfl, g7⟩ ?_
        refine JO_read (vB false) rfl trivial (fun _ _ => x_pick_f rfl g7 rfl) ?_
        refine JO_nil (JX_cut (false) (by rw [g7]; simp) ⟨rfl, rfl, rfl, rfl, rfl, rfl, rfl, rfl, rfl, rfl, rfl, rfl, rfl, rfl, rfl, trivial⟩ (fun _ h => h))
    rintro z6 rfl
    refine JO_nil ?_
    refine JX_then ?_
    refine J_cond ((decide ((0 : Int) ≤ ((at_ + k : Nat) : Int))) && (decide (((at_ + k : Nat) : Int) < ((s.length : Nat) : Int)))) rfl rfl (fun h8 => ?_) (fun h8 => ?_)
    · have ⟨h8, h9⟩ := band_true h8
      have h8 := of_decide_eq_true h8
      have h9 := of_decide_eq_true h9
      refine J_draw [] [15] [Ent.blk b1 5 (bs.map vU8) (s.length + z3, s.length + z3 + 1)] 16 Ty.mixed rfl ?_
      refine JA_take 0 (Value.slice (some ⟨b1, 0, none⟩) s.length c2) rfl (by kernel_rfl) (by kernel_rfl) (by kernel_rfl) rfl (fun _ _ _ h => h) rfl trivial (fun _ _ => rfl) ?_
      refine JA_take 1 (vI ((at_ : Nat) : Int)) rfl (by kernel_rfl) (by kernel_rfl) (by kernel_rfl) rfl (fun _ _ _ h => h) rfl trivial (fun _ _ => rfl) ?_
      refine JA_take 2 (vI ((k : Nat) : Int)) rfl (by kernel_rfl) (by kernel_rfl) (by kernel_rfl) rfl (fun _ _ _ h => h) rfl trivial (fun _ _ => rfl) ?_
      refine JA_take 3 (vI ((at_ + k : Nat) : Int)) rfl (by kernel_rfl) (by kernel_rfl) (by kernel_rfl) rfl (fun _ _ _ h => h) rfl trivial (fun _ _ => x_add_n (a := at_) (b := k) rfl rfl (by omega)) ?_
      refine JA_take 4 (Value.slice (some ⟨b1, 0, none⟩) s.length c2) rfl (by kernel_rfl) (by kernel_rfl) (by kernel_rfl) rfl (fun _ _ _ h => h) rfl trivial (fun _ _ => rfl) ?_
      refine JA_take 5 (vI ((at_ : Nat) : Int)) rfl (by kernel_rfl) (by kernel_rfl) (by kernel_rfl) rfl (fun _ _ _ h => h) rfl trivial (fun _ _ => rfl) ?_
      refine JA_take 6 (vI ((k : Nat) : Int)) rfl (by kernel_rfl) (by kernel_rfl) (by kernel_rfl) rfl (fun _ _ _ h => h) rfl trivial (fun _ _ => rfl) ?_
      refine JA_take 7 (vI ((at_ + k : Nat) : Int)) rfl (by kernel_rfl) (by kernel_rfl) (by kernel_rfl) rfl (fun _ _ _ h => h) rfl trivial (fun _ _ => x_add_n (a := at_) (b := k) rfl rfl (by omega)) ?_
      refine JA_take 8 (Value.pointer (some ⟨b1, at_ + k, none⟩)) rfl (by kernel_rfl) (by kernel_rfl) (by kernel_rfl) rfl (fun _ _ _ h => h) rfl trivial (fun _ _ => x_indexAddr_sl (k := at_ + k) Try.underlying57 Ty.sz5 rfl rfl (by first | omega | (simp; omega) | (simp_all; omega) | (simp_all; done)) (add_0k1 _ _)) ?_
      refine JA_early 9 (vU8 (bs.getD (at_ + k) 0)) rfl (by kernel_rfl) (by kernel_rfl) (by kernel_rfl) rfl (by kernel_rfl) (fun _ _ _ h => h) rfl trivial (x_load_arr 0 vU8 0 rfl rfl Ty.sc5 (by first | omega | (simp; omega) | (simp_all; omega) | (simp_all; done))) ?_
      refine JA_take 10 (vS m) rfl (by kernel_rfl) (by kernel_rfl) (by kernel_rfl) rfl (fun _ _ _ h => h) rfl trivial (fun _ _ => rfl) ?_
      refine JA_take 11 (vI ((k : Nat) : Int)) rfl (by kernel_rfl) (by kernel_rfl) (by kernel_rfl) rfl (fun _ _ _ h => h) rfl trivial (fun _ _ => rfl) ?_
      refine JA_take 12 (vU8 (m.getD k 0)) rfl (by kernel_rfl) (by kernel_rfl) (by kernel_rfl) rfl (fun _ _ _ h => h) rfl trivial (fun _ _ => x_idx_s (k := k) rfl rfl Try.underlying9 (by omega)) ?_
      refine JA_take 13 (vU8 ((bs.getD (at_ + k) 0) ^^^ (m.getD k 0))) rfl (by kernel_rfl) (by kernel_rfl) (by kernel_rfl) rfl (fun _ _ _ h => h) rfl trivial (fun _ _ => x_xor_u8 rfl rfl) ?_
      refine JA_take 14 (Value.pointer (some ⟨b1, at_ + k, none⟩)) rfl (by kernel_rfl) (by kernel_rfl) (by kernel_rfl) rfl (fun _ _ _ h => h) rfl trivial (fun _ _ => x_indexAddr_sl (k := at_ + k) Try.underlying57 Ty.sz5 rfl rfl (by first | omega | (simp; omega) | (simp_all; omega) | (simp_all; done)) (add_0k1 _ _)) ?_
      refine JA_one 15 (by kernel_rfl) (fun _ h => ⟨h.keep [false] rfl, fun _ => h⟩) ?_
      refine JI_op rfl rfl trivial (O_store_arr (a := (bs.getD (at_ + k) 0) ^^^ (m.getD k 0)) 0 vU8 [Ent.blk b1 5 ((bs.set (at_ + k) ((bs.getD (at_ + k) 0) ^^^ (m.getD k 0))).map vU8) (s.length + z3, s.length + z3 + 1)] rfl rfl rfl Ty.sz5 rfl (by first | omega | (simp; omega) | (simp_all; omega) | (simp_all; done)) rfl ?_)
      refine JA_done (by kernel_rfl) (fun _ h => ⟨h.keep [false] rfl, fun hh => Bool.noConfusion (show false = true from hh)⟩) ?_
      refine JX_block ?_
      refine JX_then ?_
      refine J_region ?_
      refine JO_read (vI ((k : Nat) : Int)) rfl trivial (fun _ _ => rfl) ?_
      refine JO_read (vI ((k + 1 : Nat) : Int)) rfl trivial (fun _ _ => x_add_n (a := k) (b := 1) rfl rfl (by omega)) ?_
      refine JO_read (vI ((k + 1 : Nat) : Int)) rfl trivial (fun _ _ => rfl) ?_
      refine JO_nil ?_
      refine JX_round ((k + 1, bs.set (at_ + k) ((bs.getD (at_ + k) 0) ^^^ (m.getD k 0))) : Nat × (List UInt8)) ?_ ?_ ⟨rfl, rfl, rfl, rfl, rfl, trivial⟩ (fun _ h => h)
      · show ((k + 1) ≤ m.length) ∧ ((bs.set (at_ + k) ((bs.getD (at_ + k) 0) ^^^ (m.getD k 0))) = R02.xorAt s at_ (m.take (k + 1)) ++ List.replicate z3 0)
        refine ⟨?_, ?_⟩
        · first | rfl | omega | (simp_all; done) | (simp_all; omega)
        · subst i1_1; first | exact R02.xorAt_step (by omega) (by omega) | exact R02.xorAt_skip (by omega) (by omega)
      · show m.length - (k + 1) < m.length - k
        first | omega | (simp; omega) | (simp_all; omega)
    · simp only [Bool.and_eq_true, Bool.or_eq_true, Bool.and_eq_false_iff, Bool.or_eq_false_iff, Bool.not_eq_true', Bool.not_eq_false', decide_eq_true_eq, decide_eq_false_iff_not] at h8
      refine J_skip ?_
      refine JX_block ?_
      refine JX_then ?_
      refine J_region ?_
      refine JO_read (vI ((k : Nat) : Int)) rfl trivial (fun _ _ => rfl) ?_
      refine JO_read (vI ((k + 1 : Nat) : Int)) rfl trivial (fun _ _ => x_add_n (a := k) (b := 1) rfl rfl (by omega)) ?_
      refine JO_read (vI ((k + 1 : Nat) : Int)) rfl trivial (fun _ _ => rfl) ?_
      refine JO_nil ?_
      refine JX_round ((k + 1, bs) : Nat × (List UInt8)) ?_ ?_ ⟨rfl, rfl, rfl, rfl, rfl, trivial⟩ (fun _ h => h)
      · show ((k + 1) ≤ m.length) ∧ (bs = R02.xorAt s at_ (m.take (k + 1)) ++ List.replicate z3 0)
        refine ⟨?_, ?_⟩
        · first | rfl | omega | (simp_all; done) | (simp_all; omega)
        · subst i1_1; first | exact R02.xorAt_step (by omega) (by omega) | exact R02.xorAt_skip (by omega) (by omega)
      · show m.length - (k + 1) < m.length - k
        first | omega | (simp; omega) | (simp_all; omega)
  · have h5 := of_decide_eq_false h5
    refine J_exit ?_
    refine JX_then_exit ?_
    refine JX_round_exit ?_
    refine JX_block_hit ?_
    refine JX_then ?_
    refine J_seq ?_
    refine J_region ?_
    refine JO_read (Value.slice (some ⟨b1, 0, none⟩) s.length c2) rfl trivial (fun _ _ => rfl) ?_
    refine JO_read (vS ((bs.drop 0).take s.length)) rfl trivial (x_str_arr 0 (off := 0) (n := s.length) rfl Try.underlying57 Try.underlying5 Try.underlying9 rfl (by first | omega | (simp; omega) | (simp_all; omega) | (simp_all; done))) ?_
    refine JO_read (vS ((bs.drop 0).take s.length)) rfl trivial (fun _ _ => rfl) ?_
    refine JO_nil ?_
    refine JX_then ?_
    refine J_ret ?_
    refine JX_rets [vS ((bs.drop 0).take s.length)] (vS ((bs.drop 0).take s.length)) Try.results15 (fun w h => ⟨rfl, trivial⟩) rfl [] (fun _ h => h.keep [false] rfl) ⟨?_, ?_⟩
    · have e_x0 : ((bs.drop 0).take s.length : Bytes) = R02.xorAt s at_ m := by
        rw [i1_1, R02.xorAt_done (by omega)]
      exact congrArg (fun (x0 : Bytes) => vS x0) e_x0
    · rfl

set_option maxRecDepth 20000 in
theorem f4_ok (n : UInt16) (a : Bool) (b : Bool) (d : Bytes) (at_ : UInt16) (mask : UInt32) (w : World) : Calls Try.prog 4 #[vU16 n, vB a, vB b, vS d, vU16 at_, vU32 mask] w (Gives [] w fun v L => v = vB true ∧ L = []) := by
  have hat := at_.toNat_lt
  have hnt := n.toNat_lt
  refine calls_J [] 99 Try.func4 rfl Try.ntmps4 [(0, vU16 n), (1, vB a), (2, vB b), (3, vS d), (4, vU16 at_), (5, vU32 mask)] rfl rfl (Give.nil w) ?_
  refine J_seq ?_
  refine J_region ?_
  refine JO_read (vB false) rfl trivial (fun _ _ => rfl) ?_
  refine JO_nil ?_
  refine JX_then ?_
  refine J_seq ?_
  refine J_seq ?_
  refine J_region ?_
  refine JO_call [] [] [] rfl trivial (fun _ => x_call Ty.ca10 rfl) (fun _ h => h) (fun _ h => by cases h) (fun w hS => f10_ok w) ?_
  rintro _ _ ⟨rfl, rfl⟩
  refine JO_read (vB false) rfl trivial (fun _ _ => rfl) ?_
  refine JO_read (vB false) rfl trivial (fun _ _ => rfl) ?_
  refine JO_read (vS d) rfl ⟨_, rfl, rfl⟩ (fun _ _ => rfl) ?_
  refine JO_read (vI ((d.length : Nat) : Int)) rfl ⟨_, rfl, rfl⟩ (fun _ _ => x_len_s rfl Try.underlying9) ?_
  refine JO_read (vB (decide (((d.length : Nat) : Int) < 1))) rfl ⟨_, rfl, rfl⟩ (fun _ _ => x_lss_i rfl rfl) ?_
  refine JO_read (vB (decide (((d.length : Nat) : Int) < 1))) rfl trivial (fun _ _ => rfl) ?_
  refine JO_read (vB (decide (((d.length : Nat) : Int) < 1))) rfl trivial (fun _ _ => rfl) ?_
  refine JO_cut (X := Bool) 4 (fun z => z = ((decide (((d.length : Nat) : Int) < 1)) || (decide ((56 : Int) < ((d.length : Nat) : Int))))) (fun z => [(0, vU16 n), (1, vB a), (2, vB b), (3, vS d), (4, vU16 at_), (5, vU32 mask), (12, vB false), (24, vB true), (25, vB false), (26, vB false), (27, vS d), (28, vI ((d.length : Nat) : Int)), (29, vB (decide (((d.length : Nat) : Int) < 1))), (30, vB (decide (((d.length : Nat) : Int) < 1))), (31, vB (decide (((d.length : Nat) : Int) < 1))), (35, vB z)]) (fun _ => []) ?_ ?_
  · rcases Bool.eq_false_or_eq_true (decide (((d.length : Nat) : Int) < 1)) with g2 | g2
    · have g2r := g2
      have g2r := of_decide_eq_true g2r
      refine JO_shun rfl ⟨_, rfl, g2⟩ ?_
      refine JO_shun rfl ⟨_, rfl, g2⟩ ?_
      refine JO_shun rfl ⟨_, rfl, g2⟩ ?_
      refine JO_read (vB true) rfl trivial (fun _ _ => x_pick_t rfl g2 rfl) ?_
      refine JO_nil (JX_cut (true) (by rw [g2]; simp) ⟨rfl, rfl, rfl, rfl, rfl, rfl, rfl, rfl, rfl, rfl, rfl, rfl, rfl, rfl, rfl, rfl, trivial⟩ (fun _ h => h))
    · have g2r := g2
      have g2r := of_decide_eq_false g2r
      refine JO_read (vS d) rfl ⟨_, rfl, g2⟩ (fun _ _ => rfl) ?_
      refine JO_read (vI ((d.length : Nat) : Int)) rfl ⟨_, rfl, g2⟩ (fun _ _ => x_len_s rfl Try.underlying9) ?_
      refine JO_read (vB (decide ((56 : Int) < ((d.length : Nat) : Int)))) rfl ⟨_, rfl, g2⟩ (fun _ _ => x_gtr_i rfl rfl) ?_
      refine JO_read (vB (decide ((56 : Int) < ((d.length : Nat) : Int)))) rfl trivial (fun _ _ => x_pick_f rfl g2 rfl) ?_
      refine JO_nil (JX_cut (decide ((56 : Int) < ((d.length : Nat) : Int))) (by rw [g2]; simp) ⟨rfl, rfl, rfl, rfl, rfl, rfl, rfl, rfl, rfl, rfl, rfl, rfl, rfl, rfl, rfl, rfl, trivial⟩ (fun _ h => h))
  rintro z1 rfl
  refine JO_read (vB ((decide (((d.length : Nat) : Int) < 1)) || (decide ((56 : Int) < ((d.length : Nat) : Int))))) rfl trivial (fun _ _ => rfl) ?_
  refine JO_cut (X := Bool) 3 (fun z => z = (((decide (((d.length : Nat) : Int) < 1)) || (decide ((56 : Int) < ((d.length : Nat) : Int)))) || (decide (mask = (0 : UInt32))))) (fun z => [(0, vU16 n), (1, vB a), (2, vB b), (3, vS d), (4, vU16 at_), (5, vU32 mask), (12, vB false), (24, vB true), (25, vB false), (26, vB false), (27, vS d), (28, vI ((d.length : Nat) : Int)), (29, vB (decide (((d.length : Nat) : Int) < 1))), (30, vB (decide (((d.length : Nat) : Int) < 1))), (31, vB (decide (((d.length : Nat) : Int) < 1))), (35, vB ((decide (((d.length : Nat) : Int) < 1)) || (decide ((56 : Int) < ((d.length : Nat) : Int))))), (36, vB ((decide (((d.length : Nat) : Int) < 1)) || (decide ((56 : Int) < ((d.length : Nat) : Int))))), (39, vB z)]) (fun _ => []) ?_ ?_
  · rcases Bool.eq_false_or_eq_true ((decide (((d.length : Nat) : Int) < 1)) || (decide ((56 : Int) < ((d.length : Nat) : Int)))) with g4 | g4
    · have g4r := g4
      simp only [Bool.and_eq_true, Bool.or_eq_true, Bool.and_eq_false_iff, Bool.or_eq_false_iff, Bool.not_eq_true', Bool.not_eq_false', decide_eq_true_eq, decide_eq_false_iff_not] at g4r
      refine JO_shun rfl ⟨_, rfl, g4⟩ ?_
      refine JO_shun rfl ⟨_, rfl, g4⟩ ?_
      refine JO_read (vB true) rfl trivial (fun _ _ => x_pick_t rfl g4 rfl) ?_
      refine JO_nil (JX_cut (true) (by rw [g4]; simp) ⟨rfl, rfl, rfl, rfl, rfl, rfl, rfl, rfl, rfl, rfl, rfl, rfl, rfl, rfl, rfl, rfl, rfl, rfl, trivial⟩ (fun _ h => h))
    · have g4r := g4
      have ⟨g4r, h5⟩ := bor_false g4r
      have g4r := of_decide_eq_false g4r
      have h5 := of_decide_eq_false h5
      refine JO_read (vU32 mask) rfl ⟨_, rfl, g4⟩ (fun _ _ => rfl) ?_
      refine JO_read (vB (decide (mask = (0 : UInt32)))) rfl ⟨_, rfl, g4⟩ (fun _ _ => x_eql_u32 rfl rfl) ?_
      refine JO_read (vB (decide (mask = (0 : UInt32)))) rfl trivial (fun _ _ => x_pick_f rfl g4 rfl) ?_
      refine JO_nil (JX_cut (decide (mask = (0 : UInt32))) (by rw [g4]; simp) ⟨rfl, rfl, rfl, rfl, rfl, rfl, rfl, rfl, rfl, rfl, rfl, rfl, rfl, rfl, rfl, rfl, rfl, rfl, trivial⟩ (fun _ h => h))
  rintro z3 rfl
  refine JO_nil ?_
  refine JX_then ?_
  refine J_cond (((decide (((d.length : Nat) : Int) < 1)) || (decide ((56 : Int) < ((d.length : Nat) : Int)))) || (decide (mask = (0 : UInt32)))) rfl rfl (fun h6 => ?_) (fun h6 => ?_)
  · simp only [Bool.and_eq_true, Bool.or_eq_true, Bool.and_eq_false_iff, Bool.or_eq_false_iff, Bool.not_eq_true', Bool.not_eq_false', decide_eq_true_eq, decide_eq_false_iff_not] at h6
    refine J_seq ?_
    refine J_region ?_
    refine JO_call [] [] [] rfl trivial (fun _ => x_call Ty.ca10 rfl) (fun _ h => h) (fun _ h => by cases h) (fun w hS => f10_ok w) ?_
    rintro _ _ ⟨rfl, rfl⟩
    refine JO_read (vB true) rfl trivial (fun _ _ => rfl) ?_
    refine JO_nil ?_
    refine JX_then ?_
    refine J_ret ?_
    refine JX_then_ret ?_
    refine JX_rets [vB true] (vB true) Try.results4 (fun w h => ⟨rfl, trivial⟩) rfl [] (fun _ h => h) ⟨?_, ?_⟩
    · rfl
    · rfl
  · have ⟨h6, h7⟩ := bor_false h6
    have ⟨h6, h8⟩ := bor_false h6
    have h6 := of_decide_eq_false h6
    have h8 := of_decide_eq_false h8
    have h7 := of_decide_eq_false h7
    refine J_skip ?_
    refine JX_then ?_
    refine J_seq ?_
    refine J_region ?_
    refine JO_read (vU16 n) rfl trivial (fun _ _ => rfl) ?_
    refine JO_read (vI ((n.toNat : Nat) : Int)) rfl trivial (fun _ _ => x_conv_u16_i64 rfl Try.underlying28 Try.underlying3) ?_
    refine JO_read (vB a) rfl trivial (fun _ _ => rfl) ?_
    refine JO_read (vB b) rfl trivial (fun _ _ => rfl) ?_
    refine JO_read (vS d) rfl trivial (fun _ _ => rfl) ?_
    refine JO_call [] [] [] rfl trivial (fun _ => x_call Ty.ca13 rfl) (fun _ h => h) (fun _ h => by cases h) (fun w hS => f13_ok ((n.toNat : Nat) : Int) a b d w (by first | omega | assumption | (simp only [List.length_append, List.length_cons, List.length_nil]; omega) | (simp only [sub, List.length_drop, List.length_take]; omega) | (simp; omega) | (simp_all; done) | (simp_all; omega) | decide)) ?_
    rintro _ _ ⟨rfl, rfl⟩
    have ha9 := R14.frame_le R02.updateN ((n.toNat : Nat) : Int) a b d
    refine JO_read (vS (R14.frame R02.updateN ((n.toNat : Nat) : Int) a b d)) rfl trivial (fun _ _ => rfl) ?_
    refine JO_nil ?_
    refine JX_then ?_
    refine J_seq ?_
    refine J_region ?_
    refine JO_read (vS (R14.frame R02.updateN ((n.toNat : Nat) : Int) a b d)) rfl trivial (fun _ _ => rfl) ?_
    refine JO_call [] [] [] rfl trivial (fun _ => x_call Ty.ca11 rfl) (fun _ h => h) (fun _ h => by cases h) (fun w hS => f11_ok (R14.frame R02.updateN ((n.toNat : Nat) : Int) a b d) w (by first | omega | assumption | (simp only [List.length_append, List.length_cons, List.length_nil]; omega) | (simp only [sub, List.length_drop, List.length_take]; omega) | (simp; omega) | (simp_all; done) | (simp_all; omega) | decide)) ?_
    rintro _ _ ⟨rfl, rfl⟩
    refine JO_read (Value.tuple #[vI (R14.rfN R02.updateN (R14.frame R02.updateN ((n.toNat : Nat) : Int) a b d)), vB (R14.rfA R02.updateN (R14.frame R02.updateN ((n.toNat : Nat) : Int) a b d)), vB (R14.rfB R02.updateN (R14.frame R02.updateN ((n.toNat : Nat) : Int) a b d)), vS (R14.rfD R02.updateN (R14.frame R02.updateN ((n.toNat : Nat) : Int) a b d)), vI (R14.rfE R02.updateN (R14.frame R02.updateN ((n.toNat : Nat) : Int) a b d))]) rfl trivial (fun _ _ => rfl) ?_
    refine JO_read (vI (R14.rfN R02.updateN (R14.frame R02.updateN ((n.toNat : Nat) : Int) a b d))) rfl trivial (fun _ _ => rfl) ?_
    refine JO_read (vB (R14.rfA R02.updateN (R14.frame R02.updateN ((n.toNat : Nat) : Int) a b d))) rfl trivial (fun _ _ => rfl) ?_
    refine JO_read (vB (R14.rfB R02.updateN (R14.frame R02.updateN ((n.toNat : Nat) : Int) a b d))) rfl trivial (fun _ _ => rfl) ?_
    refine JO_read (vS (R14.rfD R02.updateN (R14.frame R02.updateN ((n.toNat : Nat) : Int) a b d))) rfl trivial (fun _ _ => rfl) ?_
    refine JO_read (vI (R14.rfE R02.updateN (R14.frame R02.updateN ((n.toNat : Nat) : Int) a b d))) rfl trivial (fun _ _ => rfl) ?_
    refine JO_read (vI (R14.rfN R02.updateN (R14.frame R02.updateN ((n.toNat : Nat) : Int) a b d))) rfl trivial (fun _ _ => rfl) ?_
    refine JO_read (vB (R14.rfA R02.updateN (R14.frame R02.updateN ((n.toNat : Nat) : Int) a b d))) rfl trivial (fun _ _ => rfl) ?_
    refine JO_read (vB (R14.rfB R02.updateN (R14.frame R02.updateN ((n.toNat : Nat) : Int) a b d))) rfl trivial (fun _ _ => rfl) ?_
    refine JO_read (vS (R14.rfD R02.updateN (R14.frame R02.updateN ((n.toNat : Nat) : Int) a b d))) rfl trivial (fun _ _ => rfl) ?_
    refine JO_read (vI (R14.rfE R02.updateN (R14.frame R02.updateN ((n.toNat : Nat) : Int) a b d))) rfl trivial (fun _ _ => rfl) ?_
    refine JO_nil ?_
    refine JX_then ?_
    refine J_seq ?_
    refine J_seq ?_
    refine J_region ?_
    refine JO_read (vS (R14.frame R02.updateN ((n.toNat : Nat) : Int) a b d)) rfl trivial (fun _ _ => rfl) ?_
    refine JO_read (vI (((R14.frame R02.updateN ((n.toNat : Nat) : Int) a b d).length : Nat) : Int)) rfl trivial (fun _ _ => x_len_s rfl Try.underlying9) ?_
    refine JO_read (vB (decide ((((R14.frame R02.updateN ((n.toNat : Nat) : Int) a b d).length : Nat) : Int) ≠ 64))) rfl trivial (fun _ _ => x_neq_i rfl rfl) ?_
    refine JO_read (vB (decide ((((R14.frame R02.updateN ((n.toNat : Nat) : Int) a b d).length : Nat) : Int) ≠ 64))) rfl trivial (fun _ _ => rfl) ?_
    refine JO_cut (X := Bool) 5 (fun z => z = ((decide ((((R14.frame R02.updateN ((n.toNat : Nat) : Int) a b d).length : Nat) : Int) ≠ 64)) || (decide (R14.rfN R02.updateN (R14.frame R02.updateN ((n.toNat : Nat) : Int) a b d) ≠ ((n.toNat : Nat) : Int))))) (fun z => [(0, vU16 n), (1, vB a), (2, vB b), (3, vS d), (4, vU16 at_), (5, vU32 mask), (12, vB false), (24, vB true), (25, vB false), (26, vB false), (27, vS d), (28, vI ((d.length : Nat) : Int)), (29, vB (decide (((d.length : Nat) : Int) < 1))), (30, vB (decide (((d.length : Nat) : Int) < 1))), (31, vB (decide (((d.length : Nat) : Int) < 1))), (35, vB ((decide (((d.length : Nat) : Int) < 1)) || (decide ((56 : Int) < ((d.length : Nat) : Int))))), (36, vB ((decide (((d.length : Nat) : Int) < 1)) || (decide ((56 : Int) < ((d.length : Nat) : Int))))), (39, vB (((decide (((d.length : Nat) : Int) < 1)) || (decide ((56 : Int) < ((d.length : Nat) : Int)))) || (decide (mask = (0 : UInt32))))), (41, vU16 n), (42, vI ((n.toNat : Nat) : Int)), (43, vB a), (44, vB b), (45, vS d), (46, vS (R14.frame R02.updateN ((n.toNat : Nat) : Int) a b d)), (13, vS (R14.frame R02.updateN ((n.toNat : Nat) : Int) a b d)), (48, vS (R14.frame R02.updateN ((n.toNat : Nat) : Int) a b d)), (49, Value.tuple #[vI (R14.rfN R02.updateN (R14.frame R02.updateN ((n.toNat : Nat) : Int) a b d)), vB (R14.rfA R02.updateN (R14.frame R02.updateN ((n.toNat : Nat) : Int) a b d)), vB (R14.rfB R02.updateN (R14.frame R02.updateN ((n.toNat : Nat) : Int) a b d)), vS (R14.rfD R02.updateN (R14.frame R02.updateN ((n.toNat : Nat) : Int) a b d)), vI (R14.rfE R02.updateN (R14.frame R02.updateN ((n.toNat : Nat) : Int) a b d))]), (47, Value.tuple #[vI (R14.rfN R02.updateN (R14.frame R02.updateN ((n.toNat : Nat) : Int) a b d)), vB (R14.rfA R02.updateN (R14.frame R02.updateN ((n.toNat : Nat) : Int) a b d)), vB (R14.rfB R02.updateN (R14.frame R02.updateN ((n.toNat : Nat) : Int) a b d)), vS (R14.rfD R02.updateN (R14.frame R02.updateN ((n.toNat : Nat) : Int) a b d)), vI (R14.rfE R02.updateN (R14.frame R02.updateN ((n.toNat : Nat) : Int) a b d))]), (50, vI (R14.rfN R02.updateN (R14.frame R02.updateN ((n.toNat : Nat) : Int) a b d))), (51, vB (R14.rfA R02.updateN (R14.frame R02.updateN ((n.toNat : Nat) : Int) a b d))), (52, vB (R14.rfB R02.updateN (R14.frame R02.updateN ((n.toNat : Nat) : Int) a b d))), (53, vS (R14.rfD R02.updateN (R14.frame R02.updateN ((n.toNat : Nat) : Int) a b d))), (54, vI (R14.rfE R02.updateN (R14.frame R02.updateN ((n.toNat : Nat) : Int) a b d))), (14, vI (R14.rfN R02.updateN (R14.frame R02.updateN ((n.toNat : Nat) : Int) a b d))), (15, vB (R14.rfA R02.updateN (R14.frame R02.updateN ((n.toNat : Nat) : Int) a b d))), (16, vB (R14.rfB R02.updateN (R14.frame R02.updateN ((n.toNat : Nat) : Int) a b d))), (17, vS (R14.rfD R02.updateN (R14.frame R02.updateN ((n.toNat : Nat) : Int) a b d))), (18, vI (R14.rfE R02.updateN (R14.frame R02.updateN ((n.toNat : Nat) : Int) a b d))), (55, vS (R14.frame R02.updateN ((n.toNat : Nat) : Int) a b d)), (56, vI (((R14.frame R02.updateN ((n.toNat : Nat) : Int) a b d).length : Nat) : Int)), (57, vB (decide ((((R14.frame R02.updateN ((n.toNat : Nat) : Int) a b d).length : Nat) : Int) ≠ 64))), (58, vB (decide ((((R14.frame R02.updateN ((n.toNat : Nat) : Int) a b d).length : Nat) : Int) ≠ 64))), (63, vB z)]) (fun _ => []) ?_ ?_
    · rcases Bool.eq_false_or_eq_true (decide ((((R14.frame R02.updateN ((n.toNat : Nat) : Int) a b d).length : Nat) : Int) ≠ 64)) with g11 | g11
      · have g11r := g11
        have g11r := of_decide_eq_true g11r
        refine JO_shun rfl ⟨_, rfl, g11⟩ ?_
        refine JO_shun rfl ⟨_, rfl, g11⟩ ?_
        refine JO_shun rfl ⟨_, rfl, g11⟩ ?_
        refine JO_shun rfl ⟨_, rfl, g11⟩ ?_
        refine JO_read (vB true) rfl trivial (fun _ _ => x_pick_t rfl g11 rfl) ?_
        refine JO_nil (JX_cut (true) (by rw [g11]; simp) ⟨rfl, rfl, rfl, rfl, rfl, rfl, rfl, rfl, rfl, rfl, rfl, rfl, rfl, rfl, rfl, rfl, rfl, rfl, rfl, rfl, rfl, rfl, rfl, rfl, rfl, rfl, rfl, rfl, rfl, rfl, rfl, rfl, rfl, rfl, rfl, rfl, rfl, rfl, rfl, rfl, rfl, rfl, rfl, trivial⟩ (fun _ h => h))
      · have g11r := g11
        have g11r := of_decide_eq_false g11r
        refine JO_read (vI (R14.rfN R02.updateN (R14.frame R02.updateN ((n.toNat : Nat) : Int) a b d))) rfl ⟨_, rfl, g11⟩ (fun _ _ => rfl) ?_
        refine JO_read (vU16 n) rfl ⟨_, rfl, g11⟩ (fun _ _ => rfl) ?_
        refine JO_read (vI ((n.toNat : Nat) : Int)) rfl ⟨_, rfl, g11⟩ (fun _ _ => x_conv_u16_i64 rfl Try.underlying28 Try.underlying3) ?_
        refine JO_read (vB (decide (R14.rfN R02.updateN (R14.frame R02.updateN ((n.toNat : Nat) : Int) a b d) ≠ ((n.toNat : Nat) : Int)))) rfl ⟨_, rfl, g11⟩ (fun _ _ => x_neq_i rfl rfl) ?_
        refine JO_read (vB (decide (R14.rfN R02.updateN (R14.frame R02.updateN ((n.toNat : Nat) : Int) a b d) ≠ ((n.toNat : Nat) : Int)))) rfl trivial (fun _ _ => x_pick_f rfl g11 rfl) ?_
        refine JO_nil (JX_cut (decide (R14.rfN R02.updateN (R14.frame R02.updateN ((n.toNat : Nat) : Int) a b d) ≠ ((n.toNat : Nat) : Int))) (by rw [g11]; simp) ⟨rfl, rfl, rfl, rfl, rfl, rfl, rfl, rfl, rfl, rfl, rfl, rfl, rfl, rfl, rfl, rfl, rfl, rfl, rfl, rfl, rfl, rfl, rfl, rfl, rfl, rfl, rfl, rfl, rfl, rfl, rfl, rfl, rfl, rfl, rfl, rfl, rfl, rfl, rfl, rfl, rfl, rfl, rfl, trivial⟩ (fun _ h => h))
    rintro z10 rfl
    refine JO_read (vB ((decide ((((R14.frame R02.updateN ((n.toNat : Nat) : Int) a b d).length : Nat) : Int) ≠ 64)) || (decide (R14.rfN R02.updateN (R14.frame R02.updateN ((n.toNat : Nat) : Int) a b d) ≠ ((n.toNat : Nat) : Int))))) rfl trivial (fun _ _ => rfl) ?_
    refine JO_cut (X := Bool) 4 (fun z => z = (((decide ((((R14.frame R02.updateN ((n.toNat : Nat) : Int) a b d).length : Nat) : Int) ≠ 64)) || (decide (R14.rfN R02.updateN (R14.frame R02.updateN ((n.toNat : Nat) : Int) a b d) ≠ ((n.toNat : Nat) : Int)))) || (decide ((R14.rfA R02.updateN (R14.frame R02.updateN ((n.toNat : Nat) : Int) a b d)) ≠ (a))))) (fun z => [(0, vU16 n), (1, vB a), (2, vB b), (3, vS d), (4, vU16 at_), (5, vU32 mask), (12, vB false), (24, vB true), (25, vB false), (26, vB false), (27, vS d), (28, vI ((d.length : Nat) : Int)), (29, vB (decide (((d.length : Nat) : Int) < 1))), (30, vB (decide (((d.length : Nat) : Int) < 1))), (31, vB (decide (((d.length : Nat) : Int) < 1))), (35, vB ((decide (((d.length : Nat) : Int) < 1)) || (decide ((56 : Int) < ((d.length : Nat) : Int))))), (36, vB ((decide (((d.length : Nat) : Int) < 1)) || (decide ((56 : Int) < ((d.length : Nat) : Int))))), (39, vB (((decide (((d.length : Nat) : Int) < 1)) || (decide ((56 : Int) < ((d.length : Nat) : Int)))) || (decide (mask = (0 : UInt32))))), (41, vU16 n), (42, vI ((n.toNat : Nat) : Int)), (43, vB a), (44, vB b), (45, vS d), (46, vS (R14.frame R02.updateN ((n.toNat : Nat) : Int) a b d)), (13, vS (R14.frame R02.updateN ((n.toNat : Nat) : Int) a b d)), (48, vS (R14.frame R02.updateN ((n.toNat : Nat) : Int) a b d)), (49, Value.tuple #[vI (R14.rfN R02.updateN (R14.frame R02.updateN ((n.toNat : Nat) : Int) a b d)), vB (R14.rfA R02.updateN (R14.frame R02.updateN ((n.toNat : Nat) : Int) a b d)), vB (R14.rfB R02.updateN (R14.frame R02.updateN ((n.toNat : Nat) : Int) a b d)), vS (R14.rfD R02.updateN (R14.frame R02.updateN ((n.toNat : Nat) : Int) a b d)), vI (R14.rfE R02.updateN (R14.frame R02.updateN ((n.toNat : Nat) : Int) a b d))]), (47, Value.tuple #[vI (R14.rfN R02.updateN (R14.frame R02.updateN ((n.toNat : Nat) : Int) a b d)), vB (R14.rfA R02.updateN (R14.frame R02.updateN ((n.toNat : Nat) : Int) a b d)), vB (R14.rfB R02.updateN (R14.frame R02.updateN ((n.toNat : Nat) : Int) a b d)), vS (R14.rfD R02.updateN (R14.frame R02.updateN ((n.toNat : Nat) : Int) a b d)), vI (R14.rfE R02.updateN (R14.frame R02.updateN ((n.toNat : Nat) : Int) a b d))]), (50, vI (R14.rfN R02.updateN (R14.frame R02.updateN ((n.toNat : Nat) : Int) a b d))), (51, vB (R14.rfA R02.updateN (R14.frame R02.updateN ((n.toNat : Nat) : Int) a b d))), (52, vB (R14.rfB R02.updateN (R14.frame R02.updateN ((n.toNat : Nat) : Int) a b d))), (53, vS (R14.rfD R02.updateN (R14.frame R02.updateN ((n.toNat : Nat) : Int) a b d))), (54, vI (R14.rfE R02.updateN (R14.frame R02.updateN ((n.toNat : Nat) : Int) a b d))), (14, vI (R14.rfN R02.updateN (R14.frame R02.updateN ((n.toNat : Nat) : Int) a b d))), (15, vB (R14.rfA R02.updateN (R14.frame R02.updateN ((n.toNat : Nat) : Int) a b d))), (16, vB (R14.rfB R02.updateN (R14.frame R02.updateN ((n.toNat : Nat) : Int) a b d))), (17, vS (R14.rfD R02.updateN (R14.frame R02.updateN ((n.toNat : Nat) : Int) a b d))), (18, vI (R14.rfE R02.updateN (R14.frame R02.updateN ((n.toNat : Nat) : Int) a b d))), (55, vS (R14.frame R02.updateN ((n.toNat : Nat) : Int) a b d)), (56, vI (((R14.frame R02.updateN ((n.toNat : Nat) : Int) a b d).length : Nat) : Int)), (57, vB (decide ((((R14.frame R02.updateN ((n.toNat : Nat) : Int) a b d).length : Nat) : Int) ≠ 64))), (58, vB (decide ((((R14.frame R02.updateN ((n.toNat : Nat) : Int) a b d).length : Nat) : Int) ≠ 64))), (63, vB ((decide ((((R14.frame R02.updateN ((n.toNat : Nat) : Int) a b d).length : Nat) : Int) ≠ 64)) || (decide (R14.rfN R02.updateN (R14.frame R02.updateN ((n.toNat : Nat) : Int) a b d) ≠ ((n.toNat : Nat) : Int))))), (64, vB ((decide ((((R14.frame R02.updateN ((n.toNat : Nat) : Int) a b d).length : Nat) : Int) ≠ 64)) || (decide (R14.rfN R02.updateN (R14.frame R02.updateN ((n.toNat : Nat) : Int) a b d) ≠ ((n.toNat : Nat) : Int))))), (68, vB z)]) (fun _ => []) ?_ ?_
    · rcases Bool.eq_false_or_eq_true ((decide ((((R14.frame R02.updateN ((n.toNat : Nat) : Int) a b d).length : Nat) : Int) ≠ 64)) || (decide (R14.rfN R02.updateN (R14.frame R02.updateN ((n.toNat : Nat) : Int) a b d) ≠ ((n.toNat : Nat) : Int)))) with g13 | g13
      · have g13r := g13
        simp only [Bool.and_eq_true, Bool.or_eq_true, Bool.and_eq_false_iff, Bool.or_eq_false_iff, Bool.not_eq_true', Bool.not_eq_false', decide_eq_true_eq, decide_eq_false_iff_not] at g13r
        refine JO_shun rfl ⟨_, rfl, g13⟩ ?_
        refine JO_shun rfl ⟨_, rfl, g13⟩ ?_
        refine JO_shun rfl ⟨_, rfl, g13⟩ ?_
        refine JO_read (vB true) rfl trivial (fun _ _ => x_pick_t rfl g13 rfl) ?_
        refine JO_nil (JX_cut (true) (by rw [g13]; simp) ⟨rfl, rfl, rfl, rfl, rfl, rfl, rfl, rfl, rfl, rfl, rfl, rfl, rfl, rfl, rfl, rfl, rfl, rfl, rfl, rfl, rfl, rfl, rfl, rfl, rfl, rfl, rfl, rfl, rfl, rfl, rfl, rfl, rfl, rfl, rfl, rfl, rfl, rfl, rfl, rfl, rfl, rfl, rfl, rfl, rfl, trivial⟩ (fun _ h => h))
      · have g13r := g13
        have ⟨g13r, h14⟩ := bor_false g13r
        have g13r := of_decide_eq_false g13r
        have h14 := of_decide_eq_false h14
        refine JO_read (vB (R14.rfA R02.updateN (R14.frame R02.updateN ((n.toNat : Nat) : Int) a b d))) rfl ⟨_, rfl, g13⟩ (fun _ _ => rfl) ?_
        refine JO_read (vB a) rfl ⟨_, rfl, g13⟩ (fun _ _ => rfl) ?_
        refine JO_read (vB (decide ((R14.rfA R02.updateN (R14.frame R02.updateN ((n.toNat : Nat) : Int) a b d)) ≠ (a)))) rfl ⟨_, rfl, g13⟩ (fun _ _ => x_neq_b Try.underlying4 rfl rfl) ?_
        refine JO_read (vB (decide ((R14.rfA R02.updateN (R14.frame R02.updateN ((n.toNat : Nat) : Int) a b d)) ≠ (a)))) rfl trivial (fun _ _ => x_pick_f rfl g13 rfl) ?_
        refine JO_nil (JX_cut (decide ((R14.rfA R02.updateN (R14.frame R02.updateN ((n.toNat : Nat) : Int) a b d)) ≠ (a))) (by rw [g13]; simp) ⟨rfl, rfl, rfl, rfl, rfl, rfl, rfl, rfl, rfl, rfl, rfl, rfl, rfl, rfl, rfl, rfl, rfl, rfl, rfl, rfl, rfl, rfl, rfl, rfl, rfl, rfl, rfl, rfl, rfl, rfl, rfl, rfl, rfl, rfl, rfl, rfl, rfl, rfl, rfl, rfl, rfl, rfl, rfl, rfl, rfl, trivial⟩ (fun _ h => h))
    rintro z12 rfl
    refine JO_read (vB (((decide ((((R14.frame R02.updateN ((n.toNat : Nat) : Int) a b d).length : Nat) : Int) ≠ 64)) || (decide (R14.rfN R02.updateN (R14.frame R02.updateN ((n.toNat : Nat) : Int) a b d) ≠ ((n.toNat : Nat) : Int)))) || (decide ((R14.rfA R02.updateN (R14.frame R02.updateN ((n.toNat : Nat) : Int) a b d)) ≠ (a))))) rfl trivial (fun _ _ => rfl) ?_
    refine JO_cut (X := Bool) 4 (fun z => z = ((((decide ((((R14.frame R02.updateN ((n.toNat : Nat) : Int) a b d).length : Nat) : Int) ≠ 64)) || (decide (R14.rfN R02.updateN (R14.frame R02.updateN ((n.toNat : Nat) : Int) a b d) ≠ ((n.toNat : Nat) : Int)))) || (decide ((R14.rfA R02.updateN (R14.frame R02.updateN ((n.toNat : Nat) : Int) a b d)) ≠ (a)))) || (decide ((R14.rfB R02.updateN (R14.frame R02.updateN ((n.toNat : Nat) : Int) a b d)) ≠ (b))))) (fun z => [(0, vU16 n), (1, vB a), (2, vB b), (3, vS d), (4, vU16 at_), (5, vU32 mask), (12, vB false), (24, vB true), (25, vB false), (26, vB false), (27, vS d), (28, vI ((d.length : Nat) : Int)), (29, vB (decide (((d.length : Nat) : Int) < 1))), (30, vB (decide (((d.length : Nat) : Int) < 1))), (31, vB (decide (((d.length : Nat) : Int) < 1))), (35, vB ((decide (((d.length : Nat) : Int) < 1)) || (decide ((56 : Int) < ((d.length : Nat) : Int))))), (36, vB ((decide (((d.length : Nat) : Int) < 1)) || (decide ((56 : Int) < ((d.length : Nat) : Int))))), (39, vB (((decide (((d.length : Nat) : Int) < 1)) || (decide ((56 : Int) < ((d.length : Nat) : Int)))) || (decide (mask = (0 : UInt32))))), (41, vU16 n), (42, vI ((n.toNat : Nat) : Int)), (43, vB a), (44, vB b), (45, vS d), (46, vS (R14.frame R02.updateN ((n.toNat : Nat) : Int) a b d)), (13, vS (R14.frame R02.updateN ((n.toNat : Nat) : Int) a b d)), (48, vS (R14.frame R02.updateN ((n.toNat : Nat) : Int) a b d)), (49, Value.tuple #[vI (R14.rfN R02.updateN (R14.frame R02.updateN ((n.toNat : Nat) : Int) a b d)), vB (R14.rfA R02.updateN (R14.frame R02.updateN ((n.toNat : Nat) : Int) a b d)), vB (R14.rfB R02.updateN (R14.frame R02.updateN ((n.toNat : Nat) : Int) a b d)), vS (R14.rfD R02.updateN (R14.frame R02.updateN ((n.toNat : Nat) : Int) a b d)), vI (R14.rfE R02.updateN (R14.frame R02.updateN ((n.toNat : Nat) : Int) a b d))]), (47, Value.tuple #[vI (R14.rfN R02.updateN (R14.frame R02.updateN ((n.toNat : Nat) : Int) a b d)), vB (R14.rfA R02.updateN (R14.frame R02.updateN ((n.toNat : Nat) : Int) a b d)), vB (R14.rfB R02.updateN (R14.frame R02.updateN ((n.toNat : Nat) : Int) a b d)), vS (R14.rfD R02.updateN (R14.frame R02.updateN ((n.toNat : Nat) : Int) a b d)), vI (R14.rfE R02.updateN (R14.frame R02.updateN ((n.toNat : Nat) : Int) a b d))]), (50, vI (R14.rfN R02.updateN (R14.frame R02.updateN ((n.toNat : Nat) : Int) a b d))), (51, vB (R14.rfA R02.updateN (R14.frame R02.updateN ((n.toNat : Nat) : Int) a b d))), (52, vB (R14.rfB R02.updateN (R14.frame R02.updateN ((n.toNat : Nat) : Int) a b d))), (53, vS (R14.rfD R02.updateN (R14.frame R02.updateN ((n.toNat : Nat) : Int) a b d))), (54, vI (R14.rfE R02.updateN (R14.frame R02.updateN ((n.toNat : Nat) : Int) a b d))), (14, vI (R14.rfN R02.updateN (R14.frame R02.updateN ((n.toNat : Nat) : Int) a b d))), (15, vB (R14.rfA R02.updateN (R14.frame R02.updateN ((n.toNat : Nat) : Int) a b d))), (16, vB (R14.rfB R02.updateN (R14.frame R02.updateN ((n.toNat : Nat) : Int) a b d))), (17, vS (R14.rfD R02.updateN (R14.frame R02.updateN ((n.toNat : Nat) : Int) a b d))), (18, vI (R14.rfE R02.updateN (R14.frame R02.updateN ((n.toNat : Nat) : Int) a b d))), (55, vS (R14.frame R02.updateN ((n.toNat : Nat) : Int) a b d)), (56, vI (((R14.frame R02.updateN ((n.toNat : Nat) : Int) a b d).length : Nat) : Int)), (57, vB (decide ((((R14.frame R02.updateN ((n.toNat : Nat) : Int) a b d).length : Nat) : Int) ≠ 64))), (58, vB (decide ((((R14.frame R02.updateN ((n.toNat : Nat) : Int) a b d).length : Nat) : Int) ≠ 64))), (63, vB ((decide ((((R14.frame R02.updateN ((n.toNat : Nat) : Int) a b d).length : Nat) : Int) ≠ 64)) || (decide (R14.rfN R02.updateN (R14.frame R02.updateN ((n.toNat : Nat) : Int) a b d) ≠ ((n.toNat : Nat) : Int))))), (64, vB ((decide ((((R14.frame R02.updateN ((n.toNat : Nat) : Int) a b d).length : Nat) : Int) ≠ 64)) || (decide (R14.rfN R02.updateN (R14.frame R02.updateN ((n.toNat : Nat) : Int) a b d) ≠ ((n.toNat : Nat) : Int))))), (68, vB (((decide ((((R14.frame R02.updateN ((n.toNat : Nat) : Int) a b d).length : Nat) : Int) ≠ 64)) || (decide (R14.rfN R02.updateN (R14.frame R02.updateN ((n.toNat : Nat) : Int) a b d) ≠ ((n.toNat : Nat) : Int)))) || (decide ((R14.rfA R02.updateN (R14.frame R02.updateN ((n.toNat : Nat) : Int) a b d)) ≠ (a))))), (69, vB (((decide ((((R14.frame R02.updateN ((n.toNat : Nat) : Int) a b d).length : Nat) : Int) ≠ 64)) || (decide (R14.rfN R02.updateN (R14.frame R02.updateN ((n.toNat : Nat) : Int) a b d) ≠ ((n.toNat : Nat) : Int)))) || (decide ((R14.rfA R02.updateN (R14.frame R02.updateN ((n.toNat : Nat) : Int) a b d)) ≠ (a))))), (73, vB z)]) (fun _ => []) ?_ ?_
    · rcases Bool.eq_false_or_eq_true (((decide ((((R14.frame R02.updateN ((n.toNat : Nat) : Int) a b d).length : Nat) : Int) ≠ 64)) || (decide (R14.rfN R02.updateN (R14.frame R02.updateN ((n.toNat : Nat) : Int) a b d) ≠ ((n.toNat : Nat) : Int)))) || (decide ((R14.rfA R02.updateN (R14.frame R02.updateN ((n.toNat : Nat) : Int) a b d)) ≠ (a)))) with g16 | g16
      · have g16r := g16
        simp only [Bool.and_eq_true, Bool.or_eq_true, Bool.and_eq_false_iff, Bool.or_eq_false_iff, Bool.not_eq_true', Bool.not_eq_false', decide_eq_true_eq, decide_eq_false_iff_not] at g16r
        refine JO_shun rfl ⟨_, rfl, g16⟩ ?_
        refine JO_shun rfl ⟨_, rfl, g16⟩ ?_
        refine JO_shun rfl ⟨_, rfl, g16⟩ ?_
        refine JO_read (vB true) rfl trivial (fun _ _ => x_pick_t rfl g16 rfl) ?_
        refine JO_nil (JX_cut (true) (by rw [g16]; simp) ⟨rfl, rfl, rfl, rfl, rfl, rfl, rfl, rfl, rfl, rfl, rfl, rfl, rfl, rfl, rfl, rfl, rfl, rfl, rfl, rfl, rfl, rfl, rfl, rfl, rfl, rfl, rfl, rfl, rfl, rfl, rfl, rfl, rfl, rfl, rfl, rfl, rfl, rfl, rfl, rfl, rfl, rfl, rfl, rfl, rfl, rfl, rfl, trivial⟩ (fun _ h => h))
      · have g16r := g16
        have ⟨g16r, h17⟩ := bor_false g16r
        have ⟨g16r, h18⟩ := bor_false g16r
        have g16r := of_decide_eq_false g16r
        have h18 := of_decide_eq_false h18
        have h17 := of_decide_eq_false h17
        refine JO_read (vB (R14.rfB R02.updateN (R14.frame R02.updateN ((n.toNat : Nat) : Int) a b d))) rfl ⟨_, rfl, g16⟩ (fun _ _ => rfl) ?_
        refine JO_read (vB b) rfl ⟨_, rfl, g16⟩ (fun _ _ => rfl) ?_
        refine JO_read (vB (decide ((R14.rfB R02.updateN (R14.frame R02.updateN ((n.toNat : Nat) : Int) a b d)) ≠ (b)))) rfl ⟨_, rfl, g16⟩ (fun _ _ => x_neq_b Try.underlying4 rfl rfl) ?_
        refine JO_read (vB (decide ((R14.rfB R02.updateN (R14.frame R02.updateN ((n.toNat : Nat) : Int) a b d)) ≠ (b)))) rfl trivial (fun _ _ => x_pick_f rfl g16 rfl) ?_
        refine JO_nil (JX_cut (decide ((R14.rfB R02.updateN (R14.frame R02.updateN ((n.toNat : Nat) : Int) a b d)) ≠ (b))) (by rw [g16]; simp) ⟨rfl, rfl, rfl, rfl, rfl, rfl, rfl, rfl, rfl, rfl, rfl, rfl, rfl, rfl, rfl, rfl, rfl, rfl, rfl, rfl, rfl, rfl, rfl, rfl, rfl, rfl, rfl, rfl, rfl, rfl, rfl, rfl, rfl, rfl, rfl, rfl, rfl, rfl, rfl, rfl, rfl, rfl, rfl, rfl, rfl, rfl, rfl, trivial⟩ (fun _ h => h))
    rintro z15 rfl
    refine JO_read (vB ((((decide ((((R14.frame R02.updateN ((n.toNat : Nat) : Int) a b d).length : Nat) : Int) ≠ 64)) || (decide (R14.rfN R02.updateN (R14.frame R02.updateN ((n.toNat : Nat) : Int) a b d) ≠ ((n.toNat : Nat) : Int)))) || (decide ((R14.rfA R02.updateN (R14.frame R02.updateN ((n.toNat : Nat) : Int) a b d)) ≠ (a)))) || (decide ((R14.rfB R02.updateN (R14.frame R02.updateN ((n.toNat : Nat) : Int) a b d)) ≠ (b))))) rfl trivial (fun _ _ => rfl) ?_
    refine JO_cut (X := Bool) 4 (fun z => z = (((((decide ((((R14.frame R02.updateN ((n.toNat : Nat) : Int) a b d).length : Nat) : Int) ≠ 64)) || (decide (R14.rfN R02.updateN (R14.frame R02.updateN ((n.toNat : Nat) : Int) a b d) ≠ ((n.toNat : Nat) : Int)))) || (decide ((R14.rfA R02.updateN (R14.frame R02.updateN ((n.toNat : Nat) : Int) a b d)) ≠ (a)))) || (decide ((R14.rfB R02.updateN (R14.frame R02.updateN ((n.toNat : Nat) : Int) a b d)) ≠ (b)))) || (decide (R14.rfD R02.updateN (R14.frame R02.updateN ((n.toNat : Nat) : Int) a b d) ≠ d)))) (fun z => [(0, vU16 n), (1, vB a), (2, vB b), (3, vS d), (4, vU16 at_), (5, vU32 mask), (12, vB false), (24, vB true), (25, vB false), (26, vB false), (27, vS d), (28, vI ((d.length : Nat) : Int)), (29, vB (decide (((d.length : Nat) : Int) < 1))), (30, vB (decide (((d.length : Nat) : Int) < 1))), (31, vB (decide (((d.length : Nat) : Int) < 1))), (35, vB ((decide (((d.length : Nat) : Int) < 1)) || (decide ((56 : Int) < ((d.length : Nat) : Int))))), (36, vB ((decide (((d.length : Nat) : Int) < 1)) || (decide ((56 : Int) < ((d.length : Nat) : Int))))), (39, vB (((decide (((d.length : Nat) : Int) < 1)) || (decide ((56 : Int) < ((d.length : Nat) : Int)))) || (decide (mask = (0 : UInt32))))), (41, vU16 n), (42, vI ((n.toNat : Nat) : Int)), (43, vB a), (44, vB b), (45, vS d), (46, vS (R14.frame R02.updateN ((n.toNat : Nat) : Int) a b d)), (13, vS (R14.frame R02.updateN ((n.toNat : Nat) : Int) a b d)), (48, vS (R14.frame R02.updateN ((n.toNat : Nat) : Int) a b d)), (49, Value.tuple #[vI (R14.rfN R02.updateN (R14.frame R02.updateN ((n.toNat : Nat) : Int) a b d)), vB (R14.rfA R02.updateN (R14.frame R02.updateN ((n.toNat : Nat) : Int) a b d)), vB (R14.rfB R02.updateN (R14.frame R02.updateN ((n.toNat : Nat) : Int) a b d)), vS (R14.rfD R02.updateN (R14.frame R02.updateN ((n.toNat : Nat) : Int) a b d)), vI (R14.rfE R02.updateN (R14.frame R02.updateN ((n.toNat : Nat) : Int) a b d))]), (47, Value.tuple #[vI (R14.rfN R02.updateN (R14.frame R02.updateN ((n.toNat : Nat) : Int) a b d)), vB (R14.rfA R02.updateN (R14.frame R02.updateN ((n.toNat : Nat) : Int) a b d)), vB (R14.rfB R02.updateN (R14.frame R02.updateN ((n.toNat : Nat) : Int) a b d)), vS (R14.rfD R02.updateN (R14.frame R02.updateN ((n.toNat : Nat) : Int) a b d)), vI (R14.rfE R02.updateN (R14.frame R02.updateN ((n.toNat : Nat) : Int) a b d))]), (50, vI (R14.rfN R02.updateN (R14.frame R02.updateN ((n.toNat : Nat) : Int) a b d))), (51, vB (R14.rfA R02.updateN (R14.frame R02.updateN ((n.toNat : Nat) : Int) a b d))), (52, vB (R14.rfB R02.updateN (R14.frame R02.updateN ((n.toNat : Nat) : Int) a b d))), (53, vS (R14.rfD R02.updateN (R14.frame R02.updateN ((n.toNat : Nat) : Int) a b d))), (54, vI (R14.rfE R02.updateN (R14.frame R02.updateN ((n.toNat : Nat) : Int) a b d))), (14, vI (R14.rfN R02.updateN (R14.frame R02.updateN ((n.toNat : Nat) : Int) a b d))), (15, vB (R14.rfA R02.updateN (R14.frame R02.updateN ((n.toNat : Nat) : Int) a b d))), (16, vB (R14.rfB R02.updateN (R14.frame R02.updateN ((n.toNat : Nat) : Int) a b d))), (17, vS (R14.rfD R02.updateN (R14.frame R02.updateN ((n.toNat : Nat) : Int) a b d))), (18, vI (R14.rfE R02.updateN (R14.frame R02.updateN ((n.toNat : Nat) : Int) a b d))), (55, vS (R14.frame R02.updateN ((n.toNat : Nat) : Int) a b d)), (56, vI (((R14.frame R02.updateN ((n.toNat : Nat) : Int) a b d).length : Nat) : Int)), (57, vB (decide ((((R14.frame R02.updateN ((n.toNat : Nat) : Int) a b d).length : Nat) : Int) ≠ 64))), (58, vB (decide ((((R14.frame R02.updateN ((n.toNat : Nat) : Int) a b d).length : Nat) : Int) ≠ 64))), (63, vB ((decide ((((R14.frame R02.updateN ((n.toNat : Nat) : Int) a b d).length : Nat) : Int) ≠ 64)) || (decide (R14.rfN R02.updateN (R14.frame R02.updateN ((n.toNat : Nat) : Int) a b d) ≠ ((n.toNat : Nat) : Int))))), (64, vB ((decide ((((R14.frame R02.updateN ((n.toNat : Nat) : Int) a b d).length : Nat) : Int) ≠ 64)) || (decide (R14.rfN R02.updateN (R14.frame R02.updateN ((n.toNat : Nat) : Int) a b d) ≠ ((n.toNat : Nat) : Int))))), (68, vB (((decide ((((R14.frame R02.updateN ((n.toNat : Nat) : Int) a b d).length : Nat) : Int) ≠ 64)) || (decide (R14.rfN R02.updateN (R14.frame R02.updateN ((n.toNat : Nat) : Int) a b d) ≠ ((n.toNat : Nat) : Int)))) || (decide ((R14.rfA R02.updateN (R14.frame R02.updateN ((n.toNat : Nat) : Int) a b d)) ≠ (a))))), (69, vB (((decide ((((R14.frame R02.updateN ((n.toNat : Nat) : Int) a b d).length : Nat) : Int) ≠ 64)) || (decide (R14.rfN R02.updateN (R14.frame R02.updateN ((n.toNat : Nat) : Int) a b d) ≠ ((n.toNat : Nat) : Int)))) || (decide ((R14.rfA R02.updateN (R14.frame R02.updateN ((n.toNat : Nat) : Int) a b d)) ≠ (a))))), (73, vB ((((decide ((((R14.frame R02.updateN ((n.toNat : Nat) : Int) a b d).length : Nat) : Int) ≠ 64)) || (decide (R14.rfN R02.updateN (R14.frame R02.updateN ((n.toNat : Nat) : Int) a b d) ≠ ((n.toNat : Nat) : Int)))) || (decide ((R14.rfA R02.updateN (R14.frame R02.updateN ((n.toNat : Nat) : Int) a b d)) ≠ (a)))) || (decide ((R14.rfB R02.updateN (R14.frame R02.updateN ((n.toNat : Nat) : Int) a b d)) ≠ (b))))), (74, vB ((((decide ((((R14.frame R02.updateN ((n.toNat : Nat) : Int) a b d).length : Nat) : Int) ≠ 64)) || (decide (R14.rfN R02.updateN (R14.frame R02.updateN ((n.toNat : Nat) : Int) a b d) ≠ ((n.toNat : Nat) : Int)))) || (decide ((R14.rfA R02.updateN (R14.frame R02.updateN ((n.toNat : Nat) : Int) a b d)) ≠ (a)))) || (decide ((R14.rfB R02.updateN (R14.frame R02.updateN ((n.toNat : Nat) : Int) a b d)) ≠ (b))))), (78, vB z)]) (fun _ => []) ?_ ?_
    · rcases Bool.eq_false_or_eq_true ((((decide ((((R14.frame R02.updateN ((n.toNat : Nat) : Int) a b d).length : Nat) : Int) ≠ 64)) || (decide (R14.rfN R02.updateN (R14.frame R02.updateN ((n.toNat : Nat) : Int) a b d) ≠ ((n.toNat : Nat) : Int)))) || (decide ((R14.rfA R02.updateN (R14.frame R02.updateN ((n.toNat : Nat) : Int) a b d)) ≠ (a)))) || (decide ((R14.rfB R02.updateN (R14.frame R02.updateN ((n.toNat : Nat) : Int) a b d)) ≠ (b)))) with g20 | g20
      · have g20r := g20
        simp only [Bool.and_eq_true, Bool.or_eq_true, Bool.and_eq_false_iff, Bool.or_eq_false_iff, Bool.not_eq_true', Bool.not_eq_false', decide_eq_true_eq, decide_eq_false_iff_not] at g20r
        refine JO_shun rfl ⟨_, rfl, g20⟩ ?_
        refine JO_shun rfl ⟨_, rfl, g20⟩ ?_
        refine JO_shun rfl ⟨_, rfl, g20⟩ ?_
        refine JO_read (vB true) rfl trivial (fun _ _ => x_pick_t rfl g20 rfl) ?_
        refine JO_nil (JX_cut (true) (by rw [g20]; simp) ⟨rfl, rfl, rfl, rfl, rfl, rfl, rfl, rfl, rfl, rfl, rfl, rfl, rfl, rfl, rfl, rfl, rfl, rfl, rfl, rfl, rfl, rfl, rfl, rfl, rfl, rfl, rfl, rfl, rfl, rfl, rfl, rfl, rfl, rfl, rfl, rfl, rfl, rfl, rfl, rfl, rfl, rfl, rfl, rfl, rfl, rfl, rfl, rfl, rfl, trivial⟩ (fun _ h => h))
      · have g20r := g20
        have ⟨g20r, h21⟩ := bor_false g20r
        have ⟨g20r, h22⟩ := bor_false g20r
        have ⟨g20r, h23⟩ := bor_false g20r
        have g20r := of_decide_eq_false g20r
        have h23 := of_decide_eq_false h23
        have h22 := of_decide_eq_false h22
        have h21 := of_decide_eq_false h21
        refine JO_read (vS (R14.rfD R02.updateN (R14.frame R02.updateN ((n.toNat : Nat) : Int) a b d))) rfl ⟨_, rfl, g20⟩ (fun _ _ => rfl) ?_
        refine JO_read (vS d) rfl ⟨_, rfl, g20⟩ (fun _ _ => rfl) ?_
        refine JO_read (vB (decide (R14.rfD R02.updateN (R14.frame R02.updateN ((n.toNat : Nat) : Int) a b d) ≠ d))) rfl ⟨_, rfl, g20⟩ (fun _ _ => x_neq_s rfl rfl) ?_
        refine JO_read (vB (decide (R14.rfD R02.updateN (R14.frame R02.updateN ((n.toNat : Nat) : Int) a b d) ≠ d))) rfl trivial (fun _ _ => x_pick_f rfl g20 rfl) ?_
        refine JO_nil (JX_cut (decide (R14.rfD R02.updateN (R14.frame R02.updateN ((n.toNat : Nat) : Int) a b d) ≠ d)) (by rw [g20]; simp) ⟨rfl, rfl, rfl, rfl, rfl, rfl, rfl, rfl, rfl, rfl, rfl, rfl, rfl, rfl, rfl, rfl, rfl, rfl, rfl, rfl, rfl, rfl, rfl, rfl, rfl, rfl, rfl, rfl, rfl, rfl, rfl, rfl, rfl, rfl, rfl, rfl, rfl, rfl, rfl, rfl, rfl, rfl, rfl, rfl, rfl, rfl, rfl, rfl, rfl, trivial⟩ (fun _ h => h))
    rintro z19 rfl
    refine JO_read (vB (((((decide ((((R14.frame R02.updateN ((n.toNat : Nat) : Int) a b d).length : Nat) : Int) ≠ 64)) || (decide (R14.rfN R02.updateN (R14.frame R02.updateN ((n.toNat : Nat) : Int) a b d) ≠ ((n.toNat : Nat) : Int)))) || (decide ((R14.rfA R02.updateN (R14.frame R02.updateN ((n.toNat : Nat) : Int) a b d)) ≠ (a)))) || (decide ((R14.rfB R02.updateN (R14.frame R02.updateN ((n.toNat : Nat) : Int) a b d)) ≠ (b)))) || (decide (R14.rfD R02.updateN (R14.frame R02.updateN ((n.toNat : Nat) : Int) a b d) ≠ d)))) rfl trivial (fun _ _ => rfl) ?_
    refine JO_cut (X := Bool) 3 (fun z => z = ((((((decide ((((R14.frame R02.updateN ((n.toNat : Nat) : Int) a b d).length : Nat) : Int) ≠ 64)) || (decide (R14.rfN R02.updateN (R14.frame R02.updateN ((n.toNat : Nat) : Int) a b d) ≠ ((n.toNat : Nat) : Int)))) || (decide ((R14.rfA R02.updateN (R14.frame R02.updateN ((n.toNat : Nat) : Int) a b d)) ≠ (a)))) || (decide ((R14.rfB R02.updateN (R14.frame R02.updateN ((n.toNat : Nat) : Int) a b d)) ≠ (b)))) || (decide (R14.rfD R02.updateN (R14.frame R02.updateN ((n.toNat : Nat) : Int) a b d) ≠ d))) || (decide (R14.rfE R02.updateN (R14.frame R02.updateN ((n.toNat : Nat) : Int) a b d) ≠ 0)))) (fun z => [(0, vU16 n), (1, vB a), (2, vB b), (3, vS d), (4, vU16 at_), (5, vU32 mask), (12, vB false), (24, vB true), (25, vB false), (26, vB false), (27, vS d), (28, vI ((d.length : Nat) : Int)), (29, vB (decide (((d.length : Nat) : Int) < 1))), (30, vB (decide (((d.length : Nat) : Int) < 1))), (31, vB (decide (((d.length : Nat) : Int) < 1))), (35, vB ((decide (((d.length : Nat) : Int) < 1)) || (decide ((56 : Int) < ((d.length : Nat) : Int))))), (36, vB ((decide (((d.length : Nat) : Int) < 1)) || (decide ((56 : Int) < ((d.length : Nat) : Int))))), (39, vB (((decide (((d.length : Nat) : Int) < 1)) || (decide ((56 : Int) < ((d.length : Nat) : Int)))) || (decide (mask = (0 : UInt32))))), (41, vU16 n), (42, vI ((n.toNat : Nat) : Int)), (43, vB a), (44, vB b), (45, vS d), (46, vS (R14.frame R02.updateN ((n.toNat : Nat) : Int) a b d)), (13, vS (R14.frame R02.updateN ((n.toNat : Nat) : Int) a b d)), (48, vS (R14.frame R02.updateN ((n.toNat : Nat) : Int) a b d)), (49, Value.tuple #[vI (R14.rfN R02.updateN (R14.frame R02.updateN ((n.toNat : Nat) : Int) a b d)), vB (R14.rfA R02.updateN (R14.frame R02.updateN ((n.toNat : Nat) : Int) a b d)), vB (R14.rfB R02.updateN (R14.frame R02.updateN ((n.toNat : Nat) : Int) a b d)), vS (R14.rfD R02.updateN (R14.frame R02.updateN ((n.toNat : Nat) : Int) a b d)), vI (R14.rfE R02.updateN (R14.frame R02.updateN ((n.toNat : Nat) : Int) a b d))]), (47, Value.tuple #[vI (R14.rfN R02.updateN (R14.frame R02.updateN ((n.toNat : Nat) : Int) a b d)), vB (R14.rfA R02.updateN (R14.frame R02.updateN ((n.toNat : Nat) : Int) a b d)), vB (R14.rfB R02.updateN (R14.frame R02.updateN ((n.toNat : Nat) : Int) a b d)), vS (R14.rfD R02.updateN (R14.frame R02.updateN ((n.toNat : Nat) : Int) a b d)), vI (R14.rfE R02.updateN (R14.frame R02.updateN ((n.toNat : Nat) : Int) a b d))]), (50, vI (R14.rfN R02.updateN (R14.frame R02.updateN ((n.toNat : Nat) : Int) a b d))), (51, vB (R14.rfA R02.updateN (R14.frame R02.updateN ((n.toNat : Nat) : Int) a b d))), (52, vB (R14.rfB R02.updateN (R14.frame R02.updateN ((n.toNat : Nat) : Int) a b d))), (53, vS (R14.rfD R02.updateN (R14.frame R02.updateN ((n.toNat : Nat) : Int) a b d))), (54, vI (R14.rfE R02.updateN (R14.frame R02.updateN ((n.toNat : Nat) : Int) a b d))), (14, vI (R14.rfN R02.updateN (R14.frame R02.updateN ((n.toNat : Nat) : Int) a b d))), (15, vB (R14.rfA R02.updateN (R14.frame R02.updateN ((n.toNat : Nat) : Int) a b d))), (16, vB (R14.rfB R02.updateN (R14.frame R02.updateN ((n.toNat : Nat) : Int) a b d))), (17, vS (R14.rfD R02.updateN (R14.frame R02.updateN ((n.toNat : Nat) : Int) a b d))), (18, vI (R14.rfE R02.updateN (R14.frame R02.updateN ((n.toNat : Nat) : Int) a b d))), (55, vS (R14.frame R02.updateN ((n.toNat : Nat) : Int) a b d)), (56, vI (((R14.frame R02.updateN ((n.toNat : Nat) : Int) a b d).length : Nat) : Int)), (57, vB (decide ((((R14.frame R02.updateN ((n.toNat : Nat) : Int) a b d).length : Nat) : Int) ≠ 64))), (58, vB (decide ((((R14.frame R02.updateN ((n.toNat : Nat) : Int) a b d).length : Nat) : Int) ≠ 64))), (63, vB ((decide ((((R14.frame R02.updateN ((n.toNat : Nat) : Int) a b d).length : Nat) : Int) ≠ 64)) || (decide (R14.rfN R02.updateN (R14.frame R02.updateN ((n.toNat : Nat) : Int) a b d) ≠ ((n.toNat : Nat) : Int))))), (64, vB ((decide ((((R14.frame R02.updateN ((n.toNat : Nat) : Int) a b d).length : Nat) : Int) ≠ 64)) || (decide (R14.rfN R02.updateN (R14.frame R02.updateN ((n.toNat : Nat) : Int) a b d) ≠ ((n.toNat : Nat) : Int))))), (68, vB (((decide ((((R14.frame R02.updateN ((n.toNat : Nat) : Int) a b d).length : Nat) : Int) ≠ 64)) || (decide (R14.rfN R02.updateN (R14.frame R02.updateN ((n.toNat : Nat) : Int) a b d) ≠ ((n.toNat : Nat) : Int)))) || (decide ((R14.rfA R02.updateN (R14.frame R02.updateN ((n.toNat : Nat) : Int) a b d)) ≠ (a))))), (69, vB (((decide ((((R14.frame R02.updateN ((n.toNat : Nat) : Int) a b d).length : Nat) : Int) ≠ 64)) || (decide (R14.rfN R02.updateN (R14.frame R02.updateN ((n.toNat : Nat) : Int) a b d) ≠ ((n.toNat : Nat) : Int)))) || (decide ((R14.rfA R02.updateN (R14.frame R02.updateN ((n.toNat : Nat) : Int) a b d)) ≠ (a))))), (73, vB ((((decide ((((R14.frame R02.updateN ((n.toNat : Nat) : Int) a b d).length : Nat) : Int) ≠ 64)) || (decide (R14.rfN R02.updateN (R14.frame R02.updateN ((n.toNat : Nat) : Int) a b d) ≠ ((n.toNat : Nat) : Int)))) || (decide ((R14.rfA R02.updateN (R14.frame R02.updateN ((n.toNat : Nat) : Int) a b d)) ≠ (a)))) || (decide ((R14.rfB R02.updateN (R14.frame R02.updateN ((n.toNat : Nat) : Int) a b d)) ≠ (b))))), (74, vB ((((decide ((((R14.frame R02.updateN ((n.toNat : Nat) : Int) a b d).length : Nat) : Int) ≠ 64)) || (decide (R14.rfN R02.updateN (R14.frame R02.updateN ((n.toNat : Nat) : Int) a b d) ≠ ((n.toNat : Nat) : Int)))) || (decide ((R14.rfA R02.updateN (R14.frame R02.updateN ((n.toNat : Nat) : Int) a b d)) ≠ (a)))) || (decide ((R14.rfB R02.updateN (R14.frame R02.updateN ((n.toNat : Nat) : Int) a b d)) ≠ (b))))), (78, vB (((((decide ((((R14.frame R02.updateN ((n.toNat : Nat) : Int) a b d).length : Nat) : Int) ≠ 64)) || (decide (R14.rfN R02.updateN (R14.frame R02.updateN ((n.toNat : Nat) : Int) a b d) ≠ ((n.toNat : Nat) : Int)))) || (decide ((R14.rfA R02.updateN (R14.frame R02.updateN ((n.toNat : Nat) : Int) a b d)) ≠ (a)))) || (decide ((R14.rfB R02.updateN (R14.frame R02.updateN ((n.toNat : Nat) : Int) a b d)) ≠ (b)))) || (decide (R14.rfD R02.updateN (R14.frame R02.updateN ((n.toNat : Nat) : Int) a b d) ≠ d)))), (79, vB (((((decide ((((R14.frame R02.updateN ((n.toNat : Nat) : Int) a b d).length : Nat) : Int) ≠ 64)) || (decide (R14.rfN R02.updateN (R14.frame R02.updateN ((n.toNat : Nat) : Int) a b d) ≠ ((n.toNat : Nat) : Int)))) || (decide ((R14.rfA R02.updateN (R14.frame R02.updateN ((n.toNat : Nat) : Int) a b d)) ≠ (a)))) || (decide ((R14.rfB R02.updateN (R14.frame R02.updateN ((n.toNat : Nat) : Int) a b d)) ≠ (b)))) || (decide (R14.rfD R02.updateN (R14.frame R02.updateN ((n.toNat : Nat) : Int) a b d) ≠ d)))), (82, vB z)]) (fun _ => []) ?_ ?_
    · rcases Bool.eq_false_or_eq_true (((((decide ((((R14.frame R02.updateN ((n.toNat : Nat) : Int) a b d).length : Nat) : Int) ≠ 64)) || (decide (R14.rfN R02.updateN (R14.frame R02.updateN ((n.toNat : Nat) : Int) a b d) ≠ ((n.toNat : Nat) : Int)))) || (decide ((R14.rfA R02.updateN (R14.frame R02.updateN ((n.toNat : Nat) : Int) a b d)) ≠ (a)))) || (decide ((R14.rfB R02.updateN (R14.frame R02.updateN ((n.toNat : Nat) : Int) a b d)) ≠ (b)))) || (decide (R14.rfD R02.updateN (R14.frame R02.updateN ((n.toNat : Nat) : Int) a b d) ≠ d))) with g25 | g25
      · have g25r := g25
        simp only [Bool.and_eq_true, Bool.or_eq_true, Bool.and_eq_false_iff, Bool.or_eq_false_iff, Bool.not_eq_true', Bool.not_eq_false', decide_eq_true_eq, decide_eq_false_iff_not] at g25r
        refine JO_shun rfl ⟨_, rfl, g25⟩ ?_
        refine JO_shun rfl ⟨_, rfl, g25⟩ ?_
        refine JO_read (vB true) rfl trivial (fun _ _ => x_pick_t rfl g25 rfl) ?_
        refine JO_nil (JX_cut (true) (by rw [g25]; simp) ⟨rfl, rfl, rfl, rfl, rfl, rfl, rfl, rfl, rfl, rfl, rfl, rfl, rfl, rfl, rfl, rfl, rfl, rfl, rfl, rfl, rfl, rfl, rfl, rfl, rfl, rfl, rfl, rfl, rfl, rfl, rfl, rfl, rfl, rfl, rfl, rfl, rfl, rfl, rfl, rfl, rfl, rfl, rfl, rfl, rfl, rfl, rfl, rfl, rfl, rfl, rfl, trivial⟩ (fun _ h => h))
      · have g25r := g25
        have ⟨g25r, h26⟩ := bor_false g25r
        have ⟨g25r, h27⟩ := bor_false g25r
        have ⟨g25r, h28⟩ := bor_false g25r
        have ⟨g25r, h29⟩ := bor_false g25r
        have g25r := of_decide_eq_false g25r
        have h29 := of_decide_eq_false h29
        have h28 := of_decide_eq_false h28
        have h27 := of_decide_eq_false h27
        have h26 := of_decide_eq_false h26
        refine JO_read (vI (R14.rfE R02.updateN (R14.frame R02.updateN ((n.toNat : Nat) : Int) a b d))) rfl ⟨_, rfl, g25⟩ (fun _ _ => rfl) ?_
        refine JO_read (vB (decide (R14.rfE R02.updateN (R14.frame R02.updateN ((n.toNat : Nat) : Int) a b d) ≠ 0))) rfl ⟨_, rfl, g25⟩ (fun _ _ => x_neq_i rfl rfl) ?_
        refine JO_read (vB (decide (R14.rfE R02.updateN (R14.frame R02.updateN ((n.toNat : Nat) : Int) a b d) ≠ 0))) rfl trivial (fun _ _ => x_pick_f rfl g25 rfl) ?_
        refine JO_nil (JX_cut (decide (R14.rfE R02.updateN (R14.frame R02.updateN ((n.toNat : Nat) : Int) a b d) ≠ 0)) (by rw [g25]; simp) ⟨rfl, rfl, rfl, rfl, rfl, rfl, rfl, rfl, rfl, rfl, rfl, rfl, rfl, rfl, rfl, rfl, rfl, rfl, rfl, rfl, rfl, rfl, rfl, rfl, rfl, rfl, rfl, rfl, rfl, rfl, rfl, rfl, rfl, rfl, rfl, rfl, rfl, rfl, rfl, rfl, rfl, rfl, rfl, rfl, rfl, rfl, rfl, rfl, rfl, rfl, rfl, trivial⟩ (fun _ h => h))
    rintro z24 rfl
    refine JO_nil ?_
    refine JX_then ?_
    refine J_cond ((((((decide ((((R14.frame R02.updateN ((n.toNat : Nat) : Int) a b d).length : Nat) : Int) ≠ 64)) || (decide (R14.rfN R02.updateN (R14.frame R02.updateN ((n.toNat : Nat) : Int) a b d) ≠ ((n.toNat : Nat) : Int)))) || (decide ((R14.rfA R02.updateN (R14.frame R02.updateN ((n.toNat : Nat) : Int) a b d)) ≠ (a)))) || (decide ((R14.rfB R02.updateN (R14.frame R02.updateN ((n.toNat : Nat) : Int) a b d)) ≠ (b)))) || (decide (R14.rfD R02.updateN (R14.frame R02.updateN ((n.toNat : Nat) : Int) a b d) ≠ d))) || (decide (R14.rfE R02.updateN (R14.frame R02.updateN ((n.toNat : Nat) : Int) a b d) ≠ 0))) rfl rfl (fun h30 => ?_) (fun h30 => ?_)
    · simp only [Bool.and_eq_true, Bool.or_eq_true, Bool.and_eq_false_iff, Bool.or_eq_false_iff, Bool.not_eq_true', Bool.not_eq_false', decide_eq_true_eq, decide_eq_false_iff_not] at h30
      refine J_seq ?_
      refine J_region ?_
      refine JO_read (vB false) rfl trivial (fun _ _ => rfl) ?_
      refine JO_nil ?_
      refine JX_then ?_
      refine J_ret ?_
      refine JX_then_ret ?_
      refine JX_rets [vB false] (vB false) Try.results4 (fun w h => ⟨rfl, trivial⟩) rfl [] (fun _ h => h) ⟨?_, ?_⟩
      · have e_x0 : (false : Bool) = true := by
          first | rfl | (exfalso; exact R14.damage_bad (n := n) (a := a) (b := b) (d := d) (by omega) (by omega) (by assumption)) | exact decide_eq_true (R14.damage (by omega) (by omega) (by omega) (by assumption))
        exact congrArg (fun (x0 : Bool) => vB x0) e_x0
      · rfl
    · have ⟨h30, h31⟩ := bor_false h30
      have ⟨h30, h32⟩ := bor_false h30
      have ⟨h30, h33⟩ := bor_false h30
      have ⟨h30, h34⟩ := bor_false h30
      have ⟨h30, h35⟩ := bor_false h30
      have h30 := of_decide_eq_false h30
      have h35 := of_decide_eq_false h35
      have h34 := of_decide_eq_false h34
      have h33 := of_decide_eq_false h33
      have h32 := of_decide_eq_false h32
      have h31 := of_decide_eq_false h31
      refine J_skip ?_
      refine JX_then ?_
      refine J_seq ?_
      refine J_region ?_
      refine JO_read (vS (R14.frame R02.updateN ((n.toNat : Nat) : Int) a b d)) rfl trivial (fun _ _ => rfl) ?_
      refine JO_read (vU16 at_) rfl trivial (fun _ _ => rfl) ?_
      refine JO_read (vI ((at_.toNat : Nat) : Int)) rfl trivial (fun _ _ => x_conv_u16_i64 rfl Try.underlying28 Try.underlying3) ?_
      refine JO_read (vI ((at_.toNat % 61 : Nat) : Int)) rfl trivial (fun _ _ => x_rem_n (a := at_.toNat) (b := 61) rfl rfl (by omega) (by omega)) ?_
      refine JO_read (vU32 mask) rfl trivial (fun _ _ => rfl) ?_
      refine JO_call [] [] [] rfl trivial (fun _ => x_call Ty.ca16 rfl) (fun _ h => h) (fun _ h => by cases h) (fun w hS => f16_ok mask w) ?_
      rintro _ _ ⟨rfl, rfl⟩
      refine JO_call [] [] [] rfl trivial (fun _ => x_call Ty.ca15 rfl) (fun _ h => h) (fun _ h => by cases h) (fun w hS => f15_ok (R14.frame R02.updateN ((n.toNat : Nat) : Int) a b d) (at_.toNat % 61) (R02.le mask) w (by first | omega | assumption | (simp only [List.length_append, List.length_cons, List.length_nil]; omega) | (simp only [sub, List.length_drop, List.length_take]; omega) | (simp; omega) | (simp_all; done) | (simp_all; omega) | decide) (by first | omega | assumption | (simp only [List.length_append, List.length_cons, List.length_nil]; omega) | (simp only [sub, List.length_drop, List.length_take]; omega) | (simp; omega) | (simp_all; done) | (simp_all; omega) | decide) (by first | omega | assumption | (simp only [List.length_append, List.length_cons, List.length_nil]; omega) | (simp only [sub, List.length_drop, List.length_take]; omega) | (simp; omega) | (simp_all; done) | (simp_all; omega) | decide)) ?_
      rintro _ _ ⟨rfl, rfl⟩
      refine JO_call [] [] [] rfl trivial (fun _ => x_call Ty.ca11 rfl) (fun _ h => h) (fun _ h => by cases h) (fun w hS => f11_ok (R02.xorAt (R14.frame R02.updateN ((n.toNat : Nat) : Int) a b d) (at_.toNat % 61) (R02.le mask)) w (by first | omega | assumption | (simp only [List.length_append, List.length_cons, List.length_nil]; omega) | (simp only [sub, List.length_drop, List.length_take]; omega) | (simp; omega) | (simp_all; done) | (simp_all; omega) | decide)) ?_
      rintro _ _ ⟨rfl, rfl⟩
      refine JO_read (Value.tuple #[vI (R14.rfN R02.updateN (R02.xorAt (R14.frame R02.updateN ((n.toNat : Nat) : Int) a b d) (at_.toNat % 61) (R02.le mask))), vB (R14.rfA R02.updateN (R02.xorAt (R14.frame R02.updateN ((n.toNat : Nat) : Int) a b d) (at_.toNat % 61) (R02.le mask))), vB (R14.rfB R02.updateN (R02.xorAt (R14.frame R02.updateN ((n.toNat : Nat) : Int) a b d) (at_.toNat % 61) (R02.le mask))), vS (R14.rfD R02.updateN (R02.xorAt (R14.frame R02.updateN ((n.toNat : Nat) : Int) a b d) (at_.toNat % 61) (R02.le mask))), vI (R14.rfE R02.updateN (R02.xorAt (R14.frame R02.updateN ((n.toNat : Nat) : Int) a b d) (at_.toNat % 61) (R02.le mask)))]) rfl trivial (fun _ _ => rfl) ?_
      refine JO_read (vI (R14.rfN R02.updateN (R02.xorAt (R14.frame R02.updateN ((n.toNat : Nat) : Int) a b d) (at_.toNat % 61) (R02.le mask)))) rfl trivial (fun _ _ => rfl) ?_
      refine JO_read (vB (R14.rfA R02.updateN (R02.xorAt (R14.frame R02.updateN ((n.toNat : Nat) : Int) a b d) (at_.toNat % 61) (R02.le mask)))) rfl trivial (fun _ _ => rfl) ?_
      refine JO_read (vB (R14.rfB R02.updateN (R02.xorAt (R14.frame R02.updateN ((n.toNat : Nat) : Int) a b d) (at_.toNat % 61) (R02.le mask)))) rfl trivial (fun _ _ => rfl) ?_
      refine JO_read (vS (R14.rfD R02.updateN (R02.xorAt (R14.frame R02.updateN ((n.toNat : Nat) : Int) a b d) (at_.toNat % 61) (R02.le mask)))) rfl trivial (fun _ _ => rfl) ?_
      refine JO_read (vI (R14.rfE R02.updateN (R02.xorAt (R14.frame R02.updateN ((n.toNat : Nat) : Int) a b d) (at_.toNat % 61) (R02.le mask)))) rfl trivial (fun _ _ => rfl) ?_
      refine JO_read (vI (R14.rfN R02.updateN (R02.xorAt (R14.frame R02.updateN ((n.toNat : Nat) : Int) a b d) (at_.toNat % 61) (R02.le mask)))) rfl trivial (fun _ _ => rfl) ?_
      refine JO_read (vB (R14.rfA R02.updateN (R02.xorAt (R14.frame R02.updateN ((n.toNat : Nat) : Int) a b d) (at_.toNat % 61) (R02.le mask)))) rfl trivial (fun _ _ => rfl) ?_
      refine JO_read (vB (R14.rfB R02.updateN (R02.xorAt (R14.frame R02.updateN ((n.toNat : Nat) : Int) a b d) (at_.toNat % 61) (R02.le mask)))) rfl trivial (fun _ _ => rfl) ?_
      refine JO_read (vS (R14.rfD R02.updateN (R02.xorAt (R14.frame R02.updateN ((n.toNat : Nat) : Int) a b d) (at_.toNat % 61) (R02.le mask)))) rfl trivial (fun _ _ => rfl) ?_
      refine JO_read (vI (R14.rfE R02.updateN (R02.xorAt (R14.frame R02.updateN ((n.toNat : Nat) : Int) a b d) (at_.toNat % 61) (R02.le mask)))) rfl trivial (fun _ _ => rfl) ?_
      refine JO_nil ?_
      refine JX_then ?_
      refine J_seq ?_
      refine J_region ?_
      refine JO_read (vI (R14.rfE R02.updateN (R02.xorAt (R14.frame R02.updateN ((n.toNat : Nat) : Int) a b d) (at_.toNat % 61) (R02.le mask)))) rfl trivial (fun _ _ => rfl) ?_
      refine JO_read (vB (decide (R14.rfE R02.updateN (R02.xorAt (R14.frame R02.updateN ((n.toNat : Nat) : Int) a b d) (at_.toNat % 61) (R02.le mask)) = 11))) rfl trivial (fun _ _ => x_eql_i rfl rfl) ?_
      refine JO_read (vB (decide (R14.rfE R02.updateN (R02.xorAt (R14.frame R02.updateN ((n.toNat : Nat) : Int) a b d) (at_.toNat % 61) (R02.le mask)) = 11))) rfl trivial (fun _ _ => rfl) ?_
      refine JO_nil ?_
      refine JX_then ?_
      refine J_ret ?_
      refine JX_rets [vB (decide (R14.rfE R02.updateN (R02.xorAt (R14.frame R02.updateN ((n.toNat : Nat) : Int) a b d) (at_.toNat % 61) (R02.le mask)) = 11))] (vB (decide (R14.rfE R02.updateN (R02.xorAt (R14.frame R02.updateN ((n.toNat : Nat) : Int) a b d) (at_.toNat % 61) (R02.le mask)) = 11))) Try.results4 (fun w h => ⟨rfl, trivial⟩) rfl [] (fun _ h => h) ⟨?_, ?_⟩
      · have e_x0 : (decide (R14.rfE R02.updateN (R02.xorAt (R14.frame R02.updateN ((n.toNat : Nat) : Int) a b d) (at_.toNat % 61) (R02.le mask)) = 11) : Bool) = true := by
          first | rfl | (exfalso; exact R14.damage_bad (n := n) (a := a) (b := b) (d := d) (by omega) (by omega) (by assumption)) | exact decide_eq_true (R14.damage (by omega) (by omega) (by omega) (by assumption))
        exact congrArg (fun (x0 : Bool) => vB x0) e_x0
      · rfl

end Go.Proofs.Ytodfebhimadaiaa
