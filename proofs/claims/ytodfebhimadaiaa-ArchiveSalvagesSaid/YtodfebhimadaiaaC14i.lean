/- contracts C14i -/
import Derived.Test.YtodfebhimadaiaaC14g
import Derived.Test.YtodfebhimadaiaaDa14c
namespace Go.Proofs.Ytodfebhimadaiaa
open Go.GV
set_option linter.unusedVariables false
set_option linter.unusedSimpArgs false
set_option maxRecDepth 20000 in
theorem f15_ok (s : Bytes) (at_ : Nat) (m : Bytes) (w : World) (q0 : s.length ≤ 4611686018427387904) (q1 : at_ ≤ 1073741824) (q2 : m.length ≤ 1073741824) : Calls Try.prog 15 #[vS s, vI ((at_ : Nat) : Int), vS m] w (Gives [] w fun v L => v = vS (R02.xorAt s at_ m) ∧ L = []) := by
  refine calls_J [] 46 Try.func15 rfl Try.ntmps15 [(0, vS s), (1, vI ((at_ : Nat) : Int)), (2, vS m)] rfl rfl (Give.nil w) ?_
  refine J_seq (J_region ?_)
  refine jr_ (vS []) ?_
  refine JO_nil (JX_then (J_seq (J_region ?_)))
  refine jr_ (vS s) ?_
  refine JO_op rfl trivial (O_str_bytes s rfl Try.underlying9 Try.underlying57 Try.underlying5 fun b1 c2 z3 hz4 => ?_)
  refine jr_ (Value.slice (some ⟨b1, 0, none⟩) s.length c2) ?_
  refine JO_nil (JX_then (J_seq (J_seq (J_region ?_))))
  refine jr_ (vI 0) ?_
  refine JO_nil (JX_then (J_block ?_))
  refine J_loop (X := Nat × (List UInt8)) (fun (⟨k, bs⟩ : Nat × (List UInt8)) => (k ≤ m.length) ∧ (bs = R02.xorAt s at_ (m.take k) ++ List.replicate z3 0)) (fun (⟨k, bs⟩ : Nat × (List UInt8)) => [(1, vI ((at_ : Nat) : Int)), (2, vS m), (6, vS []), (7, Value.slice (some ⟨b1, 0, none⟩) s.length c2), (8, vI ((k : Nat) : Int))]) (fun (⟨k, bs⟩ : Nat × (List UInt8)) => [Ent.blk b1 5 (bs.map vU8) (s.length + z3, s.length + z3 + 1)]) (fun (⟨k, bs⟩ : Nat × (List UInt8)) => m.length - k) ((0, s ++ List.replicate z3 (0 : UInt8)) : Nat × (List UInt8)) ?_ ⟨rfl, rfl, rfl, rfl, rfl, trivial⟩ (fun _ h => h) ?_
  · show (0 ≤ m.length) ∧ ((s ++ List.replicate z3 (0 : UInt8)) = R02.xorAt s at_ (m.take 0) ++ List.replicate z3 0)
    refine ⟨?_, ?_⟩
    · first | rfl | omega | (simp_all; done) | (simp_all; omega)
    · rw [List.take_zero, R02.xorAt_nil]
  rintro ⟨k, bs⟩ hI1
  obtain ⟨i1_0, i1_1⟩ : (k ≤ m.length) ∧ (bs = R02.xorAt s at_ (m.take k) ++ List.replicate z3 0) := hI1
  have hbl : bs.length = s.length + z3 := by rw [i1_1]; simp
  refine J_weaken (E' := [(1, vI ((at_ : Nat) : Int)), (2, vS m), (6, vS []), (7, Value.slice (some ⟨b1, 0, none⟩) s.length c2), (8, vI ((k : Nat) : Int))]) (L' := [Ent.blk b1 5 (bs.map vU8) (s.length + z3, s.length + z3 + 1)]) ⟨rfl, rfl, rfl, rfl, rfl, trivial⟩ (fun _ h => h) ?_
  refine J_seq (J_seq (J_region ?_))
  refine jr_ (vI ((k : Nat) : Int)) ?_
  refine jr_ (vS m) ?_
  refine JO_read (vI ((m.length : Nat) : Int)) rfl trivial (fun _ _ => x_len_s rfl Try.underlying9) ?_
  refine JO_read (vB (decide (((k : Nat) : Int) < ((m.length : Nat) : Int)))) rfl trivial (fun _ _ => x_lss_i rfl rfl) ?_
  refine JO_nil (JX_then ?_)
  refine J_cond (decide (((k : Nat) : Int) < ((m.length : Nat) : Int))) rfl rfl (fun h5 => ?_) (fun h5 => ?_)
  · have h5 := of_decide_eq_true h5
    refine J_skip (JX_then (J_seq (J_block (J_seq (J_region ?_)))))
    refine jr_ (vI ((at_ : Nat) : Int)) ?_
    refine jr_ (vI ((k : Nat) : Int)) ?_
    refine JO_read (vI ((at_ + k : Nat) : Int)) rfl trivial (fun _ _ => x_add_n (a := at_) (b := k) rfl rfl (by omega)) ?_
    refine JO_read (vB (decide ((0 : Int) ≤ ((at_ + k : Nat) : Int)))) rfl trivial (fun _ _ => x_geq_i rfl rfl) ?_
    refine jr_ (vB (decide ((0 : Int) ≤ ((at_ + k : Nat) : Int)))) ?_
    refine JO_cut (X := Bool) 7 (fun z => z = ((decide ((0 : Int) ≤ ((at_ + k : Nat) : Int))) && (decide (((at_ + k : Nat) : Int) < ((s.length : Nat) : Int))))) (fun z => [(1, vI ((at_ : Nat) : Int)), (2, vS m), (6, vS []), (7, Value.slice (some ⟨b1, 0, none⟩) s.length c2), (8, vI ((k : Nat) : Int)), (28, vB z)]) (fun _ => [Ent.blk b1 5 (bs.map vU8) (s.length + z3, s.length + z3 + 1)]) ?_ ?_
    · rcases Bool.eq_false_or_eq_true (decide ((0 : Int) ≤ ((at_ + k : Nat) : Int))) with g7 | g7
      · have g7r := g7
        have g7r := of_decide_eq_true g7r
        refine JO_read (vI ((at_ : Nat) : Int)) rfl ⟨_, rfl, g7⟩ (fun _ _ => rfl) ?_
        refine JO_read (vI ((k : Nat) : Int)) rfl ⟨_, rfl, g7⟩ (fun _ _ => rfl) ?_
        refine JO_read (vI ((at_ + k : Nat) : Int)) rfl ⟨_, rfl, g7⟩ (fun _ _ => x_add_n (a := at_) (b := k) rfl rfl (by omega)) ?_
        refine JO_read (Value.slice (some ⟨b1, 0, none⟩) s.length c2) rfl ⟨_, rfl, g7⟩ (fun _ _ => rfl) ?_
        refine JO_read (vI ((s.length : Nat) : Int)) rfl ⟨_, rfl, g7⟩ (fun _ _ => x_len_sl Try.underlying57 rfl) ?_
        refine JO_read (vB (decide (((at_ + k : Nat) : Int) < ((s.length : Nat) : Int)))) rfl ⟨_, rfl, g7⟩ (fun _ _ => x_lss_i rfl rfl) ?_
        refine JO_read (vB (decide (((at_ + k : Nat) : Int) < ((s.length : Nat) : Int)))) rfl trivial (fun _ _ => x_pick_t rfl g7 rfl) ?_
        refine JO_nil (JX_cut (decide (((at_ + k : Nat) : Int) < ((s.length : Nat) : Int))) (by rw [g7]; simp) ⟨rfl, rfl, rfl, rfl, rfl, rfl, trivial⟩ (fun _ h => h))
      · have g7r := g7
        have g7r := of_decide_eq_false g7r
        refine JO_shun rfl ⟨_, rfl, g7⟩ ?_
        refine JO_shun rfl ⟨_, rfl, g7⟩ ?_
        refine JO_shun rfl ⟨_, rfl, g7⟩ ?_
        refine JO_shun rfl ⟨_, rfl, g7⟩ ?_
        refine JO_shun rfl ⟨_, rfl, g7⟩ ?_
        refine JO_shun rfl ⟨_, rfl, g7⟩ ?_
        refine JO_read (vB false) rfl trivial (fun _ _ => x_pick_f rfl g7 rfl) ?_
        refine JO_nil (JX_cut (false) (by rw [g7]; simp) ⟨rfl, rfl, rfl, rfl, rfl, rfl, trivial⟩ (fun _ h => h))
    rintro z6 rfl
    refine JO_nil (JX_then ?_)
    refine J_cond ((decide ((0 : Int) ≤ ((at_ + k : Nat) : Int))) && (decide (((at_ + k : Nat) : Int) < ((s.length : Nat) : Int)))) rfl rfl (fun h8 => ?_) (fun h8 => ?_)
    · have ⟨h8, h9⟩ := band_true h8
      have h8 := of_decide_eq_true h8
      have h9 := of_decide_eq_true h9
      refine J_draw [] [15] [Ent.blk b1 5 (bs.map vU8) (s.length + z3, s.length + z3 + 1)] 16 Ty.mixed rfl ?_
      refine jt_ 0 (Value.slice (some ⟨b1, 0, none⟩) s.length c2) rfl (fun _ _ => rfl) ?_
      refine jt_ 1 (vI ((at_ : Nat) : Int)) rfl (fun _ _ => rfl) ?_
      refine jt_ 2 (vI ((k : Nat) : Int)) rfl (fun _ _ => rfl) ?_
      refine jt_ 3 (vI ((at_ + k : Nat) : Int)) rfl (fun _ _ => x_add_n (a := at_) (b := k) rfl rfl (by omega)) ?_
      refine jt_ 4 (Value.slice (some ⟨b1, 0, none⟩) s.length c2) rfl (fun _ _ => rfl) ?_
      refine jt_ 5 (vI ((at_ : Nat) : Int)) rfl (fun _ _ => rfl) ?_
      refine jt_ 6 (vI ((k : Nat) : Int)) rfl (fun _ _ => rfl) ?_
      refine jt_ 7 (vI ((at_ + k : Nat) : Int)) rfl (fun _ _ => x_add_n (a := at_) (b := k) rfl rfl (by omega)) ?_
      refine jt_ 8 (Value.pointer (some ⟨b1, at_ + k, none⟩)) rfl (fun _ _ => x_indexAddr_sl (k := at_ + k) Try.underlying57 Ty.sz5 rfl rfl lt_ (add_0k1 _ _)) ?_
      refine JA_early 9 (vU8 (bs.getD (at_ + k) 0)) rfl (by kernel_rfl) (by kernel_rfl) (by kernel_rfl) rfl (by kernel_rfl) (fun _ _ _ h => h) rfl trivial (x_load_arr 0 vU8 0 rfl rfl Ty.sc5 lt_) ?_
      refine jt_ 10 (vS m) rfl (fun _ _ => rfl) ?_
      refine jt_ 11 (vI ((k : Nat) : Int)) rfl (fun _ _ => rfl) ?_
      refine jt_ 12 (vU8 (m.getD k 0)) rfl (fun _ _ => x_idx_s (k := k) rfl rfl Try.underlying9 (by omega)) ?_
      refine jt_ 13 (vU8 ((bs.getD (at_ + k) 0) ^^^ (m.getD k 0))) rfl (fun _ _ => x_xor_u8 rfl rfl) ?_
      refine jt_ 14 (Value.pointer (some ⟨b1, at_ + k, none⟩)) rfl (fun _ _ => x_indexAddr_sl (k := at_ + k) Try.underlying57 Ty.sz5 rfl rfl lt_ (add_0k1 _ _)) ?_
      refine JA_one 15 (by kernel_rfl) (fun _ h => ⟨h.keep [false] rfl, fun _ => h⟩) ?_
      refine JI_op rfl rfl trivial (O_store_arr (a := (bs.getD (at_ + k) 0) ^^^ (m.getD k 0)) 0 vU8 [Ent.blk b1 5 ((bs.set (at_ + k) ((bs.getD (at_ + k) 0) ^^^ (m.getD k 0))).map vU8) (s.length + z3, s.length + z3 + 1)] rfl rfl rfl Ty.sz5 rfl lt_ rfl ?_)
      refine JA_done (by kernel_rfl) (fun _ h => ⟨h.keep [false] rfl, fun hh => Bool.noConfusion (show false = true from hh)⟩) ?_
      refine JX_block (JX_then (J_region ?_))
      refine jr_ (vI ((k : Nat) : Int)) ?_
      refine JO_read (vI ((k + 1 : Nat) : Int)) rfl trivial (fun _ _ => x_add_n (a := k) (b := 1) rfl rfl (by omega)) ?_
      refine jr_ (vI ((k + 1 : Nat) : Int)) ?_
      refine JO_nil ?_
      refine JX_round ((k + 1, bs.set (at_ + k) ((bs.getD (at_ + k) 0) ^^^ (m.getD k 0))) : Nat × (List UInt8)) ?_ ?_ ⟨rfl, rfl, rfl, rfl, rfl, trivial⟩ (fun _ h => h)
      · show ((k + 1) ≤ m.length) ∧ ((bs.set (at_ + k) ((bs.getD (at_ + k) 0) ^^^ (m.getD k 0))) = R02.xorAt s at_ (m.take (k + 1)) ++ List.replicate z3 0)
        refine ⟨?_, ?_⟩
        · first | rfl | omega | (simp_all; done) | (simp_all; omega)
        · subst i1_1; first | exact R02.xorAt_step (by omega) (by omega) | exact R02.xorAt_skip (by omega) (by omega)
      · show m.length - (k + 1) < m.length - k
        first | omega | (simp; omega) | (simp_all; omega)
    · simp only [Bool.and_eq_true, Bool.or_eq_true, Bool.and_eq_false_iff, Bool.or_eq_false_iff, Bool.not_eq_true', Bool.not_eq_false', decide_eq_true_eq, decide_eq_false_iff_not] at h8
      refine J_skip (JX_block (JX_then (J_region ?_)))
      refine jr_ (vI ((k : Nat) : Int)) ?_
      refine JO_read (vI ((k + 1 : Nat) : Int)) rfl trivial (fun _ _ => x_add_n (a := k) (b := 1) rfl rfl (by omega)) ?_
      refine jr_ (vI ((k + 1 : Nat) : Int)) ?_
      refine JO_nil ?_
      refine JX_round ((k + 1, bs) : Nat × (List UInt8)) ?_ ?_ ⟨rfl, rfl, rfl, rfl, rfl, trivial⟩ (fun _ h => h)
      · show ((k + 1) ≤ m.length) ∧ (bs = R02.xorAt s at_ (m.take (k + 1)) ++ List.replicate z3 0)
        refine ⟨?_, ?_⟩
        · first | rfl | omega | (simp_all; done) | (simp_all; omega)
        · subst i1_1; first | exact R02.xorAt_step (by omega) (by omega) | exact R02.xorAt_skip (by omega) (by omega)
      · show m.length - (k + 1) < m.length - k
        first | omega | (simp; omega) | (simp_all; omega)
  · have h5 := of_decide_eq_false h5
    refine J_exit (JX_then_exit (JX_round_exit (JX_block_hit (JX_then (J_seq ?_)))))
    refine J_region ?_
    refine jr_ (Value.slice (some ⟨b1, 0, none⟩) s.length c2) ?_
    refine JO_read (vS ((bs.drop 0).take s.length)) rfl trivial (x_str_arr 0 (off := 0) (n := s.length) rfl Try.underlying57 Try.underlying5 Try.underlying9 rfl lt_) ?_
    refine jr_ (vS ((bs.drop 0).take s.length)) ?_
    refine JO_nil (JX_then (J_ret ?_))
    refine JX_rets [vS ((bs.drop 0).take s.length)] (vS ((bs.drop 0).take s.length)) Try.results15 (fun w h => ⟨rfl, trivial⟩) rfl [] (fun _ h => h.keep [false] rfl) ⟨?_, ?_⟩
    · have e_x0 : ((bs.drop 0).take s.length : Bytes) = (R02.xorAt s at_ m) := by rw [i1_1, R02.xorAt_done (by omega)]
      exact congrArg (fun (x0 : Bytes) => vS x0) e_x0
    · rfl
end Go.Proofs.Ytodfebhimadaiaa
