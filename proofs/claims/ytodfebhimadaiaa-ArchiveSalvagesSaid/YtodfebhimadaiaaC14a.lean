/- contracts C14a -/
import Derived.Test.YtodfebhimadaiaaGvF
import Derived.Test.YtodfebhimadaiaaEq14
import Derived.Test.YtodfebhimadaiaaPl14
import Derived.Test.YtodfebhimadaiaaGvT
namespace Go.Proofs.Ytodfebhimadaiaa
open Go.GV
set_option linter.unusedVariables false
set_option linter.unusedSimpArgs false
set_option maxRecDepth 20000 in
theorem f16_ok (n : UInt32) (w : World) : Calls Try.prog 16 #[vU32 n] w (Gives [] w fun v L => v = vS (R02.le n) ∧ L = []) := by
  refine calls_J [] 16 Try.func16 rfl Try.ntmps16 [(0, vU32 n)] rfl rfl (Give.nil w) ?_
  refine J_seq (J_region ?_)
  refine jr_ (vS []) ?_
  refine JO_nil (JX_then (J_seq (J_region ?_)))
  refine jr_ (vU32 n) ?_
  refine JO_read (vU8 n.toUInt8) rfl trivial (fun _ _ => x_conv_u32_u8 rfl Try.underlying29 Try.underlying5) ?_
  refine jr_ (vU32 n) ?_
  refine JO_read (vU32 (UInt32.ofBitVec (n.toBitVec >>> (8 : Nat)))) rfl trivial (fun _ _ => x_shr_u32 (m := 8) rfl rfl (by decide)) ?_
  refine JO_read (vU8 ((UInt32.ofBitVec (n.toBitVec >>> (8 : Nat))).toUInt8)) rfl trivial (fun _ _ => x_conv_u32_u8 rfl Try.underlying29 Try.underlying5) ?_
  refine jr_ (vU32 n) ?_
  refine JO_read (vU32 (UInt32.ofBitVec (n.toBitVec >>> (16 : Nat)))) rfl trivial (fun _ _ => x_shr_u32 (m := 16) rfl rfl (by decide)) ?_
  refine JO_read (vU8 ((UInt32.ofBitVec (n.toBitVec >>> (16 : Nat))).toUInt8)) rfl trivial (fun _ _ => x_conv_u32_u8 rfl Try.underlying29 Try.underlying5) ?_
  refine jr_ (vU32 n) ?_
  refine JO_read (vU32 (UInt32.ofBitVec (n.toBitVec >>> (24 : Nat)))) rfl trivial (fun _ _ => x_shr_u32 (m := 24) rfl rfl (by decide)) ?_
  refine JO_read (vU8 ((UInt32.ofBitVec (n.toBitVec >>> (24 : Nat))).toUInt8)) rfl trivial (fun _ _ => x_conv_u32_u8 rfl Try.underlying29 Try.underlying5) ?_
  refine JO_op rfl trivial (O_buildSlice (cs := [vU8 n.toUInt8, vU8 ((UInt32.ofBitVec (n.toBitVec >>> (8 : Nat))).toUInt8), vU8 ((UInt32.ofBitVec (n.toBitVec >>> (16 : Nat))).toUInt8), vU8 ((UInt32.ofBitVec (n.toBitVec >>> (24 : Nat))).toUInt8)]) Try.underlying57 Ty.sz5 Ty.ze5 (by decide) (by decide) (by kernel_rfl) fun b1 => ?_)
  refine JO_read (vS [n.toUInt8, (UInt32.ofBitVec (n.toBitVec >>> (8 : Nat))).toUInt8, (UInt32.ofBitVec (n.toBitVec >>> (16 : Nat))).toUInt8, (UInt32.ofBitVec (n.toBitVec >>> (24 : Nat))).toUInt8]) rfl trivial (x_str_blk 0 (l := [n.toUInt8, (UInt32.ofBitVec (n.toBitVec >>> (8 : Nat))).toUInt8, (UInt32.ofBitVec (n.toBitVec >>> (16 : Nat))).toUInt8, (UInt32.ofBitVec (n.toBitVec >>> (24 : Nat))).toUInt8]) rfl Try.underlying57 Try.underlying5 Try.underlying9 rfl rfl rfl) ?_
  refine jr_ (vS [n.toUInt8, (UInt32.ofBitVec (n.toBitVec >>> (8 : Nat))).toUInt8, (UInt32.ofBitVec (n.toBitVec >>> (16 : Nat))).toUInt8, (UInt32.ofBitVec (n.toBitVec >>> (24 : Nat))).toUInt8]) ?_
  refine JO_nil (JX_then (J_ret ?_))
  refine JX_rets [vS [n.toUInt8, (UInt32.ofBitVec (n.toBitVec >>> (8 : Nat))).toUInt8, (UInt32.ofBitVec (n.toBitVec >>> (16 : Nat))).toUInt8, (UInt32.ofBitVec (n.toBitVec >>> (24 : Nat))).toUInt8]] (vS [n.toUInt8, (UInt32.ofBitVec (n.toBitVec >>> (8 : Nat))).toUInt8, (UInt32.ofBitVec (n.toBitVec >>> (16 : Nat))).toUInt8, (UInt32.ofBitVec (n.toBitVec >>> (24 : Nat))).toUInt8]) Try.results16 (fun w h => ⟨rfl, trivial⟩) rfl [] (fun _ h => h.keep [false] rfl) ⟨?_, ?_⟩
  · have e_x0 : ([n.toUInt8, (UInt32.ofBitVec (n.toBitVec >>> (8 : Nat))).toUInt8, (UInt32.ofBitVec (n.toBitVec >>> (16 : Nat))).toUInt8, (UInt32.ofBitVec (n.toBitVec >>> (24 : Nat))).toUInt8] : Bytes) = (R02.le n) := by first | rfl | (simp [R02.le, *]; done) | (unfold R02.le; simp [*]; done) | (unfold R02.le; split <;> simp_all <;> omega)
    exact congrArg (fun (x0 : Bytes) => vS x0) e_x0
  · rfl
set_option maxRecDepth 20000 in
theorem f54_ok (n : UInt32) (w : World) : Calls Try.prog 54 #[vU32 n] w (Gives [] w fun v L => v = vS (R02.le n) ∧ L = []) := by
  refine calls_J [] 16 Try.func54 rfl Try.ntmps54 [(0, vU32 n)] rfl rfl (Give.nil w) ?_
  refine J_seq (J_region ?_)
  refine jr_ (vS []) ?_
  refine JO_nil (JX_then (J_seq (J_region ?_)))
  refine jr_ (vU32 n) ?_
  refine JO_read (vU8 n.toUInt8) rfl trivial (fun _ _ => x_conv_u32_u8 rfl Try.underlying29 Try.underlying5) ?_
  refine jr_ (vU32 n) ?_
  refine JO_read (vU32 (UInt32.ofBitVec (n.toBitVec >>> (8 : Nat)))) rfl trivial (fun _ _ => x_shr_u32 (m := 8) rfl rfl (by decide)) ?_
  refine JO_read (vU8 ((UInt32.ofBitVec (n.toBitVec >>> (8 : Nat))).toUInt8)) rfl trivial (fun _ _ => x_conv_u32_u8 rfl Try.underlying29 Try.underlying5) ?_
  refine jr_ (vU32 n) ?_
  refine JO_read (vU32 (UInt32.ofBitVec (n.toBitVec >>> (16 : Nat)))) rfl trivial (fun _ _ => x_shr_u32 (m := 16) rfl rfl (by decide)) ?_
  refine JO_read (vU8 ((UInt32.ofBitVec (n.toBitVec >>> (16 : Nat))).toUInt8)) rfl trivial (fun _ _ => x_conv_u32_u8 rfl Try.underlying29 Try.underlying5) ?_
  refine jr_ (vU32 n) ?_
  refine JO_read (vU32 (UInt32.ofBitVec (n.toBitVec >>> (24 : Nat)))) rfl trivial (fun _ _ => x_shr_u32 (m := 24) rfl rfl (by decide)) ?_
  refine JO_read (vU8 ((UInt32.ofBitVec (n.toBitVec >>> (24 : Nat))).toUInt8)) rfl trivial (fun _ _ => x_conv_u32_u8 rfl Try.underlying29 Try.underlying5) ?_
  refine JO_op rfl trivial (O_buildSlice (cs := [vU8 n.toUInt8, vU8 ((UInt32.ofBitVec (n.toBitVec >>> (8 : Nat))).toUInt8), vU8 ((UInt32.ofBitVec (n.toBitVec >>> (16 : Nat))).toUInt8), vU8 ((UInt32.ofBitVec (n.toBitVec >>> (24 : Nat))).toUInt8)]) Try.underlying57 Ty.sz5 Ty.ze5 (by decide) (by decide) (by kernel_rfl) fun b1 => ?_)
  refine JO_read (vS [n.toUInt8, (UInt32.ofBitVec (n.toBitVec >>> (8 : Nat))).toUInt8, (UInt32.ofBitVec (n.toBitVec >>> (16 : Nat))).toUInt8, (UInt32.ofBitVec (n.toBitVec >>> (24 : Nat))).toUInt8]) rfl trivial (x_str_blk 0 (l := [n.toUInt8, (UInt32.ofBitVec (n.toBitVec >>> (8 : Nat))).toUInt8, (UInt32.ofBitVec (n.toBitVec >>> (16 : Nat))).toUInt8, (UInt32.ofBitVec (n.toBitVec >>> (24 : Nat))).toUInt8]) rfl Try.underlying57 Try.underlying5 Try.underlying9 rfl rfl rfl) ?_
  refine jr_ (vS [n.toUInt8, (UInt32.ofBitVec (n.toBitVec >>> (8 : Nat))).toUInt8, (UInt32.ofBitVec (n.toBitVec >>> (16 : Nat))).toUInt8, (UInt32.ofBitVec (n.toBitVec >>> (24 : Nat))).toUInt8]) ?_
  refine JO_nil (JX_then (J_ret ?_))
  refine JX_rets [vS [n.toUInt8, (UInt32.ofBitVec (n.toBitVec >>> (8 : Nat))).toUInt8, (UInt32.ofBitVec (n.toBitVec >>> (16 : Nat))).toUInt8, (UInt32.ofBitVec (n.toBitVec >>> (24 : Nat))).toUInt8]] (vS [n.toUInt8, (UInt32.ofBitVec (n.toBitVec >>> (8 : Nat))).toUInt8, (UInt32.ofBitVec (n.toBitVec >>> (16 : Nat))).toUInt8, (UInt32.ofBitVec (n.toBitVec >>> (24 : Nat))).toUInt8]) Try.results54 (fun w h => ⟨rfl, trivial⟩) rfl [] (fun _ h => h.keep [false] rfl) ⟨?_, ?_⟩
  · have e_x0 : ([n.toUInt8, (UInt32.ofBitVec (n.toBitVec >>> (8 : Nat))).toUInt8, (UInt32.ofBitVec (n.toBitVec >>> (16 : Nat))).toUInt8, (UInt32.ofBitVec (n.toBitVec >>> (24 : Nat))).toUInt8] : Bytes) = (R02.le n) := by first | rfl | (simp [R02.le, *]; done) | (unfold R02.le; simp [*]; done) | (unfold R02.le; split <;> simp_all <;> omega)
    exact congrArg (fun (x0 : Bytes) => vS x0) e_x0
  · rfl
set_option maxRecDepth 20000 in
theorem f105_ok (x : UInt32) (bits : Nat) (w : World) (q0 : bits ≤ 4611686018427387904) : Calls Try.prog 105 #[vU32 x, vI ((bits : Nat) : Int)] w (Gives [] w fun v L => v = vU32 (R02.iter bits x) ∧ L = []) := by
  refine calls_J [] 18 Try.func105 rfl Try.ntmps105 [(0, vU32 x), (1, vI ((bits : Nat) : Int))] rfl rfl (Give.nil w) ?_
  refine J_seq (J_region ?_)
  refine jr_ (vU32 0) ?_
  refine JO_nil (JX_then (J_seq (J_seq (J_region ?_))))
  refine jr_ (vI ((bits : Nat) : Int)) ?_
  refine jr_ (vI 0) ?_
  refine JO_nil (JX_then (J_block ?_))
  refine J_loop (X := Nat × UInt32) (fun (⟨k, c⟩ : Nat × UInt32) => (k ≤ bits) ∧ (c = R02.iter k x)) (fun (⟨k, c⟩ : Nat × UInt32) => [(0, vU32 c), (4, vU32 0), (5, vI ((bits : Nat) : Int)), (6, vI ((k : Nat) : Int))]) (fun (⟨k, c⟩ : Nat × UInt32) => []) (fun (⟨k, c⟩ : Nat × UInt32) => bits - k) ((0, x) : Nat × UInt32) ?_ ⟨rfl, rfl, rfl, rfl, trivial⟩ (fun _ h => h) ?_
  · show (0 ≤ bits) ∧ (x = R02.iter 0 x)
    refine ⟨?_, ?_⟩
    · first | rfl | omega | (simp_all; done) | (simp_all; omega)
    · rfl
  rintro ⟨k, c⟩ hI1
  obtain ⟨i1_0, i1_1⟩ : (k ≤ bits) ∧ (c = R02.iter k x) := hI1
  refine J_weaken (E' := [(0, vU32 c), (4, vU32 0), (5, vI ((bits : Nat) : Int)), (6, vI ((k : Nat) : Int))]) (L' := []) ⟨rfl, rfl, rfl, rfl, trivial⟩ (fun _ h => h) ?_
  refine J_seq (J_region ?_)
  refine JO_read (vB (decide (((k : Nat) : Int) < ((bits : Nat) : Int)))) rfl trivial (fun _ _ => x_lss_i rfl rfl) ?_
  refine JO_nil (JX_then (J_seq ?_))
  refine J_cond (decide (((k : Nat) : Int) < ((bits : Nat) : Int))) rfl rfl (fun h1 => ?_) (fun h1 => ?_)
  · have h1 := of_decide_eq_true h1
    refine J_skip (JX_then (J_seq (J_block (J_seq (J_region ?_)))))
    refine jr_ (vU32 c) ?_
    refine JO_read (vU32 (c &&& 1)) rfl trivial (fun _ _ => x_and_u32 rfl rfl) ?_
    refine JO_read (vB (decide (c &&& 1 = (1 : UInt32)))) rfl trivial (fun _ _ => x_eql_u32 rfl rfl) ?_
    refine JO_nil (JX_then ?_)
    refine J_cond (decide (c &&& 1 = (1 : UInt32))) rfl rfl (fun h2 => ?_) (fun h2 => ?_)
    · have h2 := of_decide_eq_true h2
      refine J_region ?_
      refine jr_ (vU32 c) ?_
      refine JO_read (vU32 (UInt32.ofBitVec (c.toBitVec >>> (1 : Nat)))) rfl trivial (fun _ _ => x_shr_u32 (m := 1) rfl rfl (by decide)) ?_
      refine JO_read (vU32 ((UInt32.ofBitVec (c.toBitVec >>> (1 : Nat))) ^^^ 2197175160)) rfl trivial (fun _ _ => x_xor_u32 rfl rfl) ?_
      refine jr_ (vU32 ((UInt32.ofBitVec (c.toBitVec >>> (1 : Nat))) ^^^ 2197175160)) ?_
      refine JO_nil (JX_block (JX_then (J_region ?_)))
      refine JO_read (vI ((k + 1 : Nat) : Int)) rfl trivial (fun _ _ => x_add_n (a := k) (b := 1) rfl rfl (by omega)) ?_
      refine jr_ (vI ((k + 1 : Nat) : Int)) ?_
      refine JO_nil ?_
      refine JX_round ((k + 1, (UInt32.ofBitVec (c.toBitVec >>> (1 : Nat))) ^^^ 2197175160) : Nat × UInt32) ?_ ?_ ⟨rfl, rfl, rfl, rfl, trivial⟩ (fun _ h => h)
      · show ((k + 1) ≤ bits) ∧ (((UInt32.ofBitVec (c.toBitVec >>> (1 : Nat))) ^^^ 2197175160) = R02.iter (k + 1) x)
        refine ⟨?_, ?_⟩
        · first | rfl | omega | (simp_all; done) | (simp_all; omega)
        · subst i1_1; show _ = R02.shift _; rw [← R02.shift_and]; first | rw [if_pos (by assumption)] | rw [if_neg (by assumption)]
      · show bits - (k + 1) < bits - k
        first | omega | (simp; omega) | (simp_all; omega)
    · have h2 := of_decide_eq_false h2
      refine J_region ?_
      refine jr_ (vU32 c) ?_
      refine JO_read (vU32 (UInt32.ofBitVec (c.toBitVec >>> (1 : Nat)))) rfl trivial (fun _ _ => x_shr_u32 (m := 1) rfl rfl (by decide)) ?_
      refine jr_ (vU32 (UInt32.ofBitVec (c.toBitVec >>> (1 : Nat)))) ?_
      refine JO_nil (JX_block (JX_then (J_region ?_)))
      refine JO_read (vI ((k + 1 : Nat) : Int)) rfl trivial (fun _ _ => x_add_n (a := k) (b := 1) rfl rfl (by omega)) ?_
      refine jr_ (vI ((k + 1 : Nat) : Int)) ?_
      refine JO_nil ?_
      refine JX_round ((k + 1, UInt32.ofBitVec (c.toBitVec >>> (1 : Nat))) : Nat × UInt32) ?_ ?_ ⟨rfl, rfl, rfl, rfl, trivial⟩ (fun _ h => h)
      · show ((k + 1) ≤ bits) ∧ ((UInt32.ofBitVec (c.toBitVec >>> (1 : Nat))) = R02.iter (k + 1) x)
        refine ⟨?_, ?_⟩
        · first | rfl | omega | (simp_all; done) | (simp_all; omega)
        · subst i1_1; show _ = R02.shift _; rw [← R02.shift_and]; first | rw [if_pos (by assumption)] | rw [if_neg (by assumption)]
      · show bits - (k + 1) < bits - k
        first | omega | (simp; omega) | (simp_all; omega)
  · have h1 := of_decide_eq_false h1
    refine J_exit (JX_then_exit (JX_round_exit (JX_block_hit (JX_then (J_seq ?_)))))
    refine J_region ?_
    refine jr_ (vU32 c) ?_
    refine jr_ (vU32 c) ?_
    refine JO_nil (JX_then (J_ret ?_))
    refine JX_rets [vU32 c] (vU32 c) Try.results105 (fun w h => ⟨rfl, trivial⟩) rfl [] (fun _ h => h) ⟨?_, ?_⟩
    · have e_x0 : (c : UInt32) = (R02.iter bits x) := by rw [i1_1, show k = bits by omega]
      exact congrArg (fun (x0 : UInt32) => vU32 x0) e_x0
    · rfl
set_option maxRecDepth 20000 in
theorem f88_ok (w : World) : Calls Try.prog 88 #[] w (Gives [] w fun v L => v = Value.agg (R02.tab.map vU32).toArray ∧ L = []) := by
  refine calls_J [] 13 Try.func88 rfl Try.ntmps88 [] rfl rfl (Give.nil w) ?_
  refine J_seq (J_region ?_)
  refine JO_op rfl trivial (O_alloc Ty.ze136 rfl fun b1 => ?_)
  refine JO_nil (JX_then (J_seq (J_region ?_)))
  refine JO_op rfl trivial (O_alloc Ty.ze136 rfl fun b2 => ?_)
  refine JO_nil (JX_then (J_seq (J_seq (J_region ?_))))
  refine jr_ (vI 0) ?_
  refine JO_nil (JX_then (J_block ?_))
  refine J_loop (X := Nat × (List UInt32)) (fun (⟨k, ts⟩ : Nat × (List UInt32)) => (k ≤ 16) ∧ (ts.length = 16) ∧ (∀ i, i < k → ts.getD i 0 = R02.iter 4 (UInt32.ofNat i))) (fun (⟨k, ts⟩ : Nat × (List UInt32)) => [(0, Value.pointer (some ⟨b1, 0, none⟩)), (1, Value.pointer (some ⟨b2, 0, none⟩)), (3, vI ((k : Nat) : Int))]) (fun (⟨k, ts⟩ : Nat × (List UInt32)) => [Ent.blk b2 136 (ts.map vU32), Ent.blk b1 136 [vU32 0, vU32 0, vU32 0, vU32 0, vU32 0, vU32 0, vU32 0, vU32 0, vU32 0, vU32 0, vU32 0, vU32 0, vU32 0, vU32 0, vU32 0, vU32 0]]) (fun (⟨k, ts⟩ : Nat × (List UInt32)) => 16 - k) ((0, [0, 0, 0, 0, 0, 0, 0, 0, 0, 0, 0, 0, 0, 0, 0, 0]) : Nat × (List UInt32)) ?_ ⟨rfl, rfl, rfl, trivial⟩ (fun _ h => h) ?_
  · show (0 ≤ 16) ∧ ([0, 0, 0, 0, 0, 0, 0, 0, 0, 0, 0, 0, 0, 0, 0, 0].length = 16) ∧ (∀ i, i < 0 → [0, 0, 0, 0, 0, 0, 0, 0, 0, 0, 0, 0, 0, 0, 0, 0].getD i 0 = R02.iter 4 (UInt32.ofNat i))
    refine ⟨?_, ?_, ?_⟩
    · first | rfl | omega | (simp_all; done) | (simp_all; omega)
    · rfl
    · intro i hi; omega
  rintro ⟨k, ts⟩ hI1
  obtain ⟨i1_0, i1_1, i1_2⟩ : (k ≤ 16) ∧ (ts.length = 16) ∧ (∀ i, i < k → ts.getD i 0 = R02.iter 4 (UInt32.ofNat i)) := hI1
  refine J_weaken (E' := [(0, Value.pointer (some ⟨b1, 0, none⟩)), (1, Value.pointer (some ⟨b2, 0, none⟩)), (3, vI ((k : Nat) : Int))]) (L' := [Ent.blk b2 136 (ts.map vU32), Ent.blk b1 136 [vU32 0, vU32 0, vU32 0, vU32 0, vU32 0, vU32 0, vU32 0, vU32 0, vU32 0, vU32 0, vU32 0, vU32 0, vU32 0, vU32 0, vU32 0, vU32 0]]) ⟨rfl, rfl, rfl, trivial⟩ (fun _ h => h) ?_
  refine J_seq (J_region ?_)
  refine JO_read (vB (decide (((k : Nat) : Int) < 16))) rfl trivial (fun _ _ => x_lss_i rfl rfl) ?_
  refine JO_nil (JX_then (J_seq ?_))
  refine J_cond (decide (((k : Nat) : Int) < 16)) rfl rfl (fun h3 => ?_) (fun h3 => ?_)
  · have h3 := of_decide_eq_true h3
    refine J_skip (JX_then (J_seq (J_block (J_seq (J_region ?_)))))
    refine jr_ (vI ((k : Nat) : Int)) ?_
    refine jr_ (vI ((k : Nat) : Int)) ?_
    refine JO_nil (JX_then (J_region ?_))
    refine jr_ (vI ((k : Nat) : Int)) ?_
    refine jr_ (vI ((k : Nat) : Int)) ?_
    refine JO_read (vU32 (UInt32.ofNat k)) rfl trivial (fun _ _ => x_conv_n_u32 (a := k) rfl Try.underlying3 Try.underlying29) ?_
    refine JO_call [] [] [Ent.blk b2 136 (ts.map vU32), Ent.blk b1 136 [vU32 0, vU32 0, vU32 0, vU32 0, vU32 0, vU32 0, vU32 0, vU32 0, vU32 0, vU32 0, vU32 0, vU32 0, vU32 0, vU32 0, vU32 0, vU32 0]] rfl trivial (fun _ => x_call Ty.ca105 rfl) (fun _ h => h) (fun _ h => by cases h) (fun w hS => f105_ok (UInt32.ofNat k) 4 w hy_) ?_
    rintro _ _ ⟨rfl, rfl⟩
    refine JO_read (Value.pointer (some ⟨b2, k, none⟩)) rfl trivial (fun _ _ => x_indexAddr_arr (k := k) Try.underlying136 Ty.sz29 rfl rfl lt_ (add_0k1 _ _)) ?_
    refine JO_op rfl trivial (O_store_arr (a := R02.iter 4 (UInt32.ofNat k)) 0 vU32 [Ent.blk b2 136 ((ts.set k (R02.iter 4 (UInt32.ofNat k))).map vU32), Ent.blk b1 136 [vU32 0, vU32 0, vU32 0, vU32 0, vU32 0, vU32 0, vU32 0, vU32 0, vU32 0, vU32 0, vU32 0, vU32 0, vU32 0, vU32 0, vU32 0, vU32 0]] rfl rfl rfl Ty.sz29 rfl lt_ rfl ?_)
    refine JO_nil (JX_block (JX_then (J_region ?_)))
    refine JO_read (vI ((k + 1 : Nat) : Int)) rfl trivial (fun _ _ => x_add_n (a := k) (b := 1) rfl rfl (by omega)) ?_
    refine jr_ (vI ((k + 1 : Nat) : Int)) ?_
    refine JO_nil ?_
    refine JX_round ((k + 1, ts.set k (R02.iter 4 (UInt32.ofNat k))) : Nat × (List UInt32)) ?_ ?_ ⟨rfl, rfl, rfl, trivial⟩ (fun _ h => h)
    · show ((k + 1) ≤ 16) ∧ ((ts.set k (R02.iter 4 (UInt32.ofNat k))).length = 16) ∧ (∀ i, i < (k + 1) → (ts.set k (R02.iter 4 (UInt32.ofNat k))).getD i 0 = R02.iter 4 (UInt32.ofNat i))
      refine ⟨?_, ?_, ?_⟩
      · first | rfl | omega | (simp_all; done) | (simp_all; omega)
      · simp [i1_1]
      · exact R02.tab_step i1_1 (by omega) i1_2
    · show 16 - (k + 1) < 16 - k
      first | omega | (simp; omega) | (simp_all; omega)
  · have h3 := of_decide_eq_false h3
    refine J_exit (JX_then_exit (JX_round_exit (JX_block_hit (JX_then (J_seq ?_)))))
    refine J_region ?_
    refine JO_read (Value.agg (ts.map vU32).toArray) rfl trivial (x_loadA 0 vU32 rfl rfl Ty.ag136 Ty.sz136 lt_) ?_
    refine JO_op rfl trivial (O_storeA 1 vU32 [Ent.blk b2 136 (ts.map vU32), Ent.blk b1 136 (ts.map vU32)] rfl rfl rfl Ty.sz136 rfl lt_ (fun _ => rfl) rfl ?_)
    refine JO_nil (JX_then (J_ret ?_))
    refine JX_rets [Value.agg (ts.map vU32).toArray] (Value.agg (ts.map vU32).toArray) Try.results88 (fun w h => ⟨⟨_, rfl, load_blkA 1 vU32 h rfl Ty.ag136 Ty.sz136 lt_⟩, trivial⟩) rfl [] (fun _ h => h.keep [false, false] rfl) ⟨?_, ?_⟩
    · have e_x0 : (ts : List UInt32) = R02.tab := R02.tab_done i1_1 (fun i hi => i1_2 i (by omega))
      exact congrArg (fun (x0 : List UInt32) => Value.agg (x0.map vU32).toArray) e_x0
    · rfl
set_option maxRecDepth 20000 in
theorem f89_ok (b : UInt32) (bx : Nat) (bt : Nat) (x : UInt32) (ts : List UInt32) (w : World) (q0 : ts.length = 16) (hg : Give [bx, bt] w [Ent.blk bx 29 [vU32 x], Ent.blk bt 136 (ts.map vU32)]) : Calls Try.prog 89 #[vU32 b, Value.pointer (some ⟨bx, 0, none⟩), Value.pointer (some ⟨bt, 0, none⟩)] w (Gives [bx, bt] w fun v L => v = Value.tuple #[] ∧ L = [Ent.blk bx 29 [vU32 (R02.nib ts x b)], Ent.blk bt 136 (ts.map vU32)]) := by
  have hlt := R02.and15_lt (x ^^^ b)
  refine calls_J [bx, bt] 13 Try.func89 rfl Try.ntmps89 [(0, vU32 b), (1, Value.pointer (some ⟨bx, 0, none⟩)), (2, Value.pointer (some ⟨bt, 0, none⟩))] rfl rfl hg ?_
  refine J_draw [Ent.blk bt 136 (ts.map vU32)] [9] [Ent.blk bx 29 [vU32 x], Ent.blk bt 136 (ts.map vU32)] 10 Ty.mixed rfl ?_
  refine JA_early 0 (vU32 x) rfl (by kernel_rfl) (by kernel_rfl) (by kernel_rfl) rfl (by kernel_rfl) (fun _ _ _ h => h) rfl trivial (x_load 0 rfl rfl Ty.sc29 rfl) ?_
  refine jt_ 1 (vU32 (UInt32.ofBitVec (x.toBitVec >>> (4 : Nat)))) rfl (fun _ _ => x_shr_u32 (m := 4) rfl rfl (by decide)) ?_
  refine JA_early 2 (vU32 x) rfl (by kernel_rfl) (by kernel_rfl) (by kernel_rfl) rfl (by kernel_rfl) (fun _ _ _ h => h) rfl trivial (x_load 0 rfl rfl Ty.sc29 rfl) ?_
  refine jt_ 3 (vU32 b) rfl (fun _ _ => rfl) ?_
  refine jt_ 4 (vU32 (x ^^^ b)) rfl (fun _ _ => x_xor_u32 rfl rfl) ?_
  refine jt_ 5 (vU32 ((x ^^^ b) &&& 15)) rfl (fun _ _ => x_and_u32 rfl rfl) ?_
  refine jt_ 6 (Value.pointer (some ⟨bt, ((x ^^^ b) &&& 15).toNat, none⟩)) rfl (fun _ _ => x_indexAddr_arr (k := ((x ^^^ b) &&& 15).toNat) Try.underlying136 Ty.sz29 rfl rfl lt_ (add_0k1 _ _)) ?_
  refine jt_ 7 (vU32 (ts.getD (((x ^^^ b) &&& 15).toNat) 0)) rfl (x_load_arr 0 vU32 0 rfl rfl Ty.sc29 lt_) ?_
  refine jt_ 8 (vU32 ((UInt32.ofBitVec (x.toBitVec >>> (4 : Nat))) ^^^ (ts.getD (((x ^^^ b) &&& 15).toNat) 0))) rfl (fun _ _ => x_xor_u32 rfl rfl) ?_
  refine JA_one 9 (by kernel_rfl) (fun _ h => ⟨h.keep [false, true] rfl, fun _ => h⟩) ?_
  refine JI_op rfl rfl trivial (O_store 0 [vU32 ((UInt32.ofBitVec (x.toBitVec >>> (4 : Nat))) ^^^ (ts.getD (((x ^^^ b) &&& 15).toNat) 0))] [Ent.blk bx 29 [vU32 ((UInt32.ofBitVec (x.toBitVec >>> (4 : Nat))) ^^^ (ts.getD (((x ^^^ b) &&& 15).toNat) 0))], Ent.blk bt 136 (ts.map vU32)] rfl rfl rfl Ty.sz29 rfl (Nat.le_of_ble_eq_true rfl) rfl rfl rfl ?_)
  refine JA_done (by kernel_rfl) (fun _ h => ⟨h.keep [false, true] rfl, fun hh => Bool.noConfusion (show false = true from hh)⟩) ?_
  refine JX_end0 Try.results89 [Ent.blk bx 29 [vU32 ((UInt32.ofBitVec (x.toBitVec >>> (4 : Nat))) ^^^ (ts.getD (((x ^^^ b) &&& 15).toNat) 0))], Ent.blk bt 136 (ts.map vU32)] (fun _ h => h) ⟨?_, ?_⟩
  · rfl
  · have e_y0 : ((UInt32.ofBitVec (x.toBitVec >>> (4 : Nat))) ^^^ (ts.getD (((x ^^^ b) &&& 15).toNat) 0) : UInt32) = R02.nib ts x b := by
      rfl
    have e_all := (congrArg (fun (y0 : UInt32) => [Ent.blk bx 29 [vU32 y0], Ent.blk bt 136 (ts.map vU32)]) e_y0)
    exact e_all
set_option maxRecDepth 20000 in
theorem f76_ok (sum : UInt32) (s : Bytes) (w : World) (q0 : s.length ≤ 4611686018427387904) : Calls Try.prog 76 #[vU32 sum, vS s] w (Gives [] w fun v L => v = vU32 (R02.updateN sum s) ∧ L = []) := by
  have htab : R02.tab.length = 16 := rfl
  refine calls_J [] 35 Try.func76 rfl Try.ntmps76 [(0, vU32 sum), (1, vS s)] rfl rfl (Give.nil w) ?_
  refine J_seq (J_region ?_)
  refine jr_ (vU32 0) ?_
  refine JO_nil (JX_then (J_seq (J_region ?_)))
  refine JO_call [] [] [] rfl trivial (fun _ => x_call Ty.ca88 rfl) (fun _ h => h) (fun _ h => by cases h) (fun w hS => f88_ok w) ?_
  rintro _ _ ⟨rfl, rfl⟩
  refine JO_op rfl trivial (O_alloc Ty.ze136 rfl fun b1 => ?_)
  refine JO_op rfl trivial (O_storeA 0 vU32 [Ent.blk b1 136 (R02.tab.map vU32)] rfl rfl rfl Ty.sz136 rfl lt_ (fun _ => rfl) rfl ?_)
  refine JO_nil (JX_then (J_seq (J_region ?_)))
  refine jr_ (vU32 sum) ?_
  refine JO_read (vU32 (~~~sum)) rfl trivial (fun _ _ => x_com_u32 rfl) ?_
  refine JO_op rfl trivial (O_alloc Ty.ze29 rfl fun b2 => ?_)
  refine JO_op rfl trivial (O_store 0 [vU32 (~~~sum)] [Ent.blk b2 29 [vU32 (~~~sum)], Ent.blk b1 136 (R02.tab.map vU32)] rfl rfl rfl Ty.sz29 rfl (Nat.le_of_ble_eq_true rfl) rfl rfl rfl ?_)
  refine JO_nil (JX_then (J_seq (J_region ?_)))
  refine JO_read (Value.func (.func 89) #[] #[Value.pointer (some ⟨b2, 0, none⟩), Value.pointer (some ⟨b1, 0, none⟩)]) rfl trivial (fun _ _ => x_makeFunc rfl rfl) ?_
  refine jr_ (Value.func (.func 89) #[] #[Value.pointer (some ⟨b2, 0, none⟩), Value.pointer (some ⟨b1, 0, none⟩)]) ?_
  refine JO_nil (JX_then (J_seq (J_seq (J_region ?_))))
  refine jr_ (vI 0) ?_
  refine JO_nil (JX_then (J_block ?_))
  refine J_loop (X := Nat × UInt32) (fun (⟨k, x⟩ : Nat × UInt32) => (k ≤ s.length) ∧ (x = (s.take k).foldl R02.byteN (~~~sum))) (fun (⟨k, x⟩ : Nat × UInt32) => [(1, vS s), (4, vU32 0), (6, Value.pointer (some ⟨b2, 0, none⟩)), (7, Value.func (.func 89) #[] #[Value.pointer (some ⟨b2, 0, none⟩), Value.pointer (some ⟨b1, 0, none⟩)]), (8, vI ((k : Nat) : Int))]) (fun (⟨k, x⟩ : Nat × UInt32) => [Ent.blk b2 29 [vU32 x], Ent.blk b1 136 (R02.tab.map vU32)]) (fun (⟨k, x⟩ : Nat × UInt32) => s.length - k) ((0, ~~~sum) : Nat × UInt32) ?_ ⟨rfl, rfl, rfl, rfl, rfl, trivial⟩ (fun _ h => h) ?_
  · show (0 ≤ s.length) ∧ ((~~~sum) = (s.take 0).foldl R02.byteN (~~~sum))
    refine ⟨?_, ?_⟩
    · first | rfl | omega | (simp_all; done) | (simp_all; omega)
    · rfl
  rintro ⟨k, x⟩ hI1
  obtain ⟨i1_0, i1_1⟩ : (k ≤ s.length) ∧ (x = (s.take k).foldl R02.byteN (~~~sum)) := hI1
  refine J_weaken (E' := [(1, vS s), (4, vU32 0), (6, Value.pointer (some ⟨b2, 0, none⟩)), (7, Value.func (.func 89) #[] #[Value.pointer (some ⟨b2, 0, none⟩), Value.pointer (some ⟨b1, 0, none⟩)]), (8, vI ((k : Nat) : Int))]) (L' := [Ent.blk b2 29 [vU32 x], Ent.blk b1 136 (R02.tab.map vU32)]) ⟨rfl, rfl, rfl, rfl, rfl, trivial⟩ (fun _ h => h) ?_
  refine J_seq (J_seq (J_region ?_))
  refine jr_ (vI ((k : Nat) : Int)) ?_
  refine jr_ (vS s) ?_
  refine JO_read (vI ((s.length : Nat) : Int)) rfl trivial (fun _ _ => x_len_s rfl Try.underlying9) ?_
  refine JO_read (vB (decide (((k : Nat) : Int) < ((s.length : Nat) : Int)))) rfl trivial (fun _ _ => x_lss_i rfl rfl) ?_
  refine JO_nil (JX_then ?_)
  refine J_cond (decide (((k : Nat) : Int) < ((s.length : Nat) : Int))) rfl rfl (fun h3 => ?_) (fun h3 => ?_)
  · have h3 := of_decide_eq_true h3
    refine J_skip (JX_then (J_seq (J_block (J_seq (J_region ?_)))))
    refine jr_ (Value.func (.func 89) #[] #[Value.pointer (some ⟨b2, 0, none⟩), Value.pointer (some ⟨b1, 0, none⟩)]) ?_
    refine jr_ (vS s) ?_
    refine jr_ (vI ((k : Nat) : Int)) ?_
    refine JO_read (vU8 (s.getD k 0)) rfl trivial (fun _ _ => x_idx_s (k := k) rfl rfl Try.underlying9 (by omega)) ?_
    refine JO_read (vU32 ((s.getD k 0).toUInt32)) rfl trivial (fun _ _ => x_conv_u8_u32 rfl Try.underlying5 Try.underlying29) ?_
    refine JO_read (vU32 (((s.getD k 0).toUInt32) &&& 15)) rfl trivial (fun _ _ => x_and_u32 rfl rfl) ?_
    refine JO_call [b2, b1] [Ent.blk b2 29 [vU32 x], Ent.blk b1 136 (R02.tab.map vU32)] [] rfl trivial (fun _ => x_callv (first := []) (caps := [Value.pointer (some ⟨b2, 0, none⟩), Value.pointer (some ⟨b1, 0, none⟩)]) rfl Ty.ca89 rfl) (fun _ h => h) (own_mem rfl) (fun w hS => f89_ok (((s.getD k 0).toUInt32) &&& 15) b2 b1 x R02.tab w hy_ (hS.give (own_in rfl))) ?_
    rintro _ _ ⟨rfl, rfl⟩
    refine JO_nil (JX_then (J_region ?_))
    refine jr_ (Value.func (.func 89) #[] #[Value.pointer (some ⟨b2, 0, none⟩), Value.pointer (some ⟨b1, 0, none⟩)]) ?_
    refine jr_ (vS s) ?_
    refine jr_ (vI ((k : Nat) : Int)) ?_
    refine JO_read (vU8 (s.getD k 0)) rfl trivial (fun _ _ => x_idx_s (k := k) rfl rfl Try.underlying9 (by omega)) ?_
    refine JO_read (vU32 ((s.getD k 0).toUInt32)) rfl trivial (fun _ _ => x_conv_u8_u32 rfl Try.underlying5 Try.underlying29) ?_
    refine JO_read (vU32 (UInt32.ofBitVec (((s.getD k 0).toUInt32).toBitVec >>> (4 : Nat)))) rfl trivial (fun _ _ => x_shr_u32 (m := 4) rfl rfl (by decide)) ?_
    refine JO_call [b2, b1] [Ent.blk b2 29 [vU32 (R02.nib R02.tab x (((s.getD k 0).toUInt32) &&& 15))], Ent.blk b1 136 (R02.tab.map vU32)] [] rfl trivial (fun _ => x_callv (first := []) (caps := [Value.pointer (some ⟨b2, 0, none⟩), Value.pointer (some ⟨b1, 0, none⟩)]) rfl Ty.ca89 rfl) (fun _ h => h) (own_mem rfl) (fun w hS => f89_ok (UInt32.ofBitVec (((s.getD k 0).toUInt32).toBitVec >>> (4 : Nat))) b2 b1 (R02.nib R02.tab x (((s.getD k 0).toUInt32) &&& 15)) R02.tab w hy_ (hS.give (own_in rfl))) ?_
    rintro _ _ ⟨rfl, rfl⟩
    refine JO_nil (JX_block (JX_then (J_region ?_)))
    refine jr_ (vI ((k : Nat) : Int)) ?_
    refine JO_read (vI ((k + 1 : Nat) : Int)) rfl trivial (fun _ _ => x_add_n (a := k) (b := 1) rfl rfl (by omega)) ?_
    refine jr_ (vI ((k + 1 : Nat) : Int)) ?_
    refine JO_nil ?_
    refine JX_round ((k + 1, R02.nib R02.tab (R02.nib R02.tab x (((s.getD k 0).toUInt32) &&& 15)) (UInt32.ofBitVec (((s.getD k 0).toUInt32).toBitVec >>> (4 : Nat)))) : Nat × UInt32) ?_ ?_ ⟨rfl, rfl, rfl, rfl, rfl, trivial⟩ (fun _ h => h)
    · show ((k + 1) ≤ s.length) ∧ ((R02.nib R02.tab (R02.nib R02.tab x (((s.getD k 0).toUInt32) &&& 15)) (UInt32.ofBitVec (((s.getD k 0).toUInt32).toBitVec >>> (4 : Nat)))) = (s.take (k + 1)).foldl R02.byteN (~~~sum))
      refine ⟨?_, ?_⟩
      · first | rfl | omega | (simp_all; done) | (simp_all; omega)
      · subst i1_1; rw [R02.fold_take_succ _ _ _ 0 _ (by omega)]; rfl
    · show s.length - (k + 1) < s.length - k
      first | omega | (simp; omega) | (simp_all; omega)
  · have h3 := of_decide_eq_false h3
    refine J_exit (JX_then_exit (JX_round_exit (JX_block_hit (JX_then (J_seq ?_)))))
    refine J_region ?_
    refine JO_read (vU32 x) rfl trivial (x_load 0 rfl rfl Ty.sc29 rfl) ?_
    refine JO_read (vU32 (~~~x)) rfl trivial (fun _ _ => x_com_u32 rfl) ?_
    refine jr_ (vU32 (~~~x)) ?_
    refine JO_nil (JX_then (J_ret ?_))
    refine JX_rets [vU32 (~~~x)] (vU32 (~~~x)) Try.results76 (fun w h => ⟨rfl, trivial⟩) rfl [] (fun _ h => h.keep [false, false] rfl) ⟨?_, ?_⟩
    · have e_x0 : (~~~x : UInt32) = (R02.updateN sum s) := by simp only [R02.updateN]; rw [i1_1, show k = s.length by omega, List.take_length]
      exact congrArg (fun (x0 : UInt32) => vU32 x0) e_x0
    · rfl
set_option maxRecDepth 20000 in
theorem f55_ok (s : Bytes) (w : World) (q0 : s.length ≤ 4611686018427387904) : Calls Try.prog 55 #[vS s] w (Gives [] w fun v L => v = vU32 (R02.updateN 0 s) ∧ L = []) := by
  refine calls_J [] 5 Try.func55 rfl Try.ntmps55 [(0, vS s)] rfl rfl (Give.nil w) ?_
  refine J_seq (J_region ?_)
  refine jr_ (vU32 0) ?_
  refine JO_nil (JX_then (J_seq (J_region ?_)))
  refine jr_ (vS s) ?_
  refine JO_call [] [] [] rfl trivial (fun _ => x_call Ty.ca76 rfl) (fun _ h => h) (fun _ h => by cases h) (fun w hS => f76_ok (0 : UInt32) s w hy_) ?_
  rintro _ _ ⟨rfl, rfl⟩
  refine jr_ (vU32 (R02.updateN (0 : UInt32) s)) ?_
  refine JO_nil (JX_then (J_ret ?_))
  refine JX_rets [vU32 (R02.updateN (0 : UInt32) s)] (vU32 (R02.updateN (0 : UInt32) s)) Try.results55 (fun w h => ⟨rfl, trivial⟩) rfl [] (fun _ h => h) ⟨?_, ?_⟩
  · have e_x0 : (R02.updateN (0 : UInt32) s : UInt32) = (R02.updateN 0 s) := by first | rfl | omega | (simp_all; done) | (simp_all; omega)
    exact congrArg (fun (x0 : UInt32) => vU32 x0) e_x0
  · rfl
set_option maxRecDepth 20000 in
theorem f31_ok (s : Bytes) (w : World) (q0 : s.length ≤ 4611686018427387904) : Calls Try.prog 31 #[vS s] w (Gives [] w fun v L => v = vS (s ++ R02.le (R02.updateN 0 s)) ∧ L = []) := by
  refine calls_J [] 8 Try.func31 rfl Try.ntmps31 [(0, vS s)] rfl rfl (Give.nil w) ?_
  refine J_seq (J_region ?_)
  refine jr_ (vS []) ?_
  refine JO_nil (JX_then (J_seq (J_region ?_)))
  refine jr_ (vS s) ?_
  refine jr_ (vS s) ?_
  refine JO_call [] [] [] rfl trivial (fun _ => x_call Ty.ca55 rfl) (fun _ h => h) (fun _ h => by cases h) (fun w hS => f55_ok s w hy_) ?_
  rintro _ _ ⟨rfl, rfl⟩
  refine JO_call [] [] [] rfl trivial (fun _ => x_call Ty.ca54 rfl) (fun _ h => h) (fun _ h => by cases h) (fun w hS => f54_ok (R02.updateN 0 s) w) ?_
  rintro _ _ ⟨rfl, rfl⟩
  refine JO_read (vS (s ++ (R02.le (R02.updateN 0 s)))) rfl trivial (fun _ _ => x_cat_s rfl rfl (by first | omega | (simp only [List.length_append, List.length_cons, List.length_nil]; omega) | (simp; omega) | (simp_all; omega))) ?_
  refine jr_ (vS (s ++ (R02.le (R02.updateN 0 s)))) ?_
  refine JO_nil (JX_then (J_ret ?_))
  refine JX_rets [vS (s ++ (R02.le (R02.updateN 0 s)))] (vS (s ++ (R02.le (R02.updateN 0 s)))) Try.results31 (fun w h => ⟨rfl, trivial⟩) rfl [] (fun _ h => h) ⟨?_, ?_⟩
  · have e_x0 : (s ++ (R02.le (R02.updateN 0 s)) : Bytes) = (s ++ R02.le (R02.updateN 0 s)) := by first | rfl | omega | (simp_all; done) | (simp_all; omega)
    exact congrArg (fun (x0 : Bytes) => vS x0) e_x0
  · rfl
end Go.Proofs.Ytodfebhimadaiaa
