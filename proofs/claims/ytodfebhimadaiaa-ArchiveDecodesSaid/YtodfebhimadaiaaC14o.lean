/- contracts C14o -/
import Derived.Test.YtodfebhimadaiaaC14n
import Derived.Test.YtodfebhimadaiaaC14l
import Derived.Test.YtodfebhimadaiaaPl14i
namespace Go.Proofs.Ytodfebhimadaiaa
open Go.GV
set_option linter.unusedVariables false
set_option linter.unusedSimpArgs false
set_option maxHeartbeats 2000000 in
set_option maxRecDepth 20000 in
theorem f29_ok (s : Bytes) (w : World) (q0 : s.length ≤ 1000000) : Calls Try.prog 29 #[vS s] w (Gives [] w fun v L => ∃ A : Option Addr, ∃ c : Nat, v = Value.tuple #[Value.agg ((DataSet.enc (R14.svD R02.update s) ++ [vI (R14.svN R02.update s), Value.slice A ((R14.svP R02.update s).length) c])).toArray, vI (R14.svM R02.update s), vI (R14.svE R02.update s)] ∧ L = [Ent.row (.slice A (R14.svP R02.update s).length c) 54 2 (R14.svP R02.update s).length ((R14.svP R02.update s).flatMap Pair.enc)]) := by
  refine calls_J [] 123 Try.func29 rfl Try.ntmps29 [(0, vS s)] rfl rfl (Give.nil w) ?_
  refine J_seq (J_region ?_)
  refine JO_op rfl trivial (O_alloc Ty.ze37 rfl fun b1 => ?_)
  refine jr_ (vI 0) ?_
  refine jr_ (vI 0) ?_
  refine JO_nil (JX_then (J_seq (J_region ?_)))
  refine JO_op rfl trivial (O_buildSlice0 Try.underlying91 Ty.sz93 fun b2 => ?_)
  refine jr_ (Value.slice (some ⟨b2, 0, none⟩) 0 0) ?_
  refine JO_nil (JX_then (J_seq (J_seq (J_region ?_))))
  refine jr_ (vI 0) ?_
  refine JO_nil (JX_then (J_block ?_))
  refine J_loop (X := Nat × Nat × (List Piece) × (Option Addr) × Nat) (fun (⟨k, o, l, lA, lC⟩ : Nat × Nat × (List Piece) × (Option Addr) × Nat) => (64 * k ≤ s.length) ∧ (o = 64 * k) ∧ (R14.gL l = R14.lkF (R14.coll R02.update s k)) ∧ (l.length ≤ 65536)) (fun (⟨k, o, l, lA, lC⟩ : Nat × Nat × (List Piece) × (Option Addr) × Nat) => [(0, vS s), (2, Value.pointer (some ⟨b1, 0, none⟩)), (3, vI 0), (4, vI 0), (5, Value.slice lA l.length lC), (6, vI ((o : Nat) : Int))]) (fun (⟨k, o, l, lA, lC⟩ : Nat × Nat × (List Piece) × (Option Addr) × Nat) => [Ent.blk b1 37 [vI 0, vI 0, vI 0, vI 0, vI 0, vI 0, vI 0, vI 0, vI 0, vI 0, vI 0, vI 0, vI 0, vI 0, vB false, vI 0, vS [], vS [], vI 0, vI 0, vB false, vI 0, Value.slice none 0 0], Ent.row (.slice lA l.length lC) 93 4 l.length (l.flatMap Piece.enc)]) (fun (⟨k, o, l, lA, lC⟩ : Nat × Nat × (List Piece) × (Option Addr) × Nat) => s.length - o) ((0, 0, ([] : List Piece), (some ⟨b2, 0, none⟩), 0) : Nat × Nat × (List Piece) × (Option Addr) × Nat) ?_ ⟨rfl, rfl, rfl, rfl, rfl, rfl, trivial⟩ (fun _ h => ((St.torow (cs := []) h 4 0 rfl (by decide)).front 1 _ rfl).keep [true, true] rfl) ?_
  · show (64 * 0 ≤ s.length) ∧ (0 = 64 * 0) ∧ (R14.gL ([] : List Piece) = R14.lkF (R14.coll R02.update s 0)) ∧ (([] : List Piece).length ≤ 65536)
    refine ⟨?_, ?_, ?_, ?_⟩
    · first | rfl | omega | (simp_all; done) | (simp_all; omega)
    · rfl
    · exact R14.gL_nil
    · exact Nat.zero_le _
  rintro ⟨k, o, l, lA, lC⟩ hI1
  obtain ⟨i1_0, i1_1, i1_2, i1_3⟩ : (64 * k ≤ s.length) ∧ (o = 64 * k) ∧ (R14.gL l = R14.lkF (R14.coll R02.update s k)) ∧ (l.length ≤ 65536) := hI1
  have hrn := R14.rfN_range R02.update (sub s o (o + 64))
  refine J_weaken (E' := [(0, vS s), (2, Value.pointer (some ⟨b1, 0, none⟩)), (3, vI 0), (4, vI 0), (5, Value.slice lA l.length lC), (6, vI ((o : Nat) : Int))]) (L' := [Ent.blk b1 37 [vI 0, vI 0, vI 0, vI 0, vI 0, vI 0, vI 0, vI 0, vI 0, vI 0, vI 0, vI 0, vI 0, vI 0, vB false, vI 0, vS [], vS [], vI 0, vI 0, vB false, vI 0, Value.slice none 0 0], Ent.row (.slice lA l.length lC) 93 4 l.length (l.flatMap Piece.enc)]) ⟨rfl, rfl, rfl, rfl, rfl, rfl, trivial⟩ (fun _ h => h) ?_
  refine J_seq (J_seq (J_region ?_))
  refine jr_ (vI ((o : Nat) : Int)) ?_
  refine JO_read (vI ((o + 64 : Nat) : Int)) rfl trivial (fun _ _ => x_add_n (a := o) (b := 64) rfl rfl (by omega)) ?_
  refine jr_ (vS s) ?_
  refine JO_read (vI ((s.length : Nat) : Int)) rfl trivial (fun _ _ => x_len_s rfl Try.underlying9) ?_
  refine JO_read (vB (decide (((o + 64 : Nat) : Int) ≤ ((s.length : Nat) : Int)))) rfl trivial (fun _ _ => x_leq_i rfl rfl) ?_
  refine JO_nil (JX_then ?_)
  refine J_cond (decide (((o + 64 : Nat) : Int) ≤ ((s.length : Nat) : Int))) rfl rfl (fun h3 => ?_) (fun h3 => ?_)
  · have h3w := h3
    have h3 := of_decide_eq_true h3
    refine J_skip (JX_then (J_seq (J_block (J_seq (J_region ?_)))))
    refine jr_ (vS s) ?_
    refine jr_ (vI ((o : Nat) : Int)) ?_
    refine jr_ (vI ((o : Nat) : Int)) ?_
    refine JO_read (vI ((o + 64 : Nat) : Int)) rfl trivial (fun _ _ => x_add_n (a := o) (b := 64) rfl rfl (by omega)) ?_
    refine JO_read (vS (sub s o (o + 64))) rfl trivial (fun _ _ => x_sub_s (lo := o) (hi := o + 64) rfl Try.underlying9 (.inl rfl) (.inl rfl) lt_ (by first | omega | (simp only [sub, List.length_drop, List.length_take]; omega) | (simp; omega) | (simp_all; omega))) ?_
    refine JO_call [] [] [Ent.blk b1 37 [vI 0, vI 0, vI 0, vI 0, vI 0, vI 0, vI 0, vI 0, vI 0, vI 0, vI 0, vI 0, vI 0, vI 0, vB false, vI 0, vS [], vS [], vI 0, vI 0, vB false, vI 0, Value.slice none 0 0], Ent.row (.slice lA l.length lC) 93 4 l.length (l.flatMap Piece.enc)] rfl trivial (fun _ => x_call Ty.ca12 rfl) (fun _ h => h) (fun _ h => by cases h) (fun w hS => f12_ok (sub s o (o + 64)) w hy_) ?_
    rintro _ _ ⟨rfl, rfl⟩
    refine jr_ (Value.tuple #[vI (R14.rfN R02.update (sub s o (o + 64))), vB (R14.rfA R02.update (sub s o (o + 64))), vB (R14.rfB R02.update (sub s o (o + 64))), vS (R14.rfD R02.update (sub s o (o + 64))), vI (R14.rfE R02.update (sub s o (o + 64)))]) ?_
    refine jr_ (vI (R14.rfN R02.update (sub s o (o + 64)))) ?_
    refine jr_ (vB (R14.rfA R02.update (sub s o (o + 64)))) ?_
    refine jr_ (vB (R14.rfB R02.update (sub s o (o + 64)))) ?_
    refine jr_ (vS (R14.rfD R02.update (sub s o (o + 64)))) ?_
    refine jr_ (vI (R14.rfE R02.update (sub s o (o + 64)))) ?_
    refine jr_ (vI (R14.rfN R02.update (sub s o (o + 64)))) ?_
    refine jr_ (vB (R14.rfA R02.update (sub s o (o + 64)))) ?_
    refine jr_ (vB (R14.rfB R02.update (sub s o (o + 64)))) ?_
    refine jr_ (vS (R14.rfD R02.update (sub s o (o + 64)))) ?_
    refine jr_ (vI (R14.rfE R02.update (sub s o (o + 64)))) ?_
    refine JO_nil (JX_then (J_seq (J_seq (J_region ?_))))
    refine jr_ (vI (R14.rfE R02.update (sub s o (o + 64)))) ?_
    refine JO_read (vB (decide (R14.rfE R02.update (sub s o (o + 64)) ≠ 0))) rfl trivial (fun _ _ => x_neq_i rfl rfl) ?_
    refine JO_nil (JX_then ?_)
    refine J_cond (decide (R14.rfE R02.update (sub s o (o + 64)) ≠ 0)) rfl rfl (fun h4 => ?_) (fun h4 => ?_)
    · have h4w := h4
      have h4 := of_decide_eq_true h4
      refine J_exit (JX_then_exit (JX_block_hit (JX_then (J_region ?_))))
      refine jr_ (vI ((o : Nat) : Int)) ?_
      refine JO_read (vI ((o + 64 : Nat) : Int)) rfl trivial (fun _ _ => x_add_n (a := o) (b := 64) rfl rfl (by omega)) ?_
      refine jr_ (vI ((o + 64 : Nat) : Int)) ?_
      refine JO_nil ?_
      refine JX_round ((k + 1, o + 64, l, lA, lC) : Nat × Nat × (List Piece) × (Option Addr) × Nat) ?_ ?_ ⟨rfl, rfl, rfl, rfl, rfl, rfl, trivial⟩ (fun _ h => h)
      · show (64 * (k + 1) ≤ s.length) ∧ ((o + 64) = 64 * (k + 1)) ∧ (R14.gL l = R14.lkF (R14.coll R02.update s (k + 1))) ∧ (l.length ≤ 65536)
        refine ⟨?_, ?_, ?_, ?_⟩
        · omega
        · first | rfl | omega | (simp_all; done) | (simp_all; omega)
        · subst i1_1; first | exact R14.rel_bad i1_2 (by assumption) | exact R14.rel_set i2_0 (Decidable.not_not.1 (by assumption)) (by assumption) (by assumption) | exact R14.rel_same i2_0 (by assumption) (by assumption)
        · first | omega | exact Nat.le_trans (Nat.le_of_eq List.length_set) i2_1
      · show s.length - (o + 64) < s.length - o
        first | omega | (simp; omega) | (simp_all; omega)
    · have h4w := h4
      have h4 := of_decide_eq_false h4
      refine J_skip (JX_then (J_seq (J_block ?_)))
      refine J_loop (X := (List Piece) × (Option Addr) × Nat) (fun (⟨l2, l2A, l2C⟩ : (List Piece) × (Option Addr) × Nat) => (R14.gL l2 = R14.lkF (R14.coll R02.update s k)) ∧ (l2.length ≤ 65536)) (fun (⟨l2, l2A, l2C⟩ : (List Piece) × (Option Addr) × Nat) => [(0, vS s), (2, Value.pointer (some ⟨b1, 0, none⟩)), (3, vI 0), (4, vI 0), (5, Value.slice l2A l2.length l2C), (6, vI ((o : Nat) : Int)), (7, vI (R14.rfN R02.update (sub s o (o + 64)))), (8, vB (R14.rfA R02.update (sub s o (o + 64)))), (9, vB (R14.rfB R02.update (sub s o (o + 64)))), (10, vS (R14.rfD R02.update (sub s o (o + 64))))]) (fun (⟨l2, l2A, l2C⟩ : (List Piece) × (Option Addr) × Nat) => [Ent.blk b1 37 [vI 0, vI 0, vI 0, vI 0, vI 0, vI 0, vI 0, vI 0, vI 0, vI 0, vI 0, vI 0, vI 0, vI 0, vB false, vI 0, vS [], vS [], vI 0, vI 0, vB false, vI 0, Value.slice none 0 0], Ent.row (.slice l2A l2.length l2C) 93 4 l2.length (l2.flatMap Piece.enc)]) (fun (⟨l2, l2A, l2C⟩ : (List Piece) × (Option Addr) × Nat) => 65536 - l2.length) ((l, lA, lC) : (List Piece) × (Option Addr) × Nat) ?_ ⟨rfl, rfl, rfl, rfl, rfl, rfl, rfl, rfl, rfl, rfl, trivial⟩ (fun _ h => h) ?_
      · show (R14.gL l = R14.lkF (R14.coll R02.update s k)) ∧ (l.length ≤ 65536)
        refine ⟨?_, ?_⟩
        · exact i1_2
        · exact i1_3
      rintro ⟨l2, l2A, l2C⟩ hI2
      obtain ⟨i2_0, i2_1⟩ : (R14.gL l2 = R14.lkF (R14.coll R02.update s k)) ∧ (l2.length ≤ 65536) := hI2
      refine J_weaken (E' := [(0, vS s), (2, Value.pointer (some ⟨b1, 0, none⟩)), (3, vI 0), (4, vI 0), (5, Value.slice l2A l2.length l2C), (6, vI ((o : Nat) : Int)), (7, vI (R14.rfN R02.update (sub s o (o + 64)))), (8, vB (R14.rfA R02.update (sub s o (o + 64)))), (9, vB (R14.rfB R02.update (sub s o (o + 64)))), (10, vS (R14.rfD R02.update (sub s o (o + 64))))]) (L' := [Ent.blk b1 37 [vI 0, vI 0, vI 0, vI 0, vI 0, vI 0, vI 0, vI 0, vI 0, vI 0, vI 0, vI 0, vI 0, vI 0, vB false, vI 0, vS [], vS [], vI 0, vI 0, vB false, vI 0, Value.slice none 0 0], Ent.row (.slice l2A l2.length l2C) 93 4 l2.length (l2.flatMap Piece.enc)]) ⟨rfl, rfl, rfl, rfl, rfl, rfl, rfl, rfl, rfl, rfl, trivial⟩ (fun _ h => h) ?_
      refine J_seq (J_seq (J_region ?_))
      refine jr_ (Value.slice l2A l2.length l2C) ?_
      refine JO_read (vI ((l2.length : Nat) : Int)) rfl trivial (fun _ _ => x_len_sl Try.underlying91 rfl) ?_
      refine jr_ (vI (R14.rfN R02.update (sub s o (o + 64)))) ?_
      refine JO_read (vB (decide (((l2.length : Nat) : Int) ≤ R14.rfN R02.update (sub s o (o + 64))))) rfl trivial (fun _ _ => x_leq_i rfl rfl) ?_
      refine JO_nil (JX_then ?_)
      refine J_cond (decide (((l2.length : Nat) : Int) ≤ R14.rfN R02.update (sub s o (o + 64)))) rfl rfl (fun h5 => ?_) (fun h5 => ?_)
      · have h5w := h5
        have h5 := of_decide_eq_true h5
        refine J_skip (JX_then (J_block (J_region ?_)))
        refine jr_ (Value.slice l2A l2.length l2C) ?_
        refine JO_read (Value.agg #[vB false, vB false, vB false, vS []]) rfl trivial (fun _ _ => x_build (by kernel_rfl)) ?_
        refine JO_op rfl trivial (O_buildSlice (cs := [vB false, vB false, vB false, vS []]) Try.underlying91 Ty.sz93 Ty.ze93 (by decide) (by decide) (by kernel_rfl) fun b6 => ?_)
        refine JO_op rfl trivial (O_append_f 2 Piece.enc 4 l2 [(Piece.mk false false false [])] Try.underlying91 Ty.sz93 Ty.by93 Ty.ze93 rfl (by decide) rfl rfl rfl rfl Piece.enc_len Piece.enc_one (cells_blk 0 (off := 0) (m := 4) rfl rfl) lt_ lt_ fun A7 c8 => ?_)
        refine jr_ (Value.slice A7 ((l2 ++ [(Piece.mk false false false [])]).length) c8) ?_
        refine JO_nil (JX_block ?_)
        refine JX_round ((l2 ++ [(Piece.mk false false false [])], A7, c8) : (List Piece) × (Option Addr) × Nat) ?_ ?_ ⟨rfl, rfl, rfl, rfl, rfl, rfl, rfl, rfl, rfl, rfl, trivial⟩ (fun _ h => h.keep [false, true, true] rfl)
        · show (R14.gL (l2 ++ [(Piece.mk false false false [])]) = R14.lkF (R14.coll R02.update s k)) ∧ ((l2 ++ [(Piece.mk false false false [])]).length ≤ 65536)
          refine ⟨?_, ?_⟩
          · exact (R14.gL_append rfl).trans i2_0
          · rw [List.length_append]; simp only [List.length_cons, List.length_nil]; omega
        · show 65536 - (l2 ++ [(Piece.mk false false false [])]).length < 65536 - l2.length
          first | omega | (simp; omega) | (simp_all; omega)
      · have h5w := h5
        have h5 := of_decide_eq_false h5
        refine J_exit (JX_then_exit (JX_round_exit (JX_block_hit (JX_then (J_seq ?_)))))
        refine J_region ?_
        refine jr_ (Value.slice l2A l2.length l2C) ?_
        refine jr_ (vI (R14.rfN R02.update (sub s o (o + 64)))) ?_
        refine JO_read (Value.pointer (some (adr l2A (((R14.rfN R02.update (sub s o (o + 64))).toNat) * 4)))) rfl trivial (x_indexAddr_at (k := (R14.rfN R02.update (sub s o (o + 64))).toNat) (off := ((R14.rfN R02.update (sub s o (o + 64))).toNat) * 4) (cells_row 1 rfl) Try.underlying91 Ty.sz93 rfl (ix_nat rfl (by omega)) lt_ (by rw [flat_length Piece.enc 4 Piece.enc_len]; first | omega | (simp; omega) | (simp_all; omega) | (simp_all; done)) rfl) ?_
        refine JO_read (Value.pointer (some (adr l2A (((R14.rfN R02.update (sub s o (o + 64))).toNat) * 4)))) rfl trivial (fun _ _ => x_fieldAddr Ty.fi93_0 rfl rfl) ?_
        refine JO_read (vB ((l2.getD ((R14.rfN R02.update (sub s o (o + 64))).toNat) default).ok)) rfl trivial (x_load_at (cells_row 1 rfl) rfl Ty.sc4 (flat_at Piece.enc 4 Piece.enc_len l2 default ((R14.rfN R02.update (sub s o (o + 64))).toNat) 0 lt_ (by decide))) ?_
        refine JO_read (vB (!((l2.getD ((R14.rfN R02.update (sub s o (o + 64))).toNat) default).ok))) rfl trivial (fun _ _ => x_not rfl) ?_
        refine JO_nil (JX_then ?_)
        refine J_cond (!((l2.getD ((R14.rfN R02.update (sub s o (o + 64))).toNat) default).ok)) rfl rfl (fun h9 => ?_) (fun h9 => ?_)
        · have h9w := h9
          have h9 : ((l2.getD ((R14.rfN R02.update (sub s o (o + 64))).toNat) default).ok) = false := bnot_true h9
          refine J_region ?_
          refine jr_ (Value.slice l2A l2.length l2C) ?_
          refine jr_ (vI (R14.rfN R02.update (sub s o (o + 64)))) ?_
          refine jr_ (vB (R14.rfA R02.update (sub s o (o + 64)))) ?_
          refine jr_ (vB (R14.rfB R02.update (sub s o (o + 64)))) ?_
          refine jr_ (vS (R14.rfD R02.update (sub s o (o + 64)))) ?_
          refine JO_read (Value.agg #[vB true, vB (R14.rfA R02.update (sub s o (o + 64))), vB (R14.rfB R02.update (sub s o (o + 64))), vS (R14.rfD R02.update (sub s o (o + 64)))]) rfl trivial (fun _ _ => x_build (by kernel_rfl)) ?_
          refine JO_read (Value.pointer (some (adr l2A (((R14.rfN R02.update (sub s o (o + 64))).toNat) * 4)))) rfl trivial (x_indexAddr_at (k := (R14.rfN R02.update (sub s o (o + 64))).toNat) (off := ((R14.rfN R02.update (sub s o (o + 64))).toNat) * 4) (cells_row 1 rfl) Try.underlying91 Ty.sz93 rfl (ix_nat rfl (by omega)) lt_ (by rw [flat_length Piece.enc 4 Piece.enc_len]; first | omega | (simp; omega) | (simp_all; omega) | (simp_all; done)) rfl) ?_
          refine JO_op rfl trivial (O_store_row_f (a := (Piece.mk true (R14.rfA R02.update (sub s o (o + 64))) (R14.rfB R02.update (sub s o (o + 64))) (R14.rfD R02.update (sub s o (o + 64))))) (xs := l2) (k := (R14.rfN R02.update (sub s o (o + 64))).toNat) 1 Piece.enc [Ent.blk b1 37 [vI 0, vI 0, vI 0, vI 0, vI 0, vI 0, vI 0, vI 0, vI 0, vI 0, vI 0, vI 0, vI 0, vI 0, vB false, vI 0, vS [], vS [], vI 0, vI 0, vB false, vI 0, Value.slice none 0 0], Ent.row (.slice l2A (l2.set ((R14.rfN R02.update (sub s o (o + 64))).toNat) (Piece.mk true (R14.rfA R02.update (sub s o (o + 64))) (R14.rfB R02.update (sub s o (o + 64))) (R14.rfD R02.update (sub s o (o + 64))))).length l2C) 93 4 (l2.set ((R14.rfN R02.update (sub s o (o + 64))).toNat) (Piece.mk true (R14.rfA R02.update (sub s o (o + 64))) (R14.rfB R02.update (sub s o (o + 64))) (R14.rfD R02.update (sub s o (o + 64))))).length ((l2.set ((R14.rfN R02.update (sub s o (o + 64))).toNat) (Piece.mk true (R14.rfA R02.update (sub s o (o + 64))) (R14.rfB R02.update (sub s o (o + 64))) (R14.rfD R02.update (sub s o (o + 64))))).flatMap Piece.enc)] rfl rfl rfl Ty.sz93 Piece.enc_len Piece.enc_one lt_ rfl ?_)
          refine JO_weaken (E' := [(0, vS s), (2, Value.pointer (some ⟨b1, 0, none⟩)), (3, vI 0), (4, vI 0), (5, Value.slice l2A ((l2.set ((R14.rfN R02.update (sub s o (o + 64))).toNat) (Piece.mk true (R14.rfA R02.update (sub s o (o + 64))) (R14.rfB R02.update (sub s o (o + 64))) (R14.rfD R02.update (sub s o (o + 64))))).length) l2C), (6, vI ((o : Nat) : Int)), (7, vI (R14.rfN R02.update (sub s o (o + 64)))), (8, vB (R14.rfA R02.update (sub s o (o + 64)))), (9, vB (R14.rfB R02.update (sub s o (o + 64)))), (10, vS (R14.rfD R02.update (sub s o (o + 64)))), (46, Value.slice l2A ((l2.set ((R14.rfN R02.update (sub s o (o + 64))).toNat) (Piece.mk true (R14.rfA R02.update (sub s o (o + 64))) (R14.rfB R02.update (sub s o (o + 64))) (R14.rfD R02.update (sub s o (o + 64))))).length) l2C), (47, vI ((l2.length : Nat) : Int)), (48, vI (R14.rfN R02.update (sub s o (o + 64)))), (49, vB (decide (((l2.length : Nat) : Int) ≤ R14.rfN R02.update (sub s o (o + 64))))), (54, Value.slice l2A ((l2.set ((R14.rfN R02.update (sub s o (o + 64))).toNat) (Piece.mk true (R14.rfA R02.update (sub s o (o + 64))) (R14.rfB R02.update (sub s o (o + 64))) (R14.rfD R02.update (sub s o (o + 64))))).length) l2C), (55, vI (R14.rfN R02.update (sub s o (o + 64)))), (56, Value.pointer (some (adr l2A (((R14.rfN R02.update (sub s o (o + 64))).toNat) * 4)))), (57, Value.pointer (some (adr l2A (((R14.rfN R02.update (sub s o (o + 64))).toNat) * 4)))), (58, vB ((l2.getD ((R14.rfN R02.update (sub s o (o + 64))).toNat) default).ok)), (59, vB (!((l2.getD ((R14.rfN R02.update (sub s o (o + 64))).toNat) default).ok))), (60, Value.slice l2A ((l2.set ((R14.rfN R02.update (sub s o (o + 64))).toNat) (Piece.mk true (R14.rfA R02.update (sub s o (o + 64))) (R14.rfB R02.update (sub s o (o + 64))) (R14.rfD R02.update (sub s o (o + 64))))).length) l2C), (61, vI (R14.rfN R02.update (sub s o (o + 64)))), (62, vB (R14.rfA R02.update (sub s o (o + 64)))), (63, vB (R14.rfB R02.update (sub s o (o + 64)))), (64, vS (R14.rfD R02.update (sub s o (o + 64)))), (65, Value.agg #[vB true, vB (R14.rfA R02.update (sub s o (o + 64))), vB (R14.rfB R02.update (sub s o (o + 64))), vS (R14.rfD R02.update (sub s o (o + 64)))]), (66, Value.pointer (some (adr l2A (((R14.rfN R02.update (sub s o (o + 64))).toNat) * 4))))]) (L' := [Ent.blk b1 37 [vI 0, vI 0, vI 0, vI 0, vI 0, vI 0, vI 0, vI 0, vI 0, vI 0, vI 0, vI 0, vI 0, vI 0, vB false, vI 0, vS [], vS [], vI 0, vI 0, vB false, vI 0, Value.slice none 0 0], Ent.row (.slice l2A (l2.set ((R14.rfN R02.update (sub s o (o + 64))).toNat) (Piece.mk true (R14.rfA R02.update (sub s o (o + 64))) (R14.rfB R02.update (sub s o (o + 64))) (R14.rfD R02.update (sub s o (o + 64))))).length l2C) 93 4 (l2.set ((R14.rfN R02.update (sub s o (o + 64))).toNat) (Piece.mk true (R14.rfA R02.update (sub s o (o + 64))) (R14.rfB R02.update (sub s o (o + 64))) (R14.rfD R02.update (sub s o (o + 64))))).length ((l2.set ((R14.rfN R02.update (sub s o (o + 64))).toNat) (Piece.mk true (R14.rfA R02.update (sub s o (o + 64))) (R14.rfB R02.update (sub s o (o + 64))) (R14.rfD R02.update (sub s o (o + 64))))).flatMap Piece.enc)]) ⟨rfl, rfl, rfl, rfl, (congrArg (fun n : Nat => some (Value.slice l2A n l2C)) (set_len l2 ((R14.rfN R02.update (sub s o (o + 64))).toNat) (Piece.mk true (R14.rfA R02.update (sub s o (o + 64))) (R14.rfB R02.update (sub s o (o + 64))) (R14.rfD R02.update (sub s o (o + 64))))).symm), rfl, rfl, rfl, rfl, rfl, (congrArg (fun n : Nat => some (Value.slice l2A n l2C)) (set_len l2 ((R14.rfN R02.update (sub s o (o + 64))).toNat) (Piece.mk true (R14.rfA R02.update (sub s o (o + 64))) (R14.rfB R02.update (sub s o (o + 64))) (R14.rfD R02.update (sub s o (o + 64))))).symm), rfl, rfl, rfl, (congrArg (fun n : Nat => some (Value.slice l2A n l2C)) (set_len l2 ((R14.rfN R02.update (sub s o (o + 64))).toNat) (Piece.mk true (R14.rfA R02.update (sub s o (o + 64))) (R14.rfB R02.update (sub s o (o + 64))) (R14.rfD R02.update (sub s o (o + 64))))).symm), rfl, rfl, rfl, rfl, rfl, (congrArg (fun n : Nat => some (Value.slice l2A n l2C)) (set_len l2 ((R14.rfN R02.update (sub s o (o + 64))).toNat) (Piece.mk true (R14.rfA R02.update (sub s o (o + 64))) (R14.rfB R02.update (sub s o (o + 64))) (R14.rfD R02.update (sub s o (o + 64))))).symm), rfl, rfl, rfl, rfl, rfl, rfl, trivial⟩ (fun _ h => h) ?_
          refine JO_nil (JX_block (JX_then (J_region ?_)))
          refine jr_ (vI ((o : Nat) : Int)) ?_
          refine JO_read (vI ((o + 64 : Nat) : Int)) rfl trivial (fun _ _ => x_add_n (a := o) (b := 64) rfl rfl (by omega)) ?_
          refine jr_ (vI ((o + 64 : Nat) : Int)) ?_
          refine JO_nil ?_
          refine JX_round ((k + 1, o + 64, (l2.set ((R14.rfN R02.update (sub s o (o + 64))).toNat) (Piece.mk true (R14.rfA R02.update (sub s o (o + 64))) (R14.rfB R02.update (sub s o (o + 64))) (R14.rfD R02.update (sub s o (o + 64))))), l2A, l2C) : Nat × Nat × (List Piece) × (Option Addr) × Nat) ?_ ?_ ⟨rfl, rfl, rfl, rfl, rfl, rfl, trivial⟩ (fun _ h => h)
          · show (64 * (k + 1) ≤ s.length) ∧ ((o + 64) = 64 * (k + 1)) ∧ (R14.gL (l2.set ((R14.rfN R02.update (sub s o (o + 64))).toNat) (Piece.mk true (R14.rfA R02.update (sub s o (o + 64))) (R14.rfB R02.update (sub s o (o + 64))) (R14.rfD R02.update (sub s o (o + 64))))) = R14.lkF (R14.coll R02.update s (k + 1))) ∧ ((l2.set ((R14.rfN R02.update (sub s o (o + 64))).toNat) (Piece.mk true (R14.rfA R02.update (sub s o (o + 64))) (R14.rfB R02.update (sub s o (o + 64))) (R14.rfD R02.update (sub s o (o + 64))))).length ≤ 65536)
            refine ⟨?_, ?_, ?_, ?_⟩
            · omega
            · first | rfl | omega | (simp_all; done) | (simp_all; omega)
            · subst i1_1; first | exact R14.rel_bad i1_2 (by assumption) | exact R14.rel_set i2_0 (Decidable.not_not.1 (by assumption)) (by assumption) (by assumption) | exact R14.rel_same i2_0 (by assumption) (by assumption)
            · first | omega | exact Nat.le_trans (Nat.le_of_eq List.length_set) i2_1
          · show s.length - (o + 64) < s.length - o
            first | omega | (simp; omega) | (simp_all; omega)
        · have h9w := h9
          have h9 : ((l2.getD ((R14.rfN R02.update (sub s o (o + 64))).toNat) default).ok) = true := bnot_false h9
          refine J_skip (JX_block (JX_then (J_region ?_)))
          refine jr_ (vI ((o : Nat) : Int)) ?_
          refine JO_read (vI ((o + 64 : Nat) : Int)) rfl trivial (fun _ _ => x_add_n (a := o) (b := 64) rfl rfl (by omega)) ?_
          refine jr_ (vI ((o + 64 : Nat) : Int)) ?_
          refine JO_nil ?_
          refine JX_round ((k + 1, o + 64, l2, l2A, l2C) : Nat × Nat × (List Piece) × (Option Addr) × Nat) ?_ ?_ ⟨rfl, rfl, rfl, rfl, rfl, rfl, trivial⟩ (fun _ h => h)
          · show (64 * (k + 1) ≤ s.length) ∧ ((o + 64) = 64 * (k + 1)) ∧ (R14.gL l2 = R14.lkF (R14.coll R02.update s (k + 1))) ∧ (l2.length ≤ 65536)
            refine ⟨?_, ?_, ?_, ?_⟩
            · omega
            · first | rfl | omega | (simp_all; done) | (simp_all; omega)
            · subst i1_1; first | exact R14.rel_bad i1_2 (by assumption) | exact R14.rel_set i2_0 (Decidable.not_not.1 (by assumption)) (by assumption) (by assumption) | exact R14.rel_same i2_0 (by assumption) (by assumption)
            · first | omega | exact Nat.le_trans (Nat.le_of_eq List.length_set) i2_1
          · show s.length - (o + 64) < s.length - o
            first | omega | (simp; omega) | (simp_all; omega)
  · have h3w := h3
    have h3 := of_decide_eq_false h3
    refine J_exit (JX_then_exit (JX_round_exit ?_))
    have hm := R14.ref_end i1_0 i1_1 i1_2 (by assumption)
    have hsm := R14.small_sv hm
    refine JX_block_hit (JX_then (J_seq (J_region ?_)))
    refine jr_ (Value.slice lA l.length lC) ?_
    refine JO_call [] [] [Ent.blk b1 37 [vI 0, vI 0, vI 0, vI 0, vI 0, vI 0, vI 0, vI 0, vI 0, vI 0, vI 0, vI 0, vI 0, vI 0, vB false, vI 0, vS [], vS [], vI 0, vI 0, vB false, vI 0, Value.slice none 0 0], Ent.row (.slice lA l.length lC) 93 4 l.length (l.flatMap Piece.enc)] rfl trivial (fun _ => x_call Ty.ca51 rfl) (fun _ h => h) (fun _ h => by cases h) (fun w hS => f51_ok l lA lC 0 w (RO.of_row hS 1 rfl) hy_ hy_) ?_
    rintro _ _ ⟨rfl, rfl⟩
    have ha10 := R14.item_lenD (g := (R14.gL l)) hsm (0 : Int)
    refine jr_ (Value.tuple #[vS ((R14.item (R14.gL l) (0 : Int)).getD []), vB ((R14.item (R14.gL l) (0 : Int)).isSome)]) ?_
    refine jr_ (vS ((R14.item (R14.gL l) (0 : Int)).getD [])) ?_
    refine jr_ (vB ((R14.item (R14.gL l) (0 : Int)).isSome)) ?_
    refine jr_ (vS ((R14.item (R14.gL l) (0 : Int)).getD [])) ?_
    refine jr_ (vB ((R14.item (R14.gL l) (0 : Int)).isSome)) ?_
    refine JO_nil (JX_then (J_seq (J_region ?_)))
    refine jr_ (vS ((R14.item (R14.gL l) (0 : Int)).getD [])) ?_
    refine JO_call [] [] [Ent.blk b1 37 [vI 0, vI 0, vI 0, vI 0, vI 0, vI 0, vI 0, vI 0, vI 0, vI 0, vI 0, vI 0, vI 0, vI 0, vB false, vI 0, vS [], vS [], vI 0, vI 0, vB false, vI 0, Value.slice none 0 0], Ent.row (.slice lA l.length lC) 93 4 l.length (l.flatMap Piece.enc)] rfl trivial (fun _ => x_call Ty.ca52 rfl) (fun _ h => h) (fun _ h => by cases h) (fun w hS => f52_ok ((R14.item (R14.gL l) (0 : Int)).getD []) w hy_) ?_
    rintro _ _ ⟨rfl, rfl⟩
    have ha11 := R14.zc_range ((R14.item (R14.gL l) (0 : Int)).getD [])
    try simp only [List.length_cons, List.length_nil, Nat.zero_add, Nat.reduceAdd, Nat.reduceMul] at ha11
    refine jr_ (Value.tuple #[Value.agg ((DataSet.enc (R14.setOf ((R14.item (R14.gL l) (0 : Int)).getD [])))).toArray, vI ((R14.z9 ((R14.item (R14.gL l) (0 : Int)).getD [])).1.getD 0 0), vI ((R14.zc ((R14.item (R14.gL l) (0 : Int)).getD [])).1), vB (R14.zOk ((R14.item (R14.gL l) (0 : Int)).getD []))]) ?_
    refine jr_ (Value.agg ((DataSet.enc (R14.setOf ((R14.item (R14.gL l) (0 : Int)).getD [])))).toArray) ?_
    refine jr_ (vI ((R14.z9 ((R14.item (R14.gL l) (0 : Int)).getD [])).1.getD 0 0)) ?_
    refine jr_ (vI ((R14.zc ((R14.item (R14.gL l) (0 : Int)).getD [])).1)) ?_
    refine jr_ (vB (R14.zOk ((R14.item (R14.gL l) (0 : Int)).getD []))) ?_
    refine JO_op rfl trivial (O_alloc Ty.ze34 rfl fun b12 => ?_)
    refine JO_op rfl trivial (O_storeS (vs := (DataSet.enc (R14.setOf ((R14.item (R14.gL l) (0 : Int)).getD [])))) 0 (DataSet.enc (R14.setOf ((R14.item (R14.gL l) (0 : Int)).getD []))) [Ent.blk b12 34 (DataSet.enc (R14.setOf ((R14.item (R14.gL l) (0 : Int)).getD []))), Ent.blk b1 37 [vI 0, vI 0, vI 0, vI 0, vI 0, vI 0, vI 0, vI 0, vI 0, vI 0, vI 0, vI 0, vI 0, vI 0, vB false, vI 0, vS [], vS [], vI 0, vI 0, vB false, vI 0, Value.slice none 0 0], Ent.row (.slice lA l.length lC) 93 4 l.length (l.flatMap Piece.enc)] rfl rfl rfl Ty.sz34 rfl (Nat.le_of_ble_eq_true rfl) rfl (st_all rfl) rfl ?_)
    refine jr_ (vI ((R14.z9 ((R14.item (R14.gL l) (0 : Int)).getD [])).1.getD 0 0)) ?_
    refine jr_ (vI ((R14.zc ((R14.item (R14.gL l) (0 : Int)).getD [])).1)) ?_
    refine jr_ (vB (R14.zOk ((R14.item (R14.gL l) (0 : Int)).getD []))) ?_
    refine JO_nil (JX_then (J_seq (J_seq (J_region ?_))))
    refine jr_ (vB ((R14.item (R14.gL l) (0 : Int)).isSome)) ?_
    refine JO_read (vB (!((R14.item (R14.gL l) (0 : Int)).isSome))) rfl trivial (fun _ _ => x_not rfl) ?_
    refine jr_ (vB (!((R14.item (R14.gL l) (0 : Int)).isSome))) ?_
    refine JO_cut (X := Bool) 3 (fun z => z = ((!((R14.item (R14.gL l) (0 : Int)).isSome)) || (!(R14.zOk ((R14.item (R14.gL l) (0 : Int)).getD []))))) (fun z => [(2, Value.pointer (some ⟨b1, 0, none⟩)), (3, vI 0), (4, vI 0), (5, Value.slice lA l.length lC), (14, Value.pointer (some ⟨b12, 0, none⟩)), (15, vI ((R14.z9 ((R14.item (R14.gL l) (0 : Int)).getD [])).1.getD 0 0)), (16, vI ((R14.zc ((R14.item (R14.gL l) (0 : Int)).getD [])).1)), (84, vB z)]) (fun _ => [Ent.blk b12 34 (DataSet.enc (R14.setOf ((R14.item (R14.gL l) (0 : Int)).getD []))), Ent.blk b1 37 [vI 0, vI 0, vI 0, vI 0, vI 0, vI 0, vI 0, vI 0, vI 0, vI 0, vI 0, vI 0, vI 0, vI 0, vB false, vI 0, vS [], vS [], vI 0, vI 0, vB false, vI 0, Value.slice none 0 0], Ent.row (.slice lA l.length lC) 93 4 l.length (l.flatMap Piece.enc)]) ?_ ?_
    · rcases Bool.eq_false_or_eq_true (!((R14.item (R14.gL l) (0 : Int)).isSome)) with g14 | g14
      · have g14r := g14
        have g14r : ((R14.item (R14.gL l) (0 : Int)).isSome) = false := bnot_true g14r
        refine JO_shun rfl ⟨_, rfl, g14⟩ ?_
        refine JO_shun rfl ⟨_, rfl, g14⟩ ?_
        refine JO_read (vB true) rfl trivial (fun _ _ => x_pick_t rfl g14 rfl) ?_
        refine JO_nil (JX_cut (true) (by rw [g14]; simp) ⟨rfl, rfl, rfl, rfl, rfl, rfl, rfl, rfl, trivial⟩ (fun _ h => h))
      · have g14r := g14
        have g14r : ((R14.item (R14.gL l) (0 : Int)).isSome) = true := bnot_false g14r
        refine JO_read (vB (R14.zOk ((R14.item (R14.gL l) (0 : Int)).getD []))) rfl ⟨_, rfl, g14⟩ (fun _ _ => rfl) ?_
        refine JO_read (vB (!(R14.zOk ((R14.item (R14.gL l) (0 : Int)).getD [])))) rfl ⟨_, rfl, g14⟩ (fun _ _ => x_not rfl) ?_
        refine JO_read (vB (!(R14.zOk ((R14.item (R14.gL l) (0 : Int)).getD [])))) rfl trivial (fun _ _ => x_pick_f rfl g14 rfl) ?_
        refine JO_nil (JX_cut (!(R14.zOk ((R14.item (R14.gL l) (0 : Int)).getD []))) (by rw [g14]; simp) ⟨rfl, rfl, rfl, rfl, rfl, rfl, rfl, rfl, trivial⟩ (fun _ h => h))
    rintro z13 rfl
    refine JO_nil (JX_then ?_)
    refine J_cond ((!((R14.item (R14.gL l) (0 : Int)).isSome)) || (!(R14.zOk ((R14.item (R14.gL l) (0 : Int)).getD [])))) rfl rfl (fun h15 => ?_) (fun h15 => ?_)
    · have h15w := h15
      simp only [Bool.and_eq_true, Bool.or_eq_true, Bool.and_eq_false_iff, Bool.or_eq_false_iff, Bool.not_eq_true', Bool.not_eq_false', decide_eq_true_eq, decide_eq_false_iff_not] at h15
      refine J_seq (J_region ?_)
      refine JO_read (Value.agg #[vI 0, vI 0, vI 0, vI 0, vI 0, vI 0, vI 0, vI 0, vI 0, vI 0, vI 0, vI 0, vI 0, vI 0, vB false, vI 0, vS [], vS [], vI 0, vI 0, vB false, vI 0, Value.slice none 0 0]) rfl trivial (fun _ _ => x_build (by kernel_rfl)) ?_
      refine JO_op rfl trivial (O_storeS (vs := [vI 0, vI 0, vI 0, vI 0, vI 0, vI 0, vI 0, vI 0, vI 0, vI 0, vI 0, vI 0, vI 0, vI 0, vB false, vI 0, vS [], vS [], vI 0, vI 0, vB false, vI 0, Value.slice none 0 0]) 1 [vI 0, vI 0, vI 0, vI 0, vI 0, vI 0, vI 0, vI 0, vI 0, vI 0, vI 0, vI 0, vI 0, vI 0, vB false, vI 0, vS [], vS [], vI 0, vI 0, vB false, vI 0, Value.slice none 0 0] [Ent.blk b12 34 (DataSet.enc (R14.setOf ((R14.item (R14.gL l) (0 : Int)).getD []))), Ent.blk b1 37 [vI 0, vI 0, vI 0, vI 0, vI 0, vI 0, vI 0, vI 0, vI 0, vI 0, vI 0, vI 0, vI 0, vI 0, vB false, vI 0, vS [], vS [], vI 0, vI 0, vB false, vI 0, Value.slice none 0 0], Ent.row (.slice lA l.length lC) 93 4 l.length (l.flatMap Piece.enc)] rfl rfl rfl Ty.sz37 rfl (Nat.le_of_ble_eq_true rfl) rfl (st_all rfl) rfl ?_)
      refine jr_ (vI 0) ?_
      refine jr_ (vI 11) ?_
      refine JO_nil (JX_then (J_ret (JX_then_ret ?_)))
      first
        | have hd := R14.res_badL hm (by assumption)
        | have hd := R14.res_okL hm (by assumption) i3_1 (by omega)
      refine JX_rets [Value.agg #[vI 0, vI 0, vI 0, vI 0, vI 0, vI 0, vI 0, vI 0, vI 0, vI 0, vI 0, vI 0, vI 0, vI 0, vB false, vI 0, vS [], vS [], vI 0, vI 0, vB false, vI 0, Value.slice none 0 0], vI 0, vI 11] (Value.tuple #[Value.agg #[vI 0, vI 0, vI 0, vI 0, vI 0, vI 0, vI 0, vI 0, vI 0, vI 0, vI 0, vI 0, vI 0, vI 0, vB false, vI 0, vS [], vS [], vI 0, vI 0, vB false, vI 0, Value.slice none 0 0], vI 0, vI 11]) Try.results29 (fun w h => ⟨⟨_, rfl, load_blkN 1 [vI 0, vI 0, vI 0, vI 0, vI 0, vI 0, vI 0, vI 0, vI 0, vI 0, vI 0, vI 0, vI 0, vI 0, vB false, vI 0, vS [], vS [], vI 0, vI 0, vB false, vI 0, Value.slice none 0 0] h rfl Ty.ag37 Ty.sz37 rfl⟩, rfl, rfl, trivial⟩) rfl [Ent.row (.slice none ([] : List Pair).length 0) 54 2 ([] : List Pair).length (([] : List Pair).flatMap Pair.enc)] (fun _ h => (h.nilrow 54 2).keep [true, false, false, false] rfl) ⟨none, 0, ?_, ?_⟩
      · have e_x0 : ((DataSet.mk 0 0 0 0 0 0 0 0 0 0 0 0 0 0 false 0 [] [] 0 0 false) : DataSet) = (R14.svD R02.update s) := by first | exact hd.1 | exact hd.2.1 | exact congrArg List.length hd.2.2.1 | exact hd.2.2.1 | exact hd.2.2.2.1 | exact hd.2.2.2.2 | exact hd.2.2.2
        have e_x1 : (0 : Int) = (R14.svN R02.update s) := by first | exact hd.1 | exact hd.2.1 | exact congrArg List.length hd.2.2.1 | exact hd.2.2.1 | exact hd.2.2.2.1 | exact hd.2.2.2.2 | exact hd.2.2.2
        have e_x2 : (0 : Nat) = ((R14.svP R02.update s).length) := by first | exact hd.1 | exact hd.2.1 | exact congrArg List.length hd.2.2.1 | exact hd.2.2.1 | exact hd.2.2.2.1 | exact hd.2.2.2.2 | exact hd.2.2.2
        have e_x3 : (0 : Int) = (R14.svM R02.update s) := by first | exact hd.1 | exact hd.2.1 | exact congrArg List.length hd.2.2.1 | exact hd.2.2.1 | exact hd.2.2.2.1 | exact hd.2.2.2.2 | exact hd.2.2.2
        have e_x4 : (11 : Int) = (R14.svE R02.update s) := by first | exact hd.1 | exact hd.2.1 | exact congrArg List.length hd.2.2.1 | exact hd.2.2.1 | exact hd.2.2.2.1 | exact hd.2.2.2.2 | exact hd.2.2.2
        have e_all := (congr (congr (congr (congr (congrArg (fun (x0 : DataSet) (x1 : Int) (x2 : Nat) (x3 : Int) (x4 : Int) => Value.tuple #[Value.agg ((DataSet.enc x0 ++ [vI x1, Value.slice none x2 0])).toArray, vI x3, vI x4]) e_x0) e_x1) e_x2) e_x3) e_x4)
        exact e_all
      · have e_y0 : (([] : List Pair) : List Pair) = (R14.svP R02.update s) := by
          first | exact hd.1 | exact hd.2.1 | exact congrArg List.length hd.2.2.1 | exact hd.2.2.1 | exact hd.2.2.2.1 | exact hd.2.2.2.2 | exact hd.2.2.2
        have e_all := (congrArg (fun (y0 : List Pair) => [Ent.row (.slice none y0.length 0) 54 2 y0.length (y0.flatMap Pair.enc)]) e_y0)
        exact e_all
    · have h15w := h15
      have ⟨h15, h16⟩ := bor_false h15
      have h15 : ((R14.item (R14.gL l) (0 : Int)).isSome) = true := bnot_false h15
      have h16 : (R14.zOk ((R14.item (R14.gL l) (0 : Int)).getD [])) = true := bnot_false h16
      refine J_skip (JX_then (J_seq (J_region ?_)))
      refine JO_read (Value.agg ((DataSet.enc (R14.setOf ((R14.item (R14.gL l) (0 : Int)).getD [])))).toArray) rfl trivial (x_loadN 0 (DataSet.enc (R14.setOf ((R14.item (R14.gL l) (0 : Int)).getD []))) rfl rfl Ty.ag34 Ty.sz34 rfl) ?_
      refine jr_ (vI ((R14.z9 ((R14.item (R14.gL l) (0 : Int)).getD [])).1.getD 0 0)) ?_
      refine JO_read (Value.agg ((DataSet.enc (R14.setOf ((R14.item (R14.gL l) (0 : Int)).getD [])) ++ [vI ((R14.z9 ((R14.item (R14.gL l) (0 : Int)).getD [])).1.getD 0 0), Value.slice none 0 0])).toArray) rfl trivial (fun _ _ => x_build (by kernel_rfl)) ?_
      refine JO_op rfl trivial (O_alloc Ty.ze37 rfl fun b17 => ?_)
      refine JO_op rfl trivial (O_storeS (vs := (DataSet.enc (R14.setOf ((R14.item (R14.gL l) (0 : Int)).getD [])) ++ [vI ((R14.z9 ((R14.item (R14.gL l) (0 : Int)).getD [])).1.getD 0 0), Value.slice none 0 0])) 0 (DataSet.enc (R14.setOf ((R14.item (R14.gL l) (0 : Int)).getD [])) ++ [vI ((R14.z9 ((R14.item (R14.gL l) (0 : Int)).getD [])).1.getD 0 0), Value.slice none 0 0]) [Ent.blk b17 37 (DataSet.enc (R14.setOf ((R14.item (R14.gL l) (0 : Int)).getD [])) ++ [vI ((R14.z9 ((R14.item (R14.gL l) (0 : Int)).getD [])).1.getD 0 0), Value.slice none 0 0]), Ent.blk b12 34 (DataSet.enc (R14.setOf ((R14.item (R14.gL l) (0 : Int)).getD []))), Ent.blk b1 37 [vI 0, vI 0, vI 0, vI 0, vI 0, vI 0, vI 0, vI 0, vI 0, vI 0, vI 0, vI 0, vI 0, vI 0, vB false, vI 0, vS [], vS [], vI 0, vI 0, vB false, vI 0, Value.slice none 0 0], Ent.row (.slice lA l.length lC) 93 4 l.length (l.flatMap Piece.enc)] rfl rfl rfl Ty.sz37 rfl (Nat.le_of_ble_eq_true rfl) rfl (st_all rfl) rfl ?_)
      refine JO_nil (JX_then (J_seq (J_seq (J_region ?_))))
      refine jr_ (vI 1) ?_
      refine JO_nil (JX_then (J_block ?_))
      refine J_loop (X := Nat × (List Pair) × (Option Addr) × Nat) (fun (⟨i, ps, psA, psC⟩ : Nat × (List Pair) × (Option Addr) × Nat) => (1 ≤ i) ∧ (ps = (List.range i).flatMap (R14.atP l)) ∧ (ps.length ≤ i) ∧ (i ≤ l.length)) (fun (⟨i, ps, psA, psC⟩ : Nat × (List Pair) × (Option Addr) × Nat) => [(2, Value.pointer (some ⟨b1, 0, none⟩)), (3, vI 0), (4, vI 0), (5, Value.slice lA l.length lC), (16, vI ((R14.zc ((R14.item (R14.gL l) (0 : Int)).getD [])).1)), (18, Value.pointer (some ⟨b17, 0, none⟩)), (19, vI ((i : Nat) : Int))]) (fun (⟨i, ps, psA, psC⟩ : Nat × (List Pair) × (Option Addr) × Nat) => [Ent.blk b17 37 (DataSet.enc (R14.setOf ((R14.item (R14.gL l) (0 : Int)).getD [])) ++ [vI ((R14.z9 ((R14.item (R14.gL l) (0 : Int)).getD [])).1.getD 0 0), Value.slice psA ps.length psC]), Ent.blk b1 37 [vI 0, vI 0, vI 0, vI 0, vI 0, vI 0, vI 0, vI 0, vI 0, vI 0, vI 0, vI 0, vI 0, vI 0, vB false, vI 0, vS [], vS [], vI 0, vI 0, vB false, vI 0, Value.slice none 0 0], Ent.row (.slice lA l.length lC) 93 4 l.length (l.flatMap Piece.enc), Ent.row (.slice psA ps.length psC) 54 2 ps.length (ps.flatMap Pair.enc)]) (fun (⟨i, ps, psA, psC⟩ : Nat × (List Pair) × (Option Addr) × Nat) => l.length - i) ((1, ([] : List Pair), none, 0) : Nat × (List Pair) × (Option Addr) × Nat) ?_ ⟨rfl, rfl, rfl, rfl, rfl, rfl, rfl, trivial⟩ (fun _ h => ((((h.nilrow 54 2).front 4 _ rfl).front 4 _ rfl).front 3 _ rfl).keep [true, true, true, true, false] rfl) ?_
      · show (1 ≤ 1) ∧ (([] : List Pair) = (List.range 1).flatMap (R14.atP l)) ∧ (([] : List Pair).length ≤ 1) ∧ (1 ≤ l.length)
        refine ⟨?_, ?_, ?_, ?_⟩
        · exact Nat.le_refl _
        · exact R14.one_start
        · exact Nat.zero_le _
        · exact R14.res_len (by assumption)
      rintro ⟨i, ps, psA, psC⟩ hI3
      obtain ⟨i3_0, i3_1, i3_2, i3_3⟩ : (1 ≤ i) ∧ (ps = (List.range i).flatMap (R14.atP l)) ∧ (ps.length ≤ i) ∧ (i ≤ l.length) := hI3
      refine J_weaken (E' := [(2, Value.pointer (some ⟨b1, 0, none⟩)), (3, vI 0), (4, vI 0), (5, Value.slice lA l.length lC), (16, vI ((R14.zc ((R14.item (R14.gL l) (0 : Int)).getD [])).1)), (18, Value.pointer (some ⟨b17, 0, none⟩)), (19, vI ((i : Nat) : Int))]) (L' := [Ent.blk b17 37 (DataSet.enc (R14.setOf ((R14.item (R14.gL l) (0 : Int)).getD [])) ++ [vI ((R14.z9 ((R14.item (R14.gL l) (0 : Int)).getD [])).1.getD 0 0), Value.slice psA ps.length psC]), Ent.blk b1 37 [vI 0, vI 0, vI 0, vI 0, vI 0, vI 0, vI 0, vI 0, vI 0, vI 0, vI 0, vI 0, vI 0, vI 0, vB false, vI 0, vS [], vS [], vI 0, vI 0, vB false, vI 0, Value.slice none 0 0], Ent.row (.slice lA l.length lC) 93 4 l.length (l.flatMap Piece.enc), Ent.row (.slice psA ps.length psC) 54 2 ps.length (ps.flatMap Pair.enc)]) ⟨rfl, rfl, rfl, rfl, rfl, rfl, rfl, trivial⟩ (fun _ h => h) ?_
      refine J_seq (J_seq (J_region ?_))
      refine jr_ (vI ((i : Nat) : Int)) ?_
      refine jr_ (Value.slice lA l.length lC) ?_
      refine JO_read (vI ((l.length : Nat) : Int)) rfl trivial (fun _ _ => x_len_sl Try.underlying91 rfl) ?_
      refine JO_read (vB (decide (((i : Nat) : Int) < ((l.length : Nat) : Int)))) rfl trivial (fun _ _ => x_lss_i rfl rfl) ?_
      refine JO_nil (JX_then ?_)
      refine J_cond (decide (((i : Nat) : Int) < ((l.length : Nat) : Int))) rfl rfl (fun h18 => ?_) (fun h18 => ?_)
      · have h18w := h18
        have h18 := of_decide_eq_true h18
        refine J_skip (JX_then (J_seq (J_block (J_seq (J_region ?_)))))
        refine jr_ (Value.slice lA l.length lC) ?_
        refine jr_ (vI ((i : Nat) : Int)) ?_
        refine JO_call [] [] [Ent.blk b17 37 (DataSet.enc (R14.setOf ((R14.item (R14.gL l) (0 : Int)).getD [])) ++ [vI ((R14.z9 ((R14.item (R14.gL l) (0 : Int)).getD [])).1.getD 0 0), Value.slice psA ps.length psC]), Ent.blk b1 37 [vI 0, vI 0, vI 0, vI 0, vI 0, vI 0, vI 0, vI 0, vI 0, vI 0, vI 0, vI 0, vI 0, vI 0, vB false, vI 0, vS [], vS [], vI 0, vI 0, vB false, vI 0, Value.slice none 0 0], Ent.row (.slice lA l.length lC) 93 4 l.length (l.flatMap Piece.enc), Ent.row (.slice psA ps.length psC) 54 2 ps.length (ps.flatMap Pair.enc)] rfl trivial (fun _ => x_call Ty.ca51 rfl) (fun _ h => h) (fun _ h => by cases h) (fun w hS => f51_ok l lA lC i w (RO.of_row hS 2 rfl) hy_ hy_) ?_
        rintro _ _ ⟨rfl, rfl⟩
        have ha19 := R14.item_lenD (g := (R14.gL l)) hsm (i : Int)
        refine jr_ (Value.tuple #[vS ((R14.item (R14.gL l) (i : Int)).getD []), vB ((R14.item (R14.gL l) (i : Int)).isSome)]) ?_
        refine jr_ (vS ((R14.item (R14.gL l) (i : Int)).getD [])) ?_
        refine jr_ (vB ((R14.item (R14.gL l) (i : Int)).isSome)) ?_
        refine jr_ (vS ((R14.item (R14.gL l) (i : Int)).getD [])) ?_
        refine jr_ (vB ((R14.item (R14.gL l) (i : Int)).isSome)) ?_
        refine JO_nil (JX_then (J_seq (J_region ?_)))
        refine jr_ (vS ((R14.item (R14.gL l) (i : Int)).getD [])) ?_
        refine JO_call [] [] [Ent.blk b17 37 (DataSet.enc (R14.setOf ((R14.item (R14.gL l) (0 : Int)).getD [])) ++ [vI ((R14.z9 ((R14.item (R14.gL l) (0 : Int)).getD [])).1.getD 0 0), Value.slice psA ps.length psC]), Ent.blk b1 37 [vI 0, vI 0, vI 0, vI 0, vI 0, vI 0, vI 0, vI 0, vI 0, vI 0, vI 0, vI 0, vI 0, vI 0, vB false, vI 0, vS [], vS [], vI 0, vI 0, vB false, vI 0, Value.slice none 0 0], Ent.row (.slice lA l.length lC) 93 4 l.length (l.flatMap Piece.enc), Ent.row (.slice psA ps.length psC) 54 2 ps.length (ps.flatMap Pair.enc)] rfl trivial (fun _ => x_call Ty.ca53 rfl) (fun _ h => h) (fun _ h => by cases h) (fun w hS => f53_ok ((R14.item (R14.gL l) (i : Int)).getD []) w hy_) ?_
        rintro _ _ ⟨rfl, rfl⟩
        have ha20 := R14.pairOf_len ((R14.item (R14.gL l) (i : Int)).getD [])
        try simp only [List.length_cons, List.length_nil, Nat.zero_add, Nat.reduceAdd, Nat.reduceMul] at ha20
        refine jr_ (Value.tuple #[Value.agg #[vS ((R14.pairOf ((R14.item (R14.gL l) (i : Int)).getD [])).key), vS ((R14.pairOf ((R14.item (R14.gL l) (i : Int)).getD [])).record)], vB (R14.pOk ((R14.item (R14.gL l) (i : Int)).getD []))]) ?_
        refine jr_ (Value.agg #[vS ((R14.pairOf ((R14.item (R14.gL l) (i : Int)).getD [])).key), vS ((R14.pairOf ((R14.item (R14.gL l) (i : Int)).getD [])).record)]) ?_
        refine jr_ (vB (R14.pOk ((R14.item (R14.gL l) (i : Int)).getD []))) ?_
        refine JO_op rfl trivial (O_alloc Ty.ze54 rfl fun b21 => ?_)
        refine JO_op rfl trivial (O_store 0 [vS ((R14.pairOf ((R14.item (R14.gL l) (i : Int)).getD [])).key), vS ((R14.pairOf ((R14.item (R14.gL l) (i : Int)).getD [])).record)] [Ent.blk b21 54 [vS ((R14.pairOf ((R14.item (R14.gL l) (i : Int)).getD [])).key), vS ((R14.pairOf ((R14.item (R14.gL l) (i : Int)).getD [])).record)], Ent.blk b17 37 (DataSet.enc (R14.setOf ((R14.item (R14.gL l) (0 : Int)).getD [])) ++ [vI ((R14.z9 ((R14.item (R14.gL l) (0 : Int)).getD [])).1.getD 0 0), Value.slice psA ps.length psC]), Ent.blk b1 37 [vI 0, vI 0, vI 0, vI 0, vI 0, vI 0, vI 0, vI 0, vI 0, vI 0, vI 0, vI 0, vI 0, vI 0, vB false, vI 0, vS [], vS [], vI 0, vI 0, vB false, vI 0, Value.slice none 0 0], Ent.row (.slice lA l.length lC) 93 4 l.length (l.flatMap Piece.enc), Ent.row (.slice psA ps.length psC) 54 2 ps.length (ps.flatMap Pair.enc)] rfl rfl rfl Ty.sz54 rfl (Nat.le_of_ble_eq_true rfl) rfl rfl rfl ?_)
        refine jr_ (vB (R14.pOk ((R14.item (R14.gL l) (i : Int)).getD []))) ?_
        refine JO_nil (JX_then (J_seq (J_region ?_)))
        refine jr_ (vB ((R14.item (R14.gL l) (i : Int)).isSome)) ?_
        refine jr_ (vB ((R14.item (R14.gL l) (i : Int)).isSome)) ?_
        refine JO_cut (X := Bool) 2 (fun z => z = (((R14.item (R14.gL l) (i : Int)).isSome) && (R14.pOk ((R14.item (R14.gL l) (i : Int)).getD [])))) (fun z => [(2, Value.pointer (some ⟨b1, 0, none⟩)), (3, vI 0), (4, vI 0), (5, Value.slice lA l.length lC), (16, vI ((R14.zc ((R14.item (R14.gL l) (0 : Int)).getD [])).1)), (18, Value.pointer (some ⟨b17, 0, none⟩)), (19, vI ((i : Nat) : Int)), (22, Value.pointer (some ⟨b21, 0, none⟩)), (109, vB z)]) (fun _ => [Ent.blk b21 54 [vS ((R14.pairOf ((R14.item (R14.gL l) (i : Int)).getD [])).key), vS ((R14.pairOf ((R14.item (R14.gL l) (i : Int)).getD [])).record)], Ent.blk b17 37 (DataSet.enc (R14.setOf ((R14.item (R14.gL l) (0 : Int)).getD [])) ++ [vI ((R14.z9 ((R14.item (R14.gL l) (0 : Int)).getD [])).1.getD 0 0), Value.slice psA ps.length psC]), Ent.blk b1 37 [vI 0, vI 0, vI 0, vI 0, vI 0, vI 0, vI 0, vI 0, vI 0, vI 0, vI 0, vI 0, vI 0, vI 0, vB false, vI 0, vS [], vS [], vI 0, vI 0, vB false, vI 0, Value.slice none 0 0], Ent.row (.slice lA l.length lC) 93 4 l.length (l.flatMap Piece.enc), Ent.row (.slice psA ps.length psC) 54 2 ps.length (ps.flatMap Pair.enc)]) ?_ ?_
        · rcases Bool.eq_false_or_eq_true ((R14.item (R14.gL l) (i : Int)).isSome) with g23 | g23
          · have g23r := g23
            refine JO_read (vB (R14.pOk ((R14.item (R14.gL l) (i : Int)).getD []))) rfl ⟨_, rfl, g23⟩ (fun _ _ => rfl) ?_
            refine JO_read (vB (R14.pOk ((R14.item (R14.gL l) (i : Int)).getD []))) rfl trivial (fun _ _ => x_pick_t rfl g23 rfl) ?_
            refine JO_nil (JX_cut (R14.pOk ((R14.item (R14.gL l) (i : Int)).getD [])) (by rw [g23]; simp) ⟨rfl, rfl, rfl, rfl, rfl, rfl, rfl, rfl, rfl, trivial⟩ (fun _ h => h))
          · have g23r := g23
            refine JO_shun rfl ⟨_, rfl, g23⟩ ?_
            refine JO_read (vB false) rfl trivial (fun _ _ => x_pick_f rfl g23 rfl) ?_
            refine JO_nil (JX_cut (false) (by rw [g23]; simp) ⟨rfl, rfl, rfl, rfl, rfl, rfl, rfl, rfl, rfl, trivial⟩ (fun _ h => h))
        rintro z22 rfl
        refine JO_nil (JX_then ?_)
        refine J_cond (((R14.item (R14.gL l) (i : Int)).isSome) && (R14.pOk ((R14.item (R14.gL l) (i : Int)).getD []))) rfl rfl (fun h24 => ?_) (fun h24 => ?_)
        · have h24w := h24
          have ⟨h24, h25⟩ := band_true h24
          refine J_region ?_
          refine JO_read (Value.pointer (some ⟨b17, 22, none⟩)) rfl trivial (fun _ _ => x_fieldAddr Ty.fi37_2 rfl rfl) ?_
          refine JO_read (Value.slice psA ps.length psC) rfl trivial (x_load 1 rfl rfl Ty.sc35 rfl) ?_
          refine JO_read (Value.agg #[vS ((R14.pairOf ((R14.item (R14.gL l) (i : Int)).getD [])).key), vS ((R14.pairOf ((R14.item (R14.gL l) (i : Int)).getD [])).record)]) rfl trivial (x_loadN 0 [vS ((R14.pairOf ((R14.item (R14.gL l) (i : Int)).getD [])).key), vS ((R14.pairOf ((R14.item (R14.gL l) (i : Int)).getD [])).record)] rfl rfl Ty.ag54 Ty.sz54 rfl) ?_
          refine JO_op rfl trivial (O_buildSlice (cs := [vS ((R14.pairOf ((R14.item (R14.gL l) (i : Int)).getD [])).key), vS ((R14.pairOf ((R14.item (R14.gL l) (i : Int)).getD [])).record)]) Try.underlying35 Ty.sz54 Ty.ze54 (by decide) (by decide) (by kernel_rfl) fun b26 => ?_)
          refine JO_op rfl trivial (O_append_f 5 Pair.enc 2 ps [(R14.pairOf ((R14.item (R14.gL l) (i : Int)).getD []))] Try.underlying35 Ty.sz54 Ty.by54 Ty.ze54 rfl (by decide) rfl rfl rfl rfl Pair.enc_len Pair.enc_one (cells_blk 0 (off := 0) (m := 2) rfl rfl) lt_ lt_ fun A27 c28 => ?_)
          refine JO_read (Value.pointer (some ⟨b17, 22, none⟩)) rfl trivial (fun _ _ => x_fieldAddr Ty.fi37_2 rfl rfl) ?_
          refine JO_op rfl trivial (O_store 2 (DataSet.enc (R14.setOf ((R14.item (R14.gL l) (0 : Int)).getD [])) ++ [vI ((R14.z9 ((R14.item (R14.gL l) (0 : Int)).getD [])).1.getD 0 0), Value.slice A27 ((ps ++ [(R14.pairOf ((R14.item (R14.gL l) (i : Int)).getD []))]).length) c28]) [Ent.blk b26 54 [vS ((R14.pairOf ((R14.item (R14.gL l) (i : Int)).getD [])).key), vS ((R14.pairOf ((R14.item (R14.gL l) (i : Int)).getD [])).record)], Ent.blk b21 54 [vS ((R14.pairOf ((R14.item (R14.gL l) (i : Int)).getD [])).key), vS ((R14.pairOf ((R14.item (R14.gL l) (i : Int)).getD [])).record)], Ent.blk b17 37 (DataSet.enc (R14.setOf ((R14.item (R14.gL l) (0 : Int)).getD [])) ++ [vI ((R14.z9 ((R14.item (R14.gL l) (0 : Int)).getD [])).1.getD 0 0), Value.slice A27 ((ps ++ [(R14.pairOf ((R14.item (R14.gL l) (i : Int)).getD []))]).length) c28]), Ent.blk b1 37 [vI 0, vI 0, vI 0, vI 0, vI 0, vI 0, vI 0, vI 0, vI 0, vI 0, vI 0, vI 0, vI 0, vI 0, vB false, vI 0, vS [], vS [], vI 0, vI 0, vB false, vI 0, Value.slice none 0 0], Ent.row (.slice lA l.length lC) 93 4 l.length (l.flatMap Piece.enc), Ent.row (.slice A27 (ps ++ [(R14.pairOf ((R14.item (R14.gL l) (i : Int)).getD []))]).length c28) 54 2 (ps ++ [(R14.pairOf ((R14.item (R14.gL l) (i : Int)).getD []))]).length ((ps ++ [(R14.pairOf ((R14.item (R14.gL l) (i : Int)).getD []))]).flatMap Pair.enc)] rfl rfl rfl Ty.sz35 rfl (Nat.le_of_ble_eq_true rfl) rfl rfl rfl ?_)
          refine JO_nil (JX_block (JX_then (J_region ?_)))
          refine jr_ (vI ((i : Nat) : Int)) ?_
          refine JO_read (vI ((i + 1 : Nat) : Int)) rfl trivial (fun _ _ => x_add_n (a := i) (b := 1) rfl rfl (by omega)) ?_
          refine jr_ (vI ((i + 1 : Nat) : Int)) ?_
          refine JO_nil ?_
          refine JX_round ((i + 1, ps ++ [(R14.pairOf ((R14.item (R14.gL l) (i : Int)).getD []))], A27, c28) : Nat × (List Pair) × (Option Addr) × Nat) ?_ ?_ ⟨rfl, rfl, rfl, rfl, rfl, rfl, rfl, trivial⟩ (fun _ h => h.keep [false, false, true, true, true, true] rfl)
          · show (1 ≤ (i + 1)) ∧ ((ps ++ [(R14.pairOf ((R14.item (R14.gL l) (i : Int)).getD []))]) = (List.range (i + 1)).flatMap (R14.atP l)) ∧ ((ps ++ [(R14.pairOf ((R14.item (R14.gL l) (i : Int)).getD []))]).length ≤ (i + 1)) ∧ ((i + 1) ≤ l.length)
            refine ⟨?_, ?_, ?_, ?_⟩
            · omega
            · first | exact R14.ref_add i3_1 i3_0 (by assumption) | exact R14.ref_skip i3_1 i3_0 (by assumption)
            · first | omega | (rw [List.length_append]; simp only [List.length_cons, List.length_nil]; omega)
            · first | rfl | omega | (simp_all; done) | (simp_all; omega)
          · show l.length - (i + 1) < l.length - i
            first | omega | (simp; omega) | (simp_all; omega)
        · have h24w := h24
          simp only [Bool.and_eq_true, Bool.or_eq_true, Bool.and_eq_false_iff, Bool.or_eq_false_iff, Bool.not_eq_true', Bool.not_eq_false', decide_eq_true_eq, decide_eq_false_iff_not] at h24
          refine J_skip (JX_block (JX_then (J_region ?_)))
          refine jr_ (vI ((i : Nat) : Int)) ?_
          refine JO_read (vI ((i + 1 : Nat) : Int)) rfl trivial (fun _ _ => x_add_n (a := i) (b := 1) rfl rfl (by omega)) ?_
          refine jr_ (vI ((i + 1 : Nat) : Int)) ?_
          refine JO_nil ?_
          refine JX_round ((i + 1, ps, psA, psC) : Nat × (List Pair) × (Option Addr) × Nat) ?_ ?_ ⟨rfl, rfl, rfl, rfl, rfl, rfl, rfl, trivial⟩ (fun _ h => h.keep [false, true, true, true, true] rfl)
          · show (1 ≤ (i + 1)) ∧ (ps = (List.range (i + 1)).flatMap (R14.atP l)) ∧ (ps.length ≤ (i + 1)) ∧ ((i + 1) ≤ l.length)
            refine ⟨?_, ?_, ?_, ?_⟩
            · omega
            · first | exact R14.ref_add i3_1 i3_0 (by assumption) | exact R14.ref_skip i3_1 i3_0 (by assumption)
            · first | omega | (rw [List.length_append]; simp only [List.length_cons, List.length_nil]; omega)
            · first | rfl | omega | (simp_all; done) | (simp_all; omega)
          · show l.length - (i + 1) < l.length - i
            first | omega | (simp; omega) | (simp_all; omega)
      · have h18w := h18
        have h18 := of_decide_eq_false h18
        refine J_exit (JX_then_exit (JX_round_exit (JX_block_hit (JX_then (J_seq ?_)))))
        refine J_draw [Ent.blk b17 37 (DataSet.enc (R14.setOf ((R14.item (R14.gL l) (0 : Int)).getD [])) ++ [vI ((R14.z9 ((R14.item (R14.gL l) (0 : Int)).getD [])).1.getD 0 0), Value.slice psA ps.length psC]), Ent.row (.slice lA l.length lC) 93 4 l.length (l.flatMap Piece.enc), Ent.row (.slice psA ps.length psC) 54 2 ps.length (ps.flatMap Pair.enc)] [7] [Ent.blk b17 37 (DataSet.enc (R14.setOf ((R14.item (R14.gL l) (0 : Int)).getD [])) ++ [vI ((R14.z9 ((R14.item (R14.gL l) (0 : Int)).getD [])).1.getD 0 0), Value.slice psA ps.length psC]), Ent.blk b1 37 [vI 0, vI 0, vI 0, vI 0, vI 0, vI 0, vI 0, vI 0, vI 0, vI 0, vI 0, vI 0, vI 0, vI 0, vB false, vI 0, vS [], vS [], vI 0, vI 0, vB false, vI 0, Value.slice none 0 0], Ent.row (.slice lA l.length lC) 93 4 l.length (l.flatMap Piece.enc), Ent.row (.slice psA ps.length psC) 54 2 ps.length (ps.flatMap Pair.enc)] 10 Ty.mixed rfl ?_
        refine jt_ 0 (Value.agg ((DataSet.enc (R14.setOf ((R14.item (R14.gL l) (0 : Int)).getD [])) ++ [vI ((R14.z9 ((R14.item (R14.gL l) (0 : Int)).getD [])).1.getD 0 0), Value.slice psA ps.length psC])).toArray) rfl (x_loadN 0 (DataSet.enc (R14.setOf ((R14.item (R14.gL l) (0 : Int)).getD [])) ++ [vI ((R14.z9 ((R14.item (R14.gL l) (0 : Int)).getD [])).1.getD 0 0), Value.slice psA ps.length psC]) rfl rfl Ty.ag37 Ty.sz37 rfl) ?_
        refine jt_ 1 (vI ((R14.zc ((R14.item (R14.gL l) (0 : Int)).getD [])).1)) rfl (fun _ _ => rfl) ?_
        refine jt_ 2 (Value.pointer (some ⟨b17, 22, none⟩)) rfl (fun _ _ => x_fieldAddr Ty.fi37_2 rfl rfl) ?_
        refine jt_ 3 (Value.slice psA ps.length psC) rfl (x_load 0 rfl rfl Ty.sc35 rfl) ?_
        refine jt_ 4 (vI ((ps.length : Nat) : Int)) rfl (fun _ _ => x_len_sl Try.underlying35 rfl) ?_
        refine jt_ 5 (vI (((R14.zc ((R14.item (R14.gL l) (0 : Int)).getD [])).1) - ((ps.length : Nat) : Int))) rfl (fun _ _ => x_sub_i (a := (R14.zc ((R14.item (R14.gL l) (0 : Int)).getD [])).1) (b := ((ps.length : Nat) : Int)) rfl rfl (by omega) (by omega)) ?_
        refine jt_ 6 (vI (max 0 (((R14.zc ((R14.item (R14.gL l) (0 : Int)).getD [])).1) - ((ps.length : Nat) : Int)))) rfl (fun _ _ => x_max_i (a := 0) (b := ((R14.zc ((R14.item (R14.gL l) (0 : Int)).getD [])).1) - ((ps.length : Nat) : Int)) rfl rfl) ?_
        refine JA_one 7 (by kernel_rfl) (fun _ h => ⟨h.keep [true, false, true, true] rfl, fun _ => h⟩) ?_
        refine JI_op rfl rfl trivial (O_storeS (vs := (DataSet.enc (R14.setOf ((R14.item (R14.gL l) (0 : Int)).getD [])) ++ [vI ((R14.z9 ((R14.item (R14.gL l) (0 : Int)).getD [])).1.getD 0 0), Value.slice psA ps.length psC])) 1 (DataSet.enc (R14.setOf ((R14.item (R14.gL l) (0 : Int)).getD [])) ++ [vI ((R14.z9 ((R14.item (R14.gL l) (0 : Int)).getD [])).1.getD 0 0), Value.slice psA ps.length psC]) [Ent.blk b17 37 (DataSet.enc (R14.setOf ((R14.item (R14.gL l) (0 : Int)).getD [])) ++ [vI ((R14.z9 ((R14.item (R14.gL l) (0 : Int)).getD [])).1.getD 0 0), Value.slice psA ps.length psC]), Ent.blk b1 37 (DataSet.enc (R14.setOf ((R14.item (R14.gL l) (0 : Int)).getD [])) ++ [vI ((R14.z9 ((R14.item (R14.gL l) (0 : Int)).getD [])).1.getD 0 0), Value.slice psA ps.length psC]), Ent.row (.slice lA l.length lC) 93 4 l.length (l.flatMap Piece.enc), Ent.row (.slice psA ps.length psC) 54 2 ps.length (ps.flatMap Pair.enc)] rfl rfl rfl Ty.sz37 rfl (Nat.le_of_ble_eq_true rfl) rfl (st_all rfl) rfl ?_)
        refine jt_ 8 (vI (max 0 (((R14.zc ((R14.item (R14.gL l) (0 : Int)).getD [])).1) - ((ps.length : Nat) : Int)))) rfl (fun _ _ => rfl) ?_
        refine jt_ 9 (vI 0) rfl (fun _ _ => rfl) ?_
        refine JA_done (by kernel_rfl) (fun _ h => ⟨h.keep [true, false, true, true] rfl, fun hh => Bool.noConfusion (show false = true from hh)⟩) ?_
        refine JX_then (J_ret ?_)
        first
          | have hd := R14.res_badL hm (by assumption)
          | have hd := R14.res_okL hm (by assumption) i3_1 (by omega)
        refine JX_rets [Value.agg ((DataSet.enc (R14.setOf ((R14.item (R14.gL l) (0 : Int)).getD [])) ++ [vI ((R14.z9 ((R14.item (R14.gL l) (0 : Int)).getD [])).1.getD 0 0), Value.slice psA ps.length psC])).toArray, vI (max 0 (((R14.zc ((R14.item (R14.gL l) (0 : Int)).getD [])).1) - ((ps.length : Nat) : Int))), vI 0] (Value.tuple #[Value.agg ((DataSet.enc (R14.setOf ((R14.item (R14.gL l) (0 : Int)).getD [])) ++ [vI ((R14.z9 ((R14.item (R14.gL l) (0 : Int)).getD [])).1.getD 0 0), Value.slice psA ps.length psC])).toArray, vI (max 0 (((R14.zc ((R14.item (R14.gL l) (0 : Int)).getD [])).1) - ((ps.length : Nat) : Int))), vI 0]) Try.results29 (fun w h => ⟨⟨_, rfl, load_blkN 1 (DataSet.enc (R14.setOf ((R14.item (R14.gL l) (0 : Int)).getD [])) ++ [vI ((R14.z9 ((R14.item (R14.gL l) (0 : Int)).getD [])).1.getD 0 0), Value.slice psA ps.length psC]) h rfl Ty.ag37 Ty.sz37 rfl⟩, rfl, rfl, trivial⟩) rfl [Ent.row (.slice psA ps.length psC) 54 2 ps.length (ps.flatMap Pair.enc)] (fun _ h => h.keep [false, false, false, true] rfl) ⟨psA, psC, ?_, ?_⟩
        · have e_x0 : ((R14.setOf ((R14.item (R14.gL l) (0 : Int)).getD [])) : DataSet) = (R14.svD R02.update s) := by first | exact hd.1 | exact hd.2.1 | exact congrArg List.length hd.2.2.1 | exact hd.2.2.1 | exact hd.2.2.2.1 | exact hd.2.2.2.2 | exact hd.2.2.2
          have e_x1 : ((R14.z9 ((R14.item (R14.gL l) (0 : Int)).getD [])).1.getD 0 0 : Int) = (R14.svN R02.update s) := by first | exact hd.1 | exact hd.2.1 | exact congrArg List.length hd.2.2.1 | exact hd.2.2.1 | exact hd.2.2.2.1 | exact hd.2.2.2.2 | exact hd.2.2.2
          have e_x2 : (ps.length : Nat) = ((R14.svP R02.update s).length) := by first | exact hd.1 | exact hd.2.1 | exact congrArg List.length hd.2.2.1 | exact hd.2.2.1 | exact hd.2.2.2.1 | exact hd.2.2.2.2 | exact hd.2.2.2
          have e_x3 : (max 0 (((R14.zc ((R14.item (R14.gL l) (0 : Int)).getD [])).1) - ((ps.length : Nat) : Int)) : Int) = (R14.svM R02.update s) := by first | exact hd.1 | exact hd.2.1 | exact congrArg List.length hd.2.2.1 | exact hd.2.2.1 | exact hd.2.2.2.1 | exact hd.2.2.2.2 | exact hd.2.2.2
          have e_x4 : (0 : Int) = (R14.svE R02.update s) := by first | exact hd.1 | exact hd.2.1 | exact congrArg List.length hd.2.2.1 | exact hd.2.2.1 | exact hd.2.2.2.1 | exact hd.2.2.2.2 | exact hd.2.2.2
          have e_all := (congr (congr (congr (congr (congrArg (fun (x0 : DataSet) (x1 : Int) (x2 : Nat) (x3 : Int) (x4 : Int) => Value.tuple #[Value.agg ((DataSet.enc x0 ++ [vI x1, Value.slice psA x2 psC])).toArray, vI x3, vI x4]) e_x0) e_x1) e_x2) e_x3) e_x4)
          exact e_all
        · have e_y0 : (ps : List Pair) = (R14.svP R02.update s) := by
            first | exact hd.1 | exact hd.2.1 | exact congrArg List.length hd.2.2.1 | exact hd.2.2.1 | exact hd.2.2.2.1 | exact hd.2.2.2.2 | exact hd.2.2.2
          have e_all := (congrArg (fun (y0 : List Pair) => [Ent.row (.slice psA y0.length psC) 54 2 y0.length (y0.flatMap Pair.enc)]) e_y0)
          exact e_all
set_option maxHeartbeats 2000000 in
set_option maxRecDepth 20000 in
theorem f27_ok (s : Bytes) (w : World) (q0 : s.length ≤ 1000000) : Calls Try.prog 27 #[vS s] w (Gives [] w fun v L => ∃ A : Option Addr, ∃ c : Nat, v = Value.tuple #[Value.agg ((DataSet.enc (R14.dcD R02.update s) ++ [vI (R14.dcN R02.update s), Value.slice A ((R14.dcP R02.update s).length) c])).toArray, vI (R14.dcE R02.update s)] ∧ L = [Ent.row (.slice A (R14.dcP R02.update s).length c) 54 2 (R14.dcP R02.update s).length ((R14.dcP R02.update s).flatMap Pair.enc)]) := by
  refine calls_J [] 33 Try.func27 rfl Try.ntmps27 [(0, vS s)] rfl rfl (Give.nil w) ?_
  refine J_seq (J_region ?_)
  refine JO_op rfl trivial (O_alloc Ty.ze37 rfl fun b1 => ?_)
  refine jr_ (vI 0) ?_
  refine JO_nil (JX_then (J_seq (J_region ?_)))
  refine jr_ (vS s) ?_
  refine JO_call [] [] [Ent.blk b1 37 [vI 0, vI 0, vI 0, vI 0, vI 0, vI 0, vI 0, vI 0, vI 0, vI 0, vI 0, vI 0, vI 0, vI 0, vB false, vI 0, vS [], vS [], vI 0, vI 0, vB false, vI 0, Value.slice none 0 0]] rfl trivial (fun _ => x_call Ty.ca29 rfl) (fun _ h => h) (fun _ h => by cases h) (fun w hS => f29_ok s w hy_) ?_
  rintro _ _ ⟨A2, c3, rfl, rfl⟩
  have ha4 := R14.svP_len R02.update s
  refine jr_ (Value.tuple #[Value.agg ((DataSet.enc (R14.svD R02.update s) ++ [vI (R14.svN R02.update s), Value.slice A2 ((R14.svP R02.update s).length) c3])).toArray, vI (R14.svM R02.update s), vI (R14.svE R02.update s)]) ?_
  refine jr_ (Value.agg ((DataSet.enc (R14.svD R02.update s) ++ [vI (R14.svN R02.update s), Value.slice A2 ((R14.svP R02.update s).length) c3])).toArray) ?_
  refine jr_ (vI (R14.svM R02.update s)) ?_
  refine jr_ (vI (R14.svE R02.update s)) ?_
  refine JO_op rfl trivial (O_alloc Ty.ze37 rfl fun b5 => ?_)
  refine JO_op rfl trivial (O_storeS (vs := (DataSet.enc (R14.svD R02.update s) ++ [vI (R14.svN R02.update s), Value.slice A2 ((R14.svP R02.update s).length) c3])) 0 (DataSet.enc (R14.svD R02.update s) ++ [vI (R14.svN R02.update s), Value.slice A2 ((R14.svP R02.update s).length) c3]) [Ent.blk b5 37 (DataSet.enc (R14.svD R02.update s) ++ [vI (R14.svN R02.update s), Value.slice A2 ((R14.svP R02.update s).length) c3]), Ent.row (.slice A2 (R14.svP R02.update s).length c3) 54 2 (R14.svP R02.update s).length ((R14.svP R02.update s).flatMap Pair.enc), Ent.blk b1 37 [vI 0, vI 0, vI 0, vI 0, vI 0, vI 0, vI 0, vI 0, vI 0, vI 0, vI 0, vI 0, vI 0, vI 0, vB false, vI 0, vS [], vS [], vI 0, vI 0, vB false, vI 0, Value.slice none 0 0]] rfl rfl rfl Ty.sz37 rfl (Nat.le_of_ble_eq_true rfl) rfl (st_all rfl) rfl ?_)
  refine jr_ (vI (R14.svM R02.update s)) ?_
  refine jr_ (vI (R14.svE R02.update s)) ?_
  refine JO_nil (JX_then (J_seq (J_region ?_)))
  refine JO_read (Value.agg ((DataSet.enc (R14.svD R02.update s) ++ [vI (R14.svN R02.update s), Value.slice A2 ((R14.svP R02.update s).length) c3])).toArray) rfl trivial (x_loadN 0 (DataSet.enc (R14.svD R02.update s) ++ [vI (R14.svN R02.update s), Value.slice A2 ((R14.svP R02.update s).length) c3]) rfl rfl Ty.ag37 Ty.sz37 rfl) ?_
  refine JO_call [] [] [Ent.blk b5 37 (DataSet.enc (R14.svD R02.update s) ++ [vI (R14.svN R02.update s), Value.slice A2 ((R14.svP R02.update s).length) c3]), Ent.row (.slice A2 (R14.svP R02.update s).length c3) 54 2 (R14.svP R02.update s).length ((R14.svP R02.update s).flatMap Pair.enc), Ent.blk b1 37 [vI 0, vI 0, vI 0, vI 0, vI 0, vI 0, vI 0, vI 0, vI 0, vI 0, vI 0, vI 0, vI 0, vI 0, vB false, vI 0, vS [], vS [], vI 0, vI 0, vB false, vI 0, Value.slice none 0 0]] rfl trivial (fun _ => x_call Ty.ca19 rfl) (fun _ h => h) (fun _ h => by cases h) (fun w hS => f19_ok (R14.svD R02.update s) (R14.svN R02.update s) (R14.svP R02.update s) A2 c3 w (RO.of_row hS 1 rfl) hy_) ?_
  rintro _ _ ⟨rfl, rfl⟩
  refine jr_ (Value.tuple #[vS (R14.encode R02.update (R14.svD R02.update s) (R14.svN R02.update s) (R14.svP R02.update s)), vI (R14.okE (R14.valid (R14.svD R02.update s) (R14.svN R02.update s) (R14.svP R02.update s)))]) ?_
  refine jr_ (vS (R14.encode R02.update (R14.svD R02.update s) (R14.svN R02.update s) (R14.svP R02.update s))) ?_
  refine jr_ (vI (R14.okE (R14.valid (R14.svD R02.update s) (R14.svN R02.update s) (R14.svP R02.update s)))) ?_
  refine jr_ (vS (R14.encode R02.update (R14.svD R02.update s) (R14.svN R02.update s) (R14.svP R02.update s))) ?_
  refine jr_ (vI (R14.okE (R14.valid (R14.svD R02.update s) (R14.svN R02.update s) (R14.svP R02.update s)))) ?_
  refine JO_nil (JX_then (J_seq (J_seq (J_region ?_))))
  refine jr_ (vI (R14.svE R02.update s)) ?_
  refine JO_read (vB (decide (R14.svE R02.update s ≠ 0))) rfl trivial (fun _ _ => x_neq_i rfl rfl) ?_
  refine jr_ (vB (decide (R14.svE R02.update s ≠ 0))) ?_
  refine JO_cut (X := Bool) 3 (fun z => z = ((decide (R14.svE R02.update s ≠ 0)) || (decide (R14.okE (R14.valid (R14.svD R02.update s) (R14.svN R02.update s) (R14.svP R02.update s)) ≠ 0)))) (fun z => [(0, vS s), (2, Value.pointer (some ⟨b1, 0, none⟩)), (3, vI 0), (4, Value.pointer (some ⟨b5, 0, none⟩)), (7, vS (R14.encode R02.update (R14.svD R02.update s) (R14.svN R02.update s) (R14.svP R02.update s))), (25, vB z)]) (fun _ => [Ent.blk b5 37 (DataSet.enc (R14.svD R02.update s) ++ [vI (R14.svN R02.update s), Value.slice A2 ((R14.svP R02.update s).length) c3]), Ent.row (.slice A2 (R14.svP R02.update s).length c3) 54 2 (R14.svP R02.update s).length ((R14.svP R02.update s).flatMap Pair.enc), Ent.blk b1 37 [vI 0, vI 0, vI 0, vI 0, vI 0, vI 0, vI 0, vI 0, vI 0, vI 0, vI 0, vI 0, vI 0, vI 0, vB false, vI 0, vS [], vS [], vI 0, vI 0, vB false, vI 0, Value.slice none 0 0]]) ?_ ?_
  · rcases Bool.eq_false_or_eq_true (decide (R14.svE R02.update s ≠ 0)) with g7 | g7
    · have g7r := g7
      have g7r := of_decide_eq_true g7r
      refine JO_shun rfl ⟨_, rfl, g7⟩ ?_
      refine JO_shun rfl ⟨_, rfl, g7⟩ ?_
      refine JO_read (vB true) rfl trivial (fun _ _ => x_pick_t rfl g7 rfl) ?_
      refine JO_nil (JX_cut (true) (by rw [g7]; simp) ⟨rfl, rfl, rfl, rfl, rfl, rfl, trivial⟩ (fun _ h => h))
    · have g7r := g7
      have g7r := of_decide_eq_false g7r
      refine JO_read (vI (R14.okE (R14.valid (R14.svD R02.update s) (R14.svN R02.update s) (R14.svP R02.update s)))) rfl ⟨_, rfl, g7⟩ (fun _ _ => rfl) ?_
      refine JO_read (vB (decide (R14.okE (R14.valid (R14.svD R02.update s) (R14.svN R02.update s) (R14.svP R02.update s)) ≠ 0))) rfl ⟨_, rfl, g7⟩ (fun _ _ => x_neq_i rfl rfl) ?_
      refine JO_read (vB (decide (R14.okE (R14.valid (R14.svD R02.update s) (R14.svN R02.update s) (R14.svP R02.update s)) ≠ 0))) rfl trivial (fun _ _ => x_pick_f rfl g7 rfl) ?_
      refine JO_nil (JX_cut (decide (R14.okE (R14.valid (R14.svD R02.update s) (R14.svN R02.update s) (R14.svP R02.update s)) ≠ 0)) (by rw [g7]; simp) ⟨rfl, rfl, rfl, rfl, rfl, rfl, trivial⟩ (fun _ h => h))
  rintro z6 rfl
  refine jr_ (vB ((decide (R14.svE R02.update s ≠ 0)) || (decide (R14.okE (R14.valid (R14.svD R02.update s) (R14.svN R02.update s) (R14.svP R02.update s)) ≠ 0)))) ?_
  refine JO_cut (X := Bool) 4 (fun z => z = (((decide (R14.svE R02.update s ≠ 0)) || (decide (R14.okE (R14.valid (R14.svD R02.update s) (R14.svN R02.update s) (R14.svP R02.update s)) ≠ 0))) || (decide (s ≠ R14.encode R02.update (R14.svD R02.update s) (R14.svN R02.update s) (R14.svP R02.update s))))) (fun z => [(2, Value.pointer (some ⟨b1, 0, none⟩)), (3, vI 0), (4, Value.pointer (some ⟨b5, 0, none⟩)), (30, vB z)]) (fun _ => [Ent.blk b5 37 (DataSet.enc (R14.svD R02.update s) ++ [vI (R14.svN R02.update s), Value.slice A2 ((R14.svP R02.update s).length) c3]), Ent.row (.slice A2 (R14.svP R02.update s).length c3) 54 2 (R14.svP R02.update s).length ((R14.svP R02.update s).flatMap Pair.enc), Ent.blk b1 37 [vI 0, vI 0, vI 0, vI 0, vI 0, vI 0, vI 0, vI 0, vI 0, vI 0, vI 0, vI 0, vI 0, vI 0, vB false, vI 0, vS [], vS [], vI 0, vI 0, vB false, vI 0, Value.slice none 0 0]]) ?_ ?_
  · rcases Bool.eq_false_or_eq_true ((decide (R14.svE R02.update s ≠ 0)) || (decide (R14.okE (R14.valid (R14.svD R02.update s) (R14.svN R02.update s) (R14.svP R02.update s)) ≠ 0))) with g9 | g9
    · have g9r := g9
      simp only [Bool.and_eq_true, Bool.or_eq_true, Bool.and_eq_false_iff, Bool.or_eq_false_iff, Bool.not_eq_true', Bool.not_eq_false', decide_eq_true_eq, decide_eq_false_iff_not] at g9r
      refine JO_shun rfl ⟨_, rfl, g9⟩ ?_
      refine JO_shun rfl ⟨_, rfl, g9⟩ ?_
      refine JO_shun rfl ⟨_, rfl, g9⟩ ?_
      refine JO_read (vB true) rfl trivial (fun _ _ => x_pick_t rfl g9 rfl) ?_
      refine JO_nil (JX_cut (true) (by rw [g9]; simp) ⟨rfl, rfl, rfl, rfl, trivial⟩ (fun _ h => h))
    · have g9r := g9
      have ⟨g9r, h10⟩ := bor_false g9r
      have g9r := of_decide_eq_false g9r
      have h10 := of_decide_eq_false h10
      refine JO_read (vS s) rfl ⟨_, rfl, g9⟩ (fun _ _ => rfl) ?_
      refine JO_read (vS (R14.encode R02.update (R14.svD R02.update s) (R14.svN R02.update s) (R14.svP R02.update s))) rfl ⟨_, rfl, g9⟩ (fun _ _ => rfl) ?_
      refine JO_read (vB (decide (s ≠ R14.encode R02.update (R14.svD R02.update s) (R14.svN R02.update s) (R14.svP R02.update s)))) rfl ⟨_, rfl, g9⟩ (fun _ _ => x_neq_s rfl rfl) ?_
      refine JO_read (vB (decide (s ≠ R14.encode R02.update (R14.svD R02.update s) (R14.svN R02.update s) (R14.svP R02.update s)))) rfl trivial (fun _ _ => x_pick_f rfl g9 rfl) ?_
      refine JO_nil (JX_cut (decide (s ≠ R14.encode R02.update (R14.svD R02.update s) (R14.svN R02.update s) (R14.svP R02.update s))) (by rw [g9]; simp) ⟨rfl, rfl, rfl, rfl, trivial⟩ (fun _ h => h))
  rintro z8 rfl
  refine JO_nil (JX_then ?_)
  refine J_cond (((decide (R14.svE R02.update s ≠ 0)) || (decide (R14.okE (R14.valid (R14.svD R02.update s) (R14.svN R02.update s) (R14.svP R02.update s)) ≠ 0))) || (decide (s ≠ R14.encode R02.update (R14.svD R02.update s) (R14.svN R02.update s) (R14.svP R02.update s)))) rfl rfl (fun h11 => ?_) (fun h11 => ?_)
  · have h11w := h11
    simp only [Bool.and_eq_true, Bool.or_eq_true, Bool.and_eq_false_iff, Bool.or_eq_false_iff, Bool.not_eq_true', Bool.not_eq_false', decide_eq_true_eq, decide_eq_false_iff_not] at h11
    refine J_seq (J_region ?_)
    refine JO_read (Value.agg #[vI 0, vI 0, vI 0, vI 0, vI 0, vI 0, vI 0, vI 0, vI 0, vI 0, vI 0, vI 0, vI 0, vI 0, vB false, vI 0, vS [], vS [], vI 0, vI 0, vB false, vI 0, Value.slice none 0 0]) rfl trivial (fun _ _ => x_build (by kernel_rfl)) ?_
    refine JO_op rfl trivial (O_storeS (vs := [vI 0, vI 0, vI 0, vI 0, vI 0, vI 0, vI 0, vI 0, vI 0, vI 0, vI 0, vI 0, vI 0, vI 0, vB false, vI 0, vS [], vS [], vI 0, vI 0, vB false, vI 0, Value.slice none 0 0]) 2 [vI 0, vI 0, vI 0, vI 0, vI 0, vI 0, vI 0, vI 0, vI 0, vI 0, vI 0, vI 0, vI 0, vI 0, vB false, vI 0, vS [], vS [], vI 0, vI 0, vB false, vI 0, Value.slice none 0 0] [Ent.blk b5 37 (DataSet.enc (R14.svD R02.update s) ++ [vI (R14.svN R02.update s), Value.slice A2 ((R14.svP R02.update s).length) c3]), Ent.row (.slice A2 (R14.svP R02.update s).length c3) 54 2 (R14.svP R02.update s).length ((R14.svP R02.update s).flatMap Pair.enc), Ent.blk b1 37 [vI 0, vI 0, vI 0, vI 0, vI 0, vI 0, vI 0, vI 0, vI 0, vI 0, vI 0, vI 0, vI 0, vI 0, vB false, vI 0, vS [], vS [], vI 0, vI 0, vB false, vI 0, Value.slice none 0 0]] rfl rfl rfl Ty.sz37 rfl (Nat.le_of_ble_eq_true rfl) rfl (st_all rfl) rfl ?_)
    refine jr_ (vI 11) ?_
    refine JO_nil (JX_then (J_ret (JX_then_ret ?_)))
    first
      | have hd := R14.dcr_bad (by assumption)
      | have hd := R14.dcr_ok (by assumption)
    refine JX_rets [Value.agg #[vI 0, vI 0, vI 0, vI 0, vI 0, vI 0, vI 0, vI 0, vI 0, vI 0, vI 0, vI 0, vI 0, vI 0, vB false, vI 0, vS [], vS [], vI 0, vI 0, vB false, vI 0, Value.slice none 0 0], vI 11] (Value.tuple #[Value.agg #[vI 0, vI 0, vI 0, vI 0, vI 0, vI 0, vI 0, vI 0, vI 0, vI 0, vI 0, vI 0, vI 0, vI 0, vB false, vI 0, vS [], vS [], vI 0, vI 0, vB false, vI 0, Value.slice none 0 0], vI 11]) Try.results27 (fun w h => ⟨⟨_, rfl, load_blkN 2 [vI 0, vI 0, vI 0, vI 0, vI 0, vI 0, vI 0, vI 0, vI 0, vI 0, vI 0, vI 0, vI 0, vI 0, vB false, vI 0, vS [], vS [], vI 0, vI 0, vB false, vI 0, Value.slice none 0 0] h rfl Ty.ag37 Ty.sz37 rfl⟩, rfl, trivial⟩) rfl [Ent.row (.slice none ([] : List Pair).length 0) 54 2 ([] : List Pair).length (([] : List Pair).flatMap Pair.enc)] (fun _ h => (h.nilrow 54 2).keep [true, false, false, false] rfl) ⟨none, 0, ?_, ?_⟩
    · have e_x0 : ((DataSet.mk 0 0 0 0 0 0 0 0 0 0 0 0 0 0 false 0 [] [] 0 0 false) : DataSet) = (R14.dcD R02.update s) := by first | exact hd.1 | exact hd.2.1 | exact congrArg List.length hd.2.2.1 | exact hd.2.2.1 | exact hd.2.2.2.1 | exact hd.2.2.2.2 | exact hd.2.2.2
      have e_x1 : (0 : Int) = (R14.dcN R02.update s) := by first | exact hd.1 | exact hd.2.1 | exact congrArg List.length hd.2.2.1 | exact hd.2.2.1 | exact hd.2.2.2.1 | exact hd.2.2.2.2 | exact hd.2.2.2
      have e_x2 : (0 : Nat) = ((R14.dcP R02.update s).length) := by first | exact hd.1 | exact hd.2.1 | exact congrArg List.length hd.2.2.1 | exact hd.2.2.1 | exact hd.2.2.2.1 | exact hd.2.2.2.2 | exact hd.2.2.2
      have e_x3 : (11 : Int) = (R14.dcE R02.update s) := by first | exact hd.1 | exact hd.2.1 | exact congrArg List.length hd.2.2.1 | exact hd.2.2.1 | exact hd.2.2.2.1 | exact hd.2.2.2.2 | exact hd.2.2.2
      have e_all := (congr (congr (congr (congrArg (fun (x0 : DataSet) (x1 : Int) (x2 : Nat) (x3 : Int) => Value.tuple #[Value.agg ((DataSet.enc x0 ++ [vI x1, Value.slice none x2 0])).toArray, vI x3]) e_x0) e_x1) e_x2) e_x3)
      exact e_all
    · have e_y0 : (([] : List Pair) : List Pair) = (R14.dcP R02.update s) := by
        first | exact hd.1 | exact hd.2.1 | exact congrArg List.length hd.2.2.1 | exact hd.2.2.1 | exact hd.2.2.2.1 | exact hd.2.2.2.2 | exact hd.2.2.2
      have e_all := (congrArg (fun (y0 : List Pair) => [Ent.row (.slice none y0.length 0) 54 2 y0.length (y0.flatMap Pair.enc)]) e_y0)
      exact e_all
  · have h11w := h11
    have ⟨h11, h12⟩ := bor_false h11
    have ⟨h11, h13⟩ := bor_false h11
    have h11 := of_decide_eq_false h11
    have h13 := of_decide_eq_false h13
    have h12 := of_decide_eq_false h12
    refine J_skip (JX_then (J_seq (J_region ?_)))
    refine JO_read (Value.agg ((DataSet.enc (R14.svD R02.update s) ++ [vI (R14.svN R02.update s), Value.slice A2 ((R14.svP R02.update s).length) c3])).toArray) rfl trivial (x_loadN 0 (DataSet.enc (R14.svD R02.update s) ++ [vI (R14.svN R02.update s), Value.slice A2 ((R14.svP R02.update s).length) c3]) rfl rfl Ty.ag37 Ty.sz37 rfl) ?_
    refine JO_op rfl trivial (O_storeS (vs := (DataSet.enc (R14.svD R02.update s) ++ [vI (R14.svN R02.update s), Value.slice A2 ((R14.svP R02.update s).length) c3])) 2 (DataSet.enc (R14.svD R02.update s) ++ [vI (R14.svN R02.update s), Value.slice A2 ((R14.svP R02.update s).length) c3]) [Ent.blk b5 37 (DataSet.enc (R14.svD R02.update s) ++ [vI (R14.svN R02.update s), Value.slice A2 ((R14.svP R02.update s).length) c3]), Ent.row (.slice A2 (R14.svP R02.update s).length c3) 54 2 (R14.svP R02.update s).length ((R14.svP R02.update s).flatMap Pair.enc), Ent.blk b1 37 (DataSet.enc (R14.svD R02.update s) ++ [vI (R14.svN R02.update s), Value.slice A2 ((R14.svP R02.update s).length) c3])] rfl rfl rfl Ty.sz37 rfl (Nat.le_of_ble_eq_true rfl) rfl (st_all rfl) rfl ?_)
    refine jr_ (vI 0) ?_
    refine JO_nil (JX_then (J_ret ?_))
    first
      | have hd := R14.dcr_bad (by assumption)
      | have hd := R14.dcr_ok (by assumption)
    refine JX_rets [Value.agg ((DataSet.enc (R14.svD R02.update s) ++ [vI (R14.svN R02.update s), Value.slice A2 ((R14.svP R02.update s).length) c3])).toArray, vI 0] (Value.tuple #[Value.agg ((DataSet.enc (R14.svD R02.update s) ++ [vI (R14.svN R02.update s), Value.slice A2 ((R14.svP R02.update s).length) c3])).toArray, vI 0]) Try.results27 (fun w h => ⟨⟨_, rfl, load_blkN 2 (DataSet.enc (R14.svD R02.update s) ++ [vI (R14.svN R02.update s), Value.slice A2 ((R14.svP R02.update s).length) c3]) h rfl Ty.ag37 Ty.sz37 rfl⟩, rfl, trivial⟩) rfl [Ent.row (.slice A2 (R14.svP R02.update s).length c3) 54 2 (R14.svP R02.update s).length ((R14.svP R02.update s).flatMap Pair.enc)] (fun _ h => h.keep [false, true, false] rfl) ⟨A2, c3, ?_, ?_⟩
    · have e_x0 : ((R14.svD R02.update s) : DataSet) = (R14.dcD R02.update s) := by first | exact hd.1 | exact hd.2.1 | exact congrArg List.length hd.2.2.1 | exact hd.2.2.1 | exact hd.2.2.2.1 | exact hd.2.2.2.2 | exact hd.2.2.2
      have e_x1 : ((R14.svN R02.update s) : Int) = (R14.dcN R02.update s) := by first | exact hd.1 | exact hd.2.1 | exact congrArg List.length hd.2.2.1 | exact hd.2.2.1 | exact hd.2.2.2.1 | exact hd.2.2.2.2 | exact hd.2.2.2
      have e_x2 : ((R14.svP R02.update s).length : Nat) = ((R14.dcP R02.update s).length) := by first | exact hd.1 | exact hd.2.1 | exact congrArg List.length hd.2.2.1 | exact hd.2.2.1 | exact hd.2.2.2.1 | exact hd.2.2.2.2 | exact hd.2.2.2
      have e_x3 : (0 : Int) = (R14.dcE R02.update s) := by first | exact hd.1 | exact hd.2.1 | exact congrArg List.length hd.2.2.1 | exact hd.2.2.1 | exact hd.2.2.2.1 | exact hd.2.2.2.2 | exact hd.2.2.2
      have e_all := (congr (congr (congr (congrArg (fun (x0 : DataSet) (x1 : Int) (x2 : Nat) (x3 : Int) => Value.tuple #[Value.agg ((DataSet.enc x0 ++ [vI x1, Value.slice A2 x2 c3])).toArray, vI x3]) e_x0) e_x1) e_x2) e_x3)
      exact e_all
    · have e_y0 : ((R14.svP R02.update s) : List Pair) = (R14.dcP R02.update s) := by
        first | exact hd.1 | exact hd.2.1 | exact congrArg List.length hd.2.2.1 | exact hd.2.2.1 | exact hd.2.2.2.1 | exact hd.2.2.2.2 | exact hd.2.2.2
      have e_all := (congrArg (fun (y0 : List Pair) => [Ent.row (.slice A2 y0.length c3) 54 2 y0.length (y0.flatMap Pair.enc)]) e_y0)
      exact e_all
end Go.Proofs.Ytodfebhimadaiaa
