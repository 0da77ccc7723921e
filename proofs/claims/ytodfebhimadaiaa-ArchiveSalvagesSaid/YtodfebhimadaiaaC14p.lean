/- contracts C14p -/
import Derived.Test.YtodfebhimadaiaaC14i
import Derived.Test.YtodfebhimadaiaaPl14o
namespace Go.Proofs.Ytodfebhimadaiaa
open Go.GV
set_option linter.unusedVariables false
set_option linter.unusedSimpArgs false
set_option maxHeartbeats 1000000 in
set_option maxRecDepth 20000 in
theorem f30_ok (s : Bytes) (l : List Harm) (lA : Option Addr) (lC : Nat) (w : World) (lR : RO [] w lA (l.flatMap Harm.enc)) (q0 : 64 ≤ s.length) (q1 : s.length ≤ 1000000) (q2 : l.length ≤ 20) : Calls Try.prog 30 #[vS s, Value.slice lA l.length lC] w (Gives [] w fun v L => ∃ M : Nat, v = Value.tuple #[vS (R14.harmT s l), Value.map (some M)] ∧ L = [Ent.mp vI M ((R14.harmG s l).map kT)]) := by
  refine calls_J [] 122 Try.func30 rfl Try.ntmps30 [(0, vS s), (1, Value.slice lA l.length lC)] rfl rfl (Give.nil w) ?_
  refine J_seq (J_region ?_)
  refine jr_ (vS []) ?_
  refine jr_ (Value.map none) ?_
  refine JO_nil (JX_then (J_seq (J_region ?_)))
  refine jr_ (vS s) ?_
  refine JO_read (vI ((s.length : Nat) : Int)) rfl trivial (fun _ _ => x_len_s rfl Try.underlying9) ?_
  refine JO_read (vI ((s.length / 64 : Nat) : Int)) rfl trivial (fun _ _ => x_quo_n (a := s.length) (b := 64) rfl rfl (by omega) (by omega)) ?_
  refine jr_ (vI ((s.length / 64 : Nat) : Int)) ?_
  refine JO_nil (JX_then (J_seq (J_region ?_)))
  refine JO_op rfl trivial (O_makeMap vI fun b1 => ?_)
  refine JO_op rfl trivial (O_buildSlice0 Try.underlying72 Ty.sz3 fun b2 => ?_)
  refine JO_op rfl trivial (O_makeMap vI fun b3 => ?_)
  refine jr_ (Value.map (some b1)) ?_
  refine jr_ (Value.slice (some ⟨b2, 0, none⟩) 0 0) ?_
  refine jr_ (Value.map (some b3)) ?_
  refine JO_nil (JX_then (J_seq (J_region ?_)))
  refine JO_op rfl trivial (O_makeMap vI fun b4 => ?_)
  refine jr_ (Value.map (some b4)) ?_
  refine JO_nil (JX_then (J_seq (J_seq (J_region ?_))))
  refine jr_ (Value.slice lA l.length lC) ?_
  refine JO_read (vI ((l.length : Nat) : Int)) rfl trivial (fun _ _ => x_len_sl Try.underlying48 rfl) ?_
  refine jr_ (vI 0) ?_
  refine JO_nil (JX_then (J_block ?_))
  refine J_loop (X := Nat × (List Int) × (List Int) × (List (Int × Bytes)) × (List Int) × (Option Addr) × Nat) (fun (⟨k, dn, gn, dm, bk, bkA, bkC⟩ : Nat × (List Int) × (List Int) × (List (Int × Bytes)) × (List Int) × (Option Addr) × Nat) => (k ≤ l.length) ∧ ((R14.HS.mk dn gn dm bk) = R14.hrun s (s.length / 64) (l.take k)) ∧ (bk.length ≤ k)) (fun (⟨k, dn, gn, dm, bk, bkA, bkC⟩ : Nat × (List Int) × (List Int) × (List (Int × Bytes)) × (List Int) × (Option Addr) × Nat) => [(0, vS s), (4, vS []), (5, Value.map none), (6, vI ((s.length / 64 : Nat) : Int)), (7, Value.map (some b1)), (8, Value.slice bkA bk.length bkC), (9, Value.map (some b3)), (10, Value.map (some b4)), (25, Value.slice lA l.length lC), (26, vI ((l.length : Nat) : Int)), (27, vI ((k : Nat) : Int))]) (fun (⟨k, dn, gn, dm, bk, bkA, bkC⟩ : Nat × (List Int) × (List Int) × (List (Int × Bytes)) × (List Int) × (Option Addr) × Nat) => [Ent.mp vI b4 (dn.map kT), Ent.mp vI b3 (dm.map R14.mB), Ent.mp vI b1 (gn.map kT), Ent.row (.slice bkA bk.length bkC) 3 1 bk.length (bk.map vI)]) (fun (⟨k, dn, gn, dm, bk, bkA, bkC⟩ : Nat × (List Int) × (List Int) × (List (Int × Bytes)) × (List Int) × (Option Addr) × Nat) => l.length - k) ((0, ([] : List Int), ([] : List Int), ([] : List (Int × Bytes)), ([] : List Int), (some ⟨b2, 0, none⟩), 0) : Nat × (List Int) × (List Int) × (List (Int × Bytes)) × (List Int) × (Option Addr) × Nat) ?_ ⟨rfl, rfl, rfl, rfl, rfl, rfl, rfl, rfl, rfl, rfl, rfl, trivial⟩ (fun _ h => ((((St.torow (cs := []) (h.front 2 _ rfl) 1 0 rfl (by decide)).front 3 _ rfl).front 3 _ rfl).front 3 _ rfl).keep [true, true, true, true] rfl) ?_
  · show (0 ≤ l.length) ∧ ((R14.HS.mk ([] : List Int) ([] : List Int) ([] : List (Int × Bytes)) ([] : List Int)) = R14.hrun s (s.length / 64) (l.take 0)) ∧ (([] : List Int).length ≤ 0)
    refine ⟨?_, ?_, ?_⟩
    · first | rfl | omega | (simp_all; done) | (simp_all; omega)
    · rfl
    · exact Nat.le_refl _
  rintro ⟨k, dn, gn, dm, bk, bkA, bkC⟩ hI1
  obtain ⟨i1_0, i1_1, i1_2⟩ : (k ≤ l.length) ∧ ((R14.HS.mk dn gn dm bk) = R14.hrun s (s.length / 64) (l.take k)) ∧ (bk.length ≤ k) := hI1
  have htf := (l.getD k default).Frame.toNat_lt
  have hta := (l.getD k default).At.toNat_lt
  have hix := Nat.mod_lt (l.getD k default).Frame.toNat (show (s.length / 64) > 0 by omega)
  have hat := Nat.mod_lt (l.getD k default).At.toNat (show 61 > 0 by omega)
  refine J_weaken (E' := [(0, vS s), (4, vS []), (5, Value.map none), (6, vI ((s.length / 64 : Nat) : Int)), (7, Value.map (some b1)), (8, Value.slice bkA bk.length bkC), (9, Value.map (some b3)), (10, Value.map (some b4)), (25, Value.slice lA l.length lC), (26, vI ((l.length : Nat) : Int)), (27, vI ((k : Nat) : Int))]) (L' := [Ent.mp vI b4 (dn.map kT), Ent.mp vI b3 (dm.map R14.mB), Ent.mp vI b1 (gn.map kT), Ent.row (.slice bkA bk.length bkC) 3 1 bk.length (bk.map vI)]) ⟨rfl, rfl, rfl, rfl, rfl, rfl, rfl, rfl, rfl, rfl, rfl, trivial⟩ (fun _ h => h) ?_
  refine J_seq (J_region ?_)
  refine JO_read (vB (decide (((k : Nat) : Int) < ((l.length : Nat) : Int)))) rfl trivial (fun _ _ => x_lss_i rfl rfl) ?_
  refine JO_nil (JX_then (J_seq ?_))
  refine J_cond (decide (((k : Nat) : Int) < ((l.length : Nat) : Int))) rfl rfl (fun h5 => ?_) (fun h5 => ?_)
  · have h5w := h5
    have h5 := of_decide_eq_true h5
    refine J_skip (JX_then (J_seq (J_block (J_seq (J_region ?_)))))
    refine JO_read (Value.pointer (some (adr lA (k * 4)))) rfl trivial (x_indexAddr_at (k := k) (off := k * 4) (cells_ro lR) Try.underlying48 Ty.sz101 rfl rfl lt_ (by rw [flat_length Harm.enc 4 Harm.enc_len]; first | omega | (simp; omega) | (simp_all; omega) | (simp_all; done)) rfl) ?_
    refine JO_read (Value.agg ((Harm.enc (l.getD k default))).toArray) rfl trivial (x_loadN_at (Harm.enc (l.getD k default)) (cells_ro lR) rfl Ty.ag101 Ty.sz101 (flat_drop Harm.enc 4 Harm.enc_len l default k lt_)) ?_
    refine JO_op rfl trivial (O_alloc Ty.ze101 rfl fun b6 => ?_)
    refine JO_op rfl trivial (O_storeS (vs := (Harm.enc (l.getD k default))) 0 (Harm.enc (l.getD k default)) [Ent.blk b6 101 (Harm.enc (l.getD k default)), Ent.mp vI b4 (dn.map kT), Ent.mp vI b3 (dm.map R14.mB), Ent.mp vI b1 (gn.map kT), Ent.row (.slice bkA bk.length bkC) 3 1 bk.length (bk.map vI)] rfl rfl rfl Ty.sz101 rfl (Nat.le_of_ble_eq_true rfl) rfl (st_all rfl) rfl ?_)
    refine JO_nil (JX_then (J_seq (J_region ?_)))
    refine JO_read (Value.pointer (some ⟨b6, 0, none⟩)) rfl trivial (fun _ _ => x_fieldAddr Ty.fi101_0 rfl rfl) ?_
    refine JO_read (vU16 ((l.getD k default).Frame)) rfl trivial (x_load 0 rfl rfl Ty.sc28 rfl) ?_
    refine JO_read (vI ((((l.getD k default).Frame).toNat : Nat) : Int)) rfl trivial (fun _ _ => x_conv_u16_i64 rfl Try.underlying28 Try.underlying3) ?_
    refine jr_ (vI ((s.length / 64 : Nat) : Int)) ?_
    refine JO_read (vI (((((l.getD k default).Frame).toNat) % (s.length / 64) : Nat) : Int)) rfl trivial (fun _ _ => x_rem_n (a := ((l.getD k default).Frame).toNat) (b := s.length / 64) rfl rfl (by omega) (by omega)) ?_
    refine jr_ (vI (((((l.getD k default).Frame).toNat) % (s.length / 64) : Nat) : Int)) ?_
    refine JO_nil (JX_then (J_seq (J_seq (J_region ?_))))
    refine jr_ (Value.map (some b4)) ?_
    refine jr_ (vI (((((l.getD k default).Frame).toNat) % (s.length / 64) : Nat) : Int)) ?_
    refine JO_read (vB (hasK dn (((((l.getD k default).Frame).toNat) % (s.length / 64) : Nat) : Int))) rfl trivial (x_lookup_v 1 (f := vI) (k := (((((l.getD k default).Frame).toNat) % (s.length / 64) : Nat) : Int)) rfl rfl rfl Try.underlying49 (mapK_i Try.underlying3) Ty.ze4 rfl (lk_kT_v dn (((((l.getD k default).Frame).toNat) % (s.length / 64) : Nat) : Int))) ?_
    refine JO_nil (JX_then ?_)
    refine J_cond ((hasK dn (((((l.getD k default).Frame).toNat) % (s.length / 64) : Nat) : Int))) rfl rfl (fun h7 => ?_) (fun h7 => ?_)
    · have h7w := h7
      refine J_exit (JX_then_exit (JX_block_hit (JX_then (J_region ?_))))
      refine JO_read (vI ((k + 1 : Nat) : Int)) rfl trivial (fun _ _ => x_add_n (a := k) (b := 1) rfl rfl (by omega)) ?_
      refine jr_ (vI ((k + 1 : Nat) : Int)) ?_
      refine JO_nil ?_
      refine JX_round ((k + 1, dn, gn, dm, bk, bkA, bkC) : Nat × (List Int) × (List Int) × (List (Int × Bytes)) × (List Int) × (Option Addr) × Nat) ?_ ?_ ⟨rfl, rfl, rfl, rfl, rfl, rfl, rfl, rfl, rfl, rfl, rfl, trivial⟩ (fun _ h => h.keep [false, true, true, true, true] rfl)
      · show ((k + 1) ≤ l.length) ∧ ((R14.HS.mk dn gn dm bk) = R14.hrun s (s.length / 64) (l.take (k + 1))) ∧ (bk.length ≤ (k + 1))
        refine ⟨?_, ?_, ?_⟩
        · first | rfl | omega | (simp_all; done) | (simp_all; omega)
        · first | exact R14.hs_skip (by omega) i1_1 (by assumption) | exact R14.hs_0 (by omega) i1_1 (by assumption) (by assumption) | exact R14.hs_1 (by omega) i1_1 (by assumption) (by assumption) (by assumption) | exact R14.hs_2 (by omega) i1_1 (by assumption) (by assumption) (by assumption) (by assumption) | exact R14.hs_3 (by omega) i1_1 (by assumption) (by assumption) (by assumption) (by assumption)
        · first | omega | (rw [List.length_append]; simp only [List.length_cons, List.length_nil]; omega)
      · show l.length - (k + 1) < l.length - k
        first | omega | (simp; omega) | (simp_all; omega)
    · have h7w := h7
      refine J_skip (JX_then (J_seq (J_region ?_)))
      refine jr_ (Value.map (some b4)) ?_
      refine jr_ (vI (((((l.getD k default).Frame).toNat) % (s.length / 64) : Nat) : Int)) ?_
      refine JO_op rfl trivial (O_mapUpdate 1 (f := vI) (k := (((((l.getD k default).Frame).toNat) % (s.length / 64) : Nat) : Int)) ((addK dn (((((l.getD k default).Frame).toNat) % (s.length / 64) : Nat) : Int)).map kT) [Ent.blk b6 101 (Harm.enc (l.getD k default)), Ent.mp vI b4 ((addK dn (((((l.getD k default).Frame).toNat) % (s.length / 64) : Nat) : Int)).map kT), Ent.mp vI b3 (dm.map R14.mB), Ent.mp vI b1 (gn.map kT), Ent.row (.slice bkA bk.length bkC) 3 1 bk.length (bk.map vI)] rfl rfl rfl rfl Try.underlying49 (mapK_i Try.underlying3) (upd_kT dn (((((l.getD k default).Frame).toNat) % (s.length / 64) : Nat) : Int)) rfl ?_)
      refine JO_nil (JX_then (J_seq (J_region ?_)))
      refine JO_read (Value.pointer (some ⟨b6, 3, none⟩)) rfl trivial (fun _ _ => x_fieldAddr Ty.fi101_3 rfl rfl) ?_
      refine JO_read (vU8 ((l.getD k default).Kind)) rfl trivial (x_load 0 rfl rfl Ty.sc5 rfl) ?_
      refine JO_read (vU8 (((l.getD k default).Kind) % 3)) rfl trivial (fun _ _ => x_rem_u8 rfl rfl (by decide)) ?_
      refine JO_nil (JX_then (J_block (J_seq (J_region ?_))))
      refine JO_read (vB (decide (((l.getD k default).Kind) % 3 = (0 : UInt8)))) rfl trivial (fun _ _ => x_eql_u8 rfl rfl) ?_
      refine jr_ (vB (decide (((l.getD k default).Kind) % 3 = (0 : UInt8)))) ?_
      refine JO_nil (JX_then ?_)
      refine J_cond (decide (((l.getD k default).Kind) % 3 = (0 : UInt8))) rfl rfl (fun h8 => ?_) (fun h8 => ?_)
      · have h8w := h8
        have h8 := of_decide_eq_true h8
        refine J_seq (J_region ?_)
        refine jr_ (Value.map (some b1)) ?_
        refine jr_ (vI (((((l.getD k default).Frame).toNat) % (s.length / 64) : Nat) : Int)) ?_
        refine JO_op rfl trivial (O_mapUpdate 3 (f := vI) (k := (((((l.getD k default).Frame).toNat) % (s.length / 64) : Nat) : Int)) ((addK gn (((((l.getD k default).Frame).toNat) % (s.length / 64) : Nat) : Int)).map kT) [Ent.blk b6 101 (Harm.enc (l.getD k default)), Ent.mp vI b4 ((addK dn (((((l.getD k default).Frame).toNat) % (s.length / 64) : Nat) : Int)).map kT), Ent.mp vI b3 (dm.map R14.mB), Ent.mp vI b1 ((addK gn (((((l.getD k default).Frame).toNat) % (s.length / 64) : Nat) : Int)).map kT), Ent.row (.slice bkA bk.length bkC) 3 1 bk.length (bk.map vI)] rfl rfl rfl rfl Try.underlying49 (mapK_i Try.underlying3) (upd_kT gn (((((l.getD k default).Frame).toNat) % (s.length / 64) : Nat) : Int)) rfl ?_)
        refine JO_nil (JX_then ?_)
        refine J_draw [Ent.blk b6 101 (Harm.enc (l.getD k default)), Ent.mp vI b4 ((addK dn (((((l.getD k default).Frame).toNat) % (s.length / 64) : Nat) : Int)).map kT), Ent.mp vI b1 ((addK gn (((((l.getD k default).Frame).toNat) % (s.length / 64) : Nat) : Int)).map kT), Ent.row (.slice bkA bk.length bkC) 3 1 bk.length (bk.map vI)] [18] [Ent.blk b6 101 (Harm.enc (l.getD k default)), Ent.mp vI b4 ((addK dn (((((l.getD k default).Frame).toNat) % (s.length / 64) : Nat) : Int)).map kT), Ent.mp vI b3 (dm.map R14.mB), Ent.mp vI b1 ((addK gn (((((l.getD k default).Frame).toNat) % (s.length / 64) : Nat) : Int)).map kT), Ent.row (.slice bkA bk.length bkC) 3 1 bk.length (bk.map vI)] 19 Ty.mixed rfl ?_
        refine jt_ 0 (Value.map (some b3)) rfl (fun _ _ => rfl) ?_
        refine jt_ 1 (vI (((((l.getD k default).Frame).toNat) % (s.length / 64) : Nat) : Int)) rfl (fun _ _ => rfl) ?_
        refine jt_ 2 (vS s) rfl (fun _ _ => rfl) ?_
        refine jt_ 3 (vI (((((l.getD k default).Frame).toNat) % (s.length / 64) : Nat) : Int)) rfl (fun _ _ => rfl) ?_
        refine jt_ 4 (vI ((((((l.getD k default).Frame).toNat) % (s.length / 64)) * 64 : Nat) : Int)) rfl (fun _ _ => x_mul_n (a := (((l.getD k default).Frame).toNat) % (s.length / 64)) (b := 64) rfl rfl (by omega)) ?_
        refine jt_ 5 (vI (((((l.getD k default).Frame).toNat) % (s.length / 64) : Nat) : Int)) rfl (fun _ _ => rfl) ?_
        refine jt_ 6 (vI ((((((l.getD k default).Frame).toNat) % (s.length / 64)) * 64 : Nat) : Int)) rfl (fun _ _ => x_mul_n (a := (((l.getD k default).Frame).toNat) % (s.length / 64)) (b := 64) rfl rfl (by omega)) ?_
        refine jt_ 7 (vI (((((((l.getD k default).Frame).toNat) % (s.length / 64)) * 64) + 64 : Nat) : Int)) rfl (fun _ _ => x_add_n (a := ((((l.getD k default).Frame).toNat) % (s.length / 64)) * 64) (b := 64) rfl rfl (by omega)) ?_
        refine jt_ 8 (vS (sub s (((((l.getD k default).Frame).toNat) % (s.length / 64)) * 64) ((((((l.getD k default).Frame).toNat) % (s.length / 64)) * 64) + 64))) rfl (fun _ _ => x_sub_s (lo := ((((l.getD k default).Frame).toNat) % (s.length / 64)) * 64) (hi := (((((l.getD k default).Frame).toNat) % (s.length / 64)) * 64) + 64) rfl Try.underlying9 (.inl rfl) (.inl rfl) lt_ (by first | omega | (simp only [sub, List.length_drop, List.length_take]; omega) | (simp; omega) | (simp_all; omega))) ?_
        refine jt_ 9 (Value.pointer (some ⟨b6, 1, none⟩)) rfl (fun _ _ => x_fieldAddr Ty.fi101_1 rfl rfl) ?_
        refine jt_ 10 (vU16 ((l.getD k default).At)) rfl (x_load 0 rfl rfl Ty.sc28 rfl) ?_
        refine jt_ 11 (vI ((((l.getD k default).At).toNat : Nat) : Int)) rfl (fun _ _ => x_conv_u16_i64 rfl Try.underlying28 Try.underlying3) ?_
        refine jt_ 12 (vI (((((l.getD k default).At).toNat) % 61 : Nat) : Int)) rfl (fun _ _ => x_rem_n (a := ((l.getD k default).At).toNat) (b := 61) rfl rfl (by omega) (by omega)) ?_
        refine jt_ 13 (Value.pointer (some ⟨b6, 2, none⟩)) rfl (fun _ _ => x_fieldAddr Ty.fi101_2 rfl rfl) ?_
        refine jt_ 14 (vU32 ((l.getD k default).Mask)) rfl (x_load 0 rfl rfl Ty.sc29 rfl) ?_
        refine jt_ 15 (vU32 (((l.getD k default).Mask) ||| 1)) rfl (fun _ _ => x_or_u32 rfl rfl) ?_
        refine JA_one 16 (by kernel_rfl) (fun _ h => ⟨h.keep [true, true, false, true, true] rfl, fun _ => h⟩) ?_
        refine JI_call [] [] [Ent.blk b6 101 (Harm.enc (l.getD k default)), Ent.mp vI b4 ((addK dn (((((l.getD k default).Frame).toNat) % (s.length / 64) : Nat) : Int)).map kT), Ent.mp vI b3 (dm.map R14.mB), Ent.mp vI b1 ((addK gn (((((l.getD k default).Frame).toNat) % (s.length / 64) : Nat) : Int)).map kT), Ent.row (.slice bkA bk.length bkC) 3 1 bk.length (bk.map vI)] rfl rfl trivial (fun _ => x_call Ty.ca16 rfl) (fun _ h => h) (fun _ h => by cases h) (fun w hS => f16_ok (((l.getD k default).Mask) ||| 1) w) ?_
        rintro _ _ ⟨rfl, rfl⟩
        refine JA_one 17 (by kernel_rfl) (fun _ h => ⟨h.keep [true, true, false, true, true] rfl, fun _ => h⟩) ?_
        refine JI_call [] [] [Ent.blk b6 101 (Harm.enc (l.getD k default)), Ent.mp vI b4 ((addK dn (((((l.getD k default).Frame).toNat) % (s.length / 64) : Nat) : Int)).map kT), Ent.mp vI b3 (dm.map R14.mB), Ent.mp vI b1 ((addK gn (((((l.getD k default).Frame).toNat) % (s.length / 64) : Nat) : Int)).map kT), Ent.row (.slice bkA bk.length bkC) 3 1 bk.length (bk.map vI)] rfl rfl trivial (fun _ => x_call Ty.ca15 rfl) (fun _ h => h) (fun _ h => by cases h) (fun w hS => f15_ok (sub s (((((l.getD k default).Frame).toNat) % (s.length / 64)) * 64) ((((((l.getD k default).Frame).toNat) % (s.length / 64)) * 64) + 64)) ((((l.getD k default).At).toNat) % 61) (R02.le (((l.getD k default).Mask) ||| 1)) w hy_ hy_ hy_) ?_
        rintro _ _ ⟨rfl, rfl⟩
        refine JA_one 18 (by kernel_rfl) (fun _ h => ⟨h.keep [true, true, false, true, true] rfl, fun _ => h⟩) ?_
        refine JI_op rfl rfl trivial (O_mapUpdate 2 (f := vI) (k := (((((l.getD k default).Frame).toNat) % (s.length / 64) : Nat) : Int)) ((R14.updB dm (((((l.getD k default).Frame).toNat) % (s.length / 64) : Nat) : Int) (R02.xorAt (sub s (((((l.getD k default).Frame).toNat) % (s.length / 64)) * 64) ((((((l.getD k default).Frame).toNat) % (s.length / 64)) * 64) + 64)) ((((l.getD k default).At).toNat) % 61) (R02.le (((l.getD k default).Mask) ||| 1)))).map R14.mB) [Ent.blk b6 101 (Harm.enc (l.getD k default)), Ent.mp vI b4 ((addK dn (((((l.getD k default).Frame).toNat) % (s.length / 64) : Nat) : Int)).map kT), Ent.mp vI b3 ((R14.updB dm (((((l.getD k default).Frame).toNat) % (s.length / 64) : Nat) : Int) (R02.xorAt (sub s (((((l.getD k default).Frame).toNat) % (s.length / 64)) * 64) ((((((l.getD k default).Frame).toNat) % (s.length / 64)) * 64) + 64)) ((((l.getD k default).At).toNat) % 61) (R02.le (((l.getD k default).Mask) ||| 1)))).map R14.mB), Ent.mp vI b1 ((addK gn (((((l.getD k default).Frame).toNat) % (s.length / 64) : Nat) : Int)).map kT), Ent.row (.slice bkA bk.length bkC) 3 1 bk.length (bk.map vI)] rfl rfl rfl rfl Try.underlying99 (mapK_i Try.underlying3) (R14.upd_mB dm (((((l.getD k default).Frame).toNat) % (s.length / 64) : Nat) : Int) (R02.xorAt (sub s (((((l.getD k default).Frame).toNat) % (s.length / 64)) * 64) ((((((l.getD k default).Frame).toNat) % (s.length / 64)) * 64) + 64)) ((((l.getD k default).At).toNat) % 61) (R02.le (((l.getD k default).Mask) ||| 1)))) rfl ?_)
        refine JA_done (by kernel_rfl) (fun _ h => ⟨h.keep [true, true, false, true, true] rfl, fun hh => Bool.noConfusion (show false = true from hh)⟩) ?_
        refine JX_block (JX_block (JX_then (J_region ?_)))
        refine JO_read (vI ((k + 1 : Nat) : Int)) rfl trivial (fun _ _ => x_add_n (a := k) (b := 1) rfl rfl (by omega)) ?_
        refine jr_ (vI ((k + 1 : Nat) : Int)) ?_
        refine JO_nil ?_
        refine JX_round ((k + 1, (addK dn (((((l.getD k default).Frame).toNat) % (s.length / 64) : Nat) : Int)), (addK gn (((((l.getD k default).Frame).toNat) % (s.length / 64) : Nat) : Int)), (R14.updB dm (((((l.getD k default).Frame).toNat) % (s.length / 64) : Nat) : Int) (R02.xorAt (sub s (((((l.getD k default).Frame).toNat) % (s.length / 64)) * 64) ((((((l.getD k default).Frame).toNat) % (s.length / 64)) * 64) + 64)) ((((l.getD k default).At).toNat) % 61) (R02.le (((l.getD k default).Mask) ||| 1)))), bk, bkA, bkC) : Nat × (List Int) × (List Int) × (List (Int × Bytes)) × (List Int) × (Option Addr) × Nat) ?_ ?_ ⟨rfl, rfl, rfl, rfl, rfl, rfl, rfl, rfl, rfl, rfl, rfl, trivial⟩ (fun _ h => h.keep [false, true, true, true, true] rfl)
        · show ((k + 1) ≤ l.length) ∧ ((R14.HS.mk (addK dn (((((l.getD k default).Frame).toNat) % (s.length / 64) : Nat) : Int)) (addK gn (((((l.getD k default).Frame).toNat) % (s.length / 64) : Nat) : Int)) (R14.updB dm (((((l.getD k default).Frame).toNat) % (s.length / 64) : Nat) : Int) (R02.xorAt (sub s (((((l.getD k default).Frame).toNat) % (s.length / 64)) * 64) ((((((l.getD k default).Frame).toNat) % (s.length / 64)) * 64) + 64)) ((((l.getD k default).At).toNat) % 61) (R02.le (((l.getD k default).Mask) ||| 1)))) bk) = R14.hrun s (s.length / 64) (l.take (k + 1))) ∧ (bk.length ≤ (k + 1))
          refine ⟨?_, ?_, ?_⟩
          · first | rfl | omega | (simp_all; done) | (simp_all; omega)
          · first | exact R14.hs_skip (by omega) i1_1 (by assumption) | exact R14.hs_0 (by omega) i1_1 (by assumption) (by assumption) | exact R14.hs_1 (by omega) i1_1 (by assumption) (by assumption) (by assumption) | exact R14.hs_2 (by omega) i1_1 (by assumption) (by assumption) (by assumption) (by assumption) | exact R14.hs_3 (by omega) i1_1 (by assumption) (by assumption) (by assumption) (by assumption)
          · first | omega | (rw [List.length_append]; simp only [List.length_cons, List.length_nil]; omega)
        · show l.length - (k + 1) < l.length - k
          first | omega | (simp; omega) | (simp_all; omega)
      · have h8w := h8
        have h8 := of_decide_eq_false h8
        refine J_seq (J_region ?_)
        refine JO_read (vB (decide (((l.getD k default).Kind) % 3 = (1 : UInt8)))) rfl trivial (fun _ _ => x_eql_u8 rfl rfl) ?_
        refine jr_ (vB (decide (((l.getD k default).Kind) % 3 = (1 : UInt8)))) ?_
        refine JO_nil (JX_then ?_)
        refine J_cond (decide (((l.getD k default).Kind) % 3 = (1 : UInt8))) rfl rfl (fun h9 => ?_) (fun h9 => ?_)
        · have h9w := h9
          have h9 := of_decide_eq_true h9
          refine J_region ?_
          refine jr_ (Value.map (some b1)) ?_
          refine jr_ (vI (((((l.getD k default).Frame).toNat) % (s.length / 64) : Nat) : Int)) ?_
          refine JO_op rfl trivial (O_mapUpdate 3 (f := vI) (k := (((((l.getD k default).Frame).toNat) % (s.length / 64) : Nat) : Int)) ((addK gn (((((l.getD k default).Frame).toNat) % (s.length / 64) : Nat) : Int)).map kT) [Ent.blk b6 101 (Harm.enc (l.getD k default)), Ent.mp vI b4 ((addK dn (((((l.getD k default).Frame).toNat) % (s.length / 64) : Nat) : Int)).map kT), Ent.mp vI b3 (dm.map R14.mB), Ent.mp vI b1 ((addK gn (((((l.getD k default).Frame).toNat) % (s.length / 64) : Nat) : Int)).map kT), Ent.row (.slice bkA bk.length bkC) 3 1 bk.length (bk.map vI)] rfl rfl rfl rfl Try.underlying49 (mapK_i Try.underlying3) (upd_kT gn (((((l.getD k default).Frame).toNat) % (s.length / 64) : Nat) : Int)) rfl ?_)
          refine JO_nil (JX_block (JX_block (JX_then (J_region ?_))))
          refine JO_read (vI ((k + 1 : Nat) : Int)) rfl trivial (fun _ _ => x_add_n (a := k) (b := 1) rfl rfl (by omega)) ?_
          refine jr_ (vI ((k + 1 : Nat) : Int)) ?_
          refine JO_nil ?_
          refine JX_round ((k + 1, (addK dn (((((l.getD k default).Frame).toNat) % (s.length / 64) : Nat) : Int)), (addK gn (((((l.getD k default).Frame).toNat) % (s.length / 64) : Nat) : Int)), dm, bk, bkA, bkC) : Nat × (List Int) × (List Int) × (List (Int × Bytes)) × (List Int) × (Option Addr) × Nat) ?_ ?_ ⟨rfl, rfl, rfl, rfl, rfl, rfl, rfl, rfl, rfl, rfl, rfl, trivial⟩ (fun _ h => h.keep [false, true, true, true, true] rfl)
          · show ((k + 1) ≤ l.length) ∧ ((R14.HS.mk (addK dn (((((l.getD k default).Frame).toNat) % (s.length / 64) : Nat) : Int)) (addK gn (((((l.getD k default).Frame).toNat) % (s.length / 64) : Nat) : Int)) dm bk) = R14.hrun s (s.length / 64) (l.take (k + 1))) ∧ (bk.length ≤ (k + 1))
            refine ⟨?_, ?_, ?_⟩
            · first | rfl | omega | (simp_all; done) | (simp_all; omega)
            · first | exact R14.hs_skip (by omega) i1_1 (by assumption) | exact R14.hs_0 (by omega) i1_1 (by assumption) (by assumption) | exact R14.hs_1 (by omega) i1_1 (by assumption) (by assumption) (by assumption) | exact R14.hs_2 (by omega) i1_1 (by assumption) (by assumption) (by assumption) (by assumption) | exact R14.hs_3 (by omega) i1_1 (by assumption) (by assumption) (by assumption) (by assumption)
            · first | omega | (rw [List.length_append]; simp only [List.length_cons, List.length_nil]; omega)
          · show l.length - (k + 1) < l.length - k
            first | omega | (simp; omega) | (simp_all; omega)
        · have h9w := h9
          have h9 := of_decide_eq_false h9
          refine J_seq (J_region ?_)
          refine JO_read (vB (decide (((l.getD k default).Kind) % 3 = (2 : UInt8)))) rfl trivial (fun _ _ => x_eql_u8 rfl rfl) ?_
          refine jr_ (vB (decide (((l.getD k default).Kind) % 3 = (2 : UInt8)))) ?_
          refine JO_nil (JX_then ?_)
          refine J_cond (decide (((l.getD k default).Kind) % 3 = (2 : UInt8))) rfl rfl (fun h10 => ?_) (fun h10 => ?_)
          · have h10w := h10
            have h10 := of_decide_eq_true h10
            refine J_region ?_
            refine jr_ (Value.slice bkA bk.length bkC) ?_
            refine jr_ (vI (((((l.getD k default).Frame).toNat) % (s.length / 64) : Nat) : Int)) ?_
            refine JO_op rfl trivial (O_buildSlice (cs := [vI (((((l.getD k default).Frame).toNat) % (s.length / 64) : Nat) : Int)]) Try.underlying72 Ty.sz3 Ty.ze3 (by decide) (by decide) (by kernel_rfl) fun b11 => ?_)
            refine JO_op rfl trivial (O_append_m 5 vI bk [(((((l.getD k default).Frame).toNat) % (s.length / 64) : Nat) : Int)] Try.underlying72 Ty.sz3 Ty.by3 Ty.ze3 rfl rfl rfl rfl rfl (fun _ => rfl) (cells_blk 0 (off := 0) (m := 1) rfl rfl) lt_ lt_ fun A12 c13 => ?_)
            refine jr_ (Value.slice A12 ((bk ++ [(((((l.getD k default).Frame).toNat) % (s.length / 64) : Nat) : Int)]).length) c13) ?_
            refine JO_nil (JX_block (JX_block (JX_then (J_region ?_))))
            refine JO_read (vI ((k + 1 : Nat) : Int)) rfl trivial (fun _ _ => x_add_n (a := k) (b := 1) rfl rfl (by omega)) ?_
            refine jr_ (vI ((k + 1 : Nat) : Int)) ?_
            refine JO_nil ?_
            refine JX_round ((k + 1, (addK dn (((((l.getD k default).Frame).toNat) % (s.length / 64) : Nat) : Int)), gn, dm, bk ++ [(((((l.getD k default).Frame).toNat) % (s.length / 64) : Nat) : Int)], A12, c13) : Nat × (List Int) × (List Int) × (List (Int × Bytes)) × (List Int) × (Option Addr) × Nat) ?_ ?_ ⟨rfl, rfl, rfl, rfl, rfl, rfl, rfl, rfl, rfl, rfl, rfl, trivial⟩ (fun _ h => h.keep [false, false, true, true, true, true] rfl)
            · show ((k + 1) ≤ l.length) ∧ ((R14.HS.mk (addK dn (((((l.getD k default).Frame).toNat) % (s.length / 64) : Nat) : Int)) gn dm (bk ++ [(((((l.getD k default).Frame).toNat) % (s.length / 64) : Nat) : Int)])) = R14.hrun s (s.length / 64) (l.take (k + 1))) ∧ ((bk ++ [(((((l.getD k default).Frame).toNat) % (s.length / 64) : Nat) : Int)]).length ≤ (k + 1))
              refine ⟨?_, ?_, ?_⟩
              · first | rfl | omega | (simp_all; done) | (simp_all; omega)
              · first | exact R14.hs_skip (by omega) i1_1 (by assumption) | exact R14.hs_0 (by omega) i1_1 (by assumption) (by assumption) | exact R14.hs_1 (by omega) i1_1 (by assumption) (by assumption) (by assumption) | exact R14.hs_2 (by omega) i1_1 (by assumption) (by assumption) (by assumption) (by assumption) | exact R14.hs_3 (by omega) i1_1 (by assumption) (by assumption) (by assumption) (by assumption)
              · first | omega | (rw [List.length_append]; simp only [List.length_cons, List.length_nil]; omega)
            · show l.length - (k + 1) < l.length - k
              first | omega | (simp; omega) | (simp_all; omega)
          · have h10w := h10
            have h10 := of_decide_eq_false h10
            refine J_skip (JX_block (JX_block (JX_then (J_region ?_))))
            refine JO_read (vI ((k + 1 : Nat) : Int)) rfl trivial (fun _ _ => x_add_n (a := k) (b := 1) rfl rfl (by omega)) ?_
            refine jr_ (vI ((k + 1 : Nat) : Int)) ?_
            refine JO_nil ?_
            refine JX_round ((k + 1, (addK dn (((((l.getD k default).Frame).toNat) % (s.length / 64) : Nat) : Int)), gn, dm, bk, bkA, bkC) : Nat × (List Int) × (List Int) × (List (Int × Bytes)) × (List Int) × (Option Addr) × Nat) ?_ ?_ ⟨rfl, rfl, rfl, rfl, rfl, rfl, rfl, rfl, rfl, rfl, rfl, trivial⟩ (fun _ h => h.keep [false, true, true, true, true] rfl)
            · show ((k + 1) ≤ l.length) ∧ ((R14.HS.mk (addK dn (((((l.getD k default).Frame).toNat) % (s.length / 64) : Nat) : Int)) gn dm bk) = R14.hrun s (s.length / 64) (l.take (k + 1))) ∧ (bk.length ≤ (k + 1))
              refine ⟨?_, ?_, ?_⟩
              · first | rfl | omega | (simp_all; done) | (simp_all; omega)
              · first | exact R14.hs_skip (by omega) i1_1 (by assumption) | exact R14.hs_0 (by omega) i1_1 (by assumption) (by assumption) | exact R14.hs_1 (by omega) i1_1 (by assumption) (by assumption) (by assumption) | exact R14.hs_2 (by omega) i1_1 (by assumption) (by assumption) (by assumption) (by assumption) | exact R14.hs_3 (by omega) i1_1 (by assumption) (by assumption) (by assumption) (by assumption)
              · first | omega | (rw [List.length_append]; simp only [List.length_cons, List.length_nil]; omega)
            · show l.length - (k + 1) < l.length - k
              first | omega | (simp; omega) | (simp_all; omega)
  · have h5w := h5
    have h5 := of_decide_eq_false h5
    refine J_exit (JX_then_exit (JX_round_exit ?_))
    have hst := R14.hs_end i1_0 (by assumption) i1_1
    have hiv := R14.hs_inv (N := (s.length / 64)) (by omega) hst
    refine JX_block_hit (JX_then (J_seq (J_region ?_)))
    refine jr_ (vS []) ?_
    refine JO_nil (JX_then (J_seq (J_seq (J_region ?_))))
    refine jr_ (vI 0) ?_
    refine JO_nil (JX_then (J_block ?_))
    refine J_loop (X := Nat × Bytes) (fun (⟨i, t⟩ : Nat × Bytes) => (i ≤ (s.length / 64)) ∧ (t = (List.range i).flatMap (R14.hpart s (R14.HS.mk dn gn dm bk))) ∧ (t.length ≤ 64 * i)) (fun (⟨i, t⟩ : Nat × Bytes) => [(0, vS s), (4, vS []), (5, Value.map none), (6, vI ((s.length / 64 : Nat) : Int)), (7, Value.map (some b1)), (8, Value.slice bkA bk.length bkC), (9, Value.map (some b3)), (10, Value.map (some b4)), (14, vS t), (15, vI ((i : Nat) : Int))]) (fun (⟨i, t⟩ : Nat × Bytes) => [Ent.mp vI b4 (dn.map kT), Ent.mp vI b3 (dm.map R14.mB), Ent.mp vI b1 (gn.map kT), Ent.row (.slice bkA bk.length bkC) 3 1 bk.length (bk.map vI)]) (fun (⟨i, t⟩ : Nat × Bytes) => (s.length / 64) - i) ((0, []) : Nat × Bytes) ?_ ⟨rfl, rfl, rfl, rfl, rfl, rfl, rfl, rfl, rfl, rfl, trivial⟩ (fun _ h => h) ?_
    · show (0 ≤ (s.length / 64)) ∧ ([] = (List.range 0).flatMap (R14.hpart s (R14.HS.mk dn gn dm bk))) ∧ ([].length ≤ 64 * 0)
      refine ⟨?_, ?_, ?_⟩
      · first | rfl | omega | (simp_all; done) | (simp_all; omega)
      · rfl
      · exact Nat.le_refl _
    rintro ⟨i, t⟩ hI2
    obtain ⟨i2_0, i2_1, i2_2⟩ : (i ≤ (s.length / 64)) ∧ (t = (List.range i).flatMap (R14.hpart s (R14.HS.mk dn gn dm bk))) ∧ (t.length ≤ 64 * i) := hI2
    have hsl := R14.sub64 s i
    have hdl := R14.hs_dam hiv.1 (i : Int)
    refine J_weaken (E' := [(0, vS s), (4, vS []), (5, Value.map none), (6, vI ((s.length / 64 : Nat) : Int)), (7, Value.map (some b1)), (8, Value.slice bkA bk.length bkC), (9, Value.map (some b3)), (10, Value.map (some b4)), (14, vS t), (15, vI ((i : Nat) : Int))]) (L' := [Ent.mp vI b4 (dn.map kT), Ent.mp vI b3 (dm.map R14.mB), Ent.mp vI b1 (gn.map kT), Ent.row (.slice bkA bk.length bkC) 3 1 bk.length (bk.map vI)]) ⟨rfl, rfl, rfl, rfl, rfl, rfl, rfl, rfl, rfl, rfl, trivial⟩ (fun _ h => h) ?_
    refine J_seq (J_seq (J_region ?_))
    refine jr_ (vI ((i : Nat) : Int)) ?_
    refine jr_ (vI ((s.length / 64 : Nat) : Int)) ?_
    refine JO_read (vB (decide (((i : Nat) : Int) < ((s.length / 64 : Nat) : Int)))) rfl trivial (fun _ _ => x_lss_i rfl rfl) ?_
    refine JO_nil (JX_then ?_)
    refine J_cond (decide (((i : Nat) : Int) < ((s.length / 64 : Nat) : Int))) rfl rfl (fun h14 => ?_) (fun h14 => ?_)
    · have h14w := h14
      have h14 := of_decide_eq_true h14
      refine J_skip (JX_then (J_seq (J_block (J_seq (J_region ?_)))))
      refine jr_ (Value.map (some b4)) ?_
      refine jr_ (vI ((i : Nat) : Int)) ?_
      refine JO_read (vB (hasK dn ((i : Nat) : Int))) rfl trivial (x_lookup_v 0 (f := vI) (k := ((i : Nat) : Int)) rfl rfl rfl Try.underlying49 (mapK_i Try.underlying3) Ty.ze4 rfl (lk_kT_v dn ((i : Nat) : Int))) ?_
      refine JO_read (vB (!((hasK dn ((i : Nat) : Int))))) rfl trivial (fun _ _ => x_not rfl) ?_
      refine JO_nil (JX_then ?_)
      refine J_cond (!((hasK dn ((i : Nat) : Int)))) rfl rfl (fun h15 => ?_) (fun h15 => ?_)
      · have h15w := h15
        have h15 : ((hasK dn ((i : Nat) : Int))) = false := bnot_true h15
        refine J_region ?_
        refine jr_ (vS t) ?_
        refine jr_ (vS s) ?_
        refine jr_ (vI ((i : Nat) : Int)) ?_
        refine JO_read (vI ((i * 64 : Nat) : Int)) rfl trivial (fun _ _ => x_mul_n (a := i) (b := 64) rfl rfl (by omega)) ?_
        refine jr_ (vI ((i : Nat) : Int)) ?_
        refine JO_read (vI ((i * 64 : Nat) : Int)) rfl trivial (fun _ _ => x_mul_n (a := i) (b := 64) rfl rfl (by omega)) ?_
        refine JO_read (vI (((i * 64) + 64 : Nat) : Int)) rfl trivial (fun _ _ => x_add_n (a := i * 64) (b := 64) rfl rfl (by omega)) ?_
        refine JO_read (vS (sub s (i * 64) ((i * 64) + 64))) rfl trivial (fun _ _ => x_sub_s (lo := i * 64) (hi := (i * 64) + 64) rfl Try.underlying9 (.inl rfl) (.inl rfl) lt_ (by first | omega | (simp only [sub, List.length_drop, List.length_take]; omega) | (simp; omega) | (simp_all; omega))) ?_
        refine JO_read (vS (t ++ (sub s (i * 64) ((i * 64) + 64)))) rfl trivial (fun _ _ => x_cat_s rfl rfl (by first | omega | (simp only [List.length_append, List.length_cons, List.length_nil]; omega) | (simp; omega) | (simp_all; omega))) ?_
        refine jr_ (vS (t ++ (sub s (i * 64) ((i * 64) + 64)))) ?_
        refine JO_nil (JX_block (JX_then (J_region ?_)))
        refine jr_ (vI ((i : Nat) : Int)) ?_
        refine JO_read (vI ((i + 1 : Nat) : Int)) rfl trivial (fun _ _ => x_add_n (a := i) (b := 1) rfl rfl (by omega)) ?_
        refine jr_ (vI ((i + 1 : Nat) : Int)) ?_
        refine JO_nil ?_
        refine JX_round ((i + 1, t ++ (sub s (i * 64) ((i * 64) + 64))) : Nat × Bytes) ?_ ?_ ⟨rfl, rfl, rfl, rfl, rfl, rfl, rfl, rfl, rfl, rfl, trivial⟩ (fun _ h => h)
        · show ((i + 1) ≤ (s.length / 64)) ∧ ((t ++ (sub s (i * 64) ((i * 64) + 64))) = (List.range (i + 1)).flatMap (R14.hpart s (R14.HS.mk dn gn dm bk))) ∧ ((t ++ (sub s (i * 64) ((i * 64) + 64))).length ≤ 64 * (i + 1))
          refine ⟨?_, ?_, ?_⟩
          · first | rfl | omega | (simp_all; done) | (simp_all; omega)
          · first | exact R14.hp_in i2_1 (by assumption) | exact R14.hp_dam i2_1 (by assumption) | exact R14.hp_no i2_1 (by assumption) (by assumption)
          · first | omega | (rw [List.length_append]; omega)
        · show (s.length / 64) - (i + 1) < (s.length / 64) - i
          first | omega | (simp; omega) | (simp_all; omega)
      · have h15w := h15
        have h15 : ((hasK dn ((i : Nat) : Int))) = true := bnot_false h15
        refine J_seq (J_region ?_)
        refine jr_ (Value.map (some b3)) ?_
        refine jr_ (vI ((i : Nat) : Int)) ?_
        refine JO_read (vS ((R14.lkB dm ((i : Nat) : Int)).getD [])) rfl trivial (x_lookup_v 1 (f := vI) (k := ((i : Nat) : Int)) rfl rfl rfl Try.underlying99 (mapK_i Try.underlying3) Ty.ze9 (R14.lk_mB dm ((i : Nat) : Int)) (R14.lkB_v dm ((i : Nat) : Int))) ?_
        refine JO_read (vB (decide (((R14.lkB dm ((i : Nat) : Int)).getD []) ≠ ([] : Bytes)))) rfl trivial (fun _ _ => x_neq_s rfl rfl) ?_
        refine JO_nil (JX_then ?_)
        refine J_cond (decide (((R14.lkB dm ((i : Nat) : Int)).getD []) ≠ ([] : Bytes))) rfl rfl (fun h16 => ?_) (fun h16 => ?_)
        · have h16w := h16
          have h16 := of_decide_eq_true h16
          have h16l := List.length_pos_iff.2 h16
          refine J_region ?_
          refine jr_ (vS t) ?_
          refine jr_ (Value.map (some b3)) ?_
          refine jr_ (vI ((i : Nat) : Int)) ?_
          refine JO_read (vS ((R14.lkB dm ((i : Nat) : Int)).getD [])) rfl trivial (x_lookup_v 1 (f := vI) (k := ((i : Nat) : Int)) rfl rfl rfl Try.underlying99 (mapK_i Try.underlying3) Ty.ze9 (R14.lk_mB dm ((i : Nat) : Int)) (R14.lkB_v dm ((i : Nat) : Int))) ?_
          refine JO_read (vS (t ++ ((R14.lkB dm ((i : Nat) : Int)).getD []))) rfl trivial (fun _ _ => x_cat_s rfl rfl (by first | omega | (simp only [List.length_append, List.length_cons, List.length_nil]; omega) | (simp; omega) | (simp_all; omega))) ?_
          refine jr_ (vS (t ++ ((R14.lkB dm ((i : Nat) : Int)).getD []))) ?_
          refine JO_nil (JX_block (JX_then (J_region ?_)))
          refine jr_ (vI ((i : Nat) : Int)) ?_
          refine JO_read (vI ((i + 1 : Nat) : Int)) rfl trivial (fun _ _ => x_add_n (a := i) (b := 1) rfl rfl (by omega)) ?_
          refine jr_ (vI ((i + 1 : Nat) : Int)) ?_
          refine JO_nil ?_
          refine JX_round ((i + 1, t ++ ((R14.lkB dm ((i : Nat) : Int)).getD [])) : Nat × Bytes) ?_ ?_ ⟨rfl, rfl, rfl, rfl, rfl, rfl, rfl, rfl, rfl, rfl, trivial⟩ (fun _ h => h)
          · show ((i + 1) ≤ (s.length / 64)) ∧ ((t ++ ((R14.lkB dm ((i : Nat) : Int)).getD [])) = (List.range (i + 1)).flatMap (R14.hpart s (R14.HS.mk dn gn dm bk))) ∧ ((t ++ ((R14.lkB dm ((i : Nat) : Int)).getD [])).length ≤ 64 * (i + 1))
            refine ⟨?_, ?_, ?_⟩
            · first | rfl | omega | (simp_all; done) | (simp_all; omega)
            · first | exact R14.hp_in i2_1 (by assumption) | exact R14.hp_dam i2_1 (by assumption) | exact R14.hp_no i2_1 (by assumption) (by assumption)
            · first | omega | (rw [List.length_append]; omega)
          · show (s.length / 64) - (i + 1) < (s.length / 64) - i
            first | omega | (simp; omega) | (simp_all; omega)
        · have h16w := h16
          have h16 := of_decide_eq_false h16
          refine J_skip (JX_block (JX_then (J_region ?_)))
          refine jr_ (vI ((i : Nat) : Int)) ?_
          refine JO_read (vI ((i + 1 : Nat) : Int)) rfl trivial (fun _ _ => x_add_n (a := i) (b := 1) rfl rfl (by omega)) ?_
          refine jr_ (vI ((i + 1 : Nat) : Int)) ?_
          refine JO_nil ?_
          refine JX_round ((i + 1, t) : Nat × Bytes) ?_ ?_ ⟨rfl, rfl, rfl, rfl, rfl, rfl, rfl, rfl, rfl, rfl, trivial⟩ (fun _ h => h)
          · show ((i + 1) ≤ (s.length / 64)) ∧ (t = (List.range (i + 1)).flatMap (R14.hpart s (R14.HS.mk dn gn dm bk))) ∧ (t.length ≤ 64 * (i + 1))
            refine ⟨?_, ?_, ?_⟩
            · first | rfl | omega | (simp_all; done) | (simp_all; omega)
            · first | exact R14.hp_in i2_1 (by assumption) | exact R14.hp_dam i2_1 (by assumption) | exact R14.hp_no i2_1 (by assumption) (by assumption)
            · first | omega | (rw [List.length_append]; omega)
          · show (s.length / 64) - (i + 1) < (s.length / 64) - i
            first | omega | (simp; omega) | (simp_all; omega)
    · have h14w := h14
      have h14 := of_decide_eq_false h14
      refine J_exit (JX_then_exit (JX_round_exit (JX_block_hit (JX_then (J_seq ?_)))))
      refine J_seq (J_region ?_)
      refine jr_ (Value.slice bkA bk.length bkC) ?_
      refine JO_read (vI ((bk.length : Nat) : Int)) rfl trivial (fun _ _ => x_len_sl Try.underlying72 rfl) ?_
      refine jr_ (vI 0) ?_
      refine JO_nil (JX_then (J_block ?_))
      refine J_loop (X := Nat × Bytes) (fun (⟨j, t2⟩ : Nat × Bytes) => (j ≤ bk.length) ∧ (t2 = (List.range (s.length / 64)).flatMap (R14.hpart s (R14.HS.mk dn gn dm bk)) ++ (bk.take j).flatMap (R14.hback s)) ∧ (t2.length ≤ 64 * (s.length / 64) + 64 * j)) (fun (⟨j, t2⟩ : Nat × Bytes) => [(0, vS s), (4, vS []), (5, Value.map none), (7, Value.map (some b1)), (14, vS t2), (104, Value.slice bkA bk.length bkC), (105, vI ((bk.length : Nat) : Int)), (106, vI ((j : Nat) : Int))]) (fun (⟨j, t2⟩ : Nat × Bytes) => [Ent.mp vI b1 (gn.map kT), Ent.row (.slice bkA bk.length bkC) 3 1 bk.length (bk.map vI)]) (fun (⟨j, t2⟩ : Nat × Bytes) => bk.length - j) ((0, t) : Nat × Bytes) ?_ ⟨rfl, rfl, rfl, rfl, rfl, rfl, rfl, rfl, trivial⟩ (fun _ h => h.keep [false, false, true, true] rfl) ?_
      · show (0 ≤ bk.length) ∧ (t = (List.range (s.length / 64)).flatMap (R14.hpart s (R14.HS.mk dn gn dm bk)) ++ (bk.take 0).flatMap (R14.hback s)) ∧ (t.length ≤ 64 * (s.length / 64) + 64 * 0)
        refine ⟨?_, ?_, ?_⟩
        · first | rfl | omega | (simp_all; done) | (simp_all; omega)
        · exact R14.hp_end i2_0 (by assumption) i2_1
        · omega
      rintro ⟨j, t2⟩ hI3
      obtain ⟨i3_0, i3_1, i3_2⟩ : (j ≤ bk.length) ∧ (t2 = (List.range (s.length / 64)).flatMap (R14.hpart s (R14.HS.mk dn gn dm bk)) ++ (bk.take j).flatMap (R14.hback s)) ∧ (t2.length ≤ 64 * (s.length / 64) + 64 * j) := hI3
      have hbr := hiv.2 j
      have hsl2 := R14.sub64i s (bk.getD j 0)
      refine J_weaken (E' := [(0, vS s), (4, vS []), (5, Value.map none), (7, Value.map (some b1)), (14, vS t2), (104, Value.slice bkA bk.length bkC), (105, vI ((bk.length : Nat) : Int)), (106, vI ((j : Nat) : Int))]) (L' := [Ent.mp vI b1 (gn.map kT), Ent.row (.slice bkA bk.length bkC) 3 1 bk.length (bk.map vI)]) ⟨rfl, rfl, rfl, rfl, rfl, rfl, rfl, rfl, trivial⟩ (fun _ h => h) ?_
      refine J_seq (J_region ?_)
      refine JO_read (vB (decide (((j : Nat) : Int) < ((bk.length : Nat) : Int)))) rfl trivial (fun _ _ => x_lss_i rfl rfl) ?_
      refine JO_nil (JX_then (J_seq ?_))
      refine J_cond (decide (((j : Nat) : Int) < ((bk.length : Nat) : Int))) rfl rfl (fun h17 => ?_) (fun h17 => ?_)
      · have h17w := h17
        have h17 := of_decide_eq_true h17
        refine J_skip (JX_then (J_seq (J_block (J_seq (J_region ?_)))))
        refine JO_read (Value.pointer (some (adr bkA j))) rfl trivial (x_indexAddr_at (k := j) (off := j) (cells_row 1 rfl) Try.underlying72 Ty.sz3 rfl rfl lt_ (by rw [List.length_map]; first | omega | (simp; omega) | (simp_all; omega) | (simp_all; done)) (Nat.mul_one _)) ?_
        refine JO_read (vI (bk.getD j 0)) rfl trivial (x_load_at (cells_row 1 rfl) rfl Ty.sc3 (map_at vI bk 0 lt_)) ?_
        refine jr_ (vI (bk.getD j 0)) ?_
        refine JO_nil (JX_then (J_region ?_))
        refine jr_ (vS t2) ?_
        refine jr_ (vS s) ?_
        refine jr_ (vI (bk.getD j 0)) ?_
        refine JO_read (vI ((bk.getD j 0) * 64)) rfl trivial (fun _ _ => x_mul_i (a := (bk.getD j 0)) (b := 64) rfl rfl (by omega) (by omega)) ?_
        refine jr_ (vI (bk.getD j 0)) ?_
        refine JO_read (vI ((bk.getD j 0) * 64)) rfl trivial (fun _ _ => x_mul_i (a := (bk.getD j 0)) (b := 64) rfl rfl (by omega) (by omega)) ?_
        refine JO_read (vI (((bk.getD j 0) * 64) + 64)) rfl trivial (fun _ _ => x_add_i (a := (bk.getD j 0) * 64) (b := 64) rfl rfl (by omega) (by omega)) ?_
        refine JO_read (vS (sub s (((bk.getD j 0) * 64).toNat) ((((bk.getD j 0) * 64) + 64).toNat))) rfl trivial (fun _ _ => x_sub_s (lo := ((bk.getD j 0) * 64).toNat) (hi := (((bk.getD j 0) * 64) + 64).toNat) rfl Try.underlying9 (.inl (lo_i (by omega))) (.inl (lo_i (by omega))) lt_ (by first | omega | (simp only [sub, List.length_drop, List.length_take]; omega) | (simp; omega) | (simp_all; omega))) ?_
        refine JO_read (vS (t2 ++ (sub s (((bk.getD j 0) * 64).toNat) ((((bk.getD j 0) * 64) + 64).toNat)))) rfl trivial (fun _ _ => x_cat_s rfl rfl (by first | omega | (simp only [List.length_append, List.length_cons, List.length_nil]; omega) | (simp; omega) | (simp_all; omega))) ?_
        refine jr_ (vS (t2 ++ (sub s (((bk.getD j 0) * 64).toNat) ((((bk.getD j 0) * 64) + 64).toNat)))) ?_
        refine JO_nil (JX_block (JX_then (J_region ?_)))
        refine JO_read (vI ((j + 1 : Nat) : Int)) rfl trivial (fun _ _ => x_add_n (a := j) (b := 1) rfl rfl (by omega)) ?_
        refine jr_ (vI ((j + 1 : Nat) : Int)) ?_
        refine JO_nil ?_
        refine JX_round ((j + 1, t2 ++ (sub s (((bk.getD j 0) * 64).toNat) ((((bk.getD j 0) * 64) + 64).toNat))) : Nat × Bytes) ?_ ?_ ⟨rfl, rfl, rfl, rfl, rfl, rfl, rfl, rfl, trivial⟩ (fun _ h => h)
        · show ((j + 1) ≤ bk.length) ∧ ((t2 ++ (sub s (((bk.getD j 0) * 64).toNat) ((((bk.getD j 0) * 64) + 64).toNat))) = (List.range (s.length / 64)).flatMap (R14.hpart s (R14.HS.mk dn gn dm bk)) ++ (bk.take (j + 1)).flatMap (R14.hback s)) ∧ ((t2 ++ (sub s (((bk.getD j 0) * 64).toNat) ((((bk.getD j 0) * 64) + 64).toNat))).length ≤ 64 * (s.length / 64) + 64 * (j + 1))
          refine ⟨?_, ?_, ?_⟩
          · first | rfl | omega | (simp_all; done) | (simp_all; omega)
          · exact R14.hb_step (by omega) i3_1 rfl
          · rw [List.length_append]; omega
        · show bk.length - (j + 1) < bk.length - j
          first | omega | (simp; omega) | (simp_all; omega)
      · have h17w := h17
        have h17 := of_decide_eq_false h17
        refine J_exit (JX_then_exit (JX_round_exit (JX_block_hit (JX_then (J_seq ?_)))))
        refine J_region ?_
        refine jr_ (vS t2) ?_
        refine jr_ (Value.map (some b1)) ?_
        refine jr_ (vS t2) ?_
        refine jr_ (Value.map (some b1)) ?_
        refine JO_nil (JX_then (J_ret ?_))
        refine JX_rets [vS t2, Value.map (some b1)] (Value.tuple #[vS t2, Value.map (some b1)]) Try.results30 (fun w h => ⟨rfl, rfl, trivial⟩) rfl [Ent.mp vI b1 (gn.map kT)] (fun _ h => h.keep [true, false] rfl) ⟨b1, ?_, ?_⟩
        · have e_x0 : (t2 : Bytes) = (R14.harmT s l) := by first | exact R14.harm_end hst i3_0 (by assumption) i3_1 | exact R14.harm_gone hst | (rw [R14.harm_gone hst]; done)
          exact congrArg (fun (x0 : Bytes) => Value.tuple #[vS x0, Value.map (some b1)]) e_x0
        · have e_y0 : ((gn.map kT) : List (Int × Value)) = ((R14.harmG s l).map kT) := by
            first | exact R14.harm_end hst i3_0 (by assumption) i3_1 | exact R14.harm_gone hst | (rw [R14.harm_gone hst]; done)
          have e_all := (congrArg (fun (y0 : List (Int × Value)) => [Ent.mp vI b1 y0]) e_y0)
          exact e_all
end Go.Proofs.Ytodfebhimadaiaa
