/- contracts C27b -/
import Derived.Test.YtmbinhhlfbgiaaaC27a
namespace Go.Proofs.Ytmbinhhlfbgiaaa
open Go.GV
set_option linter.unusedVariables false
set_option linter.unusedSimpArgs false
set_option maxRecDepth 20000 in
theorem f46_ok (d : DataSet) (w : World) : Calls Try.prog 46 #[Value.agg ((DataSet.enc d)).toArray] w (Gives [] w fun v L => v = vB (R27.isBase d) ∧ L = []) := by
 refine calls_J [] 20 Try.func46 rfl Try.ntmps46 [(0, Value.agg ((DataSet.enc d)).toArray)] rfl rfl (Give.nil w) ?_
 refine J_seq (J_region ?_)
 refine JO_op rfl trivial (O_box rfl rfl fun b1 => ?_)
 refine jr_ (vB false) ?_
 refine JO_nil (JX_then (J_seq (J_region ?_)))
 refine JO_read (Value.agg ((DataSet.enc d)).toArray) rfl trivial (x_loadN 0 (DataSet.enc d) rfl rfl Ty.ag24 Ty.sz24 rfl) ?_
 refine JO_call [] [] [Ent.blk b1 24 (DataSet.enc d)] rfl trivial (fun _ => x_call Ty.ca69 rfl) (fun _ h => h) (fun _ h => by cases h) (fun w hS => f69_ok d w) ?_
 rintro _ _ ⟨rfl, rfl⟩
 refine jr_ (vB (R16.valid d)) ?_
 refine JO_cut 4 (fun z => z = ((R16.valid d) && (decide ((1 : Int) ≤ d.Id)))) (fun z => [(1, Value.pointer (some ⟨b1, 0, none⟩)), (2, vB false), (9, vB z)]) (fun _ => [Ent.blk b1 24 (DataSet.enc d)]) ?_ ?_
 ·rcases Bool.eq_false_or_eq_true (R16.valid d) with g3 | g3
  ·have g3r := g3
   have hi4 := R16.valid_facts g3r
   refine jg_ g3 (Value.pointer (some ⟨b1, 0, none⟩)) (x_fieldAddr Ty.fi24_0 rfl rfl) ?_
   refine JO_read (vI d.Id) rfl ⟨_, rfl, g3⟩ (x_load 0 rfl rfl Ty.sc3 rfl) ?_
   refine jg_ g3 (vB (decide ((1 : Int) ≤ d.Id))) (x_geq_i rfl rfl) ?_
   refine js_ (vB (decide ((1 : Int) ≤ d.Id))) (x_pick_t rfl g3 rfl) ?_
   refine JO_nil (JX_cut (decide ((1 : Int) ≤ d.Id)) (by rw [g3]; simp) ⟨rfl, rfl, rfl, trivial⟩ (fun _ h => h))
  ·have g3r := g3
   refine sh_ g3 ?_
   refine sh_ g3 ?_
   refine sh_ g3 ?_
   refine js_ (vB false) (x_pick_f rfl g3 rfl) ?_
   refine JO_nil (JX_cut (false) (by rw [g3]; simp) ⟨rfl, rfl, rfl, trivial⟩ (fun _ h => h))
 rintro z2 rfl
 refine jr_ (vB ((R16.valid d) && (decide ((1 : Int) ≤ d.Id)))) ?_
 refine JO_cut 4 (fun z => z = (((R16.valid d) && (decide ((1 : Int) ≤ d.Id))) && (decide (d.Id ≤ 1099511627776)))) (fun z => [(1, Value.pointer (some ⟨b1, 0, none⟩)), (2, vB false), (14, vB z)]) (fun _ => [Ent.blk b1 24 (DataSet.enc d)]) ?_ ?_
 ·rcases Bool.eq_false_or_eq_true ((R16.valid d) && (decide ((1 : Int) ≤ d.Id))) with g6 | g6
  ·have g6r := g6
   have ⟨g6r, h7⟩ := band_true g6r
   have hi8 := R16.valid_facts g6r
   have h7 := of_decide_eq_true h7
   refine jg_ g6 (Value.pointer (some ⟨b1, 0, none⟩)) (x_fieldAddr Ty.fi24_0 rfl rfl) ?_
   refine JO_read (vI d.Id) rfl ⟨_, rfl, g6⟩ (x_load 0 rfl rfl Ty.sc3 rfl) ?_
   refine jg_ g6 (vB (decide (d.Id ≤ 1099511627776))) (x_leq_i rfl rfl) ?_
   refine js_ (vB (decide (d.Id ≤ 1099511627776))) (x_pick_t rfl g6 rfl) ?_
   refine JO_nil (JX_cut (decide (d.Id ≤ 1099511627776)) (by rw [g6]; simp) ⟨rfl, rfl, rfl, trivial⟩ (fun _ h => h))
  ·have g6r := g6
   simp only [Bool.and_eq_true, Bool.or_eq_true, Bool.and_eq_false_iff, Bool.or_eq_false_iff, Bool.not_eq_true', Bool.not_eq_false', decide_eq_true_eq, decide_eq_false_iff_not] at g6r
   refine sh_ g6 ?_
   refine sh_ g6 ?_
   refine sh_ g6 ?_
   refine js_ (vB false) (x_pick_f rfl g6 rfl) ?_
   refine JO_nil (JX_cut (false) (by rw [g6]; simp) ⟨rfl, rfl, rfl, trivial⟩ (fun _ h => h))
 rintro z5 rfl
 refine jr_ (vB (((R16.valid d) && (decide ((1 : Int) ≤ d.Id))) && (decide (d.Id ≤ 1099511627776)))) ?_
 refine JO_cut 4 (fun z => z = ((((R16.valid d) && (decide ((1 : Int) ≤ d.Id))) && (decide (d.Id ≤ 1099511627776))) && (decide (d.Base = 0)))) (fun z => [(2, vB false), (19, vB z)]) (fun _ => [Ent.blk b1 24 (DataSet.enc d)]) ?_ ?_
 ·rcases Bool.eq_false_or_eq_true (((R16.valid d) && (decide ((1 : Int) ≤ d.Id))) && (decide (d.Id ≤ 1099511627776))) with g10 | g10
  ·have g10r := g10
   have ⟨g10r, h11⟩ := band_true g10r
   have ⟨g10r, h12⟩ := band_true g10r
   have hi13 := R16.valid_facts g10r
   have h12 := of_decide_eq_true h12
   have h11 := of_decide_eq_true h11
   refine jg_ g10 (Value.pointer (some ⟨b1, 11, none⟩)) (x_fieldAddr Ty.fi24_11 rfl rfl) ?_
   refine JO_read (vI d.Base) rfl ⟨_, rfl, g10⟩ (x_load 0 rfl rfl Ty.sc3 rfl) ?_
   refine jg_ g10 (vB (decide (d.Base = 0))) (x_eql_i rfl rfl) ?_
   refine js_ (vB (decide (d.Base = 0))) (x_pick_t rfl g10 rfl) ?_
   refine JO_nil (JX_cut (decide (d.Base = 0)) (by rw [g10]; simp) ⟨rfl, rfl, trivial⟩ (fun _ h => h))
  ·have g10r := g10
   simp only [Bool.and_eq_true, Bool.or_eq_true, Bool.and_eq_false_iff, Bool.or_eq_false_iff, Bool.not_eq_true', Bool.not_eq_false', decide_eq_true_eq, decide_eq_false_iff_not] at g10r
   refine sh_ g10 ?_
   refine sh_ g10 ?_
   refine sh_ g10 ?_
   refine js_ (vB false) (x_pick_f rfl g10 rfl) ?_
   refine JO_nil (JX_cut (false) (by rw [g10]; simp) ⟨rfl, rfl, trivial⟩ (fun _ h => h))
 rintro z9 rfl
 refine jr_ (vB ((((R16.valid d) && (decide ((1 : Int) ≤ d.Id))) && (decide (d.Id ≤ 1099511627776))) && (decide (d.Base = 0)))) ?_
 refine JO_nil (JX_then (J_ret ?_))
 refine JX_rets [vB ((((R16.valid d) && (decide ((1 : Int) ≤ d.Id))) && (decide (d.Id ≤ 1099511627776))) && (decide (d.Base = 0)))] (vB ((((R16.valid d) && (decide ((1 : Int) ≤ d.Id))) && (decide (d.Id ≤ 1099511627776))) && (decide (d.Base = 0)))) Try.results46 (fun w h => ⟨rfl, trivial⟩) rfl [] (fun _ h => h.keep [false] rfl) ⟨?_, ?_⟩
 ·have e_x0 : ((((R16.valid d) && (decide ((1 : Int) ≤ d.Id))) && (decide (d.Id ≤ 1099511627776))) && (decide (d.Base = 0)) : Bool) = (R27.isBase d) := by rfl
  exact congrArg (fun (x0 : Bool) => vB x0) e_x0
 ·rfl
set_option maxRecDepth 20000 in
theorem f101_ok (s : Bytes) (w : World) (q0 : s.length ≤ 1000000) : Calls Try.prog 101 #[vS s] w (Gives [] w fun v L => v = Value.tuple #[vI ((R27.number s).1), vB ((R27.number s).2)] ∧ L = []) := by
 refine calls_J [] 27 Try.func101 rfl Try.ntmps101 [(0, vS s)] rfl rfl (Give.nil w) ?_
 refine J_seq (J_region ?_)
 refine jr_ (vI 0) ?_
 refine jr_ (vB false) ?_
 refine JO_nil (JX_then (J_seq (J_seq (J_region ?_))))
 refine jr_ (vS s) ?_
 refine js_ (vI ((s.length : Nat) : Int)) (x_len_s rfl Try.underlying9) ?_
 refine js_ (vB (decide (((s.length : Nat) : Int) ≠ 8))) (x_neq_i rfl rfl) ?_
 refine JO_nil (JX_then ?_)
 refine J_cond (decide (((s.length : Nat) : Int) ≠ 8)) rfl rfl (fun h1 => ?_) (fun h1 => ?_)
 ·have h1w := h1
  have h1 := of_decide_eq_true h1
  refine J_seq (J_region ?_)
  refine jr_ (vI 0) ?_
  refine jr_ (vB false) ?_
  refine JO_nil (JX_then (J_ret (JX_then_ret ?_)))
  first
   | have hd := R27.number_len (k := s) (by omega)
   | have hd := R27.number_u64 i1_0 i1_1 i1_2 (by omega) (by assumption)
   | have hd := R27.number_u64b i1_0 i1_1 i1_2 (by omega) (by assumption)
  refine JX_rets [vI 0, vB false] (Value.tuple #[vI 0, vB false]) Try.results101 (fun w h => ⟨rfl, rfl, trivial⟩) rfl [] (fun _ h => h) ⟨?_, ?_⟩
  ·have e_x0 : (0 : Int) = ((R27.number s).1) := by first | (rw [hd]; done) | (rw [hd]; rfl)
   have e_x1 : (false : Bool) = ((R27.number s).2) := by first | (rw [hd]; done) | (rw [hd]; rfl)
   have e_all := (congr (congrArg (fun (x0 : Int) (x1 : Bool) => Value.tuple #[vI x0, vB x1]) e_x0) e_x1)
   exact e_all
  ·rfl
 ·have h1w := h1
  have h1 := of_decide_eq_false h1
  refine J_skip (JX_then (J_seq (J_region ?_)))
  refine jr_ (vU64 0) ?_
  refine JO_nil (JX_then (J_seq (J_seq (J_region ?_))))
  refine jr_ (vS s) ?_
  refine JO_op rfl trivial (O_str_bytes s rfl Try.underlying9 Try.underlying125 Try.underlying5 fun b2 c3 z4 hz5 => ?_)
  refine js_ (vI ((s.length : Nat) : Int)) (x_len_sl Try.underlying125 rfl) ?_
  refine jr_ (vI 0) ?_
  refine JO_nil (JX_then (J_block ?_))
  refine J_loop (X := Nat × UInt64) (fun (⟨k, n⟩ : Nat × UInt64) => (k ≤ s.length) ∧ (s.length = 8) ∧ (n.toNat = R27.keyVal (s.take k))) (fun (⟨k, n⟩ : Nat × UInt64) => [(2, vI 0), (3, vB false), (4, vU64 n), (11, Value.slice (some ⟨b2, 0, none⟩) s.length c3), (12, vI ((s.length : Nat) : Int)), (13, vI ((k : Nat) : Int))]) (fun (⟨k, n⟩ : Nat × UInt64) => [Ent.blk b2 5 ((s ++ List.replicate z4 (0 : UInt8)).map vU8) (s.length + z4, s.length + z4 + 1)]) (fun (⟨k, n⟩ : Nat × UInt64) => s.length - k) ((0, (0 : UInt64)) : Nat × UInt64) ?_ ⟨rfl, rfl, rfl, rfl, rfl, rfl, trivial⟩ (fun _ h => h) ?_
  ·show (0 ≤ s.length) ∧ (s.length = 8) ∧ ((0 : UInt64).toNat = R27.keyVal (s.take 0))
   refine ⟨?_, ?_, ?_⟩
   ·first | rfl | omega | (simp_all; done) | (simp_all; omega)
   ·first | rfl | omega | (simp_all; done) | (simp_all; omega)
   ·rfl
  rintro ⟨k, n⟩ hI1
  obtain ⟨i1_0, i1_1, i1_2⟩ : (k ≤ s.length) ∧ (s.length = 8) ∧ (n.toNat = R27.keyVal (s.take k)) := hI1
  refine J_weaken (E' := [(2, vI 0), (3, vB false), (4, vU64 n), (11, Value.slice (some ⟨b2, 0, none⟩) s.length c3), (12, vI ((s.length : Nat) : Int)), (13, vI ((k : Nat) : Int))]) (L' := [Ent.blk b2 5 ((s ++ List.replicate z4 (0 : UInt8)).map vU8) (s.length + z4, s.length + z4 + 1)]) ⟨rfl, rfl, rfl, rfl, rfl, rfl, trivial⟩ (fun _ h => h) ?_
  refine J_seq (J_region ?_)
  refine js_ (vB (decide (((k : Nat) : Int) < ((s.length : Nat) : Int)))) (x_lss_i rfl rfl) ?_
  refine JO_nil (JX_then (J_seq ?_))
  refine J_cond (decide (((k : Nat) : Int) < ((s.length : Nat) : Int))) rfl rfl (fun h6 => ?_) (fun h6 => ?_)
  ·have h6w := h6
   have h6 := of_decide_eq_true h6
   refine J_skip (JX_then (J_seq (J_block (J_seq (J_region ?_)))))
   refine js_ (Value.pointer (some ⟨b2, k, none⟩)) (x_indexAddr_sl (k := k) Try.underlying125 Ty.sz5 rfl rfl lt_ (add_0k1 _ _)) ?_
   refine JO_read (vU8 ((s ++ List.replicate z4 (0 : UInt8)).getD k 0)) rfl trivial (x_load_arr 0 vU8 0 rfl rfl Ty.sc5 lt_) ?_
   refine jr_ (vU8 ((s ++ List.replicate z4 (0 : UInt8)).getD k 0)) ?_
   refine JO_nil (JX_then (J_region ?_))
   refine jr_ (vU64 n) ?_
   refine js_ (vU64 (UInt64.ofBitVec (n.toBitVec <<< (8 : Nat)))) (x_shl_u64 (m := 8) rfl rfl (by decide)) ?_
   refine jr_ (vU8 ((s ++ List.replicate z4 (0 : UInt8)).getD k 0)) ?_
   refine js_ (vU64 (((s ++ List.replicate z4 (0 : UInt8)).getD k 0).toUInt64)) (x_conv_u8_u64 rfl Try.underlying5 Try.underlying145) ?_
   refine js_ (vU64 ((UInt64.ofBitVec (n.toBitVec <<< (8 : Nat))) ||| (((s ++ List.replicate z4 (0 : UInt8)).getD k 0).toUInt64))) (x_or_u64 rfl rfl) ?_
   refine jr_ (vU64 ((UInt64.ofBitVec (n.toBitVec <<< (8 : Nat))) ||| (((s ++ List.replicate z4 (0 : UInt8)).getD k 0).toUInt64))) ?_
   refine JO_nil (JX_block (JX_then (J_region ?_)))
   refine js_ (vI ((k + 1 : Nat) : Int)) (x_add_n (a := k) (b := 1) rfl rfl (by omega)) ?_
   refine jr_ (vI ((k + 1 : Nat) : Int)) ?_
   refine JO_nil ?_
   refine JX_round ((k + 1, (UInt64.ofBitVec (n.toBitVec <<< (8 : Nat))) ||| (((s ++ List.replicate z4 (0 : UInt8)).getD k 0).toUInt64)) : Nat × UInt64) ?_ ?_ ⟨rfl, rfl, rfl, rfl, rfl, rfl, trivial⟩ (fun _ h => h)
   ·show ((k + 1) ≤ s.length) ∧ (s.length = 8) ∧ (((UInt64.ofBitVec (n.toBitVec <<< (8 : Nat))) ||| (((s ++ List.replicate z4 (0 : UInt8)).getD k 0).toUInt64)).toNat = R27.keyVal (s.take (k + 1)))
    refine ⟨?_, ?_, ?_⟩
    ·first | rfl | omega | (simp_all; done) | (simp_all; omega)
    ·first | rfl | omega | (simp_all; done) | (simp_all; omega)
    ·first | exact R27.key_step i1_2 (by omega) i1_1 | (rw [R27.getD_pad (by omega)]; exact R27.key_step i1_2 (by omega) i1_1)
   ·show s.length - (k + 1) < s.length - k
    first | omega | (simp; omega) | (simp_all; omega)
  ·have h6w := h6
   have h6 := of_decide_eq_false h6
   refine J_exit (JX_then_exit (JX_round_exit (JX_block_hit (JX_then (J_seq ?_)))))
   refine J_seq (J_region ?_)
   refine jr_ (vU64 n) ?_
   refine js_ (vB (decide ((1099511627776 : UInt64) < n))) (x_gtr_u64 rfl rfl) ?_
   refine JO_nil (JX_then ?_)
   refine J_cond (decide ((1099511627776 : UInt64) < n)) rfl rfl (fun h7 => ?_) (fun h7 => ?_)
   ·have h7w := h7
    have h7 := of_decide_eq_true h7
    have h7u := h7
    try simp only [UInt8.lt_iff_toNat_lt, UInt8.le_iff_toNat_le, UInt8.reduceToNat, UInt32.lt_iff_toNat_lt, UInt32.le_iff_toNat_le, UInt32.reduceToNat, UInt64.lt_iff_toNat_lt, UInt64.le_iff_toNat_le, UInt64.reduceToNat] at h7u
    refine J_seq (J_region ?_)
    refine jr_ (vI 0) ?_
    refine jr_ (vB false) ?_
    refine JO_nil (JX_then (J_ret (JX_then_ret ?_)))
    first
     | have hd := R27.number_len (k := s) (by omega)
     | have hd := R27.number_u64 i1_0 i1_1 i1_2 (by omega) (by assumption)
     | have hd := R27.number_u64b i1_0 i1_1 i1_2 (by omega) (by assumption)
    refine JX_rets [vI 0, vB false] (Value.tuple #[vI 0, vB false]) Try.results101 (fun w h => ⟨rfl, rfl, trivial⟩) rfl [] (fun _ h => h.keep [false] rfl) ⟨?_, ?_⟩
    ·have e_x0 : (0 : Int) = ((R27.number s).1) := by first | (rw [hd]; done) | (rw [hd]; rfl)
     have e_x1 : (false : Bool) = ((R27.number s).2) := by first | (rw [hd]; done) | (rw [hd]; rfl)
     have e_all := (congr (congrArg (fun (x0 : Int) (x1 : Bool) => Value.tuple #[vI x0, vB x1]) e_x0) e_x1)
     exact e_all
    ·rfl
   ·have h7w := h7
    have h7 := of_decide_eq_false h7
    have h7u := h7
    try simp only [UInt8.lt_iff_toNat_lt, UInt8.le_iff_toNat_le, UInt8.reduceToNat, UInt32.lt_iff_toNat_lt, UInt32.le_iff_toNat_le, UInt32.reduceToNat, UInt64.lt_iff_toNat_lt, UInt64.le_iff_toNat_le, UInt64.reduceToNat] at h7u
    refine J_skip (JX_then (J_seq (J_region ?_)))
    refine jr_ (vU64 n) ?_
    refine js_ (vI ((n.toNat : Nat) : Int)) (x_conv_u64_i64 rfl Try.underlying145 Try.underlying3 (by omega)) ?_
    refine jr_ (vI ((n.toNat : Nat) : Int)) ?_
    refine jr_ (vB true) ?_
    refine JO_nil (JX_then (J_ret ?_))
    first
     | have hd := R27.number_len (k := s) (by omega)
     | have hd := R27.number_u64 i1_0 i1_1 i1_2 (by omega) (by assumption)
     | have hd := R27.number_u64b i1_0 i1_1 i1_2 (by omega) (by assumption)
    refine JX_rets [vI ((n.toNat : Nat) : Int), vB true] (Value.tuple #[vI ((n.toNat : Nat) : Int), vB true]) Try.results101 (fun w h => ⟨rfl, rfl, trivial⟩) rfl [] (fun _ h => h.keep [false] rfl) ⟨?_, ?_⟩
    ·have e_x0 : (((n.toNat : Nat) : Int) : Int) = ((R27.number s).1) := by first | (rw [hd]; done) | (rw [hd]; rfl)
     have e_x1 : (true : Bool) = ((R27.number s).2) := by first | (rw [hd]; done) | (rw [hd]; rfl)
     have e_all := (congr (congrArg (fun (x0 : Int) (x1 : Bool) => Value.tuple #[vI x0, vB x1]) e_x0) e_x1)
     exact e_all
    ·rfl
set_option maxRecDepth 20000 in
theorem f74_ok (d : DataSet) (r : Bytes) (w : World) (q0 : r.length ≤ 1000000) : Calls Try.prog 74 #[Value.agg ((DataSet.enc d)).toArray, vS r] w (Gives [] w fun v L => v = Value.tuple #[vS ((R27.ofK d r).1), vI ((R27.ofK d r).2)] ∧ L = []) := by
 refine calls_J [] 33 Try.func74 rfl Try.ntmps74 [(0, Value.agg ((DataSet.enc d)).toArray), (1, vS r)] rfl rfl (Give.nil w) ?_
 refine J_seq (J_region ?_)
 refine JO_op rfl trivial (O_box rfl rfl fun b1 => ?_)
 refine jr_ (vS []) ?_
 refine jr_ (vI 0) ?_
 refine JO_nil (JX_then (J_seq (J_block (J_seq (J_region ?_)))))
 refine JO_read (Value.agg ((DataSet.enc d)).toArray) rfl trivial (x_loadN 0 (DataSet.enc d) rfl rfl Ty.ag24 Ty.sz24 rfl) ?_
 refine JO_call [] [] [Ent.blk b1 24 (DataSet.enc d)] rfl trivial (fun _ => x_call Ty.ca69 rfl) (fun _ h => h) (fun _ h => by cases h) (fun w hS => f69_ok d w) ?_
 rintro _ _ ⟨rfl, rfl⟩
 refine js_ (vB (!(R16.valid d))) (x_not rfl) ?_
 refine jr_ (vB (!(R16.valid d))) ?_
 refine JO_nil (JX_then ?_)
 refine J_cond (!(R16.valid d)) rfl rfl (fun h2 => ?_) (fun h2 => ?_)
 ·have h2w := h2
  have h2 : (R16.valid d) = false := bnot_true h2
  refine J_seq (J_region ?_)
  refine jr_ (vS []) ?_
  refine jr_ (vI 1) ?_
  refine JO_nil (JX_then (J_ret (JX_block_ret (JX_then_ret ?_))))
  first
   | have hd := R27.of_bad (d := d) (r := r) (by assumption)
   | have hd := R27.of_type (d := d) (r := r) (by assumption) (by assumption)
   | have hd := R27.of_rangeA (d := d) (r := r) (by assumption) (by assumption) (by assumption)
   | have hd := R27.of_rangeB (d := d) (r := r) (by assumption) (by assumption) (by assumption)
   | have hd := R27.of_okA (d := d) (r := r) (by assumption) (by assumption) (by assumption)
   | have hd := R27.of_okB (d := d) (r := r) (by assumption) (by assumption) (by assumption)
  refine JX_rets [vS [], vI 1] (Value.tuple #[vS [], vI 1]) Try.results74 (fun w h => ⟨rfl, rfl, trivial⟩) rfl [] (fun _ h => h.keep [false] rfl) ⟨?_, ?_⟩
  ·have e_x0 : ([] : Bytes) = ((R27.ofK d r).1) := by first | (rw [hd]; done) | (rw [hd]; rfl) | (rw [hd]; exact R26.sub_sub2 (by omega) (by omega) (by omega))
   have e_x1 : (1 : Int) = ((R27.ofK d r).2) := by first | (rw [hd]; done) | (rw [hd]; rfl) | (rw [hd]; exact R26.sub_sub2 (by omega) (by omega) (by omega))
   have e_all := (congr (congrArg (fun (x0 : Bytes) (x1 : Int) => Value.tuple #[vS x0, vI x1]) e_x0) e_x1)
   exact e_all
  ·rfl
 ·have h2w := h2
  have h2 : (R16.valid d) = true := bnot_false h2
  have hi3 := R16.valid_facts h2
  refine J_seq (J_region ?_)
  refine js_ (Value.pointer (some ⟨b1, 1, none⟩)) (x_fieldAddr Ty.fi24_1 rfl rfl) ?_
  refine JO_read (vI d.Org) rfl trivial (x_load 0 rfl rfl Ty.sc3 rfl) ?_
  refine js_ (vB (decide (d.Org ≠ 3))) (x_neq_i rfl rfl) ?_
  refine jr_ (vB (decide (d.Org ≠ 3))) ?_
  refine JO_nil (JX_then ?_)
  refine J_cond (decide (d.Org ≠ 3)) rfl rfl (fun h4 => ?_) (fun h4 => ?_)
  ·have h4w := h4
   have h4 := of_decide_eq_true h4
   refine J_seq (J_region ?_)
   refine jr_ (vS []) ?_
   refine jr_ (vI 7) ?_
   refine JO_nil (JX_then (J_ret (JX_block_ret (JX_then_ret ?_))))
   first
    | have hd := R27.of_bad (d := d) (r := r) (by assumption)
    | have hd := R27.of_type (d := d) (r := r) (by assumption) (by assumption)
    | have hd := R27.of_rangeA (d := d) (r := r) (by assumption) (by assumption) (by assumption)
    | have hd := R27.of_rangeB (d := d) (r := r) (by assumption) (by assumption) (by assumption)
    | have hd := R27.of_okA (d := d) (r := r) (by assumption) (by assumption) (by assumption)
    | have hd := R27.of_okB (d := d) (r := r) (by assumption) (by assumption) (by assumption)
   refine JX_rets [vS [], vI 7] (Value.tuple #[vS [], vI 7]) Try.results74 (fun w h => ⟨rfl, rfl, trivial⟩) rfl [] (fun _ h => h.keep [false] rfl) ⟨?_, ?_⟩
   ·have e_x0 : ([] : Bytes) = ((R27.ofK d r).1) := by first | (rw [hd]; done) | (rw [hd]; rfl) | (rw [hd]; exact R26.sub_sub2 (by omega) (by omega) (by omega))
    have e_x1 : (7 : Int) = ((R27.ofK d r).2) := by first | (rw [hd]; done) | (rw [hd]; rfl) | (rw [hd]; exact R26.sub_sub2 (by omega) (by omega) (by omega))
    have e_all := (congr (congrArg (fun (x0 : Bytes) (x1 : Int) => Value.tuple #[vS x0, vI x1]) e_x0) e_x1)
    exact e_all
   ·rfl
  ·have h4w := h4
   have h4 := of_decide_eq_false h4
   refine J_seq (J_region ?_)
   refine jr_ (vS r) ?_
   refine js_ (vI ((r.length : Nat) : Int)) (x_len_s rfl Try.underlying9) ?_
   refine js_ (Value.pointer (some ⟨b1, 5, none⟩)) (x_fieldAddr Ty.fi24_5 rfl rfl) ?_
   refine JO_read (vI d.KeyAt) rfl trivial (x_load 0 rfl rfl Ty.sc3 rfl) ?_
   refine js_ (Value.pointer (some ⟨b1, 6, none⟩)) (x_fieldAddr Ty.fi24_6 rfl rfl) ?_
   refine JO_read (vI d.KeyLength) rfl trivial (x_load 0 rfl rfl Ty.sc3 rfl) ?_
   refine js_ (vI (d.KeyAt + d.KeyLength)) (x_add_i (a := d.KeyAt) (b := d.KeyLength) rfl rfl (by omega) (by omega)) ?_
   refine js_ (Value.pointer (some ⟨b1, 3, none⟩)) (x_fieldAddr Ty.fi24_3 rfl rfl) ?_
   refine JO_read (vI d.Length) rfl trivial (x_load 0 rfl rfl Ty.sc3 rfl) ?_
   refine JO_call [] [] [Ent.blk b1 24 (DataSet.enc d)] rfl trivial (fun _ => x_call Ty.ca99 rfl) (fun _ h => h) (fun _ h => by cases h) (fun w hS => f99_ok ((r.length : Nat) : Int) (d.KeyAt + d.KeyLength) d.Length w) ?_
   rintro _ _ ⟨rfl, rfl⟩
   refine js_ (vB (!((decide ((d.KeyAt + d.KeyLength) ≤ ((r.length : Nat) : Int))) && (decide (((r.length : Nat) : Int) ≤ d.Length))))) (x_not rfl) ?_
   refine jr_ (vB (!((decide ((d.KeyAt + d.KeyLength) ≤ ((r.length : Nat) : Int))) && (decide (((r.length : Nat) : Int) ≤ d.Length))))) ?_
   refine JO_nil (JX_then ?_)
   refine J_cond (!((decide ((d.KeyAt + d.KeyLength) ≤ ((r.length : Nat) : Int))) && (decide (((r.length : Nat) : Int) ≤ d.Length)))) rfl rfl (fun h5 => ?_) (fun h5 => ?_)
   ·have h5w := h5
    have h5 : ((decide ((d.KeyAt + d.KeyLength) ≤ ((r.length : Nat) : Int))) && (decide (((r.length : Nat) : Int) ≤ d.Length))) = false := bnot_true h5
    simp only [Bool.and_eq_true, Bool.or_eq_true, Bool.and_eq_false_iff, Bool.or_eq_false_iff, Bool.not_eq_true', Bool.not_eq_false', decide_eq_true_eq, decide_eq_false_iff_not] at h5
    refine J_seq (J_region ?_)
    refine jr_ (vS []) ?_
    refine jr_ (vI 2) ?_
    refine JO_nil (JX_then (J_ret (JX_block_ret (JX_then_ret ?_))))
    first
     | have hd := R27.of_bad (d := d) (r := r) (by assumption)
     | have hd := R27.of_type (d := d) (r := r) (by assumption) (by assumption)
     | have hd := R27.of_rangeA (d := d) (r := r) (by assumption) (by assumption) (by assumption)
     | have hd := R27.of_rangeB (d := d) (r := r) (by assumption) (by assumption) (by assumption)
     | have hd := R27.of_okA (d := d) (r := r) (by assumption) (by assumption) (by assumption)
     | have hd := R27.of_okB (d := d) (r := r) (by assumption) (by assumption) (by assumption)
    refine JX_rets [vS [], vI 2] (Value.tuple #[vS [], vI 2]) Try.results74 (fun w h => ⟨rfl, rfl, trivial⟩) rfl [] (fun _ h => h.keep [false] rfl) ⟨?_, ?_⟩
    ·have e_x0 : ([] : Bytes) = ((R27.ofK d r).1) := by first | (rw [hd]; done) | (rw [hd]; rfl) | (rw [hd]; exact R26.sub_sub2 (by omega) (by omega) (by omega))
     have e_x1 : (2 : Int) = ((R27.ofK d r).2) := by first | (rw [hd]; done) | (rw [hd]; rfl) | (rw [hd]; exact R26.sub_sub2 (by omega) (by omega) (by omega))
     have e_all := (congr (congrArg (fun (x0 : Bytes) (x1 : Int) => Value.tuple #[vS x0, vI x1]) e_x0) e_x1)
     exact e_all
    ·rfl
   ·have h5w := h5
    have h5 : ((decide ((d.KeyAt + d.KeyLength) ≤ ((r.length : Nat) : Int))) && (decide (((r.length : Nat) : Int) ≤ d.Length))) = true := bnot_false h5
    have ⟨h5, h6⟩ := band_true h5
    have h5 := of_decide_eq_true h5
    have h6 := of_decide_eq_true h6
    refine J_skip (JX_block (JX_then (J_seq ?_)))
    refine J_draw [Ent.blk b1 24 (DataSet.enc d)] [] [Ent.blk b1 24 (DataSet.enc d)] 9 Ty.mixed rfl ?_
    refine jt_ 0 (vS r) rfl (fun _ _ => rfl) ?_
    refine jt_ 1 (Value.pointer (some ⟨b1, 5, none⟩)) rfl (fun _ _ => x_fieldAddr Ty.fi24_5 rfl rfl) ?_
    refine jt_ 2 (vI d.KeyAt) rfl (x_load 0 rfl rfl Ty.sc3 rfl) ?_
    refine jt_ 3 (vS (sub r ((d.KeyAt).toNat) r.length)) rfl (fun _ _ => x_sub_s (lo := (d.KeyAt).toNat) (hi := r.length) rfl Try.underlying9 (.inl (lo_i (by omega))) (.inr ⟨rfl, rfl⟩) lt_ (by first | omega | (simp only [sub, List.length_drop, List.length_take]; omega) | (simp; omega) | (simp_all; omega))) ?_
    refine jt_ 4 (Value.pointer (some ⟨b1, 6, none⟩)) rfl (fun _ _ => x_fieldAddr Ty.fi24_6 rfl rfl) ?_
    refine jt_ 5 (vI d.KeyLength) rfl (x_load 0 rfl rfl Ty.sc3 rfl) ?_
    refine jt_ 6 (vS (sub (sub r ((d.KeyAt).toNat) r.length) 0 ((d.KeyLength).toNat))) rfl (fun _ _ => x_sub_s (lo := 0) (hi := (d.KeyLength).toNat) rfl Try.underlying9 (.inr ⟨rfl, rfl⟩) (.inl (lo_i (by omega))) lt_ (by first | omega | (simp only [sub, List.length_drop, List.length_take]; omega) | (simp; omega) | (simp_all; omega))) ?_
    refine jt_ 7 (vS (sub (sub r ((d.KeyAt).toNat) r.length) 0 ((d.KeyLength).toNat))) rfl (fun _ _ => rfl) ?_
    refine jt_ 8 (vI 0) rfl (fun _ _ => rfl) ?_
    refine JA_done (by kernel_rfl) (fun _ h => ⟨h, fun _ => h⟩) ?_
    refine JX_then (J_ret ?_)
    first
     | have hd := R27.of_bad (d := d) (r := r) (by assumption)
     | have hd := R27.of_type (d := d) (r := r) (by assumption) (by assumption)
     | have hd := R27.of_rangeA (d := d) (r := r) (by assumption) (by assumption) (by assumption)
     | have hd := R27.of_rangeB (d := d) (r := r) (by assumption) (by assumption) (by assumption)
     | have hd := R27.of_okA (d := d) (r := r) (by assumption) (by assumption) (by assumption)
     | have hd := R27.of_okB (d := d) (r := r) (by assumption) (by assumption) (by assumption)
    refine JX_rets [vS (sub (sub r ((d.KeyAt).toNat) r.length) 0 ((d.KeyLength).toNat)), vI 0] (Value.tuple #[vS (sub (sub r ((d.KeyAt).toNat) r.length) 0 ((d.KeyLength).toNat)), vI 0]) Try.results74 (fun w h => ⟨rfl, rfl, trivial⟩) rfl [] (fun _ h => h.keep [false] rfl) ⟨?_, ?_⟩
    ·have e_x0 : (sub (sub r ((d.KeyAt).toNat) r.length) 0 ((d.KeyLength).toNat) : Bytes) = ((R27.ofK d r).1) := by first | (rw [hd]; done) | (rw [hd]; rfl) | (rw [hd]; exact R26.sub_sub2 (by omega) (by omega) (by omega))
     have e_x1 : (0 : Int) = ((R27.ofK d r).2) := by first | (rw [hd]; done) | (rw [hd]; rfl) | (rw [hd]; exact R26.sub_sub2 (by omega) (by omega) (by omega))
     have e_all := (congr (congrArg (fun (x0 : Bytes) (x1 : Int) => Value.tuple #[vS x0, vI x1]) e_x0) e_x1)
     exact e_all
    ·rfl
set_option maxRecDepth 20000 in
theorem f77_ok (s : Bytes) (w : World) (q0 : s.length ≤ 1000000) : Calls Try.prog 77 #[vS s] w (Gives [] w fun v L => v = vB (R27.isSlot s) ∧ L = []) := by
 refine calls_J [] 19 Try.func77 rfl Try.ntmps77 [(0, vS s)] rfl rfl (Give.nil w) ?_
 refine J_seq (J_region ?_)
 refine jr_ (vB false) ?_
 refine JO_nil (JX_then (J_seq (J_region ?_)))
 refine jr_ (vS s) ?_
 refine JO_call [] [] [] rfl trivial (fun _ => x_call Ty.ca101 rfl) (fun _ h => h) (fun _ h => by cases h) (fun w hS => f101_ok s w hy_) ?_
 rintro _ _ ⟨rfl, rfl⟩
 refine jr_ (Value.tuple #[vI ((R27.number s).1), vB ((R27.number s).2)]) ?_
 refine jr_ (vI ((R27.number s).1)) ?_
 refine jr_ (vB ((R27.number s).2)) ?_
 refine jr_ (vI ((R27.number s).1)) ?_
 refine jr_ (vB ((R27.number s).2)) ?_
 refine JO_nil (JX_then (J_seq (J_region ?_)))
 refine jr_ (vB ((R27.number s).2)) ?_
 refine jr_ (vB ((R27.number s).2)) ?_
 refine JO_cut 3 (fun z => z = (((R27.number s).2) && (decide ((1 : Int) ≤ (R27.number s).1)))) (fun z => [(2, vB false), (3, vI ((R27.number s).1)), (14, vB z)]) (fun _ => []) ?_ ?_
 ·rcases Bool.eq_false_or_eq_true ((R27.number s).2) with g2 | g2
  ·have g2r := g2
   refine jg_ g2 (vI ((R27.number s).1)) (rfl) ?_
   refine jg_ g2 (vB (decide ((1 : Int) ≤ (R27.number s).1))) (x_geq_i rfl rfl) ?_
   refine js_ (vB (decide ((1 : Int) ≤ (R27.number s).1))) (x_pick_t rfl g2 rfl) ?_
   refine JO_nil (JX_cut (decide ((1 : Int) ≤ (R27.number s).1)) (by rw [g2]; simp) ⟨rfl, rfl, rfl, trivial⟩ (fun _ h => h))
  ·have g2r := g2
   refine sh_ g2 ?_
   refine sh_ g2 ?_
   refine js_ (vB false) (x_pick_f rfl g2 rfl) ?_
   refine JO_nil (JX_cut (false) (by rw [g2]; simp) ⟨rfl, rfl, rfl, trivial⟩ (fun _ h => h))
 rintro z1 rfl
 refine jr_ (vB (((R27.number s).2) && (decide ((1 : Int) ≤ (R27.number s).1)))) ?_
 refine JO_cut 3 (fun z => z = ((((R27.number s).2) && (decide ((1 : Int) ≤ (R27.number s).1))) && (decide ((R27.number s).1 ≤ 65536)))) (fun z => [(2, vB false), (18, vB z)]) (fun _ => []) ?_ ?_
 ·rcases Bool.eq_false_or_eq_true (((R27.number s).2) && (decide ((1 : Int) ≤ (R27.number s).1))) with g4 | g4
  ·have g4r := g4
   have ⟨g4r, h5⟩ := band_true g4r
   have h5 := of_decide_eq_true h5
   refine jg_ g4 (vI ((R27.number s).1)) (rfl) ?_
   refine jg_ g4 (vB (decide ((R27.number s).1 ≤ 65536))) (x_leq_i rfl rfl) ?_
   refine js_ (vB (decide ((R27.number s).1 ≤ 65536))) (x_pick_t rfl g4 rfl) ?_
   refine JO_nil (JX_cut (decide ((R27.number s).1 ≤ 65536)) (by rw [g4]; simp) ⟨rfl, rfl, trivial⟩ (fun _ h => h))
  ·have g4r := g4
   simp only [Bool.and_eq_true, Bool.or_eq_true, Bool.and_eq_false_iff, Bool.or_eq_false_iff, Bool.not_eq_true', Bool.not_eq_false', decide_eq_true_eq, decide_eq_false_iff_not] at g4r
   refine sh_ g4 ?_
   refine sh_ g4 ?_
   refine js_ (vB false) (x_pick_f rfl g4 rfl) ?_
   refine JO_nil (JX_cut (false) (by rw [g4]; simp) ⟨rfl, rfl, trivial⟩ (fun _ h => h))
 rintro z3 rfl
 refine jr_ (vB ((((R27.number s).2) && (decide ((1 : Int) ≤ (R27.number s).1))) && (decide ((R27.number s).1 ≤ 65536)))) ?_
 refine JO_nil (JX_then (J_ret ?_))
 refine JX_rets [vB ((((R27.number s).2) && (decide ((1 : Int) ≤ (R27.number s).1))) && (decide ((R27.number s).1 ≤ 65536)))] (vB ((((R27.number s).2) && (decide ((1 : Int) ≤ (R27.number s).1))) && (decide ((R27.number s).1 ≤ 65536)))) Try.results77 (fun w h => ⟨rfl, trivial⟩) rfl [] (fun _ h => h) ⟨?_, ?_⟩
 ·have e_x0 : ((((R27.number s).2) && (decide ((1 : Int) ≤ (R27.number s).1))) && (decide ((R27.number s).1 ≤ 65536)) : Bool) = (R27.isSlot s) := by rfl
  exact congrArg (fun (x0 : Bool) => vB x0) e_x0
 ·rfl
end Go.Proofs.Ytmbinhhlfbgiaaa
