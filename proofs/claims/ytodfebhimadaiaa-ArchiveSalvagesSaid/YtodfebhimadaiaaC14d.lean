/- contracts C14d -/
import Derived.Test.YtodfebhimadaiaaC14c
namespace Go.Proofs.Ytodfebhimadaiaa
open Go.GV
set_option linter.unusedVariables false
set_option linter.unusedSimpArgs false
set_option maxRecDepth 20000 in
theorem f57_ok (ps : List Addr) (psA : Option Addr) (psC : Nat) (psx : List Int) (bs : Nat) (s : Bytes) (w : World) (psR : RO [bs] w psA (ps.map vP)) (psD : derefs [bs] w ps psx) (q0 : s.length ≤ 4000000) (q1 : ps.length ≤ 100) (hg : Give [bs] w [Ent.blk bs 9 [vS s]]) : Calls Try.prog 57 #[Value.slice psA ps.length psC, Value.pointer (some ⟨bs, 0, none⟩)] w (Gives [bs] w fun v L => v = Value.tuple #[] ∧ L = [Ent.blk bs 9 [vS (s ++ psx.flatMap R14.enc)]]) := by
  refine calls_J [bs] 18 Try.func57 rfl Try.ntmps57 [(0, Value.slice psA ps.length psC), (1, Value.pointer (some ⟨bs, 0, none⟩))] rfl rfl hg ?_
  refine J_seq (J_region ?_)
  refine jr_ (Value.slice psA ps.length psC) ?_
  refine JO_read (vI ((ps.length : Nat) : Int)) rfl trivial (fun _ _ => x_len_sl Try.underlying63 rfl) ?_
  refine jr_ (vI 0) ?_
  refine JO_nil (JX_then (J_block ?_))
  refine J_loop (X := Nat × Bytes) (fun (⟨k, t⟩ : Nat × Bytes) => (k ≤ ps.length) ∧ (t = s ++ (psx.take k).flatMap R14.enc)) (fun (⟨k, t⟩ : Nat × Bytes) => [(1, Value.pointer (some ⟨bs, 0, none⟩)), (5, Value.slice psA ps.length psC), (6, vI ((ps.length : Nat) : Int)), (7, vI ((k : Nat) : Int))]) (fun (⟨k, t⟩ : Nat × Bytes) => [Ent.blk bs 9 [vS t]]) (fun (⟨k, t⟩ : Nat × Bytes) => ps.length - k) ((0, s) : Nat × Bytes) ?_ ⟨rfl, rfl, rfl, rfl, trivial⟩ (fun _ h => h) ?_
  · show (0 ≤ ps.length) ∧ (s = s ++ (psx.take 0).flatMap R14.enc)
    refine ⟨?_, ?_⟩
    · first | rfl | omega | (simp_all; done) | (simp_all; omega)
    · simp
  rintro ⟨k, t⟩ hI1
  obtain ⟨i1_0, i1_1⟩ : (k ≤ ps.length) ∧ (t = s ++ (psx.take k).flatMap R14.enc) := hI1
  have hl := derefs_len psD
  have hb := R14.flat_len i1_1
  have he := R14.enc_len (psx.getD k 0)
  refine J_weaken (E' := [(1, Value.pointer (some ⟨bs, 0, none⟩)), (5, Value.slice psA ps.length psC), (6, vI ((ps.length : Nat) : Int)), (7, vI ((k : Nat) : Int))]) (L' := [Ent.blk bs 9 [vS t]]) ⟨rfl, rfl, rfl, rfl, trivial⟩ (fun _ h => h) ?_
  refine J_seq (J_region ?_)
  refine JO_read (vB (decide (((k : Nat) : Int) < ((ps.length : Nat) : Int)))) rfl trivial (fun _ _ => x_lss_i rfl rfl) ?_
  refine JO_nil (JX_then (J_seq ?_))
  refine J_cond (decide (((k : Nat) : Int) < ((ps.length : Nat) : Int))) rfl rfl (fun h1 => ?_) (fun h1 => ?_)
  · have h1 := of_decide_eq_true h1
    refine J_skip (JX_then (J_seq (J_block (J_seq (J_region ?_)))))
    refine JO_read (Value.pointer (some (adr psA k))) rfl trivial (x_indexAddr_at (k := k) (off := k) (cells_ro psR) Try.underlying63 Ty.sz66 rfl rfl lt_ (by rw [List.length_map]; first | omega | (simp; omega) | (simp_all; omega) | (simp_all; done)) (Nat.mul_one _)) ?_
    refine JO_read (vP (ps.getD k default)) rfl trivial (x_load_at (cells_ro psR) rfl Ty.sc66 (map_at vP ps default lt_)) ?_
    refine jr_ (vP (ps.getD k default)) ?_
    refine JO_nil (JX_then ?_)
    refine J_draw [] [6] [Ent.blk bs 9 [vS t]] 7 Ty.mixed rfl ?_
    refine JA_early 0 (vS t) rfl (by kernel_rfl) (by kernel_rfl) (by kernel_rfl) rfl (by kernel_rfl) (fun _ _ _ h => h) rfl trivial (x_load 0 rfl rfl Ty.sc9 rfl) ?_
    refine jt_ 1 (vP (ps.getD k default)) rfl (fun _ _ => rfl) ?_
    refine jt_ 2 (vP (ps.getD k default)) rfl (fun _ _ => x_nilCheck_p rfl) ?_
    refine jt_ 3 (vI (psx.getD k 0)) rfl (x_load_ptr (derefs_at psD (k := k) lt_) rfl Ty.sc3) ?_
    refine jt_ 4 (vU64 (UInt64.ofInt (psx.getD k 0))) rfl (fun _ _ => x_conv_i64_u64 (a := (psx.getD k 0)) rfl Try.underlying3 Try.underlying104) ?_
    refine JA_one 5 (by kernel_rfl) (fun _ h => ⟨h.keep [false] rfl, fun _ => h⟩) ?_
    refine JI_call [] [] [Ent.blk bs 9 [vS t]] rfl rfl trivial (fun _ => x_call Ty.ca58 rfl) (fun _ h => h) (fun _ h => by cases h) (fun w hS => f58_ok t (UInt64.ofInt (psx.getD k 0)) w hy_) ?_
    rintro _ _ ⟨rfl, rfl⟩
    have ha2 := R01.num_len (UInt64.ofInt (psx.getD k 0))
    refine JA_one 6 (by kernel_rfl) (fun _ h => ⟨h.keep [false] rfl, fun _ => h⟩) ?_
    refine JI_op rfl rfl trivial (O_store 0 [vS (t ++ R01.num (UInt64.ofInt (psx.getD k 0)).toNat)] [Ent.blk bs 9 [vS (t ++ R01.num (UInt64.ofInt (psx.getD k 0)).toNat)]] rfl rfl rfl Ty.sz9 rfl (Nat.le_of_ble_eq_true rfl) rfl rfl rfl ?_)
    refine JA_done (by kernel_rfl) (fun _ h => ⟨h.keep [false] rfl, fun hh => Bool.noConfusion (show false = true from hh)⟩) ?_
    refine JX_block (JX_then (J_region ?_))
    refine JO_read (vI ((k + 1 : Nat) : Int)) rfl trivial (fun _ _ => x_add_n (a := k) (b := 1) rfl rfl (by omega)) ?_
    refine jr_ (vI ((k + 1 : Nat) : Int)) ?_
    refine JO_nil ?_
    refine JX_round ((k + 1, t ++ R01.num (UInt64.ofInt (psx.getD k 0)).toNat) : Nat × Bytes) ?_ ?_ ⟨rfl, rfl, rfl, rfl, trivial⟩ (fun _ h => h)
    · show ((k + 1) ≤ ps.length) ∧ ((t ++ R01.num (UInt64.ofInt (psx.getD k 0)).toNat) = s ++ (psx.take (k + 1)).flatMap R14.enc)
      refine ⟨?_, ?_⟩
      · first | rfl | omega | (simp_all; done) | (simp_all; omega)
      · exact R14.flat_step 0 (by omega) i1_1
    · show ps.length - (k + 1) < ps.length - k
      first | omega | (simp; omega) | (simp_all; omega)
  · have h1 := of_decide_eq_false h1
    refine J_exit (JX_then_exit (JX_round_exit (JX_block_hit ?_)))
    refine JX_end0 Try.results57 [Ent.blk bs 9 [vS t]] (fun _ h => h) ⟨?_, ?_⟩
    · rfl
    · have e_y0 : (t : Bytes) = s ++ psx.flatMap R14.enc := by
        rw [i1_1, List.take_of_length_le (by omega)]
      have e_all := (congrArg (fun (y0 : Bytes) => [Ent.blk bs 9 [vS y0]]) e_y0)
      exact e_all
set_option maxRecDepth 20000 in
theorem f34_ok (d : DataSet) (n : Int) (ps : List Pair) (psA : Option Addr) (psC : Nat) (w : World) (psR : RO [] w psA (ps.flatMap Pair.enc)) (q0 : R14.valid d n ps = true) : Calls Try.prog 34 #[Value.agg ((DataSet.enc d ++ [vI n, Value.slice psA ps.length psC])).toArray] w (Gives [] w fun v L => ∃ A : Option Addr, ∃ c : Nat, v = Value.slice A ((R14.items d n ps).length) c ∧ L = [Ent.row (.slice A (R14.items d n ps).length c) 9 1 (R14.items d n ps).length ((R14.items d n ps).map vS)]) := by
  have hv := R14.valid_bounds q0
  have hv1 := R01.text_len d.Owner (by omega)
  have hv2 := R01.text_len d.Volume (by omega)
  have hen := R14.encs_len (R14.nums d)
  refine calls_J [] 67 Try.func34 rfl Try.ntmps34 [(0, Value.agg ((DataSet.enc d ++ [vI n, Value.slice psA ps.length psC])).toArray)] rfl rfl (Give.nil w) ?_
  refine J_seq (J_region ?_)
  refine JO_op rfl trivial (O_box rfl rfl fun b1 => ?_)
  refine jr_ (Value.slice none 0 0) ?_
  refine JO_nil (JX_then (J_seq (J_region ?_)))
  refine JO_op rfl trivial (O_alloc Ty.ze9 rfl fun b2 => ?_)
  refine JO_op rfl trivial (O_store 0 [vS []] [Ent.blk b2 9 [vS []], Ent.blk b1 37 (DataSet.enc d ++ [vI n, Value.slice psA ps.length psC])] rfl rfl rfl Ty.sz9 rfl (Nat.le_of_ble_eq_true rfl) rfl rfl rfl ?_)
  refine JO_nil (JX_then (J_seq (J_region ?_)))
  refine JO_read (Value.func (.func 57) #[] #[Value.pointer (some ⟨b2, 0, none⟩)]) rfl trivial (fun _ _ => x_makeFunc rfl rfl) ?_
  refine jr_ (Value.func (.func 57) #[] #[Value.pointer (some ⟨b2, 0, none⟩)]) ?_
  refine JO_nil (JX_then (J_seq (J_region ?_)))
  refine JO_read (Value.pointer (some ⟨b1, 0, none⟩)) rfl trivial (fun _ _ => x_fieldAddr Ty.fi37_0 rfl rfl) ?_
  refine JO_read (Value.agg ((DataSet.enc d)).toArray) rfl trivial (x_loadN 1 (DataSet.enc d) rfl rfl Ty.ag34 Ty.sz34 rfl) ?_
  refine JO_op rfl trivial (O_alloc Ty.ze34 rfl fun b3 => ?_)
  refine JO_op rfl trivial (O_storeS (vs := (DataSet.enc d)) 0 (DataSet.enc d) [Ent.blk b3 34 (DataSet.enc d), Ent.blk b2 9 [vS []], Ent.blk b1 37 (DataSet.enc d ++ [vI n, Value.slice psA ps.length psC])] rfl rfl rfl Ty.sz34 rfl (Nat.le_of_ble_eq_true rfl) rfl (st_all rfl) rfl ?_)
  refine JO_nil (JX_then (J_seq (J_region ?_)))
  refine jr_ (Value.func (.func 57) #[] #[Value.pointer (some ⟨b2, 0, none⟩)]) ?_
  refine JO_call [] [] [Ent.blk b3 34 (DataSet.enc d), Ent.blk b2 9 [vS []], Ent.blk b1 37 (DataSet.enc d ++ [vI n, Value.slice psA ps.length psC])] rfl trivial (fun _ => x_call Ty.ca36 rfl) (fun _ h => h) (fun _ h => by cases h) (fun w hS => f36_ok b3 w) ?_
  rintro _ _ ⟨b4, rfl, rfl⟩
  refine JO_call [b2] [Ent.blk b2 9 [vS []]] [Ent.blk b4 66 [Value.pointer (some ⟨b3, 0, none⟩), Value.pointer (some ⟨b3, 1, none⟩), Value.pointer (some ⟨b3, 2, none⟩), Value.pointer (some ⟨b3, 3, none⟩), Value.pointer (some ⟨b3, 4, none⟩), Value.pointer (some ⟨b3, 5, none⟩), Value.pointer (some ⟨b3, 6, none⟩), Value.pointer (some ⟨b3, 7, none⟩), Value.pointer (some ⟨b3, 8, none⟩), Value.pointer (some ⟨b3, 9, none⟩), Value.pointer (some ⟨b3, 10, none⟩), Value.pointer (some ⟨b3, 11, none⟩), Value.pointer (some ⟨b3, 12, none⟩), Value.pointer (some ⟨b3, 13, none⟩)], Ent.blk b3 34 (DataSet.enc d), Ent.blk b1 37 (DataSet.enc d ++ [vI n, Value.slice psA ps.length psC])] rfl trivial (fun _ => x_callv (first := []) (caps := [Value.pointer (some ⟨b2, 0, none⟩)]) rfl Ty.ca57 rfl) (fun _ h => ((((h.front 3 _ rfl).front 2 _ rfl).front 2 _ rfl).front 3 _ rfl).keep [true, true, true, true] rfl) (own_mem rfl) (fun w hS => f57_ok [(⟨b3, 0, none⟩ : Addr), (⟨b3, 1, none⟩ : Addr), (⟨b3, 2, none⟩ : Addr), (⟨b3, 3, none⟩ : Addr), (⟨b3, 4, none⟩ : Addr), (⟨b3, 5, none⟩ : Addr), (⟨b3, 6, none⟩ : Addr), (⟨b3, 7, none⟩ : Addr), (⟨b3, 8, none⟩ : Addr), (⟨b3, 9, none⟩ : Addr), (⟨b3, 10, none⟩ : Addr), (⟨b3, 11, none⟩ : Addr), (⟨b3, 12, none⟩ : Addr), (⟨b3, 13, none⟩ : Addr)] (some ⟨b4, 0, none⟩) 14 [d.Id, d.Org, d.Format, d.Length, d.Block, d.KeyAt, d.KeyLength, d.Interval, d.Area, d.FreeInterval, d.FreeArea, d.Base, d.AltAt, d.AltLength] b2 [] w (RO.of_blkS hS (own_mem rfl) 0 (off := 0) (m := 14) rfl rfl) (derefs_cons (RO.of_blkS hS (own_mem rfl) 1 (off := 0) (m := 1) rfl rfl) (derefs_cons (RO.of_blkS hS (own_mem rfl) 1 (off := 1) (m := 1) rfl rfl) (derefs_cons (RO.of_blkS hS (own_mem rfl) 1 (off := 2) (m := 1) rfl rfl) (derefs_cons (RO.of_blkS hS (own_mem rfl) 1 (off := 3) (m := 1) rfl rfl) (derefs_cons (RO.of_blkS hS (own_mem rfl) 1 (off := 4) (m := 1) rfl rfl) (derefs_cons (RO.of_blkS hS (own_mem rfl) 1 (off := 5) (m := 1) rfl rfl) (derefs_cons (RO.of_blkS hS (own_mem rfl) 1 (off := 6) (m := 1) rfl rfl) (derefs_cons (RO.of_blkS hS (own_mem rfl) 1 (off := 7) (m := 1) rfl rfl) (derefs_cons (RO.of_blkS hS (own_mem rfl) 1 (off := 8) (m := 1) rfl rfl) (derefs_cons (RO.of_blkS hS (own_mem rfl) 1 (off := 9) (m := 1) rfl rfl) (derefs_cons (RO.of_blkS hS (own_mem rfl) 1 (off := 10) (m := 1) rfl rfl) (derefs_cons (RO.of_blkS hS (own_mem rfl) 1 (off := 11) (m := 1) rfl rfl) (derefs_cons (RO.of_blkS hS (own_mem rfl) 1 (off := 12) (m := 1) rfl rfl) (derefs_cons (RO.of_blkS hS (own_mem rfl) 1 (off := 13) (m := 1) rfl rfl) derefs_nil)))))))))))))) hy_ hy_ (hS.give (own_in rfl))) ?_
  rintro _ _ ⟨rfl, rfl⟩
  have ha5 := R14.encs_len [d.Id, d.Org, d.Format, d.Length, d.Block, d.KeyAt, d.KeyLength, d.Interval, d.Area, d.FreeInterval, d.FreeArea, d.Base, d.AltAt, d.AltLength]
  try simp only [List.length_cons, List.length_nil, Nat.zero_add, Nat.reduceAdd, Nat.reduceMul] at ha5
  refine JO_nil (JX_then (J_seq (J_region ?_)))
  refine JO_read (vS ([] ++ [d.Id, d.Org, d.Format, d.Length, d.Block, d.KeyAt, d.KeyLength, d.Interval, d.Area, d.FreeInterval, d.FreeArea, d.Base, d.AltAt, d.AltLength].flatMap R14.enc)) rfl trivial (x_load 0 rfl rfl Ty.sc9 rfl) ?_
  refine JO_read (Value.pointer (some ⟨b3, 14, none⟩)) rfl trivial (fun _ _ => x_fieldAddr Ty.fi34_14 rfl rfl) ?_
  refine JO_read (vB d.Unique) rfl trivial (x_load 2 rfl rfl Ty.sc4 rfl) ?_
  refine JO_call [] [] [Ent.blk b2 9 [vS ([] ++ [d.Id, d.Org, d.Format, d.Length, d.Block, d.KeyAt, d.KeyLength, d.Interval, d.Area, d.FreeInterval, d.FreeArea, d.Base, d.AltAt, d.AltLength].flatMap R14.enc)], Ent.blk b4 66 [Value.pointer (some ⟨b3, 0, none⟩), Value.pointer (some ⟨b3, 1, none⟩), Value.pointer (some ⟨b3, 2, none⟩), Value.pointer (some ⟨b3, 3, none⟩), Value.pointer (some ⟨b3, 4, none⟩), Value.pointer (some ⟨b3, 5, none⟩), Value.pointer (some ⟨b3, 6, none⟩), Value.pointer (some ⟨b3, 7, none⟩), Value.pointer (some ⟨b3, 8, none⟩), Value.pointer (some ⟨b3, 9, none⟩), Value.pointer (some ⟨b3, 10, none⟩), Value.pointer (some ⟨b3, 11, none⟩), Value.pointer (some ⟨b3, 12, none⟩), Value.pointer (some ⟨b3, 13, none⟩)], Ent.blk b3 34 (DataSet.enc d), Ent.blk b1 37 (DataSet.enc d ++ [vI n, Value.slice psA ps.length psC])] rfl trivial (fun _ => x_call Ty.ca59 rfl) (fun _ h => h) (fun _ h => by cases h) (fun w hS => f59_ok ([] ++ [d.Id, d.Org, d.Format, d.Length, d.Block, d.KeyAt, d.KeyLength, d.Interval, d.Area, d.FreeInterval, d.FreeArea, d.Base, d.AltAt, d.AltLength].flatMap R14.enc) d.Unique w hy_) ?_
  rintro _ _ ⟨rfl, rfl⟩
  have ha6 := R01.bool_len d.Unique
  refine JO_op rfl trivial (O_store 0 [vS (([] ++ [d.Id, d.Org, d.Format, d.Length, d.Block, d.KeyAt, d.KeyLength, d.Interval, d.Area, d.FreeInterval, d.FreeArea, d.Base, d.AltAt, d.AltLength].flatMap R14.enc) ++ R01.bool d.Unique)] [Ent.blk b2 9 [vS (([] ++ [d.Id, d.Org, d.Format, d.Length, d.Block, d.KeyAt, d.KeyLength, d.Interval, d.Area, d.FreeInterval, d.FreeArea, d.Base, d.AltAt, d.AltLength].flatMap R14.enc) ++ R01.bool d.Unique)], Ent.blk b4 66 [Value.pointer (some ⟨b3, 0, none⟩), Value.pointer (some ⟨b3, 1, none⟩), Value.pointer (some ⟨b3, 2, none⟩), Value.pointer (some ⟨b3, 3, none⟩), Value.pointer (some ⟨b3, 4, none⟩), Value.pointer (some ⟨b3, 5, none⟩), Value.pointer (some ⟨b3, 6, none⟩), Value.pointer (some ⟨b3, 7, none⟩), Value.pointer (some ⟨b3, 8, none⟩), Value.pointer (some ⟨b3, 9, none⟩), Value.pointer (some ⟨b3, 10, none⟩), Value.pointer (some ⟨b3, 11, none⟩), Value.pointer (some ⟨b3, 12, none⟩), Value.pointer (some ⟨b3, 13, none⟩)], Ent.blk b3 34 (DataSet.enc d), Ent.blk b1 37 (DataSet.enc d ++ [vI n, Value.slice psA ps.length psC])] rfl rfl rfl Ty.sz9 rfl (Nat.le_of_ble_eq_true rfl) rfl rfl rfl ?_)
  refine JO_nil (JX_then (J_seq (J_region ?_)))
  refine jr_ (Value.func (.func 57) #[] #[Value.pointer (some ⟨b2, 0, none⟩)]) ?_
  refine JO_read (Value.pointer (some ⟨b3, 15, none⟩)) rfl trivial (fun _ _ => x_fieldAddr Ty.fi34_15 rfl rfl) ?_
  refine JO_op rfl trivial (O_buildSlice (cs := [Value.pointer (some ⟨b3, 15, none⟩)]) Try.underlying63 Ty.sz66 Ty.ze66 (by decide) (by decide) (by kernel_rfl) fun b7 => ?_)
  refine JO_call [b2] [Ent.blk b2 9 [vS (([] ++ [d.Id, d.Org, d.Format, d.Length, d.Block, d.KeyAt, d.KeyLength, d.Interval, d.Area, d.FreeInterval, d.FreeArea, d.Base, d.AltAt, d.AltLength].flatMap R14.enc) ++ R01.bool d.Unique)]] [Ent.blk b7 66 [Value.pointer (some ⟨b3, 15, none⟩)], Ent.blk b4 66 [Value.pointer (some ⟨b3, 0, none⟩), Value.pointer (some ⟨b3, 1, none⟩), Value.pointer (some ⟨b3, 2, none⟩), Value.pointer (some ⟨b3, 3, none⟩), Value.pointer (some ⟨b3, 4, none⟩), Value.pointer (some ⟨b3, 5, none⟩), Value.pointer (some ⟨b3, 6, none⟩), Value.pointer (some ⟨b3, 7, none⟩), Value.pointer (some ⟨b3, 8, none⟩), Value.pointer (some ⟨b3, 9, none⟩), Value.pointer (some ⟨b3, 10, none⟩), Value.pointer (some ⟨b3, 11, none⟩), Value.pointer (some ⟨b3, 12, none⟩), Value.pointer (some ⟨b3, 13, none⟩)], Ent.blk b3 34 (DataSet.enc d), Ent.blk b1 37 (DataSet.enc d ++ [vI n, Value.slice psA ps.length psC])] rfl trivial (fun _ => x_callv (first := []) (caps := [Value.pointer (some ⟨b2, 0, none⟩)]) rfl Ty.ca57 rfl) (fun _ h => (((((h.front 4 _ rfl).front 4 _ rfl).front 4 _ rfl).front 3 _ rfl).front 4 _ rfl).keep [true, true, true, true, true] rfl) (own_mem rfl) (fun w hS => f57_ok [(⟨b3, 15, none⟩ : Addr)] (some ⟨b7, 0, none⟩) 1 [d.Class] b2 (([] ++ [d.Id, d.Org, d.Format, d.Length, d.Block, d.KeyAt, d.KeyLength, d.Interval, d.Area, d.FreeInterval, d.FreeArea, d.Base, d.AltAt, d.AltLength].flatMap R14.enc) ++ R01.bool d.Unique) w (RO.of_blkS hS (own_mem rfl) 0 (off := 0) (m := 1) rfl rfl) (derefs_cons (RO.of_blkS hS (own_mem rfl) 2 (off := 15) (m := 1) rfl rfl) derefs_nil) hy_ hy_ (hS.give (own_in rfl))) ?_
  rintro _ _ ⟨rfl, rfl⟩
  have ha8 := R14.encs_len [d.Class]
  try simp only [List.length_cons, List.length_nil, Nat.zero_add, Nat.reduceAdd, Nat.reduceMul] at ha8
  refine JO_nil (JX_then (J_seq ?_))
  refine J_draw [Ent.blk b7 66 [Value.pointer (some ⟨b3, 15, none⟩)], Ent.blk b4 66 [Value.pointer (some ⟨b3, 0, none⟩), Value.pointer (some ⟨b3, 1, none⟩), Value.pointer (some ⟨b3, 2, none⟩), Value.pointer (some ⟨b3, 3, none⟩), Value.pointer (some ⟨b3, 4, none⟩), Value.pointer (some ⟨b3, 5, none⟩), Value.pointer (some ⟨b3, 6, none⟩), Value.pointer (some ⟨b3, 7, none⟩), Value.pointer (some ⟨b3, 8, none⟩), Value.pointer (some ⟨b3, 9, none⟩), Value.pointer (some ⟨b3, 10, none⟩), Value.pointer (some ⟨b3, 11, none⟩), Value.pointer (some ⟨b3, 12, none⟩), Value.pointer (some ⟨b3, 13, none⟩)], Ent.blk b3 34 (DataSet.enc d), Ent.blk b1 37 (DataSet.enc d ++ [vI n, Value.slice psA ps.length psC])] [7] [Ent.blk b2 9 [vS ((([] ++ [d.Id, d.Org, d.Format, d.Length, d.Block, d.KeyAt, d.KeyLength, d.Interval, d.Area, d.FreeInterval, d.FreeArea, d.Base, d.AltAt, d.AltLength].flatMap R14.enc) ++ R01.bool d.Unique) ++ [d.Class].flatMap R14.enc)], Ent.blk b7 66 [Value.pointer (some ⟨b3, 15, none⟩)], Ent.blk b4 66 [Value.pointer (some ⟨b3, 0, none⟩), Value.pointer (some ⟨b3, 1, none⟩), Value.pointer (some ⟨b3, 2, none⟩), Value.pointer (some ⟨b3, 3, none⟩), Value.pointer (some ⟨b3, 4, none⟩), Value.pointer (some ⟨b3, 5, none⟩), Value.pointer (some ⟨b3, 6, none⟩), Value.pointer (some ⟨b3, 7, none⟩), Value.pointer (some ⟨b3, 8, none⟩), Value.pointer (some ⟨b3, 9, none⟩), Value.pointer (some ⟨b3, 10, none⟩), Value.pointer (some ⟨b3, 11, none⟩), Value.pointer (some ⟨b3, 12, none⟩), Value.pointer (some ⟨b3, 13, none⟩)], Ent.blk b3 34 (DataSet.enc d), Ent.blk b1 37 (DataSet.enc d ++ [vI n, Value.slice psA ps.length psC])] 8 Ty.mixed rfl ?_
  refine JA_early 0 (vS ((([] ++ [d.Id, d.Org, d.Format, d.Length, d.Block, d.KeyAt, d.KeyLength, d.Interval, d.Area, d.FreeInterval, d.FreeArea, d.Base, d.AltAt, d.AltLength].flatMap R14.enc) ++ R01.bool d.Unique) ++ [d.Class].flatMap R14.enc)) rfl (by kernel_rfl) (by kernel_rfl) (by kernel_rfl) rfl (by kernel_rfl) (fun _ _ _ h => h) rfl trivial (x_load 0 rfl rfl Ty.sc9 rfl) ?_
  refine jt_ 1 (Value.pointer (some ⟨b3, 16, none⟩)) rfl (fun _ _ => x_fieldAddr Ty.fi34_16 rfl rfl) ?_
  refine jt_ 2 (vS d.Volume) rfl (x_load 2 rfl rfl Ty.sc9 rfl) ?_
  refine jt_ 4 (Value.pointer (some ⟨b3, 17, none⟩)) rfl (fun _ _ => x_fieldAddr Ty.fi34_17 rfl rfl) ?_
  refine jt_ 5 (vS d.Owner) rfl (x_load 2 rfl rfl Ty.sc9 rfl) ?_
  refine JA_one 3 (by kernel_rfl) (fun _ h => ⟨h.keep [false, true, true, true, true] rfl, fun _ => h⟩) ?_
  refine JI_call [] [] [Ent.blk b2 9 [vS ((([] ++ [d.Id, d.Org, d.Format, d.Length, d.Block, d.KeyAt, d.KeyLength, d.Interval, d.Area, d.FreeInterval, d.FreeArea, d.Base, d.AltAt, d.AltLength].flatMap R14.enc) ++ R01.bool d.Unique) ++ [d.Class].flatMap R14.enc)], Ent.blk b7 66 [Value.pointer (some ⟨b3, 15, none⟩)], Ent.blk b4 66 [Value.pointer (some ⟨b3, 0, none⟩), Value.pointer (some ⟨b3, 1, none⟩), Value.pointer (some ⟨b3, 2, none⟩), Value.pointer (some ⟨b3, 3, none⟩), Value.pointer (some ⟨b3, 4, none⟩), Value.pointer (some ⟨b3, 5, none⟩), Value.pointer (some ⟨b3, 6, none⟩), Value.pointer (some ⟨b3, 7, none⟩), Value.pointer (some ⟨b3, 8, none⟩), Value.pointer (some ⟨b3, 9, none⟩), Value.pointer (some ⟨b3, 10, none⟩), Value.pointer (some ⟨b3, 11, none⟩), Value.pointer (some ⟨b3, 12, none⟩), Value.pointer (some ⟨b3, 13, none⟩)], Ent.blk b3 34 (DataSet.enc d), Ent.blk b1 37 (DataSet.enc d ++ [vI n, Value.slice psA ps.length psC])] rfl rfl trivial (fun _ => x_call Ty.ca60 rfl) (fun _ h => h) (fun _ h => by cases h) (fun w hS => f60_ok ((([] ++ [d.Id, d.Org, d.Format, d.Length, d.Block, d.KeyAt, d.KeyLength, d.Interval, d.Area, d.FreeInterval, d.FreeArea, d.Base, d.AltAt, d.AltLength].flatMap R14.enc) ++ R01.bool d.Unique) ++ [d.Class].flatMap R14.enc) d.Volume w hy_ hy_) ?_
  rintro _ _ ⟨rfl, rfl⟩
  have ha9 := R01.text_len d.Volume (by omega)
  refine JA_one 6 (by kernel_rfl) (fun _ h => ⟨h.keep [false, true, true, true, true] rfl, fun _ => h⟩) ?_
  refine JI_call [] [] [Ent.blk b2 9 [vS ((([] ++ [d.Id, d.Org, d.Format, d.Length, d.Block, d.KeyAt, d.KeyLength, d.Interval, d.Area, d.FreeInterval, d.FreeArea, d.Base, d.AltAt, d.AltLength].flatMap R14.enc) ++ R01.bool d.Unique) ++ [d.Class].flatMap R14.enc)], Ent.blk b7 66 [Value.pointer (some ⟨b3, 15, none⟩)], Ent.blk b4 66 [Value.pointer (some ⟨b3, 0, none⟩), Value.pointer (some ⟨b3, 1, none⟩), Value.pointer (some ⟨b3, 2, none⟩), Value.pointer (some ⟨b3, 3, none⟩), Value.pointer (some ⟨b3, 4, none⟩), Value.pointer (some ⟨b3, 5, none⟩), Value.pointer (some ⟨b3, 6, none⟩), Value.pointer (some ⟨b3, 7, none⟩), Value.pointer (some ⟨b3, 8, none⟩), Value.pointer (some ⟨b3, 9, none⟩), Value.pointer (some ⟨b3, 10, none⟩), Value.pointer (some ⟨b3, 11, none⟩), Value.pointer (some ⟨b3, 12, none⟩), Value.pointer (some ⟨b3, 13, none⟩)], Ent.blk b3 34 (DataSet.enc d), Ent.blk b1 37 (DataSet.enc d ++ [vI n, Value.slice psA ps.length psC])] rfl rfl trivial (fun _ => x_call Ty.ca60 rfl) (fun _ h => h) (fun _ h => by cases h) (fun w hS => f60_ok (((([] ++ [d.Id, d.Org, d.Format, d.Length, d.Block, d.KeyAt, d.KeyLength, d.Interval, d.Area, d.FreeInterval, d.FreeArea, d.Base, d.AltAt, d.AltLength].flatMap R14.enc) ++ R01.bool d.Unique) ++ [d.Class].flatMap R14.enc) ++ R01.text d.Volume) d.Owner w hy_ hy_) ?_
  rintro _ _ ⟨rfl, rfl⟩
  have ha10 := R01.text_len d.Owner (by omega)
  refine JA_one 7 (by kernel_rfl) (fun _ h => ⟨h.keep [false, true, true, true, true] rfl, fun _ => h⟩) ?_
  refine JI_op rfl rfl trivial (O_store 0 [vS ((((([] ++ [d.Id, d.Org, d.Format, d.Length, d.Block, d.KeyAt, d.KeyLength, d.Interval, d.Area, d.FreeInterval, d.FreeArea, d.Base, d.AltAt, d.AltLength].flatMap R14.enc) ++ R01.bool d.Unique) ++ [d.Class].flatMap R14.enc) ++ R01.text d.Volume) ++ R01.text d.Owner)] [Ent.blk b2 9 [vS ((((([] ++ [d.Id, d.Org, d.Format, d.Length, d.Block, d.KeyAt, d.KeyLength, d.Interval, d.Area, d.FreeInterval, d.FreeArea, d.Base, d.AltAt, d.AltLength].flatMap R14.enc) ++ R01.bool d.Unique) ++ [d.Class].flatMap R14.enc) ++ R01.text d.Volume) ++ R01.text d.Owner)], Ent.blk b7 66 [Value.pointer (some ⟨b3, 15, none⟩)], Ent.blk b4 66 [Value.pointer (some ⟨b3, 0, none⟩), Value.pointer (some ⟨b3, 1, none⟩), Value.pointer (some ⟨b3, 2, none⟩), Value.pointer (some ⟨b3, 3, none⟩), Value.pointer (some ⟨b3, 4, none⟩), Value.pointer (some ⟨b3, 5, none⟩), Value.pointer (some ⟨b3, 6, none⟩), Value.pointer (some ⟨b3, 7, none⟩), Value.pointer (some ⟨b3, 8, none⟩), Value.pointer (some ⟨b3, 9, none⟩), Value.pointer (some ⟨b3, 10, none⟩), Value.pointer (some ⟨b3, 11, none⟩), Value.pointer (some ⟨b3, 12, none⟩), Value.pointer (some ⟨b3, 13, none⟩)], Ent.blk b3 34 (DataSet.enc d), Ent.blk b1 37 (DataSet.enc d ++ [vI n, Value.slice psA ps.length psC])] rfl rfl rfl Ty.sz9 rfl (Nat.le_of_ble_eq_true rfl) rfl rfl rfl ?_)
  refine JA_done (by kernel_rfl) (fun _ h => ⟨h.keep [false, true, true, true, true] rfl, fun hh => Bool.noConfusion (show false = true from hh)⟩) ?_
  refine JX_then (J_seq (J_region ?_))
  refine jr_ (Value.func (.func 57) #[] #[Value.pointer (some ⟨b2, 0, none⟩)]) ?_
  refine JO_read (Value.pointer (some ⟨b3, 18, none⟩)) rfl trivial (fun _ _ => x_fieldAddr Ty.fi34_18 rfl rfl) ?_
  refine JO_read (Value.pointer (some ⟨b3, 19, none⟩)) rfl trivial (fun _ _ => x_fieldAddr Ty.fi34_19 rfl rfl) ?_
  refine JO_op rfl trivial (O_buildSlice (cs := [Value.pointer (some ⟨b3, 18, none⟩), Value.pointer (some ⟨b3, 19, none⟩)]) Try.underlying63 Ty.sz66 Ty.ze66 (by decide) (by decide) (by kernel_rfl) fun b11 => ?_)
  refine JO_call [b2] [Ent.blk b2 9 [vS ((((([] ++ [d.Id, d.Org, d.Format, d.Length, d.Block, d.KeyAt, d.KeyLength, d.Interval, d.Area, d.FreeInterval, d.FreeArea, d.Base, d.AltAt, d.AltLength].flatMap R14.enc) ++ R01.bool d.Unique) ++ [d.Class].flatMap R14.enc) ++ R01.text d.Volume) ++ R01.text d.Owner)]] [Ent.blk b11 66 [Value.pointer (some ⟨b3, 18, none⟩), Value.pointer (some ⟨b3, 19, none⟩)], Ent.blk b7 66 [Value.pointer (some ⟨b3, 15, none⟩)], Ent.blk b4 66 [Value.pointer (some ⟨b3, 0, none⟩), Value.pointer (some ⟨b3, 1, none⟩), Value.pointer (some ⟨b3, 2, none⟩), Value.pointer (some ⟨b3, 3, none⟩), Value.pointer (some ⟨b3, 4, none⟩), Value.pointer (some ⟨b3, 5, none⟩), Value.pointer (some ⟨b3, 6, none⟩), Value.pointer (some ⟨b3, 7, none⟩), Value.pointer (some ⟨b3, 8, none⟩), Value.pointer (some ⟨b3, 9, none⟩), Value.pointer (some ⟨b3, 10, none⟩), Value.pointer (some ⟨b3, 11, none⟩), Value.pointer (some ⟨b3, 12, none⟩), Value.pointer (some ⟨b3, 13, none⟩)], Ent.blk b3 34 (DataSet.enc d), Ent.blk b1 37 (DataSet.enc d ++ [vI n, Value.slice psA ps.length psC])] rfl trivial (fun _ => x_callv (first := []) (caps := [Value.pointer (some ⟨b2, 0, none⟩)]) rfl Ty.ca57 rfl) (fun _ h => ((((((h.front 5 _ rfl).front 5 _ rfl).front 5 _ rfl).front 5 _ rfl).front 4 _ rfl).front 5 _ rfl).keep [true, true, true, true, true, true] rfl) (own_mem rfl) (fun w hS => f57_ok [(⟨b3, 18, none⟩ : Addr), (⟨b3, 19, none⟩ : Addr)] (some ⟨b11, 0, none⟩) 2 [d.Created, d.Expires] b2 ((((([] ++ [d.Id, d.Org, d.Format, d.Length, d.Block, d.KeyAt, d.KeyLength, d.Interval, d.Area, d.FreeInterval, d.FreeArea, d.Base, d.AltAt, d.AltLength].flatMap R14.enc) ++ R01.bool d.Unique) ++ [d.Class].flatMap R14.enc) ++ R01.text d.Volume) ++ R01.text d.Owner) w (RO.of_blkS hS (own_mem rfl) 0 (off := 0) (m := 2) rfl rfl) (derefs_cons (RO.of_blkS hS (own_mem rfl) 3 (off := 18) (m := 1) rfl rfl) (derefs_cons (RO.of_blkS hS (own_mem rfl) 3 (off := 19) (m := 1) rfl rfl) derefs_nil)) hy_ hy_ (hS.give (own_in rfl))) ?_
  rintro _ _ ⟨rfl, rfl⟩
  have ha12 := R14.encs_len [d.Created, d.Expires]
  try simp only [List.length_cons, List.length_nil, Nat.zero_add, Nat.reduceAdd, Nat.reduceMul] at ha12
  refine JO_nil (JX_then (J_seq (J_region ?_)))
  refine JO_read (vS (((((([] ++ [d.Id, d.Org, d.Format, d.Length, d.Block, d.KeyAt, d.KeyLength, d.Interval, d.Area, d.FreeInterval, d.FreeArea, d.Base, d.AltAt, d.AltLength].flatMap R14.enc) ++ R01.bool d.Unique) ++ [d.Class].flatMap R14.enc) ++ R01.text d.Volume) ++ R01.text d.Owner) ++ [d.Created, d.Expires].flatMap R14.enc)) rfl trivial (x_load 0 rfl rfl Ty.sc9 rfl) ?_
  refine JO_read (Value.pointer (some ⟨b3, 20, none⟩)) rfl trivial (fun _ _ => x_fieldAddr Ty.fi34_20 rfl rfl) ?_
  refine JO_read (vB d.Archived) rfl trivial (x_load 4 rfl rfl Ty.sc4 rfl) ?_
  refine JO_call [] [] [Ent.blk b2 9 [vS (((((([] ++ [d.Id, d.Org, d.Format, d.Length, d.Block, d.KeyAt, d.KeyLength, d.Interval, d.Area, d.FreeInterval, d.FreeArea, d.Base, d.AltAt, d.AltLength].flatMap R14.enc) ++ R01.bool d.Unique) ++ [d.Class].flatMap R14.enc) ++ R01.text d.Volume) ++ R01.text d.Owner) ++ [d.Created, d.Expires].flatMap R14.enc)], Ent.blk b11 66 [Value.pointer (some ⟨b3, 18, none⟩), Value.pointer (some ⟨b3, 19, none⟩)], Ent.blk b7 66 [Value.pointer (some ⟨b3, 15, none⟩)], Ent.blk b4 66 [Value.pointer (some ⟨b3, 0, none⟩), Value.pointer (some ⟨b3, 1, none⟩), Value.pointer (some ⟨b3, 2, none⟩), Value.pointer (some ⟨b3, 3, none⟩), Value.pointer (some ⟨b3, 4, none⟩), Value.pointer (some ⟨b3, 5, none⟩), Value.pointer (some ⟨b3, 6, none⟩), Value.pointer (some ⟨b3, 7, none⟩), Value.pointer (some ⟨b3, 8, none⟩), Value.pointer (some ⟨b3, 9, none⟩), Value.pointer (some ⟨b3, 10, none⟩), Value.pointer (some ⟨b3, 11, none⟩), Value.pointer (some ⟨b3, 12, none⟩), Value.pointer (some ⟨b3, 13, none⟩)], Ent.blk b3 34 (DataSet.enc d), Ent.blk b1 37 (DataSet.enc d ++ [vI n, Value.slice psA ps.length psC])] rfl trivial (fun _ => x_call Ty.ca59 rfl) (fun _ h => h) (fun _ h => by cases h) (fun w hS => f59_ok (((((([] ++ [d.Id, d.Org, d.Format, d.Length, d.Block, d.KeyAt, d.KeyLength, d.Interval, d.Area, d.FreeInterval, d.FreeArea, d.Base, d.AltAt, d.AltLength].flatMap R14.enc) ++ R01.bool d.Unique) ++ [d.Class].flatMap R14.enc) ++ R01.text d.Volume) ++ R01.text d.Owner) ++ [d.Created, d.Expires].flatMap R14.enc) d.Archived w hy_) ?_
  rintro _ _ ⟨rfl, rfl⟩
  have ha13 := R01.bool_len d.Archived
  refine JO_op rfl trivial (O_store 0 [vS ((((((([] ++ [d.Id, d.Org, d.Format, d.Length, d.Block, d.KeyAt, d.KeyLength, d.Interval, d.Area, d.FreeInterval, d.FreeArea, d.Base, d.AltAt, d.AltLength].flatMap R14.enc) ++ R01.bool d.Unique) ++ [d.Class].flatMap R14.enc) ++ R01.text d.Volume) ++ R01.text d.Owner) ++ [d.Created, d.Expires].flatMap R14.enc) ++ R01.bool d.Archived)] [Ent.blk b2 9 [vS ((((((([] ++ [d.Id, d.Org, d.Format, d.Length, d.Block, d.KeyAt, d.KeyLength, d.Interval, d.Area, d.FreeInterval, d.FreeArea, d.Base, d.AltAt, d.AltLength].flatMap R14.enc) ++ R01.bool d.Unique) ++ [d.Class].flatMap R14.enc) ++ R01.text d.Volume) ++ R01.text d.Owner) ++ [d.Created, d.Expires].flatMap R14.enc) ++ R01.bool d.Archived)], Ent.blk b11 66 [Value.pointer (some ⟨b3, 18, none⟩), Value.pointer (some ⟨b3, 19, none⟩)], Ent.blk b7 66 [Value.pointer (some ⟨b3, 15, none⟩)], Ent.blk b4 66 [Value.pointer (some ⟨b3, 0, none⟩), Value.pointer (some ⟨b3, 1, none⟩), Value.pointer (some ⟨b3, 2, none⟩), Value.pointer (some ⟨b3, 3, none⟩), Value.pointer (some ⟨b3, 4, none⟩), Value.pointer (some ⟨b3, 5, none⟩), Value.pointer (some ⟨b3, 6, none⟩), Value.pointer (some ⟨b3, 7, none⟩), Value.pointer (some ⟨b3, 8, none⟩), Value.pointer (some ⟨b3, 9, none⟩), Value.pointer (some ⟨b3, 10, none⟩), Value.pointer (some ⟨b3, 11, none⟩), Value.pointer (some ⟨b3, 12, none⟩), Value.pointer (some ⟨b3, 13, none⟩)], Ent.blk b3 34 (DataSet.enc d), Ent.blk b1 37 (DataSet.enc d ++ [vI n, Value.slice psA ps.length psC])] rfl rfl rfl Ty.sz9 rfl (Nat.le_of_ble_eq_true rfl) rfl rfl rfl ?_)
  refine JO_nil (JX_then (J_seq (J_region ?_)))
  refine JO_read (Value.pointer (some ⟨b1, 22, none⟩)) rfl trivial (fun _ _ => x_fieldAddr Ty.fi37_2 rfl rfl) ?_
  refine JO_read (Value.slice psA ps.length psC) rfl trivial (x_load 5 rfl rfl Ty.sc35 rfl) ?_
  refine JO_read (vI ((ps.length : Nat) : Int)) rfl trivial (fun _ _ => x_len_sl Try.underlying35 rfl) ?_
  refine JO_op rfl trivial (O_alloc Ty.ze3 rfl fun b14 => ?_)
  refine JO_op rfl trivial (O_store 0 [vI ((ps.length : Nat) : Int)] [Ent.blk b14 3 [vI ((ps.length : Nat) : Int)], Ent.blk b2 9 [vS ((((((([] ++ [d.Id, d.Org, d.Format, d.Length, d.Block, d.KeyAt, d.KeyLength, d.Interval, d.Area, d.FreeInterval, d.FreeArea, d.Base, d.AltAt, d.AltLength].flatMap R14.enc) ++ R01.bool d.Unique) ++ [d.Class].flatMap R14.enc) ++ R01.text d.Volume) ++ R01.text d.Owner) ++ [d.Created, d.Expires].flatMap R14.enc) ++ R01.bool d.Archived)], Ent.blk b11 66 [Value.pointer (some ⟨b3, 18, none⟩), Value.pointer (some ⟨b3, 19, none⟩)], Ent.blk b7 66 [Value.pointer (some ⟨b3, 15, none⟩)], Ent.blk b4 66 [Value.pointer (some ⟨b3, 0, none⟩), Value.pointer (some ⟨b3, 1, none⟩), Value.pointer (some ⟨b3, 2, none⟩), Value.pointer (some ⟨b3, 3, none⟩), Value.pointer (some ⟨b3, 4, none⟩), Value.pointer (some ⟨b3, 5, none⟩), Value.pointer (some ⟨b3, 6, none⟩), Value.pointer (some ⟨b3, 7, none⟩), Value.pointer (some ⟨b3, 8, none⟩), Value.pointer (some ⟨b3, 9, none⟩), Value.pointer (some ⟨b3, 10, none⟩), Value.pointer (some ⟨b3, 11, none⟩), Value.pointer (some ⟨b3, 12, none⟩), Value.pointer (some ⟨b3, 13, none⟩)], Ent.blk b3 34 (DataSet.enc d), Ent.blk b1 37 (DataSet.enc d ++ [vI n, Value.slice psA ps.length psC])] rfl rfl rfl Ty.sz3 rfl (Nat.le_of_ble_eq_true rfl) rfl rfl rfl ?_)
  refine JO_nil (JX_then (J_seq (J_region ?_)))
  refine jr_ (Value.func (.func 57) #[] #[Value.pointer (some ⟨b2, 0, none⟩)]) ?_
  refine JO_read (Value.pointer (some ⟨b1, 21, none⟩)) rfl trivial (fun _ _ => x_fieldAddr Ty.fi37_1 rfl rfl) ?_
  refine JO_op rfl trivial (O_buildSlice (cs := [Value.pointer (some ⟨b1, 21, none⟩), Value.pointer (some ⟨b14, 0, none⟩)]) Try.underlying63 Ty.sz66 Ty.ze66 (by decide) (by decide) (by kernel_rfl) fun b15 => ?_)
  refine JO_call [b2] [Ent.blk b2 9 [vS ((((((([] ++ [d.Id, d.Org, d.Format, d.Length, d.Block, d.KeyAt, d.KeyLength, d.Interval, d.Area, d.FreeInterval, d.FreeArea, d.Base, d.AltAt, d.AltLength].flatMap R14.enc) ++ R01.bool d.Unique) ++ [d.Class].flatMap R14.enc) ++ R01.text d.Volume) ++ R01.text d.Owner) ++ [d.Created, d.Expires].flatMap R14.enc) ++ R01.bool d.Archived)]] [Ent.blk b15 66 [Value.pointer (some ⟨b1, 21, none⟩), Value.pointer (some ⟨b14, 0, none⟩)], Ent.blk b14 3 [vI ((ps.length : Nat) : Int)], Ent.blk b11 66 [Value.pointer (some ⟨b3, 18, none⟩), Value.pointer (some ⟨b3, 19, none⟩)], Ent.blk b7 66 [Value.pointer (some ⟨b3, 15, none⟩)], Ent.blk b4 66 [Value.pointer (some ⟨b3, 0, none⟩), Value.pointer (some ⟨b3, 1, none⟩), Value.pointer (some ⟨b3, 2, none⟩), Value.pointer (some ⟨b3, 3, none⟩), Value.pointer (some ⟨b3, 4, none⟩), Value.pointer (some ⟨b3, 5, none⟩), Value.pointer (some ⟨b3, 6, none⟩), Value.pointer (some ⟨b3, 7, none⟩), Value.pointer (some ⟨b3, 8, none⟩), Value.pointer (some ⟨b3, 9, none⟩), Value.pointer (some ⟨b3, 10, none⟩), Value.pointer (some ⟨b3, 11, none⟩), Value.pointer (some ⟨b3, 12, none⟩), Value.pointer (some ⟨b3, 13, none⟩)], Ent.blk b3 34 (DataSet.enc d), Ent.blk b1 37 (DataSet.enc d ++ [vI n, Value.slice psA ps.length psC])] rfl trivial (fun _ => x_callv (first := []) (caps := [Value.pointer (some ⟨b2, 0, none⟩)]) rfl Ty.ca57 rfl) (fun _ h => ((((((((h.front 7 _ rfl).front 7 _ rfl).front 7 _ rfl).front 7 _ rfl).front 7 _ rfl).front 6 _ rfl).front 6 _ rfl).front 7 _ rfl).keep [true, true, true, true, true, true, true, true] rfl) (own_mem rfl) (fun w hS => f57_ok [(⟨b1, 21, none⟩ : Addr), (⟨b14, 0, none⟩ : Addr)] (some ⟨b15, 0, none⟩) 2 [n, ((ps.length : Nat) : Int)] b2 ((((((([] ++ [d.Id, d.Org, d.Format, d.Length, d.Block, d.KeyAt, d.KeyLength, d.Interval, d.Area, d.FreeInterval, d.FreeArea, d.Base, d.AltAt, d.AltLength].flatMap R14.enc) ++ R01.bool d.Unique) ++ [d.Class].flatMap R14.enc) ++ R01.text d.Volume) ++ R01.text d.Owner) ++ [d.Created, d.Expires].flatMap R14.enc) ++ R01.bool d.Archived) w (RO.of_blkS hS (own_mem rfl) 0 (off := 0) (m := 2) rfl rfl) (derefs_cons (RO.of_blkS hS (own_mem rfl) 6 (off := 21) (m := 1) rfl rfl) (derefs_cons (RO.of_blkS hS (own_mem rfl) 1 (off := 0) (m := 1) rfl rfl) derefs_nil)) hy_ hy_ (hS.give (own_in rfl))) ?_
  rintro _ _ ⟨rfl, rfl⟩
  have ha16 := R14.encs_len [n, ((ps.length : Nat) : Int)]
  try simp only [List.length_cons, List.length_nil, Nat.zero_add, Nat.reduceAdd, Nat.reduceMul] at ha16
  refine JO_nil (JX_then (J_seq (J_region ?_)))
  refine JO_read (vS (((((((([] ++ [d.Id, d.Org, d.Format, d.Length, d.Block, d.KeyAt, d.KeyLength, d.Interval, d.Area, d.FreeInterval, d.FreeArea, d.Base, d.AltAt, d.AltLength].flatMap R14.enc) ++ R01.bool d.Unique) ++ [d.Class].flatMap R14.enc) ++ R01.text d.Volume) ++ R01.text d.Owner) ++ [d.Created, d.Expires].flatMap R14.enc) ++ R01.bool d.Archived) ++ [n, ((ps.length : Nat) : Int)].flatMap R14.enc)) rfl trivial (x_load 0 rfl rfl Ty.sc9 rfl) ?_
  refine JO_op rfl trivial (O_buildSlice (cs := [vS (((((((([] ++ [d.Id, d.Org, d.Format, d.Length, d.Block, d.KeyAt, d.KeyLength, d.Interval, d.Area, d.FreeInterval, d.FreeArea, d.Base, d.AltAt, d.AltLength].flatMap R14.enc) ++ R01.bool d.Unique) ++ [d.Class].flatMap R14.enc) ++ R01.text d.Volume) ++ R01.text d.Owner) ++ [d.Created, d.Expires].flatMap R14.enc) ++ R01.bool d.Archived) ++ [n, ((ps.length : Nat) : Int)].flatMap R14.enc)]) Try.underlying61 Ty.sz9 Ty.ze9 (by decide) (by decide) (by kernel_rfl) fun b17 => ?_)
  refine jr_ (Value.slice (some ⟨b17, 0, none⟩) 1 1) ?_
  refine JO_nil (JX_then (J_seq (J_seq (J_region ?_))))
  refine JO_read (Value.pointer (some ⟨b1, 22, none⟩)) rfl trivial (fun _ _ => x_fieldAddr Ty.fi37_2 rfl rfl) ?_
  refine JO_read (Value.slice psA ps.length psC) rfl trivial (x_load 8 rfl rfl Ty.sc35 rfl) ?_
  refine JO_read (vI ((ps.length : Nat) : Int)) rfl trivial (fun _ _ => x_len_sl Try.underlying35 rfl) ?_
  refine jr_ (vI 0) ?_
  refine JO_nil (JX_then (J_block ?_))
  refine J_loop (X := Nat × (List Bytes) × (Option Addr) × Nat) (fun (⟨k, xs, xsA, xsC⟩ : Nat × (List Bytes) × (Option Addr) × Nat) => (k ≤ ps.length) ∧ (xs = R14.first d n ps.length :: (ps.take k).map R14.pair)) (fun (⟨k, xs, xsA, xsC⟩ : Nat × (List Bytes) × (Option Addr) × Nat) => [(2, Value.slice none 0 0), (7, Value.slice xsA xs.length xsC), (50, Value.slice psA ps.length psC), (51, vI ((ps.length : Nat) : Int)), (52, vI ((k : Nat) : Int))]) (fun (⟨k, xs, xsA, xsC⟩ : Nat × (List Bytes) × (Option Addr) × Nat) => [Ent.row (.slice xsA xs.length xsC) 9 1 xs.length (xs.map vS)]) (fun (⟨k, xs, xsA, xsC⟩ : Nat × (List Bytes) × (Option Addr) × Nat) => ps.length - k) ((0, [((((((([] ++ [d.Id, d.Org, d.Format, d.Length, d.Block, d.KeyAt, d.KeyLength, d.Interval, d.Area, d.FreeInterval, d.FreeArea, d.Base, d.AltAt, d.AltLength].flatMap R14.enc) ++ R01.bool d.Unique) ++ [d.Class].flatMap R14.enc) ++ R01.text d.Volume) ++ R01.text d.Owner) ++ [d.Created, d.Expires].flatMap R14.enc) ++ R01.bool d.Archived) ++ [n, ((ps.length : Nat) : Int)].flatMap R14.enc], (some ⟨b17, 0, none⟩), 1) : Nat × (List Bytes) × (Option Addr) × Nat) ?_ ⟨rfl, rfl, rfl, rfl, rfl, trivial⟩ (fun _ h => (St.torow (cs := [vS (((((((([] ++ [d.Id, d.Org, d.Format, d.Length, d.Block, d.KeyAt, d.KeyLength, d.Interval, d.Area, d.FreeInterval, d.FreeArea, d.Base, d.AltAt, d.AltLength].flatMap R14.enc) ++ R01.bool d.Unique) ++ [d.Class].flatMap R14.enc) ++ R01.text d.Volume) ++ R01.text d.Owner) ++ [d.Created, d.Expires].flatMap R14.enc) ++ R01.bool d.Archived) ++ [n, ((ps.length : Nat) : Int)].flatMap R14.enc)]) h 1 1 rfl (by decide)).keep [true, false, false, false, false, false, false, false, false] rfl) ?_
  · show (0 ≤ ps.length) ∧ ([((((((([] ++ [d.Id, d.Org, d.Format, d.Length, d.Block, d.KeyAt, d.KeyLength, d.Interval, d.Area, d.FreeInterval, d.FreeArea, d.Base, d.AltAt, d.AltLength].flatMap R14.enc) ++ R01.bool d.Unique) ++ [d.Class].flatMap R14.enc) ++ R01.text d.Volume) ++ R01.text d.Owner) ++ [d.Created, d.Expires].flatMap R14.enc) ++ R01.bool d.Archived) ++ [n, ((ps.length : Nat) : Int)].flatMap R14.enc] = R14.first d n ps.length :: (ps.take 0).map R14.pair)
    refine ⟨?_, ?_⟩
    · first | rfl | omega | (simp_all; done) | (simp_all; omega)
    · simp [R14.first, R14.nums, List.flatMap_cons]
  rintro ⟨k, xs, xsA, xsC⟩ hI1
  obtain ⟨i1_0, i1_1⟩ : (k ≤ ps.length) ∧ (xs = R14.first d n ps.length :: (ps.take k).map R14.pair) := hI1
  have hp := R14.valid_pairs q0 k
  have hq1 := R01.text_len (ps.getD k default).key (by omega)
  have hq2 := R01.text_len (ps.getD k default).record (by omega)
  refine J_weaken (E' := [(2, Value.slice none 0 0), (7, Value.slice xsA xs.length xsC), (50, Value.slice psA ps.length psC), (51, vI ((ps.length : Nat) : Int)), (52, vI ((k : Nat) : Int))]) (L' := [Ent.row (.slice xsA xs.length xsC) 9 1 xs.length (xs.map vS)]) ⟨rfl, rfl, rfl, rfl, rfl, trivial⟩ (fun _ h => h) ?_
  refine J_seq (J_region ?_)
  refine JO_read (vB (decide (((k : Nat) : Int) < ((ps.length : Nat) : Int)))) rfl trivial (fun _ _ => x_lss_i rfl rfl) ?_
  refine JO_nil (JX_then (J_seq ?_))
  refine J_cond (decide (((k : Nat) : Int) < ((ps.length : Nat) : Int))) rfl rfl (fun h18 => ?_) (fun h18 => ?_)
  · have h18 := of_decide_eq_true h18
    refine J_skip (JX_then (J_seq (J_block (J_seq (J_region ?_)))))
    refine JO_read (Value.pointer (some (adr psA (k * 2)))) rfl trivial (x_indexAddr_at (k := k) (off := k * 2) (cells_ro psR) Try.underlying35 Ty.sz54 rfl rfl lt_ (by rw [flat_length Pair.enc 2 Pair.enc_len]; first | omega | (simp; omega) | (simp_all; omega) | (simp_all; done)) rfl) ?_
    refine JO_read (Value.agg #[vS ((ps.getD k default).key), vS ((ps.getD k default).record)]) rfl trivial (x_loadN_at [vS ((ps.getD k default).key), vS ((ps.getD k default).record)] (cells_ro psR) rfl Ty.ag54 Ty.sz54 (flat_drop Pair.enc 2 Pair.enc_len ps default k lt_)) ?_
    refine JO_op rfl trivial (O_alloc Ty.ze54 rfl fun b19 => ?_)
    refine JO_op rfl trivial (O_store 0 [vS ((ps.getD k default).key), vS ((ps.getD k default).record)] [Ent.blk b19 54 [vS ((ps.getD k default).key), vS ((ps.getD k default).record)], Ent.row (.slice xsA xs.length xsC) 9 1 xs.length (xs.map vS)] rfl rfl rfl Ty.sz54 rfl (Nat.le_of_ble_eq_true rfl) rfl rfl rfl ?_)
    refine JO_nil (JX_then ?_)
    refine J_draw [Ent.blk b19 54 [vS ((ps.getD k default).key), vS ((ps.getD k default).record)]] [8] [Ent.blk b19 54 [vS ((ps.getD k default).key), vS ((ps.getD k default).record)], Ent.row (.slice xsA xs.length xsC) 9 1 xs.length (xs.map vS)] 10 Ty.mixed rfl ?_
    refine jt_ 0 (Value.slice xsA xs.length xsC) rfl (fun _ _ => rfl) ?_
    refine jt_ 1 (Value.pointer (some ⟨b19, 0, none⟩)) rfl (fun _ _ => x_fieldAddr Ty.fi54_0 rfl rfl) ?_
    refine jt_ 2 (vS ((ps.getD k default).key)) rfl (x_load 0 rfl rfl Ty.sc9 rfl) ?_
    refine jt_ 4 (Value.pointer (some ⟨b19, 1, none⟩)) rfl (fun _ _ => x_fieldAddr Ty.fi54_1 rfl rfl) ?_
    refine jt_ 5 (vS ((ps.getD k default).record)) rfl (x_load 0 rfl rfl Ty.sc9 rfl) ?_
    refine JA_one 3 (by kernel_rfl) (fun _ h => ⟨h.keep [true, false] rfl, fun _ => h⟩) ?_
    refine JI_call [] [] [Ent.blk b19 54 [vS ((ps.getD k default).key), vS ((ps.getD k default).record)], Ent.row (.slice xsA xs.length xsC) 9 1 xs.length (xs.map vS)] rfl rfl trivial (fun _ => x_call Ty.ca60 rfl) (fun _ h => h) (fun _ h => by cases h) (fun w hS => f60_ok [] ((ps.getD k default).key) w hy_ hy_) ?_
    rintro _ _ ⟨rfl, rfl⟩
    have ha20 := R01.text_len ((ps.getD k default).key) (by omega)
    refine JA_one 6 (by kernel_rfl) (fun _ h => ⟨h.keep [true, false] rfl, fun _ => h⟩) ?_
    refine JI_call [] [] [Ent.blk b19 54 [vS ((ps.getD k default).key), vS ((ps.getD k default).record)], Ent.row (.slice xsA xs.length xsC) 9 1 xs.length (xs.map vS)] rfl rfl trivial (fun _ => x_call Ty.ca60 rfl) (fun _ h => h) (fun _ h => by cases h) (fun w hS => f60_ok ([] ++ R01.text ((ps.getD k default).key)) ((ps.getD k default).record) w hy_ hy_) ?_
    rintro _ _ ⟨rfl, rfl⟩
    have ha21 := R01.text_len ((ps.getD k default).record) (by omega)
    refine JA_one 7 (by kernel_rfl) (fun _ h => ⟨h.keep [true, false] rfl, fun _ => h⟩) ?_
    refine JI_op rfl rfl trivial (O_buildSlice (cs := [vS (([] ++ R01.text ((ps.getD k default).key)) ++ R01.text ((ps.getD k default).record))]) Try.underlying61 Ty.sz9 Ty.ze9 (by decide) (by decide) (by kernel_rfl) fun b23 => ?_)
    refine JA_one 8 (by kernel_rfl) (fun _ h => ⟨h.keep [false, true, false] rfl, fun _ => h.keep [false, true, true] rfl⟩) ?_
    refine JI_op rfl rfl trivial (O_append_m 2 vS xs [([] ++ R01.text ((ps.getD k default).key)) ++ R01.text ((ps.getD k default).record)] Try.underlying61 Ty.sz9 Ty.by9 Ty.ze9 rfl rfl rfl rfl rfl (fun _ => rfl) (cells_blk 0 (off := 0) (m := 1) rfl rfl) lt_ lt_ fun A26 c27 => ?_)
    refine jt_ 9 (Value.slice A26 ((xs ++ [([] ++ R01.text ((ps.getD k default).key)) ++ R01.text ((ps.getD k default).record)]).length) c27) rfl (fun _ _ => rfl) ?_
    refine JA_done (by kernel_rfl) (fun _ h => ⟨h.keep [false, true, false] rfl, fun hh => Bool.noConfusion (show false = true from hh)⟩) ?_
    refine JX_block (JX_then (J_region ?_))
    refine JO_read (vI ((k + 1 : Nat) : Int)) rfl trivial (fun _ _ => x_add_n (a := k) (b := 1) rfl rfl (by omega)) ?_
    refine jr_ (vI ((k + 1 : Nat) : Int)) ?_
    refine JO_nil ?_
    refine JX_round ((k + 1, xs ++ [([] ++ R01.text ((ps.getD k default).key)) ++ R01.text ((ps.getD k default).record)], A26, c27) : Nat × (List Bytes) × (Option Addr) × Nat) ?_ ?_ ⟨rfl, rfl, rfl, rfl, rfl, trivial⟩ (fun _ h => h.keep [false, false, true] rfl)
    · show ((k + 1) ≤ ps.length) ∧ ((xs ++ [([] ++ R01.text ((ps.getD k default).key)) ++ R01.text ((ps.getD k default).record)]) = R14.first d n ps.length :: (ps.take (k + 1)).map R14.pair)
      refine ⟨?_, ?_⟩
      · first | rfl | omega | (simp_all; done) | (simp_all; omega)
      · exact R14.items_step (by omega) i1_1 _ rfl
    · show ps.length - (k + 1) < ps.length - k
      first | omega | (simp; omega) | (simp_all; omega)
  · have h18 := of_decide_eq_false h18
    refine J_exit (JX_then_exit (JX_round_exit (JX_block_hit (JX_then (J_seq ?_)))))
    refine J_region ?_
    refine jr_ (Value.slice xsA xs.length xsC) ?_
    refine jr_ (Value.slice xsA xs.length xsC) ?_
    refine JO_nil (JX_then (J_ret ?_))
    refine JX_rets [Value.slice xsA xs.length xsC] (Value.slice xsA xs.length xsC) Try.results34 (fun w h => ⟨rfl, trivial⟩) rfl [Ent.row (.slice xsA xs.length xsC) 9 1 xs.length (xs.map vS)] (fun _ h => h) ⟨xsA, xsC, ?_, ?_⟩
    · have e_x0 : (xs.length : Nat) = ((R14.items d n ps).length) := by
        have e := R14.items_done i1_0 (by assumption) i1_1
        simp [e]
      exact congrArg (fun (x0 : Nat) => Value.slice xsA x0 xsC) e_x0
    · have e_y0 : (xs : List Bytes) = R14.items d n ps := by
        have e := R14.items_done i1_0 (by assumption) i1_1
        simp [e]
      have e_all := (congrArg (fun (y0 : List Bytes) => [Ent.row (.slice xsA y0.length xsC) 9 1 y0.length (y0.map vS)]) e_y0)
      exact e_all
end Go.Proofs.Ytodfebhimadaiaa
