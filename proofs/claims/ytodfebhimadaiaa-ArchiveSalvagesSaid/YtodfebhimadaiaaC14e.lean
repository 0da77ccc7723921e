/- contracts C14e -/
import Derived.Test.YtodfebhimadaiaaC14d
namespace Go.Proofs.Ytodfebhimadaiaa
open Go.GV
set_option linter.unusedVariables false
set_option linter.unusedSimpArgs false
set_option maxRecDepth 20000 in
theorem f18_ok (d : DataSet) (n : Int) (ps : List Pair) (psA : Option Addr) (psC : Nat) (w : World) (psR : RO [] w psA (ps.flatMap Pair.enc)) (q0 : ps.length ≤ 9223372036854775807) : Calls Try.prog 18 #[Value.agg ((DataSet.enc d ++ [vI n, Value.slice psA ps.length psC])).toArray] w (Gives [] w fun v L => v = Value.tuple #[vS (R14.encode R02.updateN d n ps), vI (R14.okE (R14.valid d n ps))] ∧ L = []) := by
  refine calls_J [] 49 Try.func18 rfl Try.ntmps18 [(0, Value.agg ((DataSet.enc d ++ [vI n, Value.slice psA ps.length psC])).toArray)] rfl rfl (Give.nil w) ?_
  refine J_seq (J_region ?_)
  refine JO_op rfl trivial (O_box rfl rfl fun b1 => ?_)
  refine jr_ (vS []) ?_
  refine jr_ (vI 0) ?_
  refine JO_nil (JX_then (J_seq (J_seq (J_region ?_))))
  refine JO_read (Value.agg ((DataSet.enc d ++ [vI n, Value.slice psA ps.length psC])).toArray) rfl trivial (x_loadN 0 (DataSet.enc d ++ [vI n, Value.slice psA ps.length psC]) rfl rfl Ty.ag37 Ty.sz37 rfl) ?_
  refine JO_call [] [] [Ent.blk b1 37 (DataSet.enc d ++ [vI n, Value.slice psA ps.length psC])] rfl trivial (fun _ => x_call Ty.ca20 rfl) (fun _ h => h) (fun _ h => by cases h) (fun w hS => f20_ok d n ps psA psC w (psR.on hS (fun _ h => by cases h)) hy_) ?_
  rintro _ _ ⟨rfl, rfl⟩
  refine JO_read (vB (!(R14.valid d n ps))) rfl trivial (fun _ _ => x_not rfl) ?_
  refine JO_nil (JX_then ?_)
  refine J_cond (!(R14.valid d n ps)) rfl rfl (fun h2 => ?_) (fun h2 => ?_)
  · have h2 : (R14.valid d n ps) = false := bnot_true h2
    refine J_seq (J_region ?_)
    refine jr_ (vS []) ?_
    refine jr_ (vI 1) ?_
    refine JO_nil (JX_then (J_ret (JX_then_ret ?_)))
    refine JX_rets [vS [], vI 1] (Value.tuple #[vS [], vI 1]) Try.results18 (fun w h => ⟨rfl, rfl, trivial⟩) rfl [] (fun _ h => h.keep [false] rfl) ⟨?_, ?_⟩
    · have e_x0 : ([] : Bytes) = (R14.encode R02.updateN d n ps) := by first | exact R14.encode_bad (by assumption) | exact R14.okE_false (by assumption) | exact R14.okE_true (by assumption) | exact R14.encode_end2 (by assumption) i1_0 (by assumption) i1_2
      have e_x1 : (1 : Int) = (R14.okE (R14.valid d n ps)) := by first | exact R14.encode_bad (by assumption) | exact R14.okE_false (by assumption) | exact R14.okE_true (by assumption) | exact R14.encode_end2 (by assumption) i1_0 (by assumption) i1_2
      have e_all := (congr (congrArg (fun (x0 : Bytes) (x1 : Int) => Value.tuple #[vS x0, vI x1]) e_x0) e_x1)
      exact e_all
    · rfl
  · have h2 : (R14.valid d n ps) = true := bnot_false h2
    refine J_skip (JX_then (J_seq (J_region ?_)))
    refine jr_ (Value.slice none 0 0) ?_
    refine JO_nil (JX_then (J_seq (J_region ?_)))
    refine jr_ (vI 0) ?_
    refine JO_nil (JX_then (J_seq (J_seq (J_region ?_))))
    refine JO_read (Value.agg ((DataSet.enc d ++ [vI n, Value.slice psA ps.length psC])).toArray) rfl trivial (x_loadN 0 (DataSet.enc d ++ [vI n, Value.slice psA ps.length psC]) rfl rfl Ty.ag37 Ty.sz37 rfl) ?_
    refine JO_call [] [] [Ent.blk b1 37 (DataSet.enc d ++ [vI n, Value.slice psA ps.length psC])] rfl trivial (fun _ => x_call Ty.ca34 rfl) (fun _ h => h) (fun _ h => by cases h) (fun w hS => f34_ok d n ps psA psC w (psR.on hS (fun _ h => by cases h)) hy_) ?_
    rintro _ _ ⟨A3, c4, rfl, rfl⟩
    refine JO_read (vI (((R14.items d n ps).length : Nat) : Int)) rfl trivial (fun _ _ => x_len_sl Try.underlying61 rfl) ?_
    refine jr_ (vI 0) ?_
    refine JO_nil (JX_then (J_block ?_))
    refine J_loop (X := Nat × Nat × (List UInt8) × (Option Addr) × Nat) (fun (⟨k, m, bs, bsA, bsC⟩ : Nat × Nat × (List UInt8) × (Option Addr) × Nat) => (k ≤ (R14.items d n ps).length) ∧ (m = (R14.frames R02.updateN ((R14.items d n ps).take k)).length) ∧ (bs = (R14.frames R02.updateN ((R14.items d n ps).take k)).flatten)) (fun (⟨k, m, bs, bsA, bsC⟩ : Nat × Nat × (List UInt8) × (Option Addr) × Nat) => [(2, vS []), (3, vI 0), (4, Value.slice bsA bs.length bsC), (5, vI ((m : Nat) : Int)), (13, Value.slice A3 ((R14.items d n ps).length) c4), (14, vI (((R14.items d n ps).length : Nat) : Int)), (15, vI ((k : Nat) : Int))]) (fun (⟨k, m, bs, bsA, bsC⟩ : Nat × Nat × (List UInt8) × (Option Addr) × Nat) => [Ent.row (.slice A3 (R14.items d n ps).length c4) 9 1 (R14.items d n ps).length ((R14.items d n ps).map vS), Ent.row (.slice bsA bs.length bsC) 5 1 bs.length (bs.map vU8)]) (fun (⟨k, m, bs, bsA, bsC⟩ : Nat × Nat × (List UInt8) × (Option Addr) × Nat) => (R14.items d n ps).length - k) ((0, 0, ([] : List UInt8), none, 0) : Nat × Nat × (List UInt8) × (Option Addr) × Nat) ?_ ⟨rfl, rfl, rfl, rfl, rfl, rfl, rfl, trivial⟩ (fun _ h => ((h.nilrow 5 1).front 1 _ rfl).keep [true, true, false] rfl) ?_
    · show (0 ≤ (R14.items d n ps).length) ∧ (0 = (R14.frames R02.updateN ((R14.items d n ps).take 0)).length) ∧ (([] : List UInt8) = (R14.frames R02.updateN ((R14.items d n ps).take 0)).flatten)
      refine ⟨?_, ?_, ?_⟩
      · first | rfl | omega | (simp_all; done) | (simp_all; omega)
      · rfl
      · rfl
    rintro ⟨k, m, bs, bsA, bsC⟩ hI1
    obtain ⟨i1_0, i1_1, i1_2⟩ : (k ≤ (R14.items d n ps).length) ∧ (m = (R14.frames R02.updateN ((R14.items d n ps).take k)).length) ∧ (bs = (R14.frames R02.updateN ((R14.items d n ps).take k)).flatten) := hI1
    have hv := R14.valid_bounds (by assumption)
    have hil := R14.items_len (by assumption)
    have hin := R14.items_length (d := d) (n := n) (ps := ps)
    have hfk := R14.frames_len R02.updateN _ hil k
    have hbl := R14.flatten_le _ (R14.frames_le R02.updateN ((R14.items d n ps).take k))
    rw [← i1_1, ← i1_2] at hbl
    rw [← i1_1] at hfk
    have hsl := hil k
    refine J_weaken (E' := [(2, vS []), (3, vI 0), (4, Value.slice bsA bs.length bsC), (5, vI ((m : Nat) : Int)), (13, Value.slice A3 ((R14.items d n ps).length) c4), (14, vI (((R14.items d n ps).length : Nat) : Int)), (15, vI ((k : Nat) : Int))]) (L' := [Ent.row (.slice A3 (R14.items d n ps).length c4) 9 1 (R14.items d n ps).length ((R14.items d n ps).map vS), Ent.row (.slice bsA bs.length bsC) 5 1 bs.length (bs.map vU8)]) ⟨rfl, rfl, rfl, rfl, rfl, rfl, rfl, trivial⟩ (fun _ h => h) ?_
    refine J_seq (J_region ?_)
    refine JO_read (vB (decide (((k : Nat) : Int) < (((R14.items d n ps).length : Nat) : Int)))) rfl trivial (fun _ _ => x_lss_i rfl rfl) ?_
    refine JO_nil (JX_then (J_seq ?_))
    refine J_cond (decide (((k : Nat) : Int) < (((R14.items d n ps).length : Nat) : Int))) rfl rfl (fun h5 => ?_) (fun h5 => ?_)
    · have h5 := of_decide_eq_true h5
      refine J_skip (JX_then (J_seq (J_block (J_seq (J_region ?_)))))
      refine JO_read (Value.pointer (some (adr A3 k))) rfl trivial (x_indexAddr_at (k := k) (off := k) (cells_row 0 rfl) Try.underlying61 Ty.sz9 rfl rfl lt_ (by rw [List.length_map]; first | omega | (simp; omega) | (simp_all; omega) | (simp_all; done)) (Nat.mul_one _)) ?_
      refine JO_read (vS ((R14.items d n ps).getD k [])) rfl trivial (x_load_at (cells_row 0 rfl) rfl Ty.sc9 (map_at vS (R14.items d n ps) [] lt_)) ?_
      refine jr_ (vS ((R14.items d n ps).getD k [])) ?_
      refine JO_nil (JX_then (J_seq (J_region ?_)))
      refine jr_ (vI 0) ?_
      refine JO_nil (JX_then (J_block ?_))
      refine J_loop (X := Nat × Nat × Nat × (List UInt8) × (Option Addr) × Nat) (fun (⟨i, o, q, cs, csA, csC⟩ : Nat × Nat × Nat × (List UInt8) × (Option Addr) × Nat) => (o = 56 * i) ∧ (i ≤ R14.chunks ((R14.items d n ps).getD k [])) ∧ (q = m + i) ∧ (cs = bs ++ ((List.range i).map (R14.chunk R02.updateN m ((R14.items d n ps).getD k []))).flatten)) (fun (⟨i, o, q, cs, csA, csC⟩ : Nat × Nat × Nat × (List UInt8) × (Option Addr) × Nat) => [(2, vS []), (3, vI 0), (4, Value.slice csA cs.length csC), (5, vI ((q : Nat) : Int)), (13, Value.slice A3 ((R14.items d n ps).length) c4), (14, vI (((R14.items d n ps).length : Nat) : Int)), (15, vI ((k : Nat) : Int)), (7, vS ((R14.items d n ps).getD k [])), (8, vI ((o : Nat) : Int))]) (fun (⟨i, o, q, cs, csA, csC⟩ : Nat × Nat × Nat × (List UInt8) × (Option Addr) × Nat) => [Ent.row (.slice A3 (R14.items d n ps).length c4) 9 1 (R14.items d n ps).length ((R14.items d n ps).map vS), Ent.row (.slice csA cs.length csC) 5 1 cs.length (cs.map vU8)]) (fun (⟨i, o, q, cs, csA, csC⟩ : Nat × Nat × Nat × (List UInt8) × (Option Addr) × Nat) => ((R14.items d n ps).getD k []).length - o) ((0, 0, m, bs, bsA, bsC) : Nat × Nat × Nat × (List UInt8) × (Option Addr) × Nat) ?_ ⟨rfl, rfl, rfl, rfl, rfl, rfl, rfl, rfl, rfl, trivial⟩ (fun _ h => h) ?_
      · show (0 = 56 * 0) ∧ (0 ≤ R14.chunks ((R14.items d n ps).getD k [])) ∧ (m = m + 0) ∧ (bs = bs ++ ((List.range 0).map (R14.chunk R02.updateN m ((R14.items d n ps).getD k []))).flatten)
        refine ⟨?_, ?_, ?_, ?_⟩
        · first | rfl | omega | (simp_all; done) | (simp_all; omega)
        · first | rfl | omega | (simp_all; done) | (simp_all; omega)
        · rfl
        · simp
      rintro ⟨i, o, q, cs, csA, csC⟩ hI2
      obtain ⟨i2_0, i2_1, i2_2, i2_3⟩ : (o = 56 * i) ∧ (i ≤ R14.chunks ((R14.items d n ps).getD k [])) ∧ (q = m + i) ∧ (cs = bs ++ ((List.range i).map (R14.chunk R02.updateN m ((R14.items d n ps).getD k []))).flatten) := hI2
      have hch := R14.chunks_le hsl
      have hcl := R14.chunks_len R02.updateN m ((R14.items d n ps).getD k []) i
      have hcl2 : cs.length ≤ bs.length + 64 * i := by rw [i2_3, List.length_append]; omega
      refine J_weaken (E' := [(2, vS []), (3, vI 0), (4, Value.slice csA cs.length csC), (5, vI ((q : Nat) : Int)), (13, Value.slice A3 ((R14.items d n ps).length) c4), (14, vI (((R14.items d n ps).length : Nat) : Int)), (15, vI ((k : Nat) : Int)), (7, vS ((R14.items d n ps).getD k [])), (8, vI ((o : Nat) : Int))]) (L' := [Ent.row (.slice A3 (R14.items d n ps).length c4) 9 1 (R14.items d n ps).length ((R14.items d n ps).map vS), Ent.row (.slice csA cs.length csC) 5 1 cs.length (cs.map vU8)]) ⟨rfl, rfl, rfl, rfl, rfl, rfl, rfl, rfl, rfl, trivial⟩ (fun _ h => h) ?_
      refine J_seq (J_seq (J_region ?_))
      refine jr_ (vI ((o : Nat) : Int)) ?_
      refine jr_ (vS ((R14.items d n ps).getD k [])) ?_
      refine JO_read (vI ((((R14.items d n ps).getD k []).length : Nat) : Int)) rfl trivial (fun _ _ => x_len_s rfl Try.underlying9) ?_
      refine JO_read (vB (decide (((o : Nat) : Int) < ((((R14.items d n ps).getD k []).length : Nat) : Int)))) rfl trivial (fun _ _ => x_lss_i rfl rfl) ?_
      refine JO_nil (JX_then ?_)
      refine J_cond (decide (((o : Nat) : Int) < ((((R14.items d n ps).getD k []).length : Nat) : Int))) rfl rfl (fun h6 => ?_) (fun h6 => ?_)
      · have h6 := of_decide_eq_true h6
        refine J_skip (JX_then (J_seq (J_block (J_seq (J_region ?_)))))
        refine jr_ (Value.slice csA cs.length csC) ?_
        refine jr_ (vI ((q : Nat) : Int)) ?_
        refine jr_ (vI ((o : Nat) : Int)) ?_
        refine JO_read (vB (decide (((o : Nat) : Int) = 0))) rfl trivial (fun _ _ => x_eql_i rfl rfl) ?_
        refine jr_ (vI ((o : Nat) : Int)) ?_
        refine JO_read (vI ((o + 56 : Nat) : Int)) rfl trivial (fun _ _ => x_add_n (a := o) (b := 56) rfl rfl (by omega)) ?_
        refine jr_ (vS ((R14.items d n ps).getD k [])) ?_
        refine JO_read (vI ((((R14.items d n ps).getD k []).length : Nat) : Int)) rfl trivial (fun _ _ => x_len_s rfl Try.underlying9) ?_
        refine JO_read (vB (decide (((((R14.items d n ps).getD k []).length : Nat) : Int) ≤ ((o + 56 : Nat) : Int)))) rfl trivial (fun _ _ => x_geq_i rfl rfl) ?_
        refine jr_ (vS ((R14.items d n ps).getD k [])) ?_
        refine jr_ (vI ((o : Nat) : Int)) ?_
        refine jr_ (vS ((R14.items d n ps).getD k [])) ?_
        refine JO_read (vI ((((R14.items d n ps).getD k []).length : Nat) : Int)) rfl trivial (fun _ _ => x_len_s rfl Try.underlying9) ?_
        refine jr_ (vI ((o : Nat) : Int)) ?_
        refine JO_read (vI ((o + 56 : Nat) : Int)) rfl trivial (fun _ _ => x_add_n (a := o) (b := 56) rfl rfl (by omega)) ?_
        refine JO_read (vI ((min (((R14.items d n ps).getD k []).length) (o + 56) : Nat) : Int)) rfl trivial (fun _ _ => x_min_n (a := ((R14.items d n ps).getD k []).length) (b := o + 56) rfl rfl) ?_
        refine JO_read (vS (sub ((R14.items d n ps).getD k []) o (min (((R14.items d n ps).getD k []).length) (o + 56)))) rfl trivial (fun _ _ => x_sub_s (lo := o) (hi := min (((R14.items d n ps).getD k []).length) (o + 56)) rfl Try.underlying9 (.inl rfl) (.inl rfl) lt_ (by first | omega | (simp only [sub, List.length_drop, List.length_take]; omega) | (simp; omega) | (simp_all; omega))) ?_
        refine JO_call [] [] [Ent.row (.slice A3 (R14.items d n ps).length c4) 9 1 (R14.items d n ps).length ((R14.items d n ps).map vS), Ent.row (.slice csA cs.length csC) 5 1 cs.length (cs.map vU8)] rfl trivial (fun _ => x_call Ty.ca13 rfl) (fun _ h => h) (fun _ h => by cases h) (fun w hS => f13_ok ((q : Nat) : Int) (decide (((o : Nat) : Int) = 0)) (decide (((((R14.items d n ps).getD k []).length : Nat) : Int) ≤ ((o + 56 : Nat) : Int))) (sub ((R14.items d n ps).getD k []) o (min (((R14.items d n ps).getD k []).length) (o + 56))) w hy_) ?_
        rintro _ _ ⟨rfl, rfl⟩
        have ha7 := R14.frame_le R02.updateN ((q : Nat) : Int) (decide (((o : Nat) : Int) = 0)) (decide (((((R14.items d n ps).getD k []).length : Nat) : Int) ≤ ((o + 56 : Nat) : Int))) (sub ((R14.items d n ps).getD k []) o (min (((R14.items d n ps).getD k []).length) (o + 56)))
        try simp only [List.length_cons, List.length_nil, Nat.zero_add, Nat.reduceAdd, Nat.reduceMul] at ha7
        refine JO_op rfl trivial (O_append_s 1 cs (R14.frame R02.updateN ((q : Nat) : Int) (decide (((o : Nat) : Int) = 0)) (decide (((((R14.items d n ps).getD k []).length : Nat) : Int) ≤ ((o + 56 : Nat) : Int))) (sub ((R14.items d n ps).getD k []) o (min (((R14.items d n ps).getD k []).length) (o + 56)))) Try.underlying57 Try.underlying9 Ty.sz5 Ty.by5 Ty.ze5 rfl rfl rfl rfl lt_ fun A8 c9 => ?_)
        refine jr_ (Value.slice A8 ((cs ++ (R14.frame R02.updateN ((q : Nat) : Int) (decide (((o : Nat) : Int) = 0)) (decide (((((R14.items d n ps).getD k []).length : Nat) : Int) ≤ ((o + 56 : Nat) : Int))) (sub ((R14.items d n ps).getD k []) o (min (((R14.items d n ps).getD k []).length) (o + 56))))).length) c9) ?_
        refine JO_nil (JX_then (J_region ?_))
        refine jr_ (vI ((q : Nat) : Int)) ?_
        refine JO_read (vI ((q + 1 : Nat) : Int)) rfl trivial (fun _ _ => x_add_n (a := q) (b := 1) rfl rfl (by omega)) ?_
        refine jr_ (vI ((q + 1 : Nat) : Int)) ?_
        refine JO_nil (JX_block (JX_then (J_region ?_)))
        refine jr_ (vI ((o : Nat) : Int)) ?_
        refine JO_read (vI ((o + 56 : Nat) : Int)) rfl trivial (fun _ _ => x_add_n (a := o) (b := 56) rfl rfl (by omega)) ?_
        refine jr_ (vI ((o + 56 : Nat) : Int)) ?_
        refine JO_nil ?_
        refine JX_round ((i + 1, o + 56, q + 1, cs ++ (R14.frame R02.updateN ((q : Nat) : Int) (decide (((o : Nat) : Int) = 0)) (decide (((((R14.items d n ps).getD k []).length : Nat) : Int) ≤ ((o + 56 : Nat) : Int))) (sub ((R14.items d n ps).getD k []) o (min (((R14.items d n ps).getD k []).length) (o + 56)))), A8, c9) : Nat × Nat × Nat × (List UInt8) × (Option Addr) × Nat) ?_ ?_ ⟨rfl, rfl, rfl, rfl, rfl, rfl, rfl, rfl, rfl, trivial⟩ (fun _ h => h)
        · show ((o + 56) = 56 * (i + 1)) ∧ ((i + 1) ≤ R14.chunks ((R14.items d n ps).getD k [])) ∧ ((q + 1) = m + (i + 1)) ∧ ((cs ++ (R14.frame R02.updateN ((q : Nat) : Int) (decide (((o : Nat) : Int) = 0)) (decide (((((R14.items d n ps).getD k []).length : Nat) : Int) ≤ ((o + 56 : Nat) : Int))) (sub ((R14.items d n ps).getD k []) o (min (((R14.items d n ps).getD k []).length) (o + 56))))) = bs ++ ((List.range (i + 1)).map (R14.chunk R02.updateN m ((R14.items d n ps).getD k []))).flatten)
          refine ⟨?_, ?_, ?_, ?_⟩
          · first | rfl | omega | (simp_all; done) | (simp_all; omega)
          · unfold R14.chunks; omega
          · first | rfl | omega | (simp_all; done) | (simp_all; omega)
          · exact R14.bytes_step _ i2_3 _ (R14.chunk_of2 _ i2_2 i2_0)
        · show ((R14.items d n ps).getD k []).length - (o + 56) < ((R14.items d n ps).getD k []).length - o
          first | omega | (simp; omega) | (simp_all; omega)
      · have h6 := of_decide_eq_false h6
        refine J_exit (JX_then_exit (JX_round_exit (JX_block_hit (JX_block (JX_then ?_)))))
        refine J_region ?_
        refine JO_read (vI ((k + 1 : Nat) : Int)) rfl trivial (fun _ _ => x_add_n (a := k) (b := 1) rfl rfl (by omega)) ?_
        refine jr_ (vI ((k + 1 : Nat) : Int)) ?_
        refine JO_nil ?_
        refine JX_round ((k + 1, q, cs, csA, csC) : Nat × Nat × (List UInt8) × (Option Addr) × Nat) ?_ ?_ ⟨rfl, rfl, rfl, rfl, rfl, rfl, rfl, trivial⟩ (fun _ h => h)
        · show ((k + 1) ≤ (R14.items d n ps).length) ∧ (q = (R14.frames R02.updateN ((R14.items d n ps).take (k + 1))).length) ∧ (cs = (R14.frames R02.updateN ((R14.items d n ps).take (k + 1))).flatten)
          refine ⟨?_, ?_, ?_⟩
          · first | rfl | omega | (simp_all; done) | (simp_all; omega)
          · exact (R14.enc_next (by omega) i1_1 i1_2 i2_1 (by omega) i2_2 i2_3).1
          · exact (R14.enc_next (by omega) i1_1 i1_2 i2_1 (by omega) i2_2 i2_3).2
        · show (R14.items d n ps).length - (k + 1) < (R14.items d n ps).length - k
          first | omega | (simp; omega) | (simp_all; omega)
    · have h5 := of_decide_eq_false h5
      refine J_exit (JX_then_exit (JX_round_exit (JX_block_hit (JX_then (J_seq ?_)))))
      refine J_region ?_
      refine jr_ (Value.slice bsA bs.length bsC) ?_
      refine JO_read (vS bs) rfl trivial (x_str_at rfl Try.underlying57 Try.underlying5 Try.underlying9 (cells_row 1 rfl) rfl) ?_
      refine jr_ (vS bs) ?_
      refine jr_ (vI 0) ?_
      refine JO_nil (JX_then (J_ret ?_))
      refine JX_rets [vS bs, vI 0] (Value.tuple #[vS bs, vI 0]) Try.results18 (fun w h => ⟨rfl, rfl, trivial⟩) rfl [] (fun _ h => h.keep [false, false] rfl) ⟨?_, ?_⟩
      · have e_x0 : (bs : Bytes) = (R14.encode R02.updateN d n ps) := by first | exact R14.encode_bad (by assumption) | exact R14.okE_false (by assumption) | exact R14.okE_true (by assumption) | exact R14.encode_end2 (by assumption) i1_0 (by assumption) i1_2
        have e_x1 : (0 : Int) = (R14.okE (R14.valid d n ps)) := by first | exact R14.encode_bad (by assumption) | exact R14.okE_false (by assumption) | exact R14.okE_true (by assumption) | exact R14.encode_end2 (by assumption) i1_0 (by assumption) i1_2
        have e_all := (congr (congrArg (fun (x0 : Bytes) (x1 : Int) => Value.tuple #[vS x0, vI x1]) e_x0) e_x1)
        exact e_all
      · rfl
set_option maxRecDepth 20000 in
theorem f24_ok (d : DataSet) (n : Int) (ps : List Pair) (psA : Option Addr) (psC : Nat) (w : World) (psR : RO [] w psA (ps.flatMap Pair.enc)) (q0 : ps.length ≤ 9223372036854775807) : Calls Try.prog 24 #[Value.agg ((DataSet.enc d ++ [vI n, Value.slice psA ps.length psC])).toArray] w (Gives [] w fun v L => v = vI (((R14.encode R02.updateN d n ps).length : Nat) : Int) ∧ L = []) := by
  refine calls_J [] 12 Try.func24 rfl Try.ntmps24 [(0, Value.agg ((DataSet.enc d ++ [vI n, Value.slice psA ps.length psC])).toArray)] rfl rfl (Give.nil w) ?_
  refine J_seq (J_region ?_)
  refine JO_op rfl trivial (O_box rfl rfl fun b1 => ?_)
  refine jr_ (vI 0) ?_
  refine JO_nil (JX_then (J_seq (J_region ?_)))
  refine JO_read (Value.agg ((DataSet.enc d ++ [vI n, Value.slice psA ps.length psC])).toArray) rfl trivial (x_loadN 0 (DataSet.enc d ++ [vI n, Value.slice psA ps.length psC]) rfl rfl Ty.ag37 Ty.sz37 rfl) ?_
  refine JO_call [] [] [Ent.blk b1 37 (DataSet.enc d ++ [vI n, Value.slice psA ps.length psC])] rfl trivial (fun _ => x_call Ty.ca18 rfl) (fun _ h => h) (fun _ h => by cases h) (fun w hS => f18_ok d n ps psA psC w (psR.on hS (fun _ h => by cases h)) hy_) ?_
  rintro _ _ ⟨rfl, rfl⟩
  refine jr_ (Value.tuple #[vS (R14.encode R02.updateN d n ps), vI (R14.okE (R14.valid d n ps))]) ?_
  refine jr_ (vS (R14.encode R02.updateN d n ps)) ?_
  refine jr_ (vI (R14.okE (R14.valid d n ps))) ?_
  refine jr_ (vS (R14.encode R02.updateN d n ps)) ?_
  refine jr_ (vI (R14.okE (R14.valid d n ps))) ?_
  refine JO_nil (JX_then (J_seq (J_region ?_)))
  refine jr_ (vS (R14.encode R02.updateN d n ps)) ?_
  refine JO_read (vI (((R14.encode R02.updateN d n ps).length : Nat) : Int)) rfl trivial (fun _ _ => x_len_s rfl Try.underlying9) ?_
  refine jr_ (vI (((R14.encode R02.updateN d n ps).length : Nat) : Int)) ?_
  refine JO_nil (JX_then (J_ret ?_))
  refine JX_rets [vI (((R14.encode R02.updateN d n ps).length : Nat) : Int)] (vI (((R14.encode R02.updateN d n ps).length : Nat) : Int)) Try.results24 (fun w h => ⟨rfl, trivial⟩) rfl [] (fun _ h => h.keep [false] rfl) ⟨?_, ?_⟩
  · rfl
  · rfl
end Go.Proofs.Ytodfebhimadaiaa
