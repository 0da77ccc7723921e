/- contracts C14l -/
import Derived.Test.YtodfebhimadaiaaC14k
import Derived.Test.YtodfebhimadaiaaPl14f
namespace Go.Proofs.Ytodfebhimadaiaa
open Go.GV
set_option linter.unusedVariables false
set_option linter.unusedSimpArgs false
set_option maxHeartbeats 2000000 in
set_option maxRecDepth 20000 in
theorem f28_ok (s : Bytes) (w : World) (q0 : s.length ≤ 1000000) : Calls Try.prog 28 #[vS s] w (Gives [] w fun v L => ∃ A : Option Addr, ∃ c : Nat, v = Value.tuple #[Value.agg ((DataSet.enc (R14.svD R02.updateN s) ++ [vI (R14.svN R02.updateN s), Value.slice A ((R14.svP R02.updateN s).length) c])).toArray, vI (R14.svM R02.updateN s), vI (R14.svE R02.updateN s)] ∧ L = [Ent.row (.slice A (R14.svP R02.updateN s).length c) 54 2 (R14.svP R02.updateN s).length ((R14.svP R02.updateN s).flatMap Pair.enc)]) := by
  refine calls_J [] 117 Try.func28 rfl Try.ntmps28 [(0, vS s)] rfl rfl (Give.nil w) ?_
  refine J_seq (J_region ?_)
  refine JO_op rfl trivial (O_alloc Ty.ze37 rfl fun b1 => ?_)
  refine jr_ (vI 0) ?_
  refine jr_ (vI 0) ?_
  refine JO_nil (JX_then (J_seq (J_region ?_)))
  refine JO_op rfl trivial (O_makeMap vI fun b2 => ?_)
  refine jr_ (Value.map (some b2)) ?_
  refine JO_nil (JX_then (J_seq (J_block ?_)))
  refine J_loop (X := Nat × Bytes × (List (Int × Frame))) (fun (⟨k, t, m⟩ : Nat × Bytes × (List (Int × Frame))) => (64 * k ≤ s.length) ∧ (t = s.drop (64 * k)) ∧ (m = R14.coll R02.updateN s k)) (fun (⟨k, t, m⟩ : Nat × Bytes × (List (Int × Frame))) => [(0, vS t), (2, Value.pointer (some ⟨b1, 0, none⟩)), (3, vI 0), (4, vI 0), (5, Value.map (some b2))]) (fun (⟨k, t, m⟩ : Nat × Bytes × (List (Int × Frame))) => [Ent.mp vI b2 (m.map R14.mf), Ent.blk b1 37 [vI 0, vI 0, vI 0, vI 0, vI 0, vI 0, vI 0, vI 0, vI 0, vI 0, vI 0, vI 0, vI 0, vI 0, vB false, vI 0, vS [], vS [], vI 0, vI 0, vB false, vI 0, Value.slice none 0 0]]) (fun (⟨k, t, m⟩ : Nat × Bytes × (List (Int × Frame))) => t.length) ((0, s, ([] : List (Int × Frame))) : Nat × Bytes × (List (Int × Frame))) ?_ ⟨rfl, rfl, rfl, rfl, rfl, trivial⟩ (fun _ h => h) ?_
  · show (64 * 0 ≤ s.length) ∧ (s = s.drop (64 * 0)) ∧ (([] : List (Int × Frame)) = R14.coll R02.updateN s 0)
    refine ⟨?_, ?_, ?_⟩
    · first | rfl | omega | (simp_all; done) | (simp_all; omega)
    · rfl
    · rfl
  rintro ⟨k, t, m⟩ hI1
  obtain ⟨i1_0, i1_1, i1_2⟩ : (64 * k ≤ s.length) ∧ (t = s.drop (64 * k)) ∧ (m = R14.coll R02.updateN s k) := hI1
  have htl : t.length = s.length - 64 * k := by rw [i1_1, List.length_drop]
  refine J_weaken (E' := [(0, vS t), (2, Value.pointer (some ⟨b1, 0, none⟩)), (3, vI 0), (4, vI 0), (5, Value.map (some b2))]) (L' := [Ent.mp vI b2 (m.map R14.mf), Ent.blk b1 37 [vI 0, vI 0, vI 0, vI 0, vI 0, vI 0, vI 0, vI 0, vI 0, vI 0, vI 0, vI 0, vI 0, vI 0, vB false, vI 0, vS [], vS [], vI 0, vI 0, vB false, vI 0, Value.slice none 0 0]]) ⟨rfl, rfl, rfl, rfl, rfl, trivial⟩ (fun _ h => h) ?_
  refine J_seq (J_seq (J_region ?_))
  refine jr_ (vS t) ?_
  refine JO_read (vI ((t.length : Nat) : Int)) rfl trivial (fun _ _ => x_len_s rfl Try.underlying9) ?_
  refine JO_read (vB (decide ((64 : Int) ≤ ((t.length : Nat) : Int)))) rfl trivial (fun _ _ => x_geq_i rfl rfl) ?_
  refine JO_nil (JX_then ?_)
  refine J_cond (decide ((64 : Int) ≤ ((t.length : Nat) : Int))) rfl rfl (fun h3 => ?_) (fun h3 => ?_)
  · have h3w := h3
    have h3 := of_decide_eq_true h3
    refine J_skip (JX_then (J_seq (J_block (J_seq (J_region ?_)))))
    refine jr_ (vS t) ?_
    refine JO_read (vS (sub t 0 64)) rfl trivial (fun _ _ => x_sub_s (lo := 0) (hi := 64) rfl Try.underlying9 (.inr ⟨rfl, rfl⟩) (.inl rfl) lt_ (by first | omega | (simp only [sub, List.length_drop, List.length_take]; omega) | (simp; omega) | (simp_all; omega))) ?_
    refine JO_call [] [] [Ent.mp vI b2 (m.map R14.mf), Ent.blk b1 37 [vI 0, vI 0, vI 0, vI 0, vI 0, vI 0, vI 0, vI 0, vI 0, vI 0, vI 0, vI 0, vI 0, vI 0, vB false, vI 0, vS [], vS [], vI 0, vI 0, vB false, vI 0, Value.slice none 0 0]] rfl trivial (fun _ => x_call Ty.ca11 rfl) (fun _ h => h) (fun _ h => by cases h) (fun w hS => f11_ok (sub t 0 64) w hy_) ?_
    rintro _ _ ⟨rfl, rfl⟩
    refine jr_ (Value.tuple #[vI (R14.rfN R02.updateN (sub t 0 64)), vB (R14.rfA R02.updateN (sub t 0 64)), vB (R14.rfB R02.updateN (sub t 0 64)), vS (R14.rfD R02.updateN (sub t 0 64)), vI (R14.rfE R02.updateN (sub t 0 64))]) ?_
    refine jr_ (vI (R14.rfN R02.updateN (sub t 0 64))) ?_
    refine jr_ (vB (R14.rfA R02.updateN (sub t 0 64))) ?_
    refine jr_ (vB (R14.rfB R02.updateN (sub t 0 64))) ?_
    refine jr_ (vS (R14.rfD R02.updateN (sub t 0 64))) ?_
    refine jr_ (vI (R14.rfE R02.updateN (sub t 0 64))) ?_
    refine jr_ (vI (R14.rfN R02.updateN (sub t 0 64))) ?_
    refine jr_ (vB (R14.rfA R02.updateN (sub t 0 64))) ?_
    refine jr_ (vB (R14.rfB R02.updateN (sub t 0 64))) ?_
    refine jr_ (vS (R14.rfD R02.updateN (sub t 0 64))) ?_
    refine jr_ (vI (R14.rfE R02.updateN (sub t 0 64))) ?_
    refine JO_nil (JX_then (J_seq (J_region ?_)))
    refine jr_ (Value.map (some b2)) ?_
    refine jr_ (vI (R14.rfN R02.updateN (sub t 0 64))) ?_
    refine JO_read (Value.tuple #[Value.agg #[vB (((R14.lkF m (R14.rfN R02.updateN (sub t 0 64))).getD (Frame.mk false false [])).first), vB (((R14.lkF m (R14.rfN R02.updateN (sub t 0 64))).getD (Frame.mk false false [])).last), vS (((R14.lkF m (R14.rfN R02.updateN (sub t 0 64))).getD (Frame.mk false false [])).data)], vB ((R14.lkF m (R14.rfN R02.updateN (sub t 0 64))).isSome)]) rfl trivial (x_lookup_okv 0 (f := vI) (k := R14.rfN R02.updateN (sub t 0 64)) rfl rfl rfl Try.underlying75 (mapK_i Try.underlying3) Ty.ze77 (R14.lk_mf m (R14.rfN R02.updateN (sub t 0 64))) (R14.lk_fv m (R14.rfN R02.updateN (sub t 0 64))) (R14.lk_fo m (R14.rfN R02.updateN (sub t 0 64)))) ?_
    refine jr_ (Value.tuple #[Value.agg #[vB (((R14.lkF m (R14.rfN R02.updateN (sub t 0 64))).getD (Frame.mk false false [])).first), vB (((R14.lkF m (R14.rfN R02.updateN (sub t 0 64))).getD (Frame.mk false false [])).last), vS (((R14.lkF m (R14.rfN R02.updateN (sub t 0 64))).getD (Frame.mk false false [])).data)], vB ((R14.lkF m (R14.rfN R02.updateN (sub t 0 64))).isSome)]) ?_
    refine jr_ (Value.agg #[vB (((R14.lkF m (R14.rfN R02.updateN (sub t 0 64))).getD (Frame.mk false false [])).first), vB (((R14.lkF m (R14.rfN R02.updateN (sub t 0 64))).getD (Frame.mk false false [])).last), vS (((R14.lkF m (R14.rfN R02.updateN (sub t 0 64))).getD (Frame.mk false false [])).data)]) ?_
    refine jr_ (vB ((R14.lkF m (R14.rfN R02.updateN (sub t 0 64))).isSome)) ?_
    refine JO_op rfl trivial (O_alloc Ty.ze77 rfl fun b4 => ?_)
    refine JO_op rfl trivial (O_store 0 [vB (((R14.lkF m (R14.rfN R02.updateN (sub t 0 64))).getD (Frame.mk false false [])).first), vB (((R14.lkF m (R14.rfN R02.updateN (sub t 0 64))).getD (Frame.mk false false [])).last), vS (((R14.lkF m (R14.rfN R02.updateN (sub t 0 64))).getD (Frame.mk false false [])).data)] [Ent.blk b4 77 [vB (((R14.lkF m (R14.rfN R02.updateN (sub t 0 64))).getD (Frame.mk false false [])).first), vB (((R14.lkF m (R14.rfN R02.updateN (sub t 0 64))).getD (Frame.mk false false [])).last), vS (((R14.lkF m (R14.rfN R02.updateN (sub t 0 64))).getD (Frame.mk false false [])).data)], Ent.mp vI b2 (m.map R14.mf), Ent.blk b1 37 [vI 0, vI 0, vI 0, vI 0, vI 0, vI 0, vI 0, vI 0, vI 0, vI 0, vI 0, vI 0, vI 0, vI 0, vB false, vI 0, vS [], vS [], vI 0, vI 0, vB false, vI 0, Value.slice none 0 0]] rfl rfl rfl Ty.sz77 rfl (Nat.le_of_ble_eq_true rfl) rfl rfl rfl ?_)
    refine jr_ (vB ((R14.lkF m (R14.rfN R02.updateN (sub t 0 64))).isSome)) ?_
    refine JO_nil (JX_then (J_seq (J_region ?_)))
    refine jr_ (vI (R14.rfE R02.updateN (sub t 0 64))) ?_
    refine JO_read (vB (decide (R14.rfE R02.updateN (sub t 0 64) = 0))) rfl trivial (fun _ _ => x_eql_i rfl rfl) ?_
    refine jr_ (vB (decide (R14.rfE R02.updateN (sub t 0 64) = 0))) ?_
    refine JO_cut (X := Bool) 3 (fun z => z = ((decide (R14.rfE R02.updateN (sub t 0 64) = 0)) && (!((R14.lkF m (R14.rfN R02.updateN (sub t 0 64))).isSome)))) (fun z => [(0, vS t), (2, Value.pointer (some ⟨b1, 0, none⟩)), (3, vI 0), (4, vI 0), (5, Value.map (some b2)), (6, vI (R14.rfN R02.updateN (sub t 0 64))), (7, vB (R14.rfA R02.updateN (sub t 0 64))), (8, vB (R14.rfB R02.updateN (sub t 0 64))), (9, vS (R14.rfD R02.updateN (sub t 0 64))), (49, vB z)]) (fun _ => [Ent.blk b4 77 [vB (((R14.lkF m (R14.rfN R02.updateN (sub t 0 64))).getD (Frame.mk false false [])).first), vB (((R14.lkF m (R14.rfN R02.updateN (sub t 0 64))).getD (Frame.mk false false [])).last), vS (((R14.lkF m (R14.rfN R02.updateN (sub t 0 64))).getD (Frame.mk false false [])).data)], Ent.mp vI b2 (m.map R14.mf), Ent.blk b1 37 [vI 0, vI 0, vI 0, vI 0, vI 0, vI 0, vI 0, vI 0, vI 0, vI 0, vI 0, vI 0, vI 0, vI 0, vB false, vI 0, vS [], vS [], vI 0, vI 0, vB false, vI 0, Value.slice none 0 0]]) ?_ ?_
    · rcases Bool.eq_false_or_eq_true (decide (R14.rfE R02.updateN (sub t 0 64) = 0)) with g6 | g6
      · have g6r := g6
        have g6r := of_decide_eq_true g6r
        refine JO_read (vB ((R14.lkF m (R14.rfN R02.updateN (sub t 0 64))).isSome)) rfl ⟨_, rfl, g6⟩ (fun _ _ => rfl) ?_
        refine JO_read (vB (!((R14.lkF m (R14.rfN R02.updateN (sub t 0 64))).isSome))) rfl ⟨_, rfl, g6⟩ (fun _ _ => x_not rfl) ?_
        refine JO_read (vB (!((R14.lkF m (R14.rfN R02.updateN (sub t 0 64))).isSome))) rfl trivial (fun _ _ => x_pick_t rfl g6 rfl) ?_
        refine JO_nil (JX_cut (!((R14.lkF m (R14.rfN R02.updateN (sub t 0 64))).isSome)) (by rw [g6]; simp) ⟨rfl, rfl, rfl, rfl, rfl, rfl, rfl, rfl, rfl, rfl, trivial⟩ (fun _ h => h))
      · have g6r := g6
        have g6r := of_decide_eq_false g6r
        refine JO_shun rfl ⟨_, rfl, g6⟩ ?_
        refine JO_shun rfl ⟨_, rfl, g6⟩ ?_
        refine JO_read (vB false) rfl trivial (fun _ _ => x_pick_f rfl g6 rfl) ?_
        refine JO_nil (JX_cut (false) (by rw [g6]; simp) ⟨rfl, rfl, rfl, rfl, rfl, rfl, rfl, rfl, rfl, rfl, trivial⟩ (fun _ h => h))
    rintro z5 rfl
    refine JO_nil (JX_then ?_)
    refine J_cond ((decide (R14.rfE R02.updateN (sub t 0 64) = 0)) && (!((R14.lkF m (R14.rfN R02.updateN (sub t 0 64))).isSome))) rfl rfl (fun h7 => ?_) (fun h7 => ?_)
    · have h7w := h7
      have ⟨h7, h8⟩ := band_true h7
      have h7 := of_decide_eq_true h7
      have h8 : ((R14.lkF m (R14.rfN R02.updateN (sub t 0 64))).isSome) = false := bnot_true h8
      refine J_region ?_
      refine jr_ (Value.map (some b2)) ?_
      refine jr_ (vI (R14.rfN R02.updateN (sub t 0 64))) ?_
      refine jr_ (vB (R14.rfA R02.updateN (sub t 0 64))) ?_
      refine jr_ (vB (R14.rfB R02.updateN (sub t 0 64))) ?_
      refine jr_ (vS (R14.rfD R02.updateN (sub t 0 64))) ?_
      refine JO_read (Value.agg #[vB (R14.rfA R02.updateN (sub t 0 64)), vB (R14.rfB R02.updateN (sub t 0 64)), vS (R14.rfD R02.updateN (sub t 0 64))]) rfl trivial (fun _ _ => x_build (by kernel_rfl)) ?_
      refine JO_op rfl trivial (O_mapUpdate 1 (f := vI) (k := R14.rfN R02.updateN (sub t 0 64)) ((R14.updF m (R14.rfN R02.updateN (sub t 0 64)) (Frame.mk (R14.rfA R02.updateN (sub t 0 64)) (R14.rfB R02.updateN (sub t 0 64)) (R14.rfD R02.updateN (sub t 0 64)))).map R14.mf) [Ent.blk b4 77 [vB (((R14.lkF m (R14.rfN R02.updateN (sub t 0 64))).getD (Frame.mk false false [])).first), vB (((R14.lkF m (R14.rfN R02.updateN (sub t 0 64))).getD (Frame.mk false false [])).last), vS (((R14.lkF m (R14.rfN R02.updateN (sub t 0 64))).getD (Frame.mk false false [])).data)], Ent.mp vI b2 ((R14.updF m (R14.rfN R02.updateN (sub t 0 64)) (Frame.mk (R14.rfA R02.updateN (sub t 0 64)) (R14.rfB R02.updateN (sub t 0 64)) (R14.rfD R02.updateN (sub t 0 64)))).map R14.mf), Ent.blk b1 37 [vI 0, vI 0, vI 0, vI 0, vI 0, vI 0, vI 0, vI 0, vI 0, vI 0, vI 0, vI 0, vI 0, vI 0, vB false, vI 0, vS [], vS [], vI 0, vI 0, vB false, vI 0, Value.slice none 0 0]] rfl rfl rfl rfl Try.underlying75 (mapK_i Try.underlying3) (R14.upd_mf m (R14.rfN R02.updateN (sub t 0 64)) (Frame.mk (R14.rfA R02.updateN (sub t 0 64)) (R14.rfB R02.updateN (sub t 0 64)) (R14.rfD R02.updateN (sub t 0 64)))) rfl ?_)
      refine JO_nil (JX_block (JX_then (J_region ?_)))
      refine jr_ (vS t) ?_
      refine JO_read (vS (sub t 64 t.length)) rfl trivial (fun _ _ => x_sub_s (lo := 64) (hi := t.length) rfl Try.underlying9 (.inl rfl) (.inr ⟨rfl, rfl⟩) lt_ (by first | omega | (simp only [sub, List.length_drop, List.length_take]; omega) | (simp; omega) | (simp_all; omega))) ?_
      refine jr_ (vS (sub t 64 t.length)) ?_
      refine JO_nil ?_
      refine JX_round ((k + 1, sub t 64 t.length, (R14.updF m (R14.rfN R02.updateN (sub t 0 64)) (Frame.mk (R14.rfA R02.updateN (sub t 0 64)) (R14.rfB R02.updateN (sub t 0 64)) (R14.rfD R02.updateN (sub t 0 64))))) : Nat × Bytes × (List (Int × Frame))) ?_ ?_ ⟨rfl, rfl, rfl, rfl, rfl, trivial⟩ (fun _ h => h.keep [false, true, true] rfl)
      · show (64 * (k + 1) ≤ s.length) ∧ ((sub t 64 t.length) = s.drop (64 * (k + 1))) ∧ ((R14.updF m (R14.rfN R02.updateN (sub t 0 64)) (Frame.mk (R14.rfA R02.updateN (sub t 0 64)) (R14.rfB R02.updateN (sub t 0 64)) (R14.rfD R02.updateN (sub t 0 64)))) = R14.coll R02.updateN s (k + 1))
        refine ⟨?_, ?_, ?_⟩
        · omega
        · exact R14.blk_next i1_1
        · first | exact R14.coll_yes2 i1_1 i1_2 (by omega) (by assumption) | exact R14.coll_no2 i1_1 i1_2 (by simp_all)
      · show (sub t 64 t.length).length < t.length
        simp only [sub, List.length_drop, List.length_take]; omega
    · have h7w := h7
      simp only [Bool.and_eq_true, Bool.or_eq_true, Bool.and_eq_false_iff, Bool.or_eq_false_iff, Bool.not_eq_true', Bool.not_eq_false', decide_eq_true_eq, decide_eq_false_iff_not] at h7
      refine J_skip (JX_block (JX_then (J_region ?_)))
      refine jr_ (vS t) ?_
      refine JO_read (vS (sub t 64 t.length)) rfl trivial (fun _ _ => x_sub_s (lo := 64) (hi := t.length) rfl Try.underlying9 (.inl rfl) (.inr ⟨rfl, rfl⟩) lt_ (by first | omega | (simp only [sub, List.length_drop, List.length_take]; omega) | (simp; omega) | (simp_all; omega))) ?_
      refine jr_ (vS (sub t 64 t.length)) ?_
      refine JO_nil ?_
      refine JX_round ((k + 1, sub t 64 t.length, m) : Nat × Bytes × (List (Int × Frame))) ?_ ?_ ⟨rfl, rfl, rfl, rfl, rfl, trivial⟩ (fun _ h => h.keep [false, true, true] rfl)
      · show (64 * (k + 1) ≤ s.length) ∧ ((sub t 64 t.length) = s.drop (64 * (k + 1))) ∧ (m = R14.coll R02.updateN s (k + 1))
        refine ⟨?_, ?_, ?_⟩
        · omega
        · exact R14.blk_next i1_1
        · first | exact R14.coll_yes2 i1_1 i1_2 (by omega) (by assumption) | exact R14.coll_no2 i1_1 i1_2 (by simp_all)
      · show (sub t 64 t.length).length < t.length
        simp only [sub, List.length_drop, List.length_take]; omega
  · have h3w := h3
    have h3 := of_decide_eq_false h3
    refine J_exit (JX_then_exit (JX_round_exit ?_))
    have hm := R14.sv_end i1_0 i1_1 i1_2 (by omega)
    have hgood := R14.good_sv hm
    have hsm := R14.small_lk hgood
    have hml := R14.sv_len hm
    refine JX_block_hit (JX_then (J_seq (J_region ?_)))
    refine jr_ (Value.map (some b2)) ?_
    refine JO_call [b2] [Ent.mp vI b2 (m.map R14.mf)] [Ent.blk b1 37 [vI 0, vI 0, vI 0, vI 0, vI 0, vI 0, vI 0, vI 0, vI 0, vI 0, vI 0, vI 0, vI 0, vI 0, vB false, vI 0, vS [], vS [], vI 0, vI 0, vB false, vI 0, Value.slice none 0 0]] rfl trivial (fun _ => x_call Ty.ca44 rfl) (fun _ h => h) (own_mem rfl) (fun w hS => f44_ok b2 m 0 w hy_ (hS.give (own_in rfl))) ?_
    rintro _ _ ⟨rfl, rfl⟩
    refine jr_ (Value.tuple #[vS ((R14.item (R14.lkF m) 0).getD []), vB ((R14.item (R14.lkF m) 0).isSome)]) ?_
    refine jr_ (vS ((R14.item (R14.lkF m) 0).getD [])) ?_
    refine jr_ (vB ((R14.item (R14.lkF m) 0).isSome)) ?_
    refine jr_ (vS ((R14.item (R14.lkF m) 0).getD [])) ?_
    refine jr_ (vB ((R14.item (R14.lkF m) 0).isSome)) ?_
    refine JO_nil (JX_then (J_seq (J_seq (J_region ?_))))
    refine jr_ (vB ((R14.item (R14.lkF m) 0).isSome)) ?_
    refine JO_read (vB (!((R14.item (R14.lkF m) 0).isSome))) rfl trivial (fun _ _ => x_not rfl) ?_
    refine JO_nil (JX_then ?_)
    refine J_cond (!((R14.item (R14.lkF m) 0).isSome)) rfl rfl (fun h9 => ?_) (fun h9 => ?_)
    · have h9w := h9
      have h9 : ((R14.item (R14.lkF m) 0).isSome) = false := bnot_true h9
      refine J_seq (J_region ?_)
      refine JO_read (Value.agg #[vI 0, vI 0, vI 0, vI 0, vI 0, vI 0, vI 0, vI 0, vI 0, vI 0, vI 0, vI 0, vI 0, vI 0, vB false, vI 0, vS [], vS [], vI 0, vI 0, vB false, vI 0, Value.slice none 0 0]) rfl trivial (fun _ _ => x_build (by kernel_rfl)) ?_
      refine JO_op rfl trivial (O_storeS (vs := [vI 0, vI 0, vI 0, vI 0, vI 0, vI 0, vI 0, vI 0, vI 0, vI 0, vI 0, vI 0, vI 0, vI 0, vB false, vI 0, vS [], vS [], vI 0, vI 0, vB false, vI 0, Value.slice none 0 0]) 1 [vI 0, vI 0, vI 0, vI 0, vI 0, vI 0, vI 0, vI 0, vI 0, vI 0, vI 0, vI 0, vI 0, vI 0, vB false, vI 0, vS [], vS [], vI 0, vI 0, vB false, vI 0, Value.slice none 0 0] [Ent.mp vI b2 (m.map R14.mf), Ent.blk b1 37 [vI 0, vI 0, vI 0, vI 0, vI 0, vI 0, vI 0, vI 0, vI 0, vI 0, vI 0, vI 0, vI 0, vI 0, vB false, vI 0, vS [], vS [], vI 0, vI 0, vB false, vI 0, Value.slice none 0 0]] rfl rfl rfl Ty.sz37 rfl (Nat.le_of_ble_eq_true rfl) rfl (st_all rfl) rfl ?_)
      refine jr_ (vI 0) ?_
      refine jr_ (vI 11) ?_
      refine JO_nil (JX_then (J_ret (JX_then_ret ?_)))
      first
        | have hd := R14.res_bad hm (.inl (by assumption))
        | have hd := R14.res_bad hm (.inr (by assumption))
        | have hd := R14.res_ok hm (by assumption) (by assumption) (show ps = R14.pairs m by rw [i2_1, List.take_of_length_le (by omega)]; rfl)
      refine JX_rets [Value.agg #[vI 0, vI 0, vI 0, vI 0, vI 0, vI 0, vI 0, vI 0, vI 0, vI 0, vI 0, vI 0, vI 0, vI 0, vB false, vI 0, vS [], vS [], vI 0, vI 0, vB false, vI 0, Value.slice none 0 0], vI 0, vI 11] (Value.tuple #[Value.agg #[vI 0, vI 0, vI 0, vI 0, vI 0, vI 0, vI 0, vI 0, vI 0, vI 0, vI 0, vI 0, vI 0, vI 0, vB false, vI 0, vS [], vS [], vI 0, vI 0, vB false, vI 0, Value.slice none 0 0], vI 0, vI 11]) Try.results28 (fun w h => ⟨⟨_, rfl, load_blkN 1 [vI 0, vI 0, vI 0, vI 0, vI 0, vI 0, vI 0, vI 0, vI 0, vI 0, vI 0, vI 0, vI 0, vI 0, vB false, vI 0, vS [], vS [], vI 0, vI 0, vB false, vI 0, Value.slice none 0 0] h rfl Ty.ag37 Ty.sz37 rfl⟩, rfl, rfl, trivial⟩) rfl [Ent.row (.slice none ([] : List Pair).length 0) 54 2 ([] : List Pair).length (([] : List Pair).flatMap Pair.enc)] (fun _ h => (h.nilrow 54 2).keep [true, false, false] rfl) ⟨none, 0, ?_, ?_⟩
      · have e_x0 : ((DataSet.mk 0 0 0 0 0 0 0 0 0 0 0 0 0 0 false 0 [] [] 0 0 false) : DataSet) = (R14.svD R02.updateN s) := by first | exact hd.1 | exact hd.2.1 | exact congrArg List.length hd.2.2.1 | exact hd.2.2.1 | exact hd.2.2.2.1 | exact hd.2.2.2.2 | exact hd.2.2.2
        have e_x1 : (0 : Int) = (R14.svN R02.updateN s) := by first | exact hd.1 | exact hd.2.1 | exact congrArg List.length hd.2.2.1 | exact hd.2.2.1 | exact hd.2.2.2.1 | exact hd.2.2.2.2 | exact hd.2.2.2
        have e_x2 : (0 : Nat) = ((R14.svP R02.updateN s).length) := by first | exact hd.1 | exact hd.2.1 | exact congrArg List.length hd.2.2.1 | exact hd.2.2.1 | exact hd.2.2.2.1 | exact hd.2.2.2.2 | exact hd.2.2.2
        have e_x3 : (0 : Int) = (R14.svM R02.updateN s) := by first | exact hd.1 | exact hd.2.1 | exact congrArg List.length hd.2.2.1 | exact hd.2.2.1 | exact hd.2.2.2.1 | exact hd.2.2.2.2 | exact hd.2.2.2
        have e_x4 : (11 : Int) = (R14.svE R02.updateN s) := by first | exact hd.1 | exact hd.2.1 | exact congrArg List.length hd.2.2.1 | exact hd.2.2.1 | exact hd.2.2.2.1 | exact hd.2.2.2.2 | exact hd.2.2.2
        have e_all := (congr (congr (congr (congr (congrArg (fun (x0 : DataSet) (x1 : Int) (x2 : Nat) (x3 : Int) (x4 : Int) => Value.tuple #[Value.agg ((DataSet.enc x0 ++ [vI x1, Value.slice none x2 0])).toArray, vI x3, vI x4]) e_x0) e_x1) e_x2) e_x3) e_x4)
        exact e_all
      · have e_y0 : (([] : List Pair) : List Pair) = (R14.svP R02.updateN s) := by
          first | exact hd.1 | exact hd.2.1 | exact congrArg List.length hd.2.2.1 | exact hd.2.2.1 | exact hd.2.2.2.1 | exact hd.2.2.2.2 | exact hd.2.2.2
        have e_all := (congrArg (fun (y0 : List Pair) => [Ent.row (.slice none y0.length 0) 54 2 y0.length (y0.flatMap Pair.enc)]) e_y0)
        exact e_all
    · have h9w := h9
      have h9 : ((R14.item (R14.lkF m) 0).isSome) = true := bnot_false h9
      refine J_skip (JX_then (J_seq (J_region ?_)))
      refine jr_ (vS ((R14.item (R14.lkF m) 0).getD [])) ?_
      refine JO_call [] [] [Ent.mp vI b2 (m.map R14.mf), Ent.blk b1 37 [vI 0, vI 0, vI 0, vI 0, vI 0, vI 0, vI 0, vI 0, vI 0, vI 0, vI 0, vI 0, vI 0, vI 0, vB false, vI 0, vS [], vS [], vI 0, vI 0, vB false, vI 0, Value.slice none 0 0]] rfl trivial (fun _ => x_call Ty.ca45 rfl) (fun _ h => h) (fun _ h => by cases h) (fun w hS => f45_ok ((R14.item (R14.lkF m) 0).getD []) w) ?_
      rintro _ _ ⟨rfl, rfl⟩
      have ha10 := R14.fC_range ((R14.item (R14.lkF m) 0).getD [])
      try simp only [List.length_cons, List.length_nil, Nat.zero_add, Nat.reduceAdd, Nat.reduceMul] at ha10
      refine jr_ (Value.tuple #[Value.agg ((DataSet.enc (R14.fD ((R14.item (R14.lkF m) 0).getD [])) ++ [vI (R14.fN ((R14.item (R14.lkF m) 0).getD [])), Value.slice none 0 0])).toArray, vI (R14.fC ((R14.item (R14.lkF m) 0).getD [])), vB (R14.zOk ((R14.item (R14.lkF m) 0).getD []))]) ?_
      refine jr_ (Value.agg ((DataSet.enc (R14.fD ((R14.item (R14.lkF m) 0).getD [])) ++ [vI (R14.fN ((R14.item (R14.lkF m) 0).getD [])), Value.slice none 0 0])).toArray) ?_
      refine jr_ (vI (R14.fC ((R14.item (R14.lkF m) 0).getD []))) ?_
      refine jr_ (vB (R14.zOk ((R14.item (R14.lkF m) 0).getD []))) ?_
      refine JO_op rfl trivial (O_alloc Ty.ze37 rfl fun b11 => ?_)
      refine JO_op rfl trivial (O_storeS (vs := (DataSet.enc (R14.fD ((R14.item (R14.lkF m) 0).getD [])) ++ [vI (R14.fN ((R14.item (R14.lkF m) 0).getD [])), Value.slice none 0 0])) 0 (DataSet.enc (R14.fD ((R14.item (R14.lkF m) 0).getD [])) ++ [vI (R14.fN ((R14.item (R14.lkF m) 0).getD [])), Value.slice none 0 0]) [Ent.blk b11 37 (DataSet.enc (R14.fD ((R14.item (R14.lkF m) 0).getD [])) ++ [vI (R14.fN ((R14.item (R14.lkF m) 0).getD [])), Value.slice none 0 0]), Ent.mp vI b2 (m.map R14.mf), Ent.blk b1 37 [vI 0, vI 0, vI 0, vI 0, vI 0, vI 0, vI 0, vI 0, vI 0, vI 0, vI 0, vI 0, vI 0, vI 0, vB false, vI 0, vS [], vS [], vI 0, vI 0, vB false, vI 0, Value.slice none 0 0]] rfl rfl rfl Ty.sz37 rfl (Nat.le_of_ble_eq_true rfl) rfl (st_all rfl) rfl ?_)
      refine jr_ (vI (R14.fC ((R14.item (R14.lkF m) 0).getD []))) ?_
      refine jr_ (vB (R14.zOk ((R14.item (R14.lkF m) 0).getD []))) ?_
      refine JO_nil (JX_then (J_seq (J_seq (J_region ?_))))
      refine jr_ (vB (R14.zOk ((R14.item (R14.lkF m) 0).getD []))) ?_
      refine JO_read (vB (!(R14.zOk ((R14.item (R14.lkF m) 0).getD [])))) rfl trivial (fun _ _ => x_not rfl) ?_
      refine JO_nil (JX_then ?_)
      refine J_cond (!(R14.zOk ((R14.item (R14.lkF m) 0).getD []))) rfl rfl (fun h12 => ?_) (fun h12 => ?_)
      · have h12w := h12
        have h12 : (R14.zOk ((R14.item (R14.lkF m) 0).getD [])) = false := bnot_true h12
        refine J_seq (J_region ?_)
        refine JO_read (Value.agg #[vI 0, vI 0, vI 0, vI 0, vI 0, vI 0, vI 0, vI 0, vI 0, vI 0, vI 0, vI 0, vI 0, vI 0, vB false, vI 0, vS [], vS [], vI 0, vI 0, vB false, vI 0, Value.slice none 0 0]) rfl trivial (fun _ _ => x_build (by kernel_rfl)) ?_
        refine JO_op rfl trivial (O_storeS (vs := [vI 0, vI 0, vI 0, vI 0, vI 0, vI 0, vI 0, vI 0, vI 0, vI 0, vI 0, vI 0, vI 0, vI 0, vB false, vI 0, vS [], vS [], vI 0, vI 0, vB false, vI 0, Value.slice none 0 0]) 2 [vI 0, vI 0, vI 0, vI 0, vI 0, vI 0, vI 0, vI 0, vI 0, vI 0, vI 0, vI 0, vI 0, vI 0, vB false, vI 0, vS [], vS [], vI 0, vI 0, vB false, vI 0, Value.slice none 0 0] [Ent.blk b11 37 (DataSet.enc (R14.fD ((R14.item (R14.lkF m) 0).getD [])) ++ [vI (R14.fN ((R14.item (R14.lkF m) 0).getD [])), Value.slice none 0 0]), Ent.mp vI b2 (m.map R14.mf), Ent.blk b1 37 [vI 0, vI 0, vI 0, vI 0, vI 0, vI 0, vI 0, vI 0, vI 0, vI 0, vI 0, vI 0, vI 0, vI 0, vB false, vI 0, vS [], vS [], vI 0, vI 0, vB false, vI 0, Value.slice none 0 0]] rfl rfl rfl Ty.sz37 rfl (Nat.le_of_ble_eq_true rfl) rfl (st_all rfl) rfl ?_)
        refine jr_ (vI 0) ?_
        refine jr_ (vI 11) ?_
        refine JO_nil (JX_then (J_ret (JX_then_ret ?_)))
        first
          | have hd := R14.res_bad hm (.inl (by assumption))
          | have hd := R14.res_bad hm (.inr (by assumption))
          | have hd := R14.res_ok hm (by assumption) (by assumption) (show ps = R14.pairs m by rw [i2_1, List.take_of_length_le (by omega)]; rfl)
        refine JX_rets [Value.agg #[vI 0, vI 0, vI 0, vI 0, vI 0, vI 0, vI 0, vI 0, vI 0, vI 0, vI 0, vI 0, vI 0, vI 0, vB false, vI 0, vS [], vS [], vI 0, vI 0, vB false, vI 0, Value.slice none 0 0], vI 0, vI 11] (Value.tuple #[Value.agg #[vI 0, vI 0, vI 0, vI 0, vI 0, vI 0, vI 0, vI 0, vI 0, vI 0, vI 0, vI 0, vI 0, vI 0, vB false, vI 0, vS [], vS [], vI 0, vI 0, vB false, vI 0, Value.slice none 0 0], vI 0, vI 11]) Try.results28 (fun w h => ⟨⟨_, rfl, load_blkN 2 [vI 0, vI 0, vI 0, vI 0, vI 0, vI 0, vI 0, vI 0, vI 0, vI 0, vI 0, vI 0, vI 0, vI 0, vB false, vI 0, vS [], vS [], vI 0, vI 0, vB false, vI 0, Value.slice none 0 0] h rfl Ty.ag37 Ty.sz37 rfl⟩, rfl, rfl, trivial⟩) rfl [Ent.row (.slice none ([] : List Pair).length 0) 54 2 ([] : List Pair).length (([] : List Pair).flatMap Pair.enc)] (fun _ h => (h.nilrow 54 2).keep [true, false, false, false] rfl) ⟨none, 0, ?_, ?_⟩
        · have e_x0 : ((DataSet.mk 0 0 0 0 0 0 0 0 0 0 0 0 0 0 false 0 [] [] 0 0 false) : DataSet) = (R14.svD R02.updateN s) := by first | exact hd.1 | exact hd.2.1 | exact congrArg List.length hd.2.2.1 | exact hd.2.2.1 | exact hd.2.2.2.1 | exact hd.2.2.2.2 | exact hd.2.2.2
          have e_x1 : (0 : Int) = (R14.svN R02.updateN s) := by first | exact hd.1 | exact hd.2.1 | exact congrArg List.length hd.2.2.1 | exact hd.2.2.1 | exact hd.2.2.2.1 | exact hd.2.2.2.2 | exact hd.2.2.2
          have e_x2 : (0 : Nat) = ((R14.svP R02.updateN s).length) := by first | exact hd.1 | exact hd.2.1 | exact congrArg List.length hd.2.2.1 | exact hd.2.2.1 | exact hd.2.2.2.1 | exact hd.2.2.2.2 | exact hd.2.2.2
          have e_x3 : (0 : Int) = (R14.svM R02.updateN s) := by first | exact hd.1 | exact hd.2.1 | exact congrArg List.length hd.2.2.1 | exact hd.2.2.1 | exact hd.2.2.2.1 | exact hd.2.2.2.2 | exact hd.2.2.2
          have e_x4 : (11 : Int) = (R14.svE R02.updateN s) := by first | exact hd.1 | exact hd.2.1 | exact congrArg List.length hd.2.2.1 | exact hd.2.2.1 | exact hd.2.2.2.1 | exact hd.2.2.2.2 | exact hd.2.2.2
          have e_all := (congr (congr (congr (congr (congrArg (fun (x0 : DataSet) (x1 : Int) (x2 : Nat) (x3 : Int) (x4 : Int) => Value.tuple #[Value.agg ((DataSet.enc x0 ++ [vI x1, Value.slice none x2 0])).toArray, vI x3, vI x4]) e_x0) e_x1) e_x2) e_x3) e_x4)
          exact e_all
        · have e_y0 : (([] : List Pair) : List Pair) = (R14.svP R02.updateN s) := by
            first | exact hd.1 | exact hd.2.1 | exact congrArg List.length hd.2.2.1 | exact hd.2.2.1 | exact hd.2.2.2.1 | exact hd.2.2.2.2 | exact hd.2.2.2
          have e_all := (congrArg (fun (y0 : List Pair) => [Ent.row (.slice none y0.length 0) 54 2 y0.length (y0.flatMap Pair.enc)]) e_y0)
          exact e_all
      · have h12w := h12
        have h12 : (R14.zOk ((R14.item (R14.lkF m) 0).getD [])) = true := bnot_false h12
        refine J_skip (JX_then (J_seq (J_seq (J_region ?_))))
        refine jr_ (Value.map (some b2)) ?_
        refine JO_call [] [] [Ent.blk b11 37 (DataSet.enc (R14.fD ((R14.item (R14.lkF m) 0).getD [])) ++ [vI (R14.fN ((R14.item (R14.lkF m) 0).getD [])), Value.slice none 0 0]), Ent.mp vI b2 (m.map R14.mf), Ent.blk b1 37 [vI 0, vI 0, vI 0, vI 0, vI 0, vI 0, vI 0, vI 0, vI 0, vI 0, vI 0, vI 0, vI 0, vI 0, vB false, vI 0, vS [], vS [], vI 0, vI 0, vB false, vI 0, Value.slice none 0 0]] rfl trivial (fun _ => x_call Ty.ca47 rfl) (fun _ h => h) (fun _ h => by cases h) (fun w hS => keys_ok b2 w) ?_
        rintro _ _ ⟨p13, rfl, rfl⟩
        refine JO_call [b2, p13] [Ent.mp vI b2 (m.map R14.mf), Ent.blk p13 75 [Value.map (some b2)]] [Ent.blk b11 37 (DataSet.enc (R14.fD ((R14.item (R14.lkF m) 0).getD [])) ++ [vI (R14.fN ((R14.item (R14.lkF m) 0).getD [])), Value.slice none 0 0]), Ent.blk b1 37 [vI 0, vI 0, vI 0, vI 0, vI 0, vI 0, vI 0, vI 0, vI 0, vI 0, vI 0, vI 0, vI 0, vI 0, vB false, vI 0, vS [], vS [], vI 0, vI 0, vB false, vI 0, Value.slice none 0 0]] rfl trivial (fun _ => x_call Ty.ca46 rfl) (fun _ h => ((((h.front 3 _ rfl).front 2 _ rfl).front 2 _ rfl).front 3 _ rfl).keep [true, true, true, true] rfl) (own_mem rfl) (fun w hS => sorted_ok R14.mf b2 p13 m w (by exact hgood.1) (by exact fun x hx => ⟨(hgood.2 x hx).1, (hgood.2 x hx).2.1⟩) hy_ (hS.give (own_in rfl))) ?_
        rintro _ _ ⟨A14, c15, rfl, rfl⟩
        have ha16 := R14.keys_len m
        refine JO_read (vI (((srt (m.map fun x => (R14.mf x).1)).length : Nat) : Int)) rfl trivial (fun _ _ => x_len_sl Try.underlying72 rfl) ?_
        refine jr_ (vI 0) ?_
        refine JO_nil (JX_then (J_block ?_))
        refine J_loop (X := Nat × (List Pair) × (Option Addr) × Nat) (fun (⟨j, ps, psA, psC⟩ : Nat × (List Pair) × (Option Addr) × Nat) => (j ≤ (srt (m.map fun x => (R14.mf x).1)).length) ∧ (ps = ((srt (m.map fun x => (R14.mf x).1)).take j).flatMap (R14.stepP (R14.lkF m))) ∧ (ps.length ≤ j)) (fun (⟨j, ps, psA, psC⟩ : Nat × (List Pair) × (Option Addr) × Nat) => [(2, Value.pointer (some ⟨b1, 0, none⟩)), (3, vI 0), (4, vI 0), (5, Value.map (some b2)), (15, Value.pointer (some ⟨b11, 0, none⟩)), (16, vI (R14.fC ((R14.item (R14.lkF m) 0).getD []))), (75, Value.slice A14 ((srt (m.map fun x => (R14.mf x).1)).length) c15), (76, vI (((srt (m.map fun x => (R14.mf x).1)).length : Nat) : Int)), (77, vI ((j : Nat) : Int))]) (fun (⟨j, ps, psA, psC⟩ : Nat × (List Pair) × (Option Addr) × Nat) => [Ent.mp vI b2 (m.map R14.mf), Ent.row (.slice A14 (srt (m.map fun x => (R14.mf x).1)).length c15) 3 1 (srt (m.map fun x => (R14.mf x).1)).length ((srt (m.map fun x => (R14.mf x).1)).map vI), Ent.blk b11 37 (DataSet.enc (R14.fD ((R14.item (R14.lkF m) 0).getD [])) ++ [vI (R14.fN ((R14.item (R14.lkF m) 0).getD [])), Value.slice psA ps.length psC]), Ent.blk b1 37 [vI 0, vI 0, vI 0, vI 0, vI 0, vI 0, vI 0, vI 0, vI 0, vI 0, vI 0, vI 0, vI 0, vI 0, vB false, vI 0, vS [], vS [], vI 0, vI 0, vB false, vI 0, Value.slice none 0 0], Ent.row (.slice psA ps.length psC) 54 2 ps.length (ps.flatMap Pair.enc)]) (fun (⟨j, ps, psA, psC⟩ : Nat × (List Pair) × (Option Addr) × Nat) => (srt (m.map fun x => (R14.mf x).1)).length - j) ((0, ([] : List Pair), none, 0) : Nat × (List Pair) × (Option Addr) × Nat) ?_ ⟨rfl, rfl, rfl, rfl, rfl, rfl, rfl, rfl, rfl, trivial⟩ (fun _ h => (((((h.nilrow 54 2).front 5 _ rfl).front 5 _ rfl).front 5 _ rfl).front 4 _ rfl).keep [true, true, true, true, true, false] rfl) ?_
        · show (0 ≤ (srt (m.map fun x => (R14.mf x).1)).length) ∧ (([] : List Pair) = ((srt (m.map fun x => (R14.mf x).1)).take 0).flatMap (R14.stepP (R14.lkF m))) ∧ (([] : List Pair).length ≤ 0)
          refine ⟨?_, ?_, ?_⟩
          · first | rfl | omega | (simp_all; done) | (simp_all; omega)
          · rfl
          · exact Nat.le_refl _
        rintro ⟨j, ps, psA, psC⟩ hI2
        obtain ⟨i2_0, i2_1, i2_2⟩ : (j ≤ (srt (m.map fun x => (R14.mf x).1)).length) ∧ (ps = ((srt (m.map fun x => (R14.mf x).1)).take j).flatMap (R14.stepP (R14.lkF m))) ∧ (ps.length ≤ j) := hI2
        refine J_weaken (E' := [(2, Value.pointer (some ⟨b1, 0, none⟩)), (3, vI 0), (4, vI 0), (5, Value.map (some b2)), (15, Value.pointer (some ⟨b11, 0, none⟩)), (16, vI (R14.fC ((R14.item (R14.lkF m) 0).getD []))), (75, Value.slice A14 ((srt (m.map fun x => (R14.mf x).1)).length) c15), (76, vI (((srt (m.map fun x => (R14.mf x).1)).length : Nat) : Int)), (77, vI ((j : Nat) : Int))]) (L' := [Ent.mp vI b2 (m.map R14.mf), Ent.row (.slice A14 (srt (m.map fun x => (R14.mf x).1)).length c15) 3 1 (srt (m.map fun x => (R14.mf x).1)).length ((srt (m.map fun x => (R14.mf x).1)).map vI), Ent.blk b11 37 (DataSet.enc (R14.fD ((R14.item (R14.lkF m) 0).getD [])) ++ [vI (R14.fN ((R14.item (R14.lkF m) 0).getD [])), Value.slice psA ps.length psC]), Ent.blk b1 37 [vI 0, vI 0, vI 0, vI 0, vI 0, vI 0, vI 0, vI 0, vI 0, vI 0, vI 0, vI 0, vI 0, vI 0, vB false, vI 0, vS [], vS [], vI 0, vI 0, vB false, vI 0, Value.slice none 0 0], Ent.row (.slice psA ps.length psC) 54 2 ps.length (ps.flatMap Pair.enc)]) ⟨rfl, rfl, rfl, rfl, rfl, rfl, rfl, rfl, rfl, trivial⟩ (fun _ h => h) ?_
        refine J_seq (J_region ?_)
        refine JO_read (vB (decide (((j : Nat) : Int) < (((srt (m.map fun x => (R14.mf x).1)).length : Nat) : Int)))) rfl trivial (fun _ _ => x_lss_i rfl rfl) ?_
        refine JO_nil (JX_then (J_seq ?_))
        refine J_cond (decide (((j : Nat) : Int) < (((srt (m.map fun x => (R14.mf x).1)).length : Nat) : Int))) rfl rfl (fun h17 => ?_) (fun h17 => ?_)
        · have h17w := h17
          have h17 := of_decide_eq_true h17
          refine J_skip (JX_then (J_seq (J_block (J_seq (J_region ?_)))))
          refine JO_read (Value.pointer (some (adr A14 j))) rfl trivial (x_indexAddr_at (k := j) (off := j) (cells_row 1 rfl) Try.underlying72 Ty.sz3 rfl rfl lt_ (by rw [List.length_map]; first | omega | (simp; omega) | (simp_all; omega) | (simp_all; done)) (Nat.mul_one _)) ?_
          refine JO_read (vI ((srt (m.map fun x => (R14.mf x).1)).getD j 0)) rfl trivial (x_load_at (cells_row 1 rfl) rfl Ty.sc3 (map_at vI (srt (m.map fun x => (R14.mf x).1)) 0 lt_)) ?_
          refine jr_ (vI ((srt (m.map fun x => (R14.mf x).1)).getD j 0)) ?_
          refine JO_nil (JX_then (J_seq (J_region ?_)))
          refine jr_ (Value.map (some b2)) ?_
          refine jr_ (vI ((srt (m.map fun x => (R14.mf x).1)).getD j 0)) ?_
          refine JO_call [b2] [Ent.mp vI b2 (m.map R14.mf)] [Ent.row (.slice A14 (srt (m.map fun x => (R14.mf x).1)).length c15) 3 1 (srt (m.map fun x => (R14.mf x).1)).length ((srt (m.map fun x => (R14.mf x).1)).map vI), Ent.blk b11 37 (DataSet.enc (R14.fD ((R14.item (R14.lkF m) 0).getD [])) ++ [vI (R14.fN ((R14.item (R14.lkF m) 0).getD [])), Value.slice psA ps.length psC]), Ent.blk b1 37 [vI 0, vI 0, vI 0, vI 0, vI 0, vI 0, vI 0, vI 0, vI 0, vI 0, vI 0, vI 0, vI 0, vI 0, vB false, vI 0, vS [], vS [], vI 0, vI 0, vB false, vI 0, Value.slice none 0 0], Ent.row (.slice psA ps.length psC) 54 2 ps.length (ps.flatMap Pair.enc)] rfl trivial (fun _ => x_call Ty.ca44 rfl) (fun _ h => h) (own_mem rfl) (fun w hS => f44_ok b2 m ((srt (m.map fun x => (R14.mf x).1)).getD j 0) w hy_ (hS.give (own_in rfl))) ?_
          rintro _ _ ⟨rfl, rfl⟩
          refine jr_ (Value.tuple #[vS ((R14.item (R14.lkF m) ((srt (m.map fun x => (R14.mf x).1)).getD j 0)).getD []), vB ((R14.item (R14.lkF m) ((srt (m.map fun x => (R14.mf x).1)).getD j 0)).isSome)]) ?_
          refine jr_ (vS ((R14.item (R14.lkF m) ((srt (m.map fun x => (R14.mf x).1)).getD j 0)).getD [])) ?_
          refine jr_ (vB ((R14.item (R14.lkF m) ((srt (m.map fun x => (R14.mf x).1)).getD j 0)).isSome)) ?_
          refine jr_ (vS ((R14.item (R14.lkF m) ((srt (m.map fun x => (R14.mf x).1)).getD j 0)).getD [])) ?_
          refine jr_ (vB ((R14.item (R14.lkF m) ((srt (m.map fun x => (R14.mf x).1)).getD j 0)).isSome)) ?_
          refine JO_nil (JX_then (J_seq (J_seq (J_region ?_))))
          refine jr_ (vI ((srt (m.map fun x => (R14.mf x).1)).getD j 0)) ?_
          refine JO_read (vB (decide (((srt (m.map fun x => (R14.mf x).1)).getD j 0) = 0))) rfl trivial (fun _ _ => x_eql_i rfl rfl) ?_
          refine jr_ (vB (decide (((srt (m.map fun x => (R14.mf x).1)).getD j 0) = 0))) ?_
          refine JO_cut (X := Bool) 3 (fun z => z = ((decide (((srt (m.map fun x => (R14.mf x).1)).getD j 0) = 0)) || (!((R14.item (R14.lkF m) ((srt (m.map fun x => (R14.mf x).1)).getD j 0)).isSome)))) (fun z => [(2, Value.pointer (some ⟨b1, 0, none⟩)), (3, vI 0), (4, vI 0), (5, Value.map (some b2)), (15, Value.pointer (some ⟨b11, 0, none⟩)), (16, vI (R14.fC ((R14.item (R14.lkF m) 0).getD []))), (75, Value.slice A14 ((srt (m.map fun x => (R14.mf x).1)).length) c15), (76, vI (((srt (m.map fun x => (R14.mf x).1)).length : Nat) : Int)), (77, vI ((j : Nat) : Int)), (19, vS ((R14.item (R14.lkF m) ((srt (m.map fun x => (R14.mf x).1)).getD j 0)).getD [])), (92, vB z)]) (fun _ => [Ent.mp vI b2 (m.map R14.mf), Ent.row (.slice A14 (srt (m.map fun x => (R14.mf x).1)).length c15) 3 1 (srt (m.map fun x => (R14.mf x).1)).length ((srt (m.map fun x => (R14.mf x).1)).map vI), Ent.blk b11 37 (DataSet.enc (R14.fD ((R14.item (R14.lkF m) 0).getD [])) ++ [vI (R14.fN ((R14.item (R14.lkF m) 0).getD [])), Value.slice psA ps.length psC]), Ent.blk b1 37 [vI 0, vI 0, vI 0, vI 0, vI 0, vI 0, vI 0, vI 0, vI 0, vI 0, vI 0, vI 0, vI 0, vI 0, vB false, vI 0, vS [], vS [], vI 0, vI 0, vB false, vI 0, Value.slice none 0 0], Ent.row (.slice psA ps.length psC) 54 2 ps.length (ps.flatMap Pair.enc)]) ?_ ?_
          · rcases Bool.eq_false_or_eq_true (decide (((srt (m.map fun x => (R14.mf x).1)).getD j 0) = 0)) with g19 | g19
            · have g19r := g19
              have g19r := of_decide_eq_true g19r
              refine JO_shun rfl ⟨_, rfl, g19⟩ ?_
              refine JO_shun rfl ⟨_, rfl, g19⟩ ?_
              refine JO_read (vB true) rfl trivial (fun _ _ => x_pick_t rfl g19 rfl) ?_
              refine JO_nil (JX_cut (true) (by rw [g19]; simp) ⟨rfl, rfl, rfl, rfl, rfl, rfl, rfl, rfl, rfl, rfl, rfl, trivial⟩ (fun _ h => h))
            · have g19r := g19
              have g19r := of_decide_eq_false g19r
              refine JO_read (vB ((R14.item (R14.lkF m) ((srt (m.map fun x => (R14.mf x).1)).getD j 0)).isSome)) rfl ⟨_, rfl, g19⟩ (fun _ _ => rfl) ?_
              refine JO_read (vB (!((R14.item (R14.lkF m) ((srt (m.map fun x => (R14.mf x).1)).getD j 0)).isSome))) rfl ⟨_, rfl, g19⟩ (fun _ _ => x_not rfl) ?_
              refine JO_read (vB (!((R14.item (R14.lkF m) ((srt (m.map fun x => (R14.mf x).1)).getD j 0)).isSome))) rfl trivial (fun _ _ => x_pick_f rfl g19 rfl) ?_
              refine JO_nil (JX_cut (!((R14.item (R14.lkF m) ((srt (m.map fun x => (R14.mf x).1)).getD j 0)).isSome)) (by rw [g19]; simp) ⟨rfl, rfl, rfl, rfl, rfl, rfl, rfl, rfl, rfl, rfl, rfl, trivial⟩ (fun _ h => h))
          rintro z18 rfl
          refine JO_nil (JX_then ?_)
          refine J_cond ((decide (((srt (m.map fun x => (R14.mf x).1)).getD j 0) = 0)) || (!((R14.item (R14.lkF m) ((srt (m.map fun x => (R14.mf x).1)).getD j 0)).isSome))) rfl rfl (fun h20 => ?_) (fun h20 => ?_)
          · have h20w := h20
            simp only [Bool.and_eq_true, Bool.or_eq_true, Bool.and_eq_false_iff, Bool.or_eq_false_iff, Bool.not_eq_true', Bool.not_eq_false', decide_eq_true_eq, decide_eq_false_iff_not] at h20
            refine J_exit (JX_then_exit (JX_block_hit (JX_then (J_region ?_))))
            refine JO_read (vI ((j + 1 : Nat) : Int)) rfl trivial (fun _ _ => x_add_n (a := j) (b := 1) rfl rfl (by omega)) ?_
            refine jr_ (vI ((j + 1 : Nat) : Int)) ?_
            refine JO_nil ?_
            refine JX_round ((j + 1, ps, psA, psC) : Nat × (List Pair) × (Option Addr) × Nat) ?_ ?_ ⟨rfl, rfl, rfl, rfl, rfl, rfl, rfl, rfl, rfl, trivial⟩ (fun _ h => h)
            · show ((j + 1) ≤ (srt (m.map fun x => (R14.mf x).1)).length) ∧ (ps = ((srt (m.map fun x => (R14.mf x).1)).take (j + 1)).flatMap (R14.stepP (R14.lkF m))) ∧ (ps.length ≤ (j + 1))
              refine ⟨?_, ?_, ?_⟩
              · first | rfl | omega | (simp_all; done) | (simp_all; omega)
              · first | exact R14.pairs_skip (by omega) i2_1 (R14.stepP_zero (by assumption)) | exact R14.pairs_skip (by omega) i2_1 (R14.stepP_bad (by assumption) (by assumption)) | exact R14.pairs_add (by omega) i2_1 (R14.stepP_ok (by assumption) (by assumption))
              · first | omega | (rw [List.length_append]; simp only [List.length_cons, List.length_nil]; omega)
            · show (srt (m.map fun x => (R14.mf x).1)).length - (j + 1) < (srt (m.map fun x => (R14.mf x).1)).length - j
              first | omega | (simp; omega) | (simp_all; omega)
          · have h20w := h20
            have ⟨h20, h21⟩ := bor_false h20
            have h20 := of_decide_eq_false h20
            have h21 : ((R14.item (R14.lkF m) ((srt (m.map fun x => (R14.mf x).1)).getD j 0)).isSome) = true := bnot_false h21
            refine J_skip (JX_then (J_seq (J_region ?_)))
            refine jr_ (vS ((R14.item (R14.lkF m) ((srt (m.map fun x => (R14.mf x).1)).getD j 0)).getD [])) ?_
            refine JO_call [] [] [Ent.mp vI b2 (m.map R14.mf), Ent.row (.slice A14 (srt (m.map fun x => (R14.mf x).1)).length c15) 3 1 (srt (m.map fun x => (R14.mf x).1)).length ((srt (m.map fun x => (R14.mf x).1)).map vI), Ent.blk b11 37 (DataSet.enc (R14.fD ((R14.item (R14.lkF m) 0).getD [])) ++ [vI (R14.fN ((R14.item (R14.lkF m) 0).getD [])), Value.slice psA ps.length psC]), Ent.blk b1 37 [vI 0, vI 0, vI 0, vI 0, vI 0, vI 0, vI 0, vI 0, vI 0, vI 0, vI 0, vI 0, vI 0, vI 0, vB false, vI 0, vS [], vS [], vI 0, vI 0, vB false, vI 0, Value.slice none 0 0], Ent.row (.slice psA ps.length psC) 54 2 ps.length (ps.flatMap Pair.enc)] rfl trivial (fun _ => x_call Ty.ca48 rfl) (fun _ h => h) (fun _ h => by cases h) (fun w hS => f48_ok ((R14.item (R14.lkF m) ((srt (m.map fun x => (R14.mf x).1)).getD j 0)).getD []) w) ?_
            rintro _ _ ⟨p22, rfl, rfl⟩
            refine jr_ (Value.pointer (some ⟨p22, 0, none⟩)) ?_
            refine JO_nil (JX_then (J_seq (J_region ?_)))
            refine jr_ (Value.pointer (some ⟨p22, 0, none⟩)) ?_
            refine JO_call [p22] [Ent.blk p22 113 [vS ((Reader.mk ((R14.item (R14.lkF m) ((srt (m.map fun x => (R14.mf x).1)).getD j 0)).getD []) 0).left), vI ((Reader.mk ((R14.item (R14.lkF m) ((srt (m.map fun x => (R14.mf x).1)).getD j 0)).getD []) 0).err)]] [Ent.mp vI b2 (m.map R14.mf), Ent.row (.slice A14 (srt (m.map fun x => (R14.mf x).1)).length c15) 3 1 (srt (m.map fun x => (R14.mf x).1)).length ((srt (m.map fun x => (R14.mf x).1)).map vI), Ent.blk b11 37 (DataSet.enc (R14.fD ((R14.item (R14.lkF m) 0).getD [])) ++ [vI (R14.fN ((R14.item (R14.lkF m) 0).getD [])), Value.slice psA ps.length psC]), Ent.blk b1 37 [vI 0, vI 0, vI 0, vI 0, vI 0, vI 0, vI 0, vI 0, vI 0, vI 0, vI 0, vI 0, vI 0, vI 0, vB false, vI 0, vS [], vS [], vI 0, vI 0, vB false, vI 0, Value.slice none 0 0], Ent.row (.slice psA ps.length psC) 54 2 ps.length (ps.flatMap Pair.enc)] rfl trivial (fun _ => x_call Ty.ca49 rfl) (fun _ h => h) (own_mem rfl) (fun w hS => f49_ok p22 32 (Reader.mk ((R14.item (R14.lkF m) ((srt (m.map fun x => (R14.mf x).1)).getD j 0)).getD []) 0) w hy_ hy_ (hS.give (own_in rfl))) ?_
            rintro _ _ ⟨rfl, rfl⟩
            have ha23 := Rd.rtext_len (Reader.mk ((R14.item (R14.lkF m) ((srt (m.map fun x => (R14.mf x).1)).getD j 0)).getD []) 0) 32 (by omega)
            try simp only [List.length_cons, List.length_nil, Nat.zero_add, Nat.reduceAdd, Nat.reduceMul] at ha23
            refine jr_ (Value.pointer (some ⟨p22, 0, none⟩)) ?_
            refine JO_call [p22] [Ent.blk p22 113 [vS (((Rd.rtext (Reader.mk ((R14.item (R14.lkF m) ((srt (m.map fun x => (R14.mf x).1)).getD j 0)).getD []) 0) 32).2).left), vI (((Rd.rtext (Reader.mk ((R14.item (R14.lkF m) ((srt (m.map fun x => (R14.mf x).1)).getD j 0)).getD []) 0) 32).2).err)]] [Ent.mp vI b2 (m.map R14.mf), Ent.row (.slice A14 (srt (m.map fun x => (R14.mf x).1)).length c15) 3 1 (srt (m.map fun x => (R14.mf x).1)).length ((srt (m.map fun x => (R14.mf x).1)).map vI), Ent.blk b11 37 (DataSet.enc (R14.fD ((R14.item (R14.lkF m) 0).getD [])) ++ [vI (R14.fN ((R14.item (R14.lkF m) 0).getD [])), Value.slice psA ps.length psC]), Ent.blk b1 37 [vI 0, vI 0, vI 0, vI 0, vI 0, vI 0, vI 0, vI 0, vI 0, vI 0, vI 0, vI 0, vI 0, vI 0, vB false, vI 0, vS [], vS [], vI 0, vI 0, vB false, vI 0, Value.slice none 0 0], Ent.row (.slice psA ps.length psC) 54 2 ps.length (ps.flatMap Pair.enc)] rfl trivial (fun _ => x_call Ty.ca49 rfl) (fun _ h => h) (own_mem rfl) (fun w hS => f49_ok p22 1000 ((Rd.rtext (Reader.mk ((R14.item (R14.lkF m) ((srt (m.map fun x => (R14.mf x).1)).getD j 0)).getD []) 0) 32).2) w hy_ hy_ (hS.give (own_in rfl))) ?_
            rintro _ _ ⟨rfl, rfl⟩
            have ha24 := Rd.rtext_len ((Rd.rtext (Reader.mk ((R14.item (R14.lkF m) ((srt (m.map fun x => (R14.mf x).1)).getD j 0)).getD []) 0) 32).2) 1000 (by omega)
            try simp only [List.length_cons, List.length_nil, Nat.zero_add, Nat.reduceAdd, Nat.reduceMul] at ha24
            refine JO_read (Value.agg #[vS ((Rd.rtext (Reader.mk ((R14.item (R14.lkF m) ((srt (m.map fun x => (R14.mf x).1)).getD j 0)).getD []) 0) 32).1), vS ((Rd.rtext ((Rd.rtext (Reader.mk ((R14.item (R14.lkF m) ((srt (m.map fun x => (R14.mf x).1)).getD j 0)).getD []) 0) 32).2) 1000).1)]) rfl trivial (fun _ _ => x_build (by kernel_rfl)) ?_
            refine JO_op rfl trivial (O_alloc Ty.ze54 rfl fun b25 => ?_)
            refine JO_op rfl trivial (O_store 0 [vS ((Rd.rtext (Reader.mk ((R14.item (R14.lkF m) ((srt (m.map fun x => (R14.mf x).1)).getD j 0)).getD []) 0) 32).1), vS ((Rd.rtext ((Rd.rtext (Reader.mk ((R14.item (R14.lkF m) ((srt (m.map fun x => (R14.mf x).1)).getD j 0)).getD []) 0) 32).2) 1000).1)] [Ent.blk b25 54 [vS ((Rd.rtext (Reader.mk ((R14.item (R14.lkF m) ((srt (m.map fun x => (R14.mf x).1)).getD j 0)).getD []) 0) 32).1), vS ((Rd.rtext ((Rd.rtext (Reader.mk ((R14.item (R14.lkF m) ((srt (m.map fun x => (R14.mf x).1)).getD j 0)).getD []) 0) 32).2) 1000).1)], Ent.blk p22 113 [vS (((Rd.rtext ((Rd.rtext (Reader.mk ((R14.item (R14.lkF m) ((srt (m.map fun x => (R14.mf x).1)).getD j 0)).getD []) 0) 32).2) 1000).2).left), vI (((Rd.rtext ((Rd.rtext (Reader.mk ((R14.item (R14.lkF m) ((srt (m.map fun x => (R14.mf x).1)).getD j 0)).getD []) 0) 32).2) 1000).2).err)], Ent.mp vI b2 (m.map R14.mf), Ent.row (.slice A14 (srt (m.map fun x => (R14.mf x).1)).length c15) 3 1 (srt (m.map fun x => (R14.mf x).1)).length ((srt (m.map fun x => (R14.mf x).1)).map vI), Ent.blk b11 37 (DataSet.enc (R14.fD ((R14.item (R14.lkF m) 0).getD [])) ++ [vI (R14.fN ((R14.item (R14.lkF m) 0).getD [])), Value.slice psA ps.length psC]), Ent.blk b1 37 [vI 0, vI 0, vI 0, vI 0, vI 0, vI 0, vI 0, vI 0, vI 0, vI 0, vI 0, vI 0, vI 0, vI 0, vB false, vI 0, vS [], vS [], vI 0, vI 0, vB false, vI 0, Value.slice none 0 0], Ent.row (.slice psA ps.length psC) 54 2 ps.length (ps.flatMap Pair.enc)] rfl rfl rfl Ty.sz54 rfl (Nat.le_of_ble_eq_true rfl) rfl rfl rfl ?_)
            refine JO_nil (JX_then (J_seq (J_region ?_)))
            refine jr_ (Value.pointer (some ⟨p22, 0, none⟩)) ?_
            refine JO_call [p22] [Ent.blk p22 113 [vS (((Rd.rtext ((Rd.rtext (Reader.mk ((R14.item (R14.lkF m) ((srt (m.map fun x => (R14.mf x).1)).getD j 0)).getD []) 0) 32).2) 1000).2).left), vI (((Rd.rtext ((Rd.rtext (Reader.mk ((R14.item (R14.lkF m) ((srt (m.map fun x => (R14.mf x).1)).getD j 0)).getD []) 0) 32).2) 1000).2).err)]] [Ent.blk b25 54 [vS ((Rd.rtext (Reader.mk ((R14.item (R14.lkF m) ((srt (m.map fun x => (R14.mf x).1)).getD j 0)).getD []) 0) 32).1), vS ((Rd.rtext ((Rd.rtext (Reader.mk ((R14.item (R14.lkF m) ((srt (m.map fun x => (R14.mf x).1)).getD j 0)).getD []) 0) 32).2) 1000).1)], Ent.mp vI b2 (m.map R14.mf), Ent.row (.slice A14 (srt (m.map fun x => (R14.mf x).1)).length c15) 3 1 (srt (m.map fun x => (R14.mf x).1)).length ((srt (m.map fun x => (R14.mf x).1)).map vI), Ent.blk b11 37 (DataSet.enc (R14.fD ((R14.item (R14.lkF m) 0).getD [])) ++ [vI (R14.fN ((R14.item (R14.lkF m) 0).getD [])), Value.slice psA ps.length psC]), Ent.blk b1 37 [vI 0, vI 0, vI 0, vI 0, vI 0, vI 0, vI 0, vI 0, vI 0, vI 0, vI 0, vI 0, vI 0, vI 0, vB false, vI 0, vS [], vS [], vI 0, vI 0, vB false, vI 0, Value.slice none 0 0], Ent.row (.slice psA ps.length psC) 54 2 ps.length (ps.flatMap Pair.enc)] rfl trivial (fun _ => x_call Ty.ca50 rfl) (fun _ h => (((((((h.front 6 _ rfl).front 6 _ rfl).front 6 _ rfl).front 6 _ rfl).front 6 _ rfl).front 5 _ rfl).front 6 _ rfl).keep [true, true, true, true, true, true, true] rfl) (own_mem rfl) (fun w hS => f50_ok p22 ((Rd.rtext ((Rd.rtext (Reader.mk ((R14.item (R14.lkF m) ((srt (m.map fun x => (R14.mf x).1)).getD j 0)).getD []) 0) 32).2) 1000).2) w  (hS.give (own_in rfl))) ?_
            rintro _ _ ⟨rfl, rfl⟩
            refine JO_read (vB (decide (Rd.fin ((Rd.rtext ((Rd.rtext (Reader.mk ((R14.item (R14.lkF m) ((srt (m.map fun x => (R14.mf x).1)).getD j 0)).getD []) 0) 32).2) 1000).2) = 0))) rfl trivial (fun _ _ => x_eql_i rfl rfl) ?_
            refine JO_nil (JX_then ?_)
            refine J_cond (decide (Rd.fin ((Rd.rtext ((Rd.rtext (Reader.mk ((R14.item (R14.lkF m) ((srt (m.map fun x => (R14.mf x).1)).getD j 0)).getD []) 0) 32).2) 1000).2) = 0)) rfl rfl (fun h26 => ?_) (fun h26 => ?_)
            · have h26w := h26
              have h26 := of_decide_eq_true h26
              refine J_region ?_
              refine JO_read (Value.pointer (some ⟨b11, 22, none⟩)) rfl trivial (fun _ _ => x_fieldAddr Ty.fi37_2 rfl rfl) ?_
              refine JO_read (Value.slice psA ps.length psC) rfl trivial (x_load 4 rfl rfl Ty.sc35 rfl) ?_
              refine JO_read (Value.agg #[vS ((Rd.rtext (Reader.mk ((R14.item (R14.lkF m) ((srt (m.map fun x => (R14.mf x).1)).getD j 0)).getD []) 0) 32).1), vS ((Rd.rtext ((Rd.rtext (Reader.mk ((R14.item (R14.lkF m) ((srt (m.map fun x => (R14.mf x).1)).getD j 0)).getD []) 0) 32).2) 1000).1)]) rfl trivial (x_loadN 1 [vS ((Rd.rtext (Reader.mk ((R14.item (R14.lkF m) ((srt (m.map fun x => (R14.mf x).1)).getD j 0)).getD []) 0) 32).1), vS ((Rd.rtext ((Rd.rtext (Reader.mk ((R14.item (R14.lkF m) ((srt (m.map fun x => (R14.mf x).1)).getD j 0)).getD []) 0) 32).2) 1000).1)] rfl rfl Ty.ag54 Ty.sz54 rfl) ?_
              refine JO_op rfl trivial (O_buildSlice (cs := [vS ((Rd.rtext (Reader.mk ((R14.item (R14.lkF m) ((srt (m.map fun x => (R14.mf x).1)).getD j 0)).getD []) 0) 32).1), vS ((Rd.rtext ((Rd.rtext (Reader.mk ((R14.item (R14.lkF m) ((srt (m.map fun x => (R14.mf x).1)).getD j 0)).getD []) 0) 32).2) 1000).1)]) Try.underlying35 Ty.sz54 Ty.ze54 (by decide) (by decide) (by kernel_rfl) fun b27 => ?_)
              refine JO_op rfl trivial (O_append_f 7 Pair.enc 2 ps [(Pair.mk ((Rd.rtext (Reader.mk ((R14.item (R14.lkF m) ((srt (m.map fun x => (R14.mf x).1)).getD j 0)).getD []) 0) 32).1) ((Rd.rtext ((Rd.rtext (Reader.mk ((R14.item (R14.lkF m) ((srt (m.map fun x => (R14.mf x).1)).getD j 0)).getD []) 0) 32).2) 1000).1))] Try.underlying35 Ty.sz54 Ty.by54 Ty.ze54 rfl (by decide) rfl rfl rfl rfl Pair.enc_len Pair.enc_one (cells_blk 0 (off := 0) (m := 2) rfl rfl) lt_ lt_ fun A28 c29 => ?_)
              refine JO_read (Value.pointer (some ⟨b11, 22, none⟩)) rfl trivial (fun _ _ => x_fieldAddr Ty.fi37_2 rfl rfl) ?_
              refine JO_op rfl trivial (O_store 5 (DataSet.enc (R14.fD ((R14.item (R14.lkF m) 0).getD [])) ++ [vI (R14.fN ((R14.item (R14.lkF m) 0).getD [])), Value.slice A28 ((ps ++ [(Pair.mk ((Rd.rtext (Reader.mk ((R14.item (R14.lkF m) ((srt (m.map fun x => (R14.mf x).1)).getD j 0)).getD []) 0) 32).1) ((Rd.rtext ((Rd.rtext (Reader.mk ((R14.item (R14.lkF m) ((srt (m.map fun x => (R14.mf x).1)).getD j 0)).getD []) 0) 32).2) 1000).1))]).length) c29]) [Ent.blk b27 54 [vS ((Rd.rtext (Reader.mk ((R14.item (R14.lkF m) ((srt (m.map fun x => (R14.mf x).1)).getD j 0)).getD []) 0) 32).1), vS ((Rd.rtext ((Rd.rtext (Reader.mk ((R14.item (R14.lkF m) ((srt (m.map fun x => (R14.mf x).1)).getD j 0)).getD []) 0) 32).2) 1000).1)], Ent.blk p22 113 [vS (((Rd.rtext ((Rd.rtext (Reader.mk ((R14.item (R14.lkF m) ((srt (m.map fun x => (R14.mf x).1)).getD j 0)).getD []) 0) 32).2) 1000).2).left), vI (((Rd.rtext ((Rd.rtext (Reader.mk ((R14.item (R14.lkF m) ((srt (m.map fun x => (R14.mf x).1)).getD j 0)).getD []) 0) 32).2) 1000).2).err)], Ent.blk b25 54 [vS ((Rd.rtext (Reader.mk ((R14.item (R14.lkF m) ((srt (m.map fun x => (R14.mf x).1)).getD j 0)).getD []) 0) 32).1), vS ((Rd.rtext ((Rd.rtext (Reader.mk ((R14.item (R14.lkF m) ((srt (m.map fun x => (R14.mf x).1)).getD j 0)).getD []) 0) 32).2) 1000).1)], Ent.mp vI b2 (m.map R14.mf), Ent.row (.slice A14 (srt (m.map fun x => (R14.mf x).1)).length c15) 3 1 (srt (m.map fun x => (R14.mf x).1)).length ((srt (m.map fun x => (R14.mf x).1)).map vI), Ent.blk b11 37 (DataSet.enc (R14.fD ((R14.item (R14.lkF m) 0).getD [])) ++ [vI (R14.fN ((R14.item (R14.lkF m) 0).getD [])), Value.slice A28 ((ps ++ [(Pair.mk ((Rd.rtext (Reader.mk ((R14.item (R14.lkF m) ((srt (m.map fun x => (R14.mf x).1)).getD j 0)).getD []) 0) 32).1) ((Rd.rtext ((Rd.rtext (Reader.mk ((R14.item (R14.lkF m) ((srt (m.map fun x => (R14.mf x).1)).getD j 0)).getD []) 0) 32).2) 1000).1))]).length) c29]), Ent.blk b1 37 [vI 0, vI 0, vI 0, vI 0, vI 0, vI 0, vI 0, vI 0, vI 0, vI 0, vI 0, vI 0, vI 0, vI 0, vB false, vI 0, vS [], vS [], vI 0, vI 0, vB false, vI 0, Value.slice none 0 0], Ent.row (.slice A28 (ps ++ [(Pair.mk ((Rd.rtext (Reader.mk ((R14.item (R14.lkF m) ((srt (m.map fun x => (R14.mf x).1)).getD j 0)).getD []) 0) 32).1) ((Rd.rtext ((Rd.rtext (Reader.mk ((R14.item (R14.lkF m) ((srt (m.map fun x => (R14.mf x).1)).getD j 0)).getD []) 0) 32).2) 1000).1))]).length c29) 54 2 (ps ++ [(Pair.mk ((Rd.rtext (Reader.mk ((R14.item (R14.lkF m) ((srt (m.map fun x => (R14.mf x).1)).getD j 0)).getD []) 0) 32).1) ((Rd.rtext ((Rd.rtext (Reader.mk ((R14.item (R14.lkF m) ((srt (m.map fun x => (R14.mf x).1)).getD j 0)).getD []) 0) 32).2) 1000).1))]).length ((ps ++ [(Pair.mk ((Rd.rtext (Reader.mk ((R14.item (R14.lkF m) ((srt (m.map fun x => (R14.mf x).1)).getD j 0)).getD []) 0) 32).1) ((Rd.rtext ((Rd.rtext (Reader.mk ((R14.item (R14.lkF m) ((srt (m.map fun x => (R14.mf x).1)).getD j 0)).getD []) 0) 32).2) 1000).1))]).flatMap Pair.enc)] rfl rfl rfl Ty.sz35 rfl (Nat.le_of_ble_eq_true rfl) rfl rfl rfl ?_)
              refine JO_nil (JX_block (JX_then (J_region ?_)))
              refine JO_read (vI ((j + 1 : Nat) : Int)) rfl trivial (fun _ _ => x_add_n (a := j) (b := 1) rfl rfl (by omega)) ?_
              refine jr_ (vI ((j + 1 : Nat) : Int)) ?_
              refine JO_nil ?_
              refine JX_round ((j + 1, ps ++ [(Pair.mk ((Rd.rtext (Reader.mk ((R14.item (R14.lkF m) ((srt (m.map fun x => (R14.mf x).1)).getD j 0)).getD []) 0) 32).1) ((Rd.rtext ((Rd.rtext (Reader.mk ((R14.item (R14.lkF m) ((srt (m.map fun x => (R14.mf x).1)).getD j 0)).getD []) 0) 32).2) 1000).1))], A28, c29) : Nat × (List Pair) × (Option Addr) × Nat) ?_ ?_ ⟨rfl, rfl, rfl, rfl, rfl, rfl, rfl, rfl, rfl, trivial⟩ (fun _ h => h.keep [false, false, false, true, true, true, true, true] rfl)
              · show ((j + 1) ≤ (srt (m.map fun x => (R14.mf x).1)).length) ∧ ((ps ++ [(Pair.mk ((Rd.rtext (Reader.mk ((R14.item (R14.lkF m) ((srt (m.map fun x => (R14.mf x).1)).getD j 0)).getD []) 0) 32).1) ((Rd.rtext ((Rd.rtext (Reader.mk ((R14.item (R14.lkF m) ((srt (m.map fun x => (R14.mf x).1)).getD j 0)).getD []) 0) 32).2) 1000).1))]) = ((srt (m.map fun x => (R14.mf x).1)).take (j + 1)).flatMap (R14.stepP (R14.lkF m))) ∧ ((ps ++ [(Pair.mk ((Rd.rtext (Reader.mk ((R14.item (R14.lkF m) ((srt (m.map fun x => (R14.mf x).1)).getD j 0)).getD []) 0) 32).1) ((Rd.rtext ((Rd.rtext (Reader.mk ((R14.item (R14.lkF m) ((srt (m.map fun x => (R14.mf x).1)).getD j 0)).getD []) 0) 32).2) 1000).1))]).length ≤ (j + 1))
                refine ⟨?_, ?_, ?_⟩
                · first | rfl | omega | (simp_all; done) | (simp_all; omega)
                · first | exact R14.pairs_skip (by omega) i2_1 (R14.stepP_zero (by assumption)) | exact R14.pairs_skip (by omega) i2_1 (R14.stepP_bad (by assumption) (by assumption)) | exact R14.pairs_add (by omega) i2_1 (R14.stepP_ok (by assumption) (by assumption))
                · first | omega | (rw [List.length_append]; simp only [List.length_cons, List.length_nil]; omega)
              · show (srt (m.map fun x => (R14.mf x).1)).length - (j + 1) < (srt (m.map fun x => (R14.mf x).1)).length - j
                first | omega | (simp; omega) | (simp_all; omega)
            · have h26w := h26
              have h26 := of_decide_eq_false h26
              refine J_skip (JX_block (JX_then (J_region ?_)))
              refine JO_read (vI ((j + 1 : Nat) : Int)) rfl trivial (fun _ _ => x_add_n (a := j) (b := 1) rfl rfl (by omega)) ?_
              refine jr_ (vI ((j + 1 : Nat) : Int)) ?_
              refine JO_nil ?_
              refine JX_round ((j + 1, ps, psA, psC) : Nat × (List Pair) × (Option Addr) × Nat) ?_ ?_ ⟨rfl, rfl, rfl, rfl, rfl, rfl, rfl, rfl, rfl, trivial⟩ (fun _ h => h.keep [false, false, true, true, true, true, true] rfl)
              · show ((j + 1) ≤ (srt (m.map fun x => (R14.mf x).1)).length) ∧ (ps = ((srt (m.map fun x => (R14.mf x).1)).take (j + 1)).flatMap (R14.stepP (R14.lkF m))) ∧ (ps.length ≤ (j + 1))
                refine ⟨?_, ?_, ?_⟩
                · first | rfl | omega | (simp_all; done) | (simp_all; omega)
                · first | exact R14.pairs_skip (by omega) i2_1 (R14.stepP_zero (by assumption)) | exact R14.pairs_skip (by omega) i2_1 (R14.stepP_bad (by assumption) (by assumption)) | exact R14.pairs_add (by omega) i2_1 (R14.stepP_ok (by assumption) (by assumption))
                · first | omega | (rw [List.length_append]; simp only [List.length_cons, List.length_nil]; omega)
              · show (srt (m.map fun x => (R14.mf x).1)).length - (j + 1) < (srt (m.map fun x => (R14.mf x).1)).length - j
                first | omega | (simp; omega) | (simp_all; omega)
        · have h17w := h17
          have h17 := of_decide_eq_false h17
          refine J_exit (JX_then_exit (JX_round_exit (JX_block_hit (JX_then (J_seq ?_)))))
          refine J_draw [Ent.mp vI b2 (m.map R14.mf), Ent.row (.slice A14 (srt (m.map fun x => (R14.mf x).1)).length c15) 3 1 (srt (m.map fun x => (R14.mf x).1)).length ((srt (m.map fun x => (R14.mf x).1)).map vI), Ent.blk b11 37 (DataSet.enc (R14.fD ((R14.item (R14.lkF m) 0).getD [])) ++ [vI (R14.fN ((R14.item (R14.lkF m) 0).getD [])), Value.slice psA ps.length psC]), Ent.row (.slice psA ps.length psC) 54 2 ps.length (ps.flatMap Pair.enc)] [7] [Ent.mp vI b2 (m.map R14.mf), Ent.row (.slice A14 (srt (m.map fun x => (R14.mf x).1)).length c15) 3 1 (srt (m.map fun x => (R14.mf x).1)).length ((srt (m.map fun x => (R14.mf x).1)).map vI), Ent.blk b11 37 (DataSet.enc (R14.fD ((R14.item (R14.lkF m) 0).getD [])) ++ [vI (R14.fN ((R14.item (R14.lkF m) 0).getD [])), Value.slice psA ps.length psC]), Ent.blk b1 37 [vI 0, vI 0, vI 0, vI 0, vI 0, vI 0, vI 0, vI 0, vI 0, vI 0, vI 0, vI 0, vI 0, vI 0, vB false, vI 0, vS [], vS [], vI 0, vI 0, vB false, vI 0, Value.slice none 0 0], Ent.row (.slice psA ps.length psC) 54 2 ps.length (ps.flatMap Pair.enc)] 10 Ty.mixed rfl ?_
          refine jt_ 0 (Value.agg ((DataSet.enc (R14.fD ((R14.item (R14.lkF m) 0).getD [])) ++ [vI (R14.fN ((R14.item (R14.lkF m) 0).getD [])), Value.slice psA ps.length psC])).toArray) rfl (x_loadN 2 (DataSet.enc (R14.fD ((R14.item (R14.lkF m) 0).getD [])) ++ [vI (R14.fN ((R14.item (R14.lkF m) 0).getD [])), Value.slice psA ps.length psC]) rfl rfl Ty.ag37 Ty.sz37 rfl) ?_
          refine jt_ 1 (vI (R14.fC ((R14.item (R14.lkF m) 0).getD []))) rfl (fun _ _ => rfl) ?_
          refine jt_ 2 (Value.pointer (some ⟨b11, 22, none⟩)) rfl (fun _ _ => x_fieldAddr Ty.fi37_2 rfl rfl) ?_
          refine jt_ 3 (Value.slice psA ps.length psC) rfl (x_load 2 rfl rfl Ty.sc35 rfl) ?_
          refine jt_ 4 (vI ((ps.length : Nat) : Int)) rfl (fun _ _ => x_len_sl Try.underlying35 rfl) ?_
          refine jt_ 5 (vI ((R14.fC ((R14.item (R14.lkF m) 0).getD [])) - ((ps.length : Nat) : Int))) rfl (fun _ _ => x_sub_i (a := (R14.fC ((R14.item (R14.lkF m) 0).getD []))) (b := ((ps.length : Nat) : Int)) rfl rfl (by omega) (by omega)) ?_
          refine jt_ 6 (vI (max 0 ((R14.fC ((R14.item (R14.lkF m) 0).getD [])) - ((ps.length : Nat) : Int)))) rfl (fun _ _ => x_max_i (a := 0) (b := (R14.fC ((R14.item (R14.lkF m) 0).getD [])) - ((ps.length : Nat) : Int)) rfl rfl) ?_
          refine JA_one 7 (by kernel_rfl) (fun _ h => ⟨h.keep [true, true, true, false, true] rfl, fun _ => h⟩) ?_
          refine JI_op rfl rfl trivial (O_storeS (vs := (DataSet.enc (R14.fD ((R14.item (R14.lkF m) 0).getD [])) ++ [vI (R14.fN ((R14.item (R14.lkF m) 0).getD [])), Value.slice psA ps.length psC])) 3 (DataSet.enc (R14.fD ((R14.item (R14.lkF m) 0).getD [])) ++ [vI (R14.fN ((R14.item (R14.lkF m) 0).getD [])), Value.slice psA ps.length psC]) [Ent.mp vI b2 (m.map R14.mf), Ent.row (.slice A14 (srt (m.map fun x => (R14.mf x).1)).length c15) 3 1 (srt (m.map fun x => (R14.mf x).1)).length ((srt (m.map fun x => (R14.mf x).1)).map vI), Ent.blk b11 37 (DataSet.enc (R14.fD ((R14.item (R14.lkF m) 0).getD [])) ++ [vI (R14.fN ((R14.item (R14.lkF m) 0).getD [])), Value.slice psA ps.length psC]), Ent.blk b1 37 (DataSet.enc (R14.fD ((R14.item (R14.lkF m) 0).getD [])) ++ [vI (R14.fN ((R14.item (R14.lkF m) 0).getD [])), Value.slice psA ps.length psC]), Ent.row (.slice psA ps.length psC) 54 2 ps.length (ps.flatMap Pair.enc)] rfl rfl rfl Ty.sz37 rfl (Nat.le_of_ble_eq_true rfl) rfl (st_all rfl) rfl ?_)
          refine jt_ 8 (vI (max 0 ((R14.fC ((R14.item (R14.lkF m) 0).getD [])) - ((ps.length : Nat) : Int)))) rfl (fun _ _ => rfl) ?_
          refine jt_ 9 (vI 0) rfl (fun _ _ => rfl) ?_
          refine JA_done (by kernel_rfl) (fun _ h => ⟨h.keep [true, true, true, false, true] rfl, fun hh => Bool.noConfusion (show false = true from hh)⟩) ?_
          refine JX_then (J_ret ?_)
          first
            | have hd := R14.res_bad hm (.inl (by assumption))
            | have hd := R14.res_bad hm (.inr (by assumption))
            | have hd := R14.res_ok hm (by assumption) (by assumption) (show ps = R14.pairs m by rw [i2_1, List.take_of_length_le (by omega)]; rfl)
          refine JX_rets [Value.agg ((DataSet.enc (R14.fD ((R14.item (R14.lkF m) 0).getD [])) ++ [vI (R14.fN ((R14.item (R14.lkF m) 0).getD [])), Value.slice psA ps.length psC])).toArray, vI (max 0 ((R14.fC ((R14.item (R14.lkF m) 0).getD [])) - ((ps.length : Nat) : Int))), vI 0] (Value.tuple #[Value.agg ((DataSet.enc (R14.fD ((R14.item (R14.lkF m) 0).getD [])) ++ [vI (R14.fN ((R14.item (R14.lkF m) 0).getD [])), Value.slice psA ps.length psC])).toArray, vI (max 0 ((R14.fC ((R14.item (R14.lkF m) 0).getD [])) - ((ps.length : Nat) : Int))), vI 0]) Try.results28 (fun w h => ⟨⟨_, rfl, load_blkN 3 (DataSet.enc (R14.fD ((R14.item (R14.lkF m) 0).getD [])) ++ [vI (R14.fN ((R14.item (R14.lkF m) 0).getD [])), Value.slice psA ps.length psC]) h rfl Ty.ag37 Ty.sz37 rfl⟩, rfl, rfl, trivial⟩) rfl [Ent.row (.slice psA ps.length psC) 54 2 ps.length (ps.flatMap Pair.enc)] (fun _ h => h.keep [false, false, false, false, true] rfl) ⟨psA, psC, ?_, ?_⟩
          · have e_x0 : ((R14.fD ((R14.item (R14.lkF m) 0).getD [])) : DataSet) = (R14.svD R02.updateN s) := by first | exact hd.1 | exact hd.2.1 | exact congrArg List.length hd.2.2.1 | exact hd.2.2.1 | exact hd.2.2.2.1 | exact hd.2.2.2.2 | exact hd.2.2.2
            have e_x1 : ((R14.fN ((R14.item (R14.lkF m) 0).getD [])) : Int) = (R14.svN R02.updateN s) := by first | exact hd.1 | exact hd.2.1 | exact congrArg List.length hd.2.2.1 | exact hd.2.2.1 | exact hd.2.2.2.1 | exact hd.2.2.2.2 | exact hd.2.2.2
            have e_x2 : (ps.length : Nat) = ((R14.svP R02.updateN s).length) := by first | exact hd.1 | exact hd.2.1 | exact congrArg List.length hd.2.2.1 | exact hd.2.2.1 | exact hd.2.2.2.1 | exact hd.2.2.2.2 | exact hd.2.2.2
            have e_x3 : (max 0 ((R14.fC ((R14.item (R14.lkF m) 0).getD [])) - ((ps.length : Nat) : Int)) : Int) = (R14.svM R02.updateN s) := by first | exact hd.1 | exact hd.2.1 | exact congrArg List.length hd.2.2.1 | exact hd.2.2.1 | exact hd.2.2.2.1 | exact hd.2.2.2.2 | exact hd.2.2.2
            have e_x4 : (0 : Int) = (R14.svE R02.updateN s) := by first | exact hd.1 | exact hd.2.1 | exact congrArg List.length hd.2.2.1 | exact hd.2.2.1 | exact hd.2.2.2.1 | exact hd.2.2.2.2 | exact hd.2.2.2
            have e_all := (congr (congr (congr (congr (congrArg (fun (x0 : DataSet) (x1 : Int) (x2 : Nat) (x3 : Int) (x4 : Int) => Value.tuple #[Value.agg ((DataSet.enc x0 ++ [vI x1, Value.slice psA x2 psC])).toArray, vI x3, vI x4]) e_x0) e_x1) e_x2) e_x3) e_x4)
            exact e_all
          · have e_y0 : (ps : List Pair) = (R14.svP R02.updateN s) := by
              first | exact hd.1 | exact hd.2.1 | exact congrArg List.length hd.2.2.1 | exact hd.2.2.1 | exact hd.2.2.2.1 | exact hd.2.2.2.2 | exact hd.2.2.2
            have e_all := (congrArg (fun (y0 : List Pair) => [Ent.row (.slice psA y0.length psC) 54 2 y0.length (y0.flatMap Pair.enc)]) e_y0)
            exact e_all
end Go.Proofs.Ytodfebhimadaiaa
