/- contracts C47i -/
import Derived.Test.YtknibpmmjhmjeaaDoorC47h
import Derived.Test.YtknibpmmjhmjeaaDoorPl47c
namespace Go.Proofs.YtknibpmmjhmjeaaDoor
open Go.GV
set_option linter.unusedVariables false
set_option linter.unusedSimpArgs false

set_option maxRecDepth 20000 in
theorem f10_ok (w : World) (hT : Tab [] w) : Calls Tryd.prog 10 #[] w (Gives [] w fun v L => v = vB true ∧ L = []) := by
  refine calls_J [] 84 Tryd.func10 rfl Tryd.ntmps10 [] rfl rfl (Give.nil w) ?_
  refine J_seq ?_
  refine J_region ?_
  refine JO_read (vB false) rfl trivial (fun _ _ => rfl) ?_
  refine JO_nil ?_
  refine JX_then ?_
  refine J_seq ?_
  refine J_region ?_
  refine JO_call [] [] [] rfl trivial (fun _ => x_call Ty.ca24 rfl) (fun _ h => h) (fun _ h => by cases h) (fun w hS => f24_ok 1 1 1 w) ?_
  rintro _ _ ⟨rfl, rfl⟩
  have ha1 := R47.unit_range 1 1 1
  refine JO_read (Value.tuple #[vI ((R47.unit 1 1 1).1), vI ((R47.unit 1 1 1).2)]) rfl trivial (fun _ _ => rfl) ?_
  refine JO_read (vI ((R47.unit 1 1 1).1)) rfl trivial (fun _ _ => rfl) ?_
  refine JO_read (vI ((R47.unit 1 1 1).2)) rfl trivial (fun _ _ => rfl) ?_
  refine JO_read (vI ((R47.unit 1 1 1).1)) rfl trivial (fun _ _ => rfl) ?_
  refine JO_read (vI ((R47.unit 1 1 1).2)) rfl trivial (fun _ _ => rfl) ?_
  refine JO_nil ?_
  refine JX_then ?_
  refine J_seq ?_
  refine J_region ?_
  refine JO_read (vI ((R47.unit 1 1 1).1)) rfl trivial (fun _ _ => rfl) ?_
  refine JO_read (Value.agg #[vI 1, vI 3, vS [107], vS [], vS []]) rfl trivial (fun _ _ => x_build (by kernel_rfl)) ?_
  refine JO_read (Value.agg #[vI 3, vI 4, vS [], vS [], vS []]) rfl trivial (fun _ _ => x_build (by kernel_rfl)) ?_
  refine JO_op rfl trivial (O_buildSlice (cs := [vI 1, vI 3, vS [107], vS [], vS [], vI 3, vI 4, vS [], vS [], vS []]) Tryd.underlying27 Ty.sz23 Ty.ze23 (by decide) (by decide) (by kernel_rfl) fun b2 => ?_)
  refine JO_read (Value.agg #[vI 7, vI ((R47.unit 1 1 1).1), Value.slice (some ⟨b2, 0, none⟩) 2 2]) rfl trivial (fun _ _ => x_build (by kernel_rfl)) ?_
  refine JO_op rfl trivial (O_alloc Ty.ze29 rfl fun b3 => ?_)
  refine JO_op rfl trivial (O_store 0 [vI 7, vI ((R47.unit 1 1 1).1), Value.slice (some ⟨b2, 0, none⟩) 2 2] [Ent.blk b3 29 [vI 7, vI ((R47.unit 1 1 1).1), Value.slice (some ⟨b2, 0, none⟩) 2 2], Ent.blk b2 23 [vI 1, vI 3, vS [107], vS [], vS [], vI 3, vI 4, vS [], vS [], vS []]] rfl rfl rfl Ty.sz29 rfl (Nat.le_of_ble_eq_true rfl) rfl rfl rfl ?_)
  refine JO_nil ?_
  refine JX_then ?_
  refine J_seq ?_
  refine J_region ?_
  refine JO_read (Value.agg #[vI 7, vI ((R47.unit 1 1 1).1), Value.slice (some ⟨b2, 0, none⟩) 2 2]) rfl trivial (x_loadN 0 [vI 7, vI ((R47.unit 1 1 1).1), Value.slice (some ⟨b2, 0, none⟩) 2 2] rfl rfl Ty.ag29 Ty.sz29 rfl) ?_
  refine JO_call [] [] [Ent.blk b3 29 [vI 7, vI ((R47.unit 1 1 1).1), Value.slice (some ⟨b2, 0, none⟩) 2 2], Ent.blk b2 23 [vI 1, vI 3, vS [107], vS [], vS [], vI 3, vI 4, vS [], vS [], vS []]] rfl trivial (fun _ => x_call Ty.ca17 rfl) (fun _ h => h) (fun _ h => by cases h) (fun w hS => f17_ok 7 ((R47.unit 1 1 1).1) [(Change.mk 1 3 [107] [] []), (Change.mk 3 4 [] [] [])] (some ⟨b2, 0, none⟩) 2 w (RO.of_blk hS 1 (off := 0) (m := 10) rfl rfl) hy_ hy_) ?_
  rintro _ _ ⟨rfl, rfl⟩
  refine JO_read (Value.tuple #[vS ((R47.encode 7 ((R47.unit 1 1 1).1) [(Change.mk 1 3 [107] [] []), (Change.mk 3 4 [] [] [])]).1), vI ((R47.encode 7 ((R47.unit 1 1 1).1) [(Change.mk 1 3 [107] [] []), (Change.mk 3 4 [] [] [])]).2)]) rfl trivial (fun _ _ => rfl) ?_
  refine JO_read (vS ((R47.encode 7 ((R47.unit 1 1 1).1) [(Change.mk 1 3 [107] [] []), (Change.mk 3 4 [] [] [])]).1)) rfl trivial (fun _ _ => rfl) ?_
  refine JO_read (vI ((R47.encode 7 ((R47.unit 1 1 1).1) [(Change.mk 1 3 [107] [] []), (Change.mk 3 4 [] [] [])]).2)) rfl trivial (fun _ _ => rfl) ?_
  refine JO_read (vS ((R47.encode 7 ((R47.unit 1 1 1).1) [(Change.mk 1 3 [107] [] []), (Change.mk 3 4 [] [] [])]).1)) rfl trivial (fun _ _ => rfl) ?_
  refine JO_read (vI ((R47.encode 7 ((R47.unit 1 1 1).1) [(Change.mk 1 3 [107] [] []), (Change.mk 3 4 [] [] [])]).2)) rfl trivial (fun _ _ => rfl) ?_
  refine JO_nil ?_
  refine JX_then ?_
  refine J_seq ?_
  refine J_region ?_
  refine JO_read (vS ((R47.encode 7 ((R47.unit 1 1 1).1) [(Change.mk 1 3 [107] [] []), (Change.mk 3 4 [] [] [])]).1)) rfl trivial (fun _ _ => rfl) ?_
  refine JO_call [] [] [Ent.blk b3 29 [vI 7, vI ((R47.unit 1 1 1).1), Value.slice (some ⟨b2, 0, none⟩) 2 2], Ent.blk b2 23 [vI 1, vI 3, vS [107], vS [], vS [], vI 3, vI 4, vS [], vS [], vS []]] rfl trivial (fun _ => x_call Ty.ca15 rfl) (fun _ h => h) (fun _ h => by cases h) (fun w hS => f15_ok ((R47.encode 7 ((R47.unit 1 1 1).1) [(Change.mk 1 3 [107] [] []), (Change.mk 3 4 [] [] [])]).1) w) ?_
  rintro _ _ ⟨A4, c5, rfl, rfl⟩
  have ha6 := R47.decode_len ((R47.encode 7 ((R47.unit 1 1 1).1) [(Change.mk 1 3 [107] [] []), (Change.mk 3 4 [] [] [])]).1)
  try simp only [List.length_cons, List.length_nil, Nat.zero_add, Nat.reduceAdd, Nat.reduceMul] at ha6
  have ha7 := R47.decode_vol ((R47.encode 7 ((R47.unit 1 1 1).1) [(Change.mk 1 3 [107] [] []), (Change.mk 3 4 [] [] [])]).1)
  try simp only [List.length_cons, List.length_nil, Nat.zero_add, Nat.reduceAdd, Nat.reduceMul] at ha7
  refine JO_read (Value.tuple #[Value.agg #[vI ((R47.decode ((R47.encode 7 ((R47.unit 1 1 1).1) [(Change.mk 1 3 [107] [] []), (Change.mk 3 4 [] [] [])]).1)).1), vI ((R47.decode ((R47.encode 7 ((R47.unit 1 1 1).1) [(Change.mk 1 3 [107] [] []), (Change.mk 3 4 [] [] [])]).1)).2.1), Value.slice A4 ((R47.decode ((R47.encode 7 ((R47.unit 1 1 1).1) [(Change.mk 1 3 [107] [] []), (Change.mk 3 4 [] [] [])]).1)).2.2.1.length) c5], vI ((R47.decode ((R47.encode 7 ((R47.unit 1 1 1).1) [(Change.mk 1 3 [107] [] []), (Change.mk 3 4 [] [] [])]).1)).2.2.2)]) rfl trivial (fun _ _ => rfl) ?_
  refine JO_read (Value.agg #[vI ((R47.decode ((R47.encode 7 ((R47.unit 1 1 1).1) [(Change.mk 1 3 [107] [] []), (Change.mk 3 4 [] [] [])]).1)).1), vI ((R47.decode ((R47.encode 7 ((R47.unit 1 1 1).1) [(Change.mk 1 3 [107] [] []), (Change.mk 3 4 [] [] [])]).1)).2.1), Value.slice A4 ((R47.decode ((R47.encode 7 ((R47.unit 1 1 1).1) [(Change.mk 1 3 [107] [] []), (Change.mk 3 4 [] [] [])]).1)).2.2.1.length) c5]) rfl trivial (fun _ _ => rfl) ?_
  refine JO_read (vI ((R47.decode ((R47.encode 7 ((R47.unit 1 1 1).1) [(Change.mk 1 3 [107] [] []), (Change.mk 3 4 [] [] [])]).1)).2.2.2)) rfl trivial (fun _ _ => rfl) ?_
  refine JO_op rfl trivial (O_alloc Ty.ze29 rfl fun b8 => ?_)
  refine JO_op rfl trivial (O_store 0 [vI ((R47.decode ((R47.encode 7 ((R47.unit 1 1 1).1) [(Change.mk 1 3 [107] [] []), (Change.mk 3 4 [] [] [])]).1)).1), vI ((R47.decode ((R47.encode 7 ((R47.unit 1 1 1).1) [(Change.mk 1 3 [107] [] []), (Change.mk 3 4 [] [] [])]).1)).2.1), Value.slice A4 ((R47.decode ((R47.encode 7 ((R47.unit 1 1 1).1) [(Change.mk 1 3 [107] [] []), (Change.mk 3 4 [] [] [])]).1)).2.2.1.length) c5] [Ent.blk b8 29 [vI ((R47.decode ((R47.encode 7 ((R47.unit 1 1 1).1) [(Change.mk 1 3 [107] [] []), (Change.mk 3 4 [] [] [])]).1)).1), vI ((R47.decode ((R47.encode 7 ((R47.unit 1 1 1).1) [(Change.mk 1 3 [107] [] []), (Change.mk 3 4 [] [] [])]).1)).2.1), Value.slice A4 ((R47.decode ((R47.encode 7 ((R47.unit 1 1 1).1) [(Change.mk 1 3 [107] [] []), (Change.mk 3 4 [] [] [])]).1)).2.2.1.length) c5], Ent.row (.slice A4 ((R47.decode ((R47.encode 7 ((R47.unit 1 1 1).1) [(Change.mk 1 3 [107] [] []), (Change.mk 3 4 [] [] [])]).1)).2.2.1).length c5) 23 5 ((R47.decode ((R47.encode 7 ((R47.unit 1 1 1).1) [(Change.mk 1 3 [107] [] []), (Change.mk 3 4 [] [] [])]).1)).2.2.1).length (((R47.decode ((R47.encode 7 ((R47.unit 1 1 1).1) [(Change.mk 1 3 [107] [] []), (Change.mk 3 4 [] [] [])]).1)).2.2.1).flatMap Change.enc), Ent.blk b3 29 [vI 7, vI ((R47.unit 1 1 1).1), Value.slice (some ⟨b2, 0, none⟩) 2 2], Ent.blk b2 23 [vI 1, vI 3, vS [107], vS [], vS [], vI 3, vI 4, vS [], vS [], vS []]] rfl rfl rfl Ty.sz29 rfl (Nat.le_of_ble_eq_true rfl) rfl rfl rfl ?_)
  refine JO_read (vI ((R47.decode ((R47.encode 7 ((R47.unit 1 1 1).1) [(Change.mk 1 3 [107] [] []), (Change.mk 3 4 [] [] [])]).1)).2.2.2)) rfl trivial (fun _ _ => rfl) ?_
  refine JO_nil ?_
  refine JX_then ?_
  refine J_seq ?_
  refine J_region ?_
  refine JO_read (vI ((R47.unit 1 1 1).1)) rfl trivial (fun _ _ => rfl) ?_
  refine JO_call [] [] [Ent.blk b8 29 [vI ((R47.decode ((R47.encode 7 ((R47.unit 1 1 1).1) [(Change.mk 1 3 [107] [] []), (Change.mk 3 4 [] [] [])]).1)).1), vI ((R47.decode ((R47.encode 7 ((R47.unit 1 1 1).1) [(Change.mk 1 3 [107] [] []), (Change.mk 3 4 [] [] [])]).1)).2.1), Value.slice A4 ((R47.decode ((R47.encode 7 ((R47.unit 1 1 1).1) [(Change.mk 1 3 [107] [] []), (Change.mk 3 4 [] [] [])]).1)).2.2.1.length) c5], Ent.row (.slice A4 ((R47.decode ((R47.encode 7 ((R47.unit 1 1 1).1) [(Change.mk 1 3 [107] [] []), (Change.mk 3 4 [] [] [])]).1)).2.2.1).length c5) 23 5 ((R47.decode ((R47.encode 7 ((R47.unit 1 1 1).1) [(Change.mk 1 3 [107] [] []), (Change.mk 3 4 [] [] [])]).1)).2.2.1).length (((R47.decode ((R47.encode 7 ((R47.unit 1 1 1).1) [(Change.mk 1 3 [107] [] []), (Change.mk 3 4 [] [] [])]).1)).2.2.1).flatMap Change.enc), Ent.blk b3 29 [vI 7, vI ((R47.unit 1 1 1).1), Value.slice (some ⟨b2, 0, none⟩) 2 2], Ent.blk b2 23 [vI 1, vI 3, vS [107], vS [], vS [], vI 3, vI 4, vS [], vS [], vS []]] rfl trivial (fun _ => x_call Ty.ca19 rfl) (fun _ h => h) (fun _ h => by cases h) (fun w hS => f19_ok ((R47.unit 1 1 1).1) 2 w) ?_
  rintro _ _ ⟨rfl, rfl⟩
  refine JO_read (Value.tuple #[vI ((R47.idn ((R47.unit 1 1 1).1) 2).1), vI ((R47.idn ((R47.unit 1 1 1).1) 2).2)]) rfl trivial (fun _ _ => rfl) ?_
  refine JO_read (vI ((R47.idn ((R47.unit 1 1 1).1) 2).1)) rfl trivial (fun _ _ => rfl) ?_
  refine JO_read (vI ((R47.idn ((R47.unit 1 1 1).1) 2).2)) rfl trivial (fun _ _ => rfl) ?_
  refine JO_read (vI ((R47.idn ((R47.unit 1 1 1).1) 2).1)) rfl trivial (fun _ _ => rfl) ?_
  refine JO_read (vI ((R47.idn ((R47.unit 1 1 1).1) 2).2)) rfl trivial (fun _ _ => rfl) ?_
  refine JO_nil ?_
  refine JX_then ?_
  refine J_seq ?_
  refine J_region ?_
  refine JO_read (vI ((R47.unit 1 1 1).2)) rfl trivial (fun _ _ => rfl) ?_
  refine JO_read (vB (decide ((R47.unit 1 1 1).2 = 0))) rfl trivial (fun _ _ => x_eql_i rfl rfl) ?_
  refine JO_read (vB (decide ((R47.unit 1 1 1).2 = 0))) rfl trivial (fun _ _ => rfl) ?_
  refine JO_cut (X := Bool) 3 (fun z => z = ((decide ((R47.unit 1 1 1).2 = 0)) && (decide ((R47.unit 1 1 1).1 = 262145)))) (fun z => [(0, vB false), (1, vI ((R47.unit 1 1 1).1)), (3, Value.pointer (some ⟨b3, 0, none⟩)), (5, vI ((R47.encode 7 ((R47.unit 1 1 1).1) [(Change.mk 1 3 [107] [] []), (Change.mk 3 4 [] [] [])]).2)), (6, Value.pointer (some ⟨b8, 0, none⟩)), (7, vI ((R47.decode ((R47.encode 7 ((R47.unit 1 1 1).1) [(Change.mk 1 3 [107] [] []), (Change.mk 3 4 [] [] [])]).1)).2.2.2)), (8, vI ((R47.idn ((R47.unit 1 1 1).1) 2).1)), (9, vI ((R47.idn ((R47.unit 1 1 1).1) 2).2)), (39, vB z)]) (fun _ => [Ent.blk b8 29 [vI ((R47.decode ((R47.encode 7 ((R47.unit 1 1 1).1) [(Change.mk 1 3 [107] [] []), (Change.mk 3 4 [] [] [])]).1)).1), vI ((R47.decode ((R47.encode 7 ((R47.unit 1 1 1).1) [(Change.mk 1 3 [107] [] []), (Change.mk 3 4 [] [] [])]).1)).2.1), Value.slice A4 ((R47.decode ((R47.encode 7 ((R47.unit 1 1 1).1) [(Change.mk 1 3 [107] [] []), (Change.mk 3 4 [] [] [])]).1)).2.2.1.length) c5], Ent.row (.slice A4 ((R47.decode ((R47.encode 7 ((R47.unit 1 1 1).1) [(Change.mk 1 3 [107] [] []), (Change.mk 3 4 [] [] [])]).1)).2.2.1).length c5) 23 5 ((R47.decode ((R47.encode 7 ((R47.unit 1 1 1).1) [(Change.mk 1 3 [107] [] []), (Change.mk 3 4 [] [] [])]).1)).2.2.1).length (((R47.decode ((R47.encode 7 ((R47.unit 1 1 1).1) [(Change.mk 1 3 [107] [] []), (Change.mk 3 4 [] [] [])]).1)).2.2.1).flatMap Change.enc), Ent.blk b3 29 [vI 7, vI ((R47.unit 1 1 1).1), Value.slice (some ⟨b2, 0, none⟩) 2 2], Ent.blk b2 23 [vI 1, vI 3, vS [107], vS [], vS [], vI 3, vI 4, vS [], vS [], vS []]]) ?_ ?_
  · rcases Bool.eq_false_or_eq_true (decide ((R47.unit 1 1 1).2 = 0)) with g10 | g10
    · have g10r := g10
      have g10r := of_decide_eq_true g10r
      refine JO_read (vI ((R47.unit 1 1 1).1)) rfl ⟨_, rfl, g10⟩ (fun _ _ => rfl) ?_
      refine JO_read (vB (decide ((R47.unit 1 1 1).1 = 262145))) rfl ⟨_, rfl, g10⟩ (fun _ _ => x_eql_i rfl rfl) ?_
      refine JO_read (vB (decide ((R47.unit 1 1 1).1 = 262145))) rfl trivial (fun _ _ => x_pick_t rfl g10 rfl) ?_
      refine JO_nil (JX_cut (decide ((R47.unit 1 1 1).1 = 262145)) (by rw [g10]; simp) ⟨rfl, rfl, rfl, rfl, rfl, rfl, rfl, rfl, rfl, trivial⟩ (fun _ h => h))
    · have g10r := g10
      have g10r := of_decide_eq_false g10r
      refine JO_shun rfl ⟨_, rfl, g10⟩ ?_
      refine JO_shun rfl ⟨_, rfl, g10⟩ ?_
      refine JO_read (vB false) rfl trivial (fun _ _ => x_pick_f rfl g10 rfl) ?_
      refine JO_nil (JX_cut (false) (by rw [g10]; simp) ⟨rfl, rfl, rfl, rfl, rfl, rfl, rfl, rfl, rfl, trivial⟩ (fun _ h => h))
  rintro z9 rfl
  refine JO_read (vB ((decide ((R47.unit 1 1 1).2 = 0)) && (decide ((R47.unit 1 1 1).1 = 262145)))) rfl trivial (fun _ _ => rfl) ?_
  refine JO_cut (X := Bool) 3 (fun z => z = (((decide ((R47.unit 1 1 1).2 = 0)) && (decide ((R47.unit 1 1 1).1 = 262145))) && (decide ((R47.encode 7 ((R47.unit 1 1 1).1) [(Change.mk 1 3 [107] [] []), (Change.mk 3 4 [] [] [])]).2 = 0)))) (fun z => [(0, vB false), (1, vI ((R47.unit 1 1 1).1)), (3, Value.pointer (some ⟨b3, 0, none⟩)), (6, Value.pointer (some ⟨b8, 0, none⟩)), (7, vI ((R47.decode ((R47.encode 7 ((R47.unit 1 1 1).1) [(Change.mk 1 3 [107] [] []), (Change.mk 3 4 [] [] [])]).1)).2.2.2)), (8, vI ((R47.idn ((R47.unit 1 1 1).1) 2).1)), (9, vI ((R47.idn ((R47.unit 1 1 1).1) 2).2)), (43, vB z)]) (fun _ => [Ent.blk b8 29 [vI ((R47.decode ((R47.encode 7 ((R47.unit 1 1 1).1) [(Change.mk 1 3 [107] [] []), (Change.mk 3 4 [] [] [])]).1)).1), vI ((R47.decode ((R47.encode 7 ((R47.unit 1 1 1).1) [(Change.mk 1 3 [107] [] []), (Change.mk 3 4 [] [] [])]).1)).2.1), Value.slice A4 ((R47.decode ((R47.encode 7 ((R47.unit 1 1 1).1) [(Change.mk 1 3 [107] [] []), (Change.mk 3 4 [] [] [])]).1)).2.2.1.length) c5], Ent.row (.slice A4 ((R47.decode ((R47.encode 7 ((R47.unit 1 1 1).1) [(Change.mk 1 3 [107] [] []), (Change.mk 3 4 [] [] [])]).1)).2.2.1).length c5) 23 5 ((R47.decode ((R47.encode 7 ((R47.unit 1 1 1).1) [(Change.mk 1 3 [107] [] []), (Change.mk 3 4 [] [] [])]).1)).2.2.1).length (((R47.decode ((R47.encode 7 ((R47.unit 1 1 1).1) [(Change.mk 1 3 [107] [] []), (Change.mk 3 4 [] [] [])]).1)).2.2.1).flatMap Change.enc), Ent.blk b3 29 [vI 7, vI ((R47.unit 1 1 1).1), Value.slice (some ⟨b2, 0, none⟩) 2 2], Ent.blk b2 23 [vI 1, vI 3, vS [107], vS [], vS [], vI 3, vI 4, vS [], vS [], vS []]]) ?_ ?_
  · rcases Bool.eq_false_or_eq_true ((decide ((R47.unit 1 1 1).2 = 0)) && (decide ((R47.unit 1 1 1).1 = 262145))) with g12 | g12
    · have g12r := g12
      have ⟨g12r, h13⟩ := band_true g12r
      have g12r := of_decide_eq_true g12r
      have h13 := of_decide_eq_true h13
      refine JO_read (vI ((R47.encode 7 ((R47.unit 1 1 1).1) [(Change.mk 1 3 [107] [] []), (Change.mk 3 4 [] [] [])]).2)) rfl ⟨_, rfl, g12⟩ (fun _ _ => rfl) ?_
      refine JO_read (vB (decide ((R47.encode 7 ((R47.unit 1 1 1).1) [(Change.mk 1 3 [107] [] []), (Change.mk 3 4 [] [] [])]).2 = 0))) rfl ⟨_, rfl, g12⟩ (fun _ _ => x_eql_i rfl rfl) ?_
      refine JO_read (vB (decide ((R47.encode 7 ((R47.unit 1 1 1).1) [(Change.mk 1 3 [107] [] []), (Change.mk 3 4 [] [] [])]).2 = 0))) rfl trivial (fun _ _ => x_pick_t rfl g12 rfl) ?_
      refine JO_nil (JX_cut (decide ((R47.encode 7 ((R47.unit 1 1 1).1) [(Change.mk 1 3 [107] [] []), (Change.mk 3 4 [] [] [])]).2 = 0)) (by rw [g12]; simp) ⟨rfl, rfl, rfl, rfl, rfl, rfl, rfl, rfl, trivial⟩ (fun _ h => h))
    · have g12r := g12
      simp only [Bool.and_eq_true, Bool.or_eq_true, Bool.and_eq_false_iff, Bool.or_eq_false_iff, Bool.not_eq_true', Bool.not_eq_false', decide_eq_true_eq, decide_eq_false_iff_not] at g12r
      refine JO_shun rfl ⟨_, rfl, g12⟩ ?_
      refine JO_shun rfl ⟨_, rfl, g12⟩ ?_
      refine JO_read (vB false) rfl trivial (fun _ _ => x_pick_f rfl g12 rfl) ?_
      refine JO_nil (JX_cut (false) (by rw [g12]; simp) ⟨rfl, rfl, rfl, rfl, rfl, rfl, rfl, rfl, trivial⟩ (fun _ h => h))
  rintro z11 rfl
  refine JO_read (vB (((decide ((R47.unit 1 1 1).2 = 0)) && (decide ((R47.unit 1 1 1).1 = 262145))) && (decide ((R47.encode 7 ((R47.unit 1 1 1).1) [(Change.mk 1 3 [107] [] []), (Change.mk 3 4 [] [] [])]).2 = 0)))) rfl trivial (fun _ _ => rfl) ?_
  refine JO_cut (X := Bool) 3 (fun z => z = ((((decide ((R47.unit 1 1 1).2 = 0)) && (decide ((R47.unit 1 1 1).1 = 262145))) && (decide ((R47.encode 7 ((R47.unit 1 1 1).1) [(Change.mk 1 3 [107] [] []), (Change.mk 3 4 [] [] [])]).2 = 0))) && (decide ((R47.decode ((R47.encode 7 ((R47.unit 1 1 1).1) [(Change.mk 1 3 [107] [] []), (Change.mk 3 4 [] [] [])]).1)).2.2.2 = 0)))) (fun z => [(0, vB false), (1, vI ((R47.unit 1 1 1).1)), (3, Value.pointer (some ⟨b3, 0, none⟩)), (6, Value.pointer (some ⟨b8, 0, none⟩)), (8, vI ((R47.idn ((R47.unit 1 1 1).1) 2).1)), (9, vI ((R47.idn ((R47.unit 1 1 1).1) 2).2)), (47, vB z)]) (fun _ => [Ent.blk b8 29 [vI ((R47.decode ((R47.encode 7 ((R47.unit 1 1 1).1) [(Change.mk 1 3 [107] [] []), (Change.mk 3 4 [] [] [])]).1)).1), vI ((R47.decode ((R47.encode 7 ((R47.unit 1 1 1).1) [(Change.mk 1 3 [107] [] []), (Change.mk 3 4 [] [] [])]).1)).2.1), Value.slice A4 ((R47.decode ((R47.encode 7 ((R47.unit 1 1 1).1) [(Change.mk 1 3 [107] [] []), (Change.mk 3 4 [] [] [])]).1)).2.2.1.length) c5], Ent.row (.slice A4 ((R47.decode ((R47.encode 7 ((R47.unit 1 1 1).1) [(Change.mk 1 3 [107] [] []), (Change.mk 3 4 [] [] [])]).1)).2.2.1).length c5) 23 5 ((R47.decode ((R47.encode 7 ((R47.unit 1 1 1).1) [(Change.mk 1 3 [107] [] []), (Change.mk 3 4 [] [] [])]).1)).2.2.1).length (((R47.decode ((R47.encode 7 ((R47.unit 1 1 1).1) [(Change.mk 1 3 [107] [] []), (Change.mk 3 4 [] [] [])]).1)).2.2.1).flatMap Change.enc), Ent.blk b3 29 [vI 7, vI ((R47.unit 1 1 1).1), Value.slice (some ⟨b2, 0, none⟩) 2 2], Ent.blk b2 23 [vI 1, vI 3, vS [107], vS [], vS [], vI 3, vI 4, vS [], vS [], vS []]]) ?_ ?_
  · rcases Bool.eq_false_or_eq_true (((decide ((R47.unit 1 1 1).2 = 0)) && (decide ((R47.unit 1 1 1).1 = 262145))) && (decide ((R47.encode 7 ((R47.unit 1 1 1).1) [(Change.mk 1 3 [107] [] []), (Change.mk 3 4 [] [] [])]).2 = 0))) with g15 | g15
    · have g15r := g15
      have ⟨g15r, h16⟩ := band_true g15r
      have ⟨g15r, h17⟩ := band_true g15r
      have g15r := of_decide_eq_true g15r
      have h17 := of_decide_eq_true h17
      have h16 := of_decide_eq_true h16
      refine JO_read (vI ((R47.decode ((R47.encode 7 ((R47.unit 1 1 1).1) [(Change.mk 1 3 [107] [] []), (Change.mk 3 4 [] [] [])]).1)).2.2.2)) rfl ⟨_, rfl, g15⟩ (fun _ _ => rfl) ?_
      refine JO_read (vB (decide ((R47.decode ((R47.encode 7 ((R47.unit 1 1 1).1) [(Change.mk 1 3 [107] [] []), (Change.mk 3 4 [] [] [])]).1)).2.2.2 = 0))) rfl ⟨_, rfl, g15⟩ (fun _ _ => x_eql_i rfl rfl) ?_
      refine JO_read (vB (decide ((R47.decode ((R47.encode 7 ((R47.unit 1 1 1).1) [(Change.mk 1 3 [107] [] []), (Change.mk 3 4 [] [] [])]).1)).2.2.2 = 0))) rfl trivial (fun _ _ => x_pick_t rfl g15 rfl) ?_
      refine JO_nil (JX_cut (decide ((R47.decode ((R47.encode 7 ((R47.unit 1 1 1).1) [(Change.mk 1 3 [107] [] []), (Change.mk 3 4 [] [] [])]).1)).2.2.2 = 0)) (by rw [g15]; simp) ⟨rfl, rfl, rfl, rfl, rfl, rfl, rfl, trivial⟩ (fun _ h => h))
    · have g15r := g15
      simp only [Bool.and_eq_true, Bool.or_eq_true, Bool.and_eq_false_iff, Bool.or_eq_false_iff, Bool.not_eq_true', Bool.not_eq_false', decide_eq_true_eq, decide_eq_false_iff_not] at g15r
      refine JO_shun rfl ⟨_, rfl, g15⟩ ?_
      refine JO_shun rfl ⟨_, rfl, g15⟩ ?_
      refine JO_read (vB false) rfl trivial (fun _ _ => x_pick_f rfl g15 rfl) ?_
      refine JO_nil (JX_cut (false) (by rw [g15]; simp) ⟨rfl, rfl, rfl, rfl, rfl, rfl, rfl, trivial⟩ (fun _ h => h))
  rintro z14 rfl
  refine JO_read (vB ((((decide ((R47.unit 1 1 1).2 = 0)) && (decide ((R47.unit 1 1 1).1 = 262145))) && (decide ((R47.encode 7 ((R47.unit 1 1 1).1) [(Change.mk 1 3 [107] [] []), (Change.mk 3 4 [] [] [])]).2 = 0))) && (decide ((R47.decode ((R47.encode 7 ((R47.unit 1 1 1).1) [(Change.mk 1 3 [107] [] []), (Change.mk 3 4 [] [] [])]).1)).2.2.2 = 0)))) rfl trivial (fun _ _ => rfl) ?_
  refine JO_cut (X := Bool) 4 (fun z => z = (((((decide ((R47.unit 1 1 1).2 = 0)) && (decide ((R47.unit 1 1 1).1 = 262145))) && (decide ((R47.encode 7 ((R47.unit 1 1 1).1) [(Change.mk 1 3 [107] [] []), (Change.mk 3 4 [] [] [])]).2 = 0))) && (decide ((R47.decode ((R47.encode 7 ((R47.unit 1 1 1).1) [(Change.mk 1 3 [107] [] []), (Change.mk 3 4 [] [] [])]).1)).2.2.2 = 0))) && (((decide (((R47.decode ((R47.encode 7 ((R47.unit 1 1 1).1) [(Change.mk 1 3 [107] [] []), (Change.mk 3 4 [] [] [])]).1)).1) = 7)) && (decide (((R47.decode ((R47.encode 7 ((R47.unit 1 1 1).1) [(Change.mk 1 3 [107] [] []), (Change.mk 3 4 [] [] [])]).1)).2.1) = ((R47.unit 1 1 1).1)))) && (decide (((R47.decode ((R47.encode 7 ((R47.unit 1 1 1).1) [(Change.mk 1 3 [107] [] []), (Change.mk 3 4 [] [] [])]).1)).2.2.1) = [(Change.mk 1 3 [107] [] []), (Change.mk 3 4 [] [] [])]))))) (fun z => [(0, vB false), (1, vI ((R47.unit 1 1 1).1)), (3, Value.pointer (some ⟨b3, 0, none⟩)), (8, vI ((R47.idn ((R47.unit 1 1 1).1) 2).1)), (9, vI ((R47.idn ((R47.unit 1 1 1).1) 2).2)), (52, vB z)]) (fun _ => [Ent.blk b8 29 [vI ((R47.decode ((R47.encode 7 ((R47.unit 1 1 1).1) [(Change.mk 1 3 [107] [] []), (Change.mk 3 4 [] [] [])]).1)).1), vI ((R47.decode ((R47.encode 7 ((R47.unit 1 1 1).1) [(Change.mk 1 3 [107] [] []), (Change.mk 3 4 [] [] [])]).1)).2.1), Value.slice A4 ((R47.decode ((R47.encode 7 ((R47.unit 1 1 1).1) [(Change.mk 1 3 [107] [] []), (Change.mk 3 4 [] [] [])]).1)).2.2.1.length) c5], Ent.row (.slice A4 ((R47.decode ((R47.encode 7 ((R47.unit 1 1 1).1) [(Change.mk 1 3 [107] [] []), (Change.mk 3 4 [] [] [])]).1)).2.2.1).length c5) 23 5 ((R47.decode ((R47.encode 7 ((R47.unit 1 1 1).1) [(Change.mk 1 3 [107] [] []), (Change.mk 3 4 [] [] [])]).1)).2.2.1).length (((R47.decode ((R47.encode 7 ((R47.unit 1 1 1).1) [(Change.mk 1 3 [107] [] []), (Change.mk 3 4 [] [] [])]).1)).2.2.1).flatMap Change.enc), Ent.blk b3 29 [vI 7, vI ((R47.unit 1 1 1).1), Value.slice (some ⟨b2, 0, none⟩) 2 2], Ent.blk b2 23 [vI 1, vI 3, vS [107], vS [], vS [], vI 3, vI 4, vS [], vS [], vS []]]) ?_ ?_
  · rcases Bool.eq_false_or_eq_true ((((decide ((R47.unit 1 1 1).2 = 0)) && (decide ((R47.unit 1 1 1).1 = 262145))) && (decide ((R47.encode 7 ((R47.unit 1 1 1).1) [(Change.mk 1 3 [107] [] []), (Change.mk 3 4 [] [] [])]).2 = 0))) && (decide ((R47.decode ((R47.encode 7 ((R47.unit 1 1 1).1) [(Change.mk 1 3 [107] [] []), (Change.mk 3 4 [] [] [])]).1)).2.2.2 = 0))) with g19 | g19
    · have g19r := g19
      have ⟨g19r, h20⟩ := band_true g19r
      have ⟨g19r, h21⟩ := band_true g19r
      have ⟨g19r, h22⟩ := band_true g19r
      have g19r := of_decide_eq_true g19r
      have h22 := of_decide_eq_true h22
      have h21 := of_decide_eq_true h21
      have h20 := of_decide_eq_true h20
      refine JO_read (Value.agg #[vI ((R47.decode ((R47.encode 7 ((R47.unit 1 1 1).1) [(Change.mk 1 3 [107] [] []), (Change.mk 3 4 [] [] [])]).1)).1), vI ((R47.decode ((R47.encode 7 ((R47.unit 1 1 1).1) [(Change.mk 1 3 [107] [] []), (Change.mk 3 4 [] [] [])]).1)).2.1), Value.slice A4 ((R47.decode ((R47.encode 7 ((R47.unit 1 1 1).1) [(Change.mk 1 3 [107] [] []), (Change.mk 3 4 [] [] [])]).1)).2.2.1.length) c5]) rfl ⟨_, rfl, g19⟩ (x_loadN 0 [vI ((R47.decode ((R47.encode 7 ((R47.unit 1 1 1).1) [(Change.mk 1 3 [107] [] []), (Change.mk 3 4 [] [] [])]).1)).1), vI ((R47.decode ((R47.encode 7 ((R47.unit 1 1 1).1) [(Change.mk 1 3 [107] [] []), (Change.mk 3 4 [] [] [])]).1)).2.1), Value.slice A4 ((R47.decode ((R47.encode 7 ((R47.unit 1 1 1).1) [(Change.mk 1 3 [107] [] []), (Change.mk 3 4 [] [] [])]).1)).2.2.1.length) c5] rfl rfl Ty.ag29 Ty.sz29 rfl) ?_
      refine JO_read (Value.agg #[vI 7, vI ((R47.unit 1 1 1).1), Value.slice (some ⟨b2, 0, none⟩) 2 2]) rfl ⟨_, rfl, g19⟩ (x_loadN 2 [vI 7, vI ((R47.unit 1 1 1).1), Value.slice (some ⟨b2, 0, none⟩) 2 2] rfl rfl Ty.ag29 Ty.sz29 rfl) ?_
      refine JO_call [] [] [Ent.blk b8 29 [vI ((R47.decode ((R47.encode 7 ((R47.unit 1 1 1).1) [(Change.mk 1 3 [107] [] []), (Change.mk 3 4 [] [] [])]).1)).1), vI ((R47.decode ((R47.encode 7 ((R47.unit 1 1 1).1) [(Change.mk 1 3 [107] [] []), (Change.mk 3 4 [] [] [])]).1)).2.1), Value.slice A4 ((R47.decode ((R47.encode 7 ((R47.unit 1 1 1).1) [(Change.mk 1 3 [107] [] []), (Change.mk 3 4 [] [] [])]).1)).2.2.1.length) c5], Ent.row (.slice A4 ((R47.decode ((R47.encode 7 ((R47.unit 1 1 1).1) [(Change.mk 1 3 [107] [] []), (Change.mk 3 4 [] [] [])]).1)).2.2.1).length c5) 23 5 ((R47.decode ((R47.encode 7 ((R47.unit 1 1 1).1) [(Change.mk 1 3 [107] [] []), (Change.mk 3 4 [] [] [])]).1)).2.2.1).length (((R47.decode ((R47.encode 7 ((R47.unit 1 1 1).1) [(Change.mk 1 3 [107] [] []), (Change.mk 3 4 [] [] [])]).1)).2.2.1).flatMap Change.enc), Ent.blk b3 29 [vI 7, vI ((R47.unit 1 1 1).1), Value.slice (some ⟨b2, 0, none⟩) 2 2], Ent.blk b2 23 [vI 1, vI 3, vS [107], vS [], vS [], vI 3, vI 4, vS [], vS [], vS []]] rfl ⟨_, rfl, g19⟩ (fun _ => x_call Ty.ca16 rfl) (fun _ h => h) (fun _ h => by cases h) (fun w hS => f16_ok ((R47.decode ((R47.encode 7 ((R47.unit 1 1 1).1) [(Change.mk 1 3 [107] [] []), (Change.mk 3 4 [] [] [])]).1)).1) ((R47.decode ((R47.encode 7 ((R47.unit 1 1 1).1) [(Change.mk 1 3 [107] [] []), (Change.mk 3 4 [] [] [])]).1)).2.1) ((R47.decode ((R47.encode 7 ((R47.unit 1 1 1).1) [(Change.mk 1 3 [107] [] []), (Change.mk 3 4 [] [] [])]).1)).2.2.1) A4 c5 7 ((R47.unit 1 1 1).1) [(Change.mk 1 3 [107] [] []), (Change.mk 3 4 [] [] [])] (some ⟨b2, 0, none⟩) 2 w (RO.of_row hS 1 rfl) (RO.of_blk hS 3 (off := 0) (m := 10) rfl rfl) hy_) ?_
      rintro _ _ ⟨rfl, rfl⟩
      refine JO_read (vB (((decide (((R47.decode ((R47.encode 7 ((R47.unit 1 1 1).1) [(Change.mk 1 3 [107] [] []), (Change.mk 3 4 [] [] [])]).1)).1) = 7)) && (decide (((R47.decode ((R47.encode 7 ((R47.unit 1 1 1).1) [(Change.mk 1 3 [107] [] []), (Change.mk 3 4 [] [] [])]).1)).2.1) = ((R47.unit 1 1 1).1)))) && (decide (((R47.decode ((R47.encode 7 ((R47.unit 1 1 1).1) [(Change.mk 1 3 [107] [] []), (Change.mk 3 4 [] [] [])]).1)).2.2.1) = [(Change.mk 1 3 [107] [] []), (Change.mk 3 4 [] [] [])])))) rfl trivial (fun _ _ => x_pick_t rfl g19 rfl) ?_
      refine JO_nil (JX_cut (((decide (((R47.decode ((R47.encode 7 ((R47.unit 1 1 1).1) [(Change.mk 1 3 [107] [] []), (Change.mk 3 4 [] [] [])]).1)).1) = 7)) && (decide (((R47.decode ((R47.encode 7 ((R47.unit 1 1 1).1) [(Change.mk 1 3 [107] [] []), (Change.mk 3 4 [] [] [])]).1)).2.1) = ((R47.unit 1 1 1).1)))) && (decide (((R47.decode ((R47.encode 7 ((R47.unit 1 1 1).1) [(Change.mk 1 3 [107] [] []), (Change.mk 3 4 [] [] [])]).1)).2.2.1) = [(Change.mk 1 3 [107] [] []), (Change.mk 3 4 [] [] [])]))) (by rw [g19]; simp) ⟨rfl, rfl, rfl, rfl, rfl, rfl, trivial⟩ (fun _ h => h))
    · have g19r := g19
      simp only [Bool.and_eq_true, Bool.or_eq_true, Bool.and_eq_false_iff, Bool.or_eq_false_iff, Bool.not_eq_true', Bool.not_eq_false', decide_eq_true_eq, decide_eq_false_iff_not] at g19r
      refine JO_shun rfl ⟨_, rfl, g19⟩ ?_
      refine JO_shun rfl ⟨_, rfl, g19⟩ ?_
      refine JO_shun rfl ⟨_, rfl, g19⟩ ?_
      refine JO_read (vB false) rfl trivial (fun _ _ => x_pick_f rfl g19 rfl) ?_
      refine JO_nil (JX_cut (false) (by rw [g19]; simp) ⟨rfl, rfl, rfl, rfl, rfl, rfl, trivial⟩ (fun _ h => h))
  rintro z18 rfl
  refine JO_read (vB (((((decide ((R47.unit 1 1 1).2 = 0)) && (decide ((R47.unit 1 1 1).1 = 262145))) && (decide ((R47.encode 7 ((R47.unit 1 1 1).1) [(Change.mk 1 3 [107] [] []), (Change.mk 3 4 [] [] [])]).2 = 0))) && (decide ((R47.decode ((R47.encode 7 ((R47.unit 1 1 1).1) [(Change.mk 1 3 [107] [] []), (Change.mk 3 4 [] [] [])]).1)).2.2.2 = 0))) && (((decide (((R47.decode ((R47.encode 7 ((R47.unit 1 1 1).1) [(Change.mk 1 3 [107] [] []), (Change.mk 3 4 [] [] [])]).1)).1) = 7)) && (decide (((R47.decode ((R47.encode 7 ((R47.unit 1 1 1).1) [(Change.mk 1 3 [107] [] []), (Change.mk 3 4 [] [] [])]).1)).2.1) = ((R47.unit 1 1 1).1)))) && (decide (((R47.decode ((R47.encode 7 ((R47.unit 1 1 1).1) [(Change.mk 1 3 [107] [] []), (Change.mk 3 4 [] [] [])]).1)).2.2.1) = [(Change.mk 1 3 [107] [] []), (Change.mk 3 4 [] [] [])]))))) rfl trivial (fun _ _ => rfl) ?_
  refine JO_cut (X := Bool) 4 (fun z => z = ((((((decide ((R47.unit 1 1 1).2 = 0)) && (decide ((R47.unit 1 1 1).1 = 262145))) && (decide ((R47.encode 7 ((R47.unit 1 1 1).1) [(Change.mk 1 3 [107] [] []), (Change.mk 3 4 [] [] [])]).2 = 0))) && (decide ((R47.decode ((R47.encode 7 ((R47.unit 1 1 1).1) [(Change.mk 1 3 [107] [] []), (Change.mk 3 4 [] [] [])]).1)).2.2.2 = 0))) && (((decide (((R47.decode ((R47.encode 7 ((R47.unit 1 1 1).1) [(Change.mk 1 3 [107] [] []), (Change.mk 3 4 [] [] [])]).1)).1) = 7)) && (decide (((R47.decode ((R47.encode 7 ((R47.unit 1 1 1).1) [(Change.mk 1 3 [107] [] []), (Change.mk 3 4 [] [] [])]).1)).2.1) = ((R47.unit 1 1 1).1)))) && (decide (((R47.decode ((R47.encode 7 ((R47.unit 1 1 1).1) [(Change.mk 1 3 [107] [] []), (Change.mk 3 4 [] [] [])]).1)).2.2.1) = [(Change.mk 1 3 [107] [] []), (Change.mk 3 4 [] [] [])])))) && (decide ((7 + ([(Change.mk 1 3 [107] [] []), (Change.mk 3 4 [] [] [])].length : Int)) - 1 = 8)))) (fun z => [(0, vB false), (1, vI ((R47.unit 1 1 1).1)), (3, Value.pointer (some ⟨b3, 0, none⟩)), (8, vI ((R47.idn ((R47.unit 1 1 1).1) 2).1)), (9, vI ((R47.idn ((R47.unit 1 1 1).1) 2).2)), (57, vB z)]) (fun _ => [Ent.blk b8 29 [vI ((R47.decode ((R47.encode 7 ((R47.unit 1 1 1).1) [(Change.mk 1 3 [107] [] []), (Change.mk 3 4 [] [] [])]).1)).1), vI ((R47.decode ((R47.encode 7 ((R47.unit 1 1 1).1) [(Change.mk 1 3 [107] [] []), (Change.mk 3 4 [] [] [])]).1)).2.1), Value.slice A4 ((R47.decode ((R47.encode 7 ((R47.unit 1 1 1).1) [(Change.mk 1 3 [107] [] []), (Change.mk 3 4 [] [] [])]).1)).2.2.1.length) c5], Ent.row (.slice A4 ((R47.decode ((R47.encode 7 ((R47.unit 1 1 1).1) [(Change.mk 1 3 [107] [] []), (Change.mk 3 4 [] [] [])]).1)).2.2.1).length c5) 23 5 ((R47.decode ((R47.encode 7 ((R47.unit 1 1 1).1) [(Change.mk 1 3 [107] [] []), (Change.mk 3 4 [] [] [])]).1)).2.2.1).length (((R47.decode ((R47.encode 7 ((R47.unit 1 1 1).1) [(Change.mk 1 3 [107] [] []), (Change.mk 3 4 [] [] [])]).1)).2.2.1).flatMap Change.enc), Ent.blk b3 29 [vI 7, vI ((R47.unit 1 1 1).1), Value.slice (some ⟨b2, 0, none⟩) 2 2], Ent.blk b2 23 [vI 1, vI 3, vS [107], vS [], vS [], vI 3, vI 4, vS [], vS [], vS []]]) ?_ ?_
  · rcases Bool.eq_false_or_eq_true (((((decide ((R47.unit 1 1 1).2 = 0)) && (decide ((R47.unit 1 1 1).1 = 262145))) && (decide ((R47.encode 7 ((R47.unit 1 1 1).1) [(Change.mk 1 3 [107] [] []), (Change.mk 3 4 [] [] [])]).2 = 0))) && (decide ((R47.decode ((R47.encode 7 ((R47.unit 1 1 1).1) [(Change.mk 1 3 [107] [] []), (Change.mk 3 4 [] [] [])]).1)).2.2.2 = 0))) && (((decide (((R47.decode ((R47.encode 7 ((R47.unit 1 1 1).1) [(Change.mk 1 3 [107] [] []), (Change.mk 3 4 [] [] [])]).1)).1) = 7)) && (decide (((R47.decode ((R47.encode 7 ((R47.unit 1 1 1).1) [(Change.mk 1 3 [107] [] []), (Change.mk 3 4 [] [] [])]).1)).2.1) = ((R47.unit 1 1 1).1)))) && (decide (((R47.decode ((R47.encode 7 ((R47.unit 1 1 1).1) [(Change.mk 1 3 [107] [] []), (Change.mk 3 4 [] [] [])]).1)).2.2.1) = [(Change.mk 1 3 [107] [] []), (Change.mk 3 4 [] [] [])])))) with g24 | g24
    · have g24r := g24
      have ⟨g24r, h25⟩ := band_true g24r
      have ⟨g24r, h26⟩ := band_true g24r
      have ⟨g24r, h27⟩ := band_true g24r
      have ⟨g24r, h28⟩ := band_true g24r
      have g24r := of_decide_eq_true g24r
      have h28 := of_decide_eq_true h28
      have h27 := of_decide_eq_true h27
      have h26 := of_decide_eq_true h26
      have ⟨h25, h29⟩ := band_true h25
      have ⟨h25, h30⟩ := band_true h25
      have h25 := of_decide_eq_true h25
      have h30 := of_decide_eq_true h30
      refine JO_read (Value.agg #[vI 7, vI ((R47.unit 1 1 1).1), Value.slice (some ⟨b2, 0, none⟩) 2 2]) rfl ⟨_, rfl, g24⟩ (x_loadN 2 [vI 7, vI ((R47.unit 1 1 1).1), Value.slice (some ⟨b2, 0, none⟩) 2 2] rfl rfl Ty.ag29 Ty.sz29 rfl) ?_
      refine JO_call [] [] [Ent.blk b8 29 [vI ((R47.decode ((R47.encode 7 ((R47.unit 1 1 1).1) [(Change.mk 1 3 [107] [] []), (Change.mk 3 4 [] [] [])]).1)).1), vI ((R47.decode ((R47.encode 7 ((R47.unit 1 1 1).1) [(Change.mk 1 3 [107] [] []), (Change.mk 3 4 [] [] [])]).1)).2.1), Value.slice A4 ((R47.decode ((R47.encode 7 ((R47.unit 1 1 1).1) [(Change.mk 1 3 [107] [] []), (Change.mk 3 4 [] [] [])]).1)).2.2.1.length) c5], Ent.row (.slice A4 ((R47.decode ((R47.encode 7 ((R47.unit 1 1 1).1) [(Change.mk 1 3 [107] [] []), (Change.mk 3 4 [] [] [])]).1)).2.2.1).length c5) 23 5 ((R47.decode ((R47.encode 7 ((R47.unit 1 1 1).1) [(Change.mk 1 3 [107] [] []), (Change.mk 3 4 [] [] [])]).1)).2.2.1).length (((R47.decode ((R47.encode 7 ((R47.unit 1 1 1).1) [(Change.mk 1 3 [107] [] []), (Change.mk 3 4 [] [] [])]).1)).2.2.1).flatMap Change.enc), Ent.blk b3 29 [vI 7, vI ((R47.unit 1 1 1).1), Value.slice (some ⟨b2, 0, none⟩) 2 2], Ent.blk b2 23 [vI 1, vI 3, vS [107], vS [], vS [], vI 3, vI 4, vS [], vS [], vS []]] rfl ⟨_, rfl, g24⟩ (fun _ => x_call Ty.ca30 rfl) (fun _ h => h) (fun _ h => by cases h) (fun w hS => f30_ok 7 ((R47.unit 1 1 1).1) [(Change.mk 1 3 [107] [] []), (Change.mk 3 4 [] [] [])] (some ⟨b2, 0, none⟩) 2 w (RO.of_blk hS 3 (off := 0) (m := 10) rfl rfl) hy_ hy_ hy_) ?_
      rintro _ _ ⟨rfl, rfl⟩
      refine JO_read (vB (decide ((7 + ([(Change.mk 1 3 [107] [] []), (Change.mk 3 4 [] [] [])].length : Int)) - 1 = 8))) rfl ⟨_, rfl, g24⟩ (fun _ _ => x_eql_i rfl rfl) ?_
      refine JO_read (vB (decide ((7 + ([(Change.mk 1 3 [107] [] []), (Change.mk 3 4 [] [] [])].length : Int)) - 1 = 8))) rfl trivial (fun _ _ => x_pick_t rfl g24 rfl) ?_
      refine JO_nil (JX_cut (decide ((7 + ([(Change.mk 1 3 [107] [] []), (Change.mk 3 4 [] [] [])].length : Int)) - 1 = 8)) (by rw [g24]; simp) ⟨rfl, rfl, rfl, rfl, rfl, rfl, trivial⟩ (fun _ h => h))
    · have g24r := g24
      simp only [Bool.and_eq_true, Bool.or_eq_true, Bool.and_eq_false_iff, Bool.or_eq_false_iff, Bool.not_eq_true', Bool.not_eq_false', decide_eq_true_eq, decide_eq_false_iff_not] at g24r
      refine JO_shun rfl ⟨_, rfl, g24⟩ ?_
      refine JO_shun rfl ⟨_, rfl, g24⟩ ?_
      refine JO_shun rfl ⟨_, rfl, g24⟩ ?_
      refine JO_read (vB false) rfl trivial (fun _ _ => x_pick_f rfl g24 rfl) ?_
      refine JO_nil (JX_cut (false) (by rw [g24]; simp) ⟨rfl, rfl, rfl, rfl, rfl, rfl, trivial⟩ (fun _ h => h))
  rintro z23 rfl
  refine JO_read (vB ((((((decide ((R47.unit 1 1 1).2 = 0)) && (decide ((R47.unit 1 1 1).1 = 262145))) && (decide ((R47.encode 7 ((R47.unit 1 1 1).1) [(Change.mk 1 3 [107] [] []), (Change.mk 3 4 [] [] [])]).2 = 0))) && (decide ((R47.decode ((R47.encode 7 ((R47.unit 1 1 1).1) [(Change.mk 1 3 [107] [] []), (Change.mk 3 4 [] [] [])]).1)).2.2.2 = 0))) && (((decide (((R47.decode ((R47.encode 7 ((R47.unit 1 1 1).1) [(Change.mk 1 3 [107] [] []), (Change.mk 3 4 [] [] [])]).1)).1) = 7)) && (decide (((R47.decode ((R47.encode 7 ((R47.unit 1 1 1).1) [(Change.mk 1 3 [107] [] []), (Change.mk 3 4 [] [] [])]).1)).2.1) = ((R47.unit 1 1 1).1)))) && (decide (((R47.decode ((R47.encode 7 ((R47.unit 1 1 1).1) [(Change.mk 1 3 [107] [] []), (Change.mk 3 4 [] [] [])]).1)).2.2.1) = [(Change.mk 1 3 [107] [] []), (Change.mk 3 4 [] [] [])])))) && (decide ((7 + ([(Change.mk 1 3 [107] [] []), (Change.mk 3 4 [] [] [])].length : Int)) - 1 = 8)))) rfl trivial (fun _ _ => rfl) ?_
  refine JO_cut (X := Bool) 7 (fun z => z = (((((((decide ((R47.unit 1 1 1).2 = 0)) && (decide ((R47.unit 1 1 1).1 = 262145))) && (decide ((R47.encode 7 ((R47.unit 1 1 1).1) [(Change.mk 1 3 [107] [] []), (Change.mk 3 4 [] [] [])]).2 = 0))) && (decide ((R47.decode ((R47.encode 7 ((R47.unit 1 1 1).1) [(Change.mk 1 3 [107] [] []), (Change.mk 3 4 [] [] [])]).1)).2.2.2 = 0))) && (((decide (((R47.decode ((R47.encode 7 ((R47.unit 1 1 1).1) [(Change.mk 1 3 [107] [] []), (Change.mk 3 4 [] [] [])]).1)).1) = 7)) && (decide (((R47.decode ((R47.encode 7 ((R47.unit 1 1 1).1) [(Change.mk 1 3 [107] [] []), (Change.mk 3 4 [] [] [])]).1)).2.1) = ((R47.unit 1 1 1).1)))) && (decide (((R47.decode ((R47.encode 7 ((R47.unit 1 1 1).1) [(Change.mk 1 3 [107] [] []), (Change.mk 3 4 [] [] [])]).1)).2.2.1) = [(Change.mk 1 3 [107] [] []), (Change.mk 3 4 [] [] [])])))) && (decide ((7 + ([(Change.mk 1 3 [107] [] []), (Change.mk 3 4 [] [] [])].length : Int)) - 1 = 8))) && (decide (R47.text (Change.mk 1 3 [107] [] []) = ([101, 114, 97, 115, 101, 32, 51, 32, 54, 98] : Bytes))))) (fun z => [(0, vB false), (1, vI ((R47.unit 1 1 1).1)), (3, Value.pointer (some ⟨b3, 0, none⟩)), (8, vI ((R47.idn ((R47.unit 1 1 1).1) 2).1)), (9, vI ((R47.idn ((R47.unit 1 1 1).1) 2).2)), (65, vB z)]) (fun _ => [Ent.blk b8 29 [vI ((R47.decode ((R47.encode 7 ((R47.unit 1 1 1).1) [(Change.mk 1 3 [107] [] []), (Change.mk 3 4 [] [] [])]).1)).1), vI ((R47.decode ((R47.encode 7 ((R47.unit 1 1 1).1) [(Change.mk 1 3 [107] [] []), (Change.mk 3 4 [] [] [])]).1)).2.1), Value.slice A4 ((R47.decode ((R47.encode 7 ((R47.unit 1 1 1).1) [(Change.mk 1 3 [107] [] []), (Change.mk 3 4 [] [] [])]).1)).2.2.1.length) c5], Ent.row (.slice A4 ((R47.decode ((R47.encode 7 ((R47.unit 1 1 1).1) [(Change.mk 1 3 [107] [] []), (Change.mk 3 4 [] [] [])]).1)).2.2.1).length c5) 23 5 ((R47.decode ((R47.encode 7 ((R47.unit 1 1 1).1) [(Change.mk 1 3 [107] [] []), (Change.mk 3 4 [] [] [])]).1)).2.2.1).length (((R47.decode ((R47.encode 7 ((R47.unit 1 1 1).1) [(Change.mk 1 3 [107] [] []), (Change.mk 3 4 [] [] [])]).1)).2.2.1).flatMap Change.enc), Ent.blk b3 29 [vI 7, vI ((R47.unit 1 1 1).1), Value.slice (some ⟨b2, 0, none⟩) 2 2], Ent.blk b2 23 [vI 1, vI 3, vS [107], vS [], vS [], vI 3, vI 4, vS [], vS [], vS []]]) ?_ ?_
  · rcases Bool.eq_false_or_eq_true ((((((decide ((R47.unit 1 1 1).2 = 0)) && (decide ((R47.unit 1 1 1).1 = 262145))) && (decide ((R47.encode 7 ((R47.unit 1 1 1).1) [(Change.mk 1 3 [107] [] []), (Change.mk 3 4 [] [] [])]).2 = 0))) && (decide ((R47.decode ((R47.encode 7 ((R47.unit 1 1 1).1) [(Change.mk 1 3 [107] [] []), (Change.mk 3 4 [] [] [])]).1)).2.2.2 = 0))) && (((decide (((R47.decode ((R47.encode 7 ((R47.unit 1 1 1).1) [(Change.mk 1 3 [107] [] []), (Change.mk 3 4 [] [] [])]).1)).1) = 7)) && (decide (((R47.decode ((R47.encode 7 ((R47.unit 1 1 1).1) [(Change.mk 1 3 [107] [] []), (Change.mk 3 4 [] [] [])]).1)).2.1) = ((R47.unit 1 1 1).1)))) && (decide (((R47.decode ((R47.encode 7 ((R47.unit 1 1 1).1) [(Change.mk 1 3 [107] [] []), (Change.mk 3 4 [] [] [])]).1)).2.2.1) = [(Change.mk 1 3 [107] [] []), (Change.mk 3 4 [] [] [])])))) && (decide ((7 + ([(Change.mk 1 3 [107] [] []), (Change.mk 3 4 [] [] [])].length : Int)) - 1 = 8))) with g32 | g32
    · have g32r := g32
      have ⟨g32r, h33⟩ := band_true g32r
      have ⟨g32r, h34⟩ := band_true g32r
      have ⟨g32r, h35⟩ := band_true g32r
      have ⟨g32r, h36⟩ := band_true g32r
      have ⟨g32r, h37⟩ := band_true g32r
      have g32r := of_decide_eq_true g32r
      have h37 := of_decide_eq_true h37
      have h36 := of_decide_eq_true h36
      have h35 := of_decide_eq_true h35
      have ⟨h34, h38⟩ := band_true h34
      have ⟨h34, h39⟩ := band_true h34
      have h34 := of_decide_eq_true h34
      have h39 := of_decide_eq_true h39
      have h33 := of_decide_eq_true h33
      refine JO_read (Value.pointer (some ⟨b3, 2, none⟩)) rfl ⟨_, rfl, g32⟩ (fun _ _ => x_fieldAddr Ty.fi29_2 rfl rfl) ?_
      refine JO_read (Value.slice (some ⟨b2, 0, none⟩) 2 2) rfl ⟨_, rfl, g32⟩ (x_load 2 rfl rfl Ty.sc27 rfl) ?_
      refine JO_read (Value.pointer (some ⟨b2, 0, none⟩)) rfl ⟨_, rfl, g32⟩ (fun _ _ => x_indexAddr_sl (k := 0) Tryd.underlying27 Ty.sz23 rfl rfl lt_ rfl) ?_
      refine JO_read (Value.agg #[vI 1, vI 3, vS [107], vS [], vS []]) rfl ⟨_, rfl, g32⟩ (x_loadN 3 [vI 1, vI 3, vS [107], vS [], vS []] rfl rfl Ty.ag23 Ty.sz23 rfl) ?_
      refine JO_call [] [] [Ent.blk b8 29 [vI ((R47.decode ((R47.encode 7 ((R47.unit 1 1 1).1) [(Change.mk 1 3 [107] [] []), (Change.mk 3 4 [] [] [])]).1)).1), vI ((R47.decode ((R47.encode 7 ((R47.unit 1 1 1).1) [(Change.mk 1 3 [107] [] []), (Change.mk 3 4 [] [] [])]).1)).2.1), Value.slice A4 ((R47.decode ((R47.encode 7 ((R47.unit 1 1 1).1) [(Change.mk 1 3 [107] [] []), (Change.mk 3 4 [] [] [])]).1)).2.2.1.length) c5], Ent.row (.slice A4 ((R47.decode ((R47.encode 7 ((R47.unit 1 1 1).1) [(Change.mk 1 3 [107] [] []), (Change.mk 3 4 [] [] [])]).1)).2.2.1).length c5) 23 5 ((R47.decode ((R47.encode 7 ((R47.unit 1 1 1).1) [(Change.mk 1 3 [107] [] []), (Change.mk 3 4 [] [] [])]).1)).2.2.1).length (((R47.decode ((R47.encode 7 ((R47.unit 1 1 1).1) [(Change.mk 1 3 [107] [] []), (Change.mk 3 4 [] [] [])]).1)).2.2.1).flatMap Change.enc), Ent.blk b3 29 [vI 7, vI ((R47.unit 1 1 1).1), Value.slice (some ⟨b2, 0, none⟩) 2 2], Ent.blk b2 23 [vI 1, vI 3, vS [107], vS [], vS [], vI 3, vI 4, vS [], vS [], vS []]] rfl ⟨_, rfl, g32⟩ (fun _ => x_call Ty.ca13 rfl) (fun _ h => h) (fun _ h => by cases h) (fun w hS => f13_ok (Change.mk 1 3 [107] [] []) w (hT.on hS (fun _ h => by cases h)) hy_) ?_
      rintro _ _ ⟨rfl, rfl⟩
      refine JO_read (vB (decide (R47.text (Change.mk 1 3 [107] [] []) = ([101, 114, 97, 115, 101, 32, 51, 32, 54, 98] : Bytes)))) rfl ⟨_, rfl, g32⟩ (fun _ _ => x_eql_s rfl rfl) ?_
      refine JO_read (vB (decide (R47.text (Change.mk 1 3 [107] [] []) = ([101, 114, 97, 115, 101, 32, 51, 32, 54, 98] : Bytes)))) rfl trivial (fun _ _ => x_pick_t rfl g32 rfl) ?_
      refine JO_nil (JX_cut (decide (R47.text (Change.mk 1 3 [107] [] []) = ([101, 114, 97, 115, 101, 32, 51, 32, 54, 98] : Bytes))) (by rw [g32]; simp) ⟨rfl, rfl, rfl, rfl, rfl, rfl, trivial⟩ (fun _ h => h))
    · have g32r := g32
      simp only [Bool.and_eq_true, Bool.or_eq_true, Bool.and_eq_false_iff, Bool.or_eq_false_iff, Bool.not_eq_true', Bool.not_eq_false', decide_eq_true_eq, decide_eq_false_iff_not] at g32r
      refine JO_shun rfl ⟨_, rfl, g32⟩ ?_
      refine JO_shun rfl ⟨_, rfl, g32⟩ ?_
      refine JO_shun rfl ⟨_, rfl, g32⟩ ?_
      refine JO_shun rfl ⟨_, rfl, g32⟩ ?_
      refine JO_shun rfl ⟨_, rfl, g32⟩ ?_
      refine JO_shun rfl ⟨_, rfl, g32⟩ ?_
      refine JO_read (vB false) rfl trivial (fun _ _ => x_pick_f rfl g32 rfl) ?_
      refine JO_nil (JX_cut (false) (by rw [g32]; simp) ⟨rfl, rfl, rfl, rfl, rfl, rfl, trivial⟩ (fun _ h => h))
  rintro z31 rfl
  refine JO_read (vB (((((((decide ((R47.unit 1 1 1).2 = 0)) && (decide ((R47.unit 1 1 1).1 = 262145))) && (decide ((R47.encode 7 ((R47.unit 1 1 1).1) [(Change.mk 1 3 [107] [] []), (Change.mk 3 4 [] [] [])]).2 = 0))) && (decide ((R47.decode ((R47.encode 7 ((R47.unit 1 1 1).1) [(Change.mk 1 3 [107] [] []), (Change.mk 3 4 [] [] [])]).1)).2.2.2 = 0))) && (((decide (((R47.decode ((R47.encode 7 ((R47.unit 1 1 1).1) [(Change.mk 1 3 [107] [] []), (Change.mk 3 4 [] [] [])]).1)).1) = 7)) && (decide (((R47.decode ((R47.encode 7 ((R47.unit 1 1 1).1) [(Change.mk 1 3 [107] [] []), (Change.mk 3 4 [] [] [])]).1)).2.1) = ((R47.unit 1 1 1).1)))) && (decide (((R47.decode ((R47.encode 7 ((R47.unit 1 1 1).1) [(Change.mk 1 3 [107] [] []), (Change.mk 3 4 [] [] [])]).1)).2.2.1) = [(Change.mk 1 3 [107] [] []), (Change.mk 3 4 [] [] [])])))) && (decide ((7 + ([(Change.mk 1 3 [107] [] []), (Change.mk 3 4 [] [] [])].length : Int)) - 1 = 8))) && (decide (R47.text (Change.mk 1 3 [107] [] []) = ([101, 114, 97, 115, 101, 32, 51, 32, 54, 98] : Bytes))))) rfl trivial (fun _ _ => rfl) ?_
  refine JO_cut (X := Bool) 7 (fun z => z = ((((((((decide ((R47.unit 1 1 1).2 = 0)) && (decide ((R47.unit 1 1 1).1 = 262145))) && (decide ((R47.encode 7 ((R47.unit 1 1 1).1) [(Change.mk 1 3 [107] [] []), (Change.mk 3 4 [] [] [])]).2 = 0))) && (decide ((R47.decode ((R47.encode 7 ((R47.unit 1 1 1).1) [(Change.mk 1 3 [107] [] []), (Change.mk 3 4 [] [] [])]).1)).2.2.2 = 0))) && (((decide (((R47.decode ((R47.encode 7 ((R47.unit 1 1 1).1) [(Change.mk 1 3 [107] [] []), (Change.mk 3 4 [] [] [])]).1)).1) = 7)) && (decide (((R47.decode ((R47.encode 7 ((R47.unit 1 1 1).1) [(Change.mk 1 3 [107] [] []), (Change.mk 3 4 [] [] [])]).1)).2.1) = ((R47.unit 1 1 1).1)))) && (decide (((R47.decode ((R47.encode 7 ((R47.unit 1 1 1).1) [(Change.mk 1 3 [107] [] []), (Change.mk 3 4 [] [] [])]).1)).2.2.1) = [(Change.mk 1 3 [107] [] []), (Change.mk 3 4 [] [] [])])))) && (decide ((7 + ([(Change.mk 1 3 [107] [] []), (Change.mk 3 4 [] [] [])].length : Int)) - 1 = 8))) && (decide (R47.text (Change.mk 1 3 [107] [] []) = ([101, 114, 97, 115, 101, 32, 51, 32, 54, 98] : Bytes)))) && (decide (R47.text (Change.mk 3 4 [] [] []) = ([101, 109, 112, 116, 121, 32, 52] : Bytes))))) (fun z => [(0, vB false), (1, vI ((R47.unit 1 1 1).1)), (8, vI ((R47.idn ((R47.unit 1 1 1).1) 2).1)), (9, vI ((R47.idn ((R47.unit 1 1 1).1) 2).2)), (73, vB z)]) (fun _ => [Ent.blk b8 29 [vI ((R47.decode ((R47.encode 7 ((R47.unit 1 1 1).1) [(Change.mk 1 3 [107] [] []), (Change.mk 3 4 [] [] [])]).1)).1), vI ((R47.decode ((R47.encode 7 ((R47.unit 1 1 1).1) [(Change.mk 1 3 [107] [] []), (Change.mk 3 4 [] [] [])]).1)).2.1), Value.slice A4 ((R47.decode ((R47.encode 7 ((R47.unit 1 1 1).1) [(Change.mk 1 3 [107] [] []), (Change.mk 3 4 [] [] [])]).1)).2.2.1.length) c5], Ent.row (.slice A4 ((R47.decode ((R47.encode 7 ((R47.unit 1 1 1).1) [(Change.mk 1 3 [107] [] []), (Change.mk 3 4 [] [] [])]).1)).2.2.1).length c5) 23 5 ((R47.decode ((R47.encode 7 ((R47.unit 1 1 1).1) [(Change.mk 1 3 [107] [] []), (Change.mk 3 4 [] [] [])]).1)).2.2.1).length (((R47.decode ((R47.encode 7 ((R47.unit 1 1 1).1) [(Change.mk 1 3 [107] [] []), (Change.mk 3 4 [] [] [])]).1)).2.2.1).flatMap Change.enc), Ent.blk b3 29 [vI 7, vI ((R47.unit 1 1 1).1), Value.slice (some ⟨b2, 0, none⟩) 2 2], Ent.blk b2 23 [vI 1, vI 3, vS [107], vS [], vS [], vI 3, vI 4, vS [], vS [], vS []]]) ?_ ?_
  · rcases Bool.eq_false_or_eq_true (((((((decide ((R47.unit 1 1 1).2 = 0)) && (decide ((R47.unit 1 1 1).1 = 262145))) && (decide ((R47.encode 7 ((R47.unit 1 1 1).1) [(Change.mk 1 3 [107] [] []), (Change.mk 3 4 [] [] [])]).2 = 0))) && (decide ((R47.decode ((R47.encode 7 ((R47.unit 1 1 1).1) [(Change.mk 1 3 [107] [] []), (Change.mk 3 4 [] [] [])]).1)).2.2.2 = 0))) && (((decide (((R47.decode ((R47.encode 7 ((R47.unit 1 1 1).1) [(Change.mk 1 3 [107] [] []), (Change.mk 3 4 [] [] [])]).1)).1) = 7)) && (decide (((R47.decode ((R47.encode 7 ((R47.unit 1 1 1).1) [(Change.mk 1 3 [107] [] []), (Change.mk 3 4 [] [] [])]).1)).2.1) = ((R47.unit 1 1 1).1)))) && (decide (((R47.decode ((R47.encode 7 ((R47.unit 1 1 1).1) [(Change.mk 1 3 [107] [] []), (Change.mk 3 4 [] [] [])]).1)).2.2.1) = [(Change.mk 1 3 [107] [] []), (Change.mk 3 4 [] [] [])])))) && (decide ((7 + ([(Change.mk 1 3 [107] [] []), (Change.mk 3 4 [] [] [])].length : Int)) - 1 = 8))) && (decide (R47.text (Change.mk 1 3 [107] [] []) = ([101, 114, 97, 115, 101, 32, 51, 32, 54, 98] : Bytes)))) with g41 | g41
    · have g41r := g41
      have ⟨g41r, h42⟩ := band_true g41r
      have ⟨g41r, h43⟩ := band_true g41r
      have ⟨g41r, h44⟩ := band_true g41r
      have ⟨g41r, h45⟩ := band_true g41r
      have ⟨g41r, h46⟩ := band_true g41r
      have ⟨g41r, h47⟩ := band_true g41r
      have g41r := of_decide_eq_true g41r
      have h47 := of_decide_eq_true h47
      have h46 := of_decide_eq_true h46
      have h45 := of_decide_eq_true h45
      have ⟨h44, h48⟩ := band_true h44
      have ⟨h44, h49⟩ := band_true h44
      have h44 := of_decide_eq_true h44
      have h49 := of_decide_eq_true h49
      have h43 := of_decide_eq_true h43
      have h42 := of_decide_eq_true h42
      refine JO_read (Value.pointer (some ⟨b3, 2, none⟩)) rfl ⟨_, rfl, g41⟩ (fun _ _ => x_fieldAddr Ty.fi29_2 rfl rfl) ?_
      refine JO_read (Value.slice (some ⟨b2, 0, none⟩) 2 2) rfl ⟨_, rfl, g41⟩ (x_load 2 rfl rfl Ty.sc27 rfl) ?_
      refine JO_read (Value.pointer (some ⟨b2, 5, none⟩)) rfl ⟨_, rfl, g41⟩ (fun _ _ => x_indexAddr_sl (k := 1) Tryd.underlying27 Ty.sz23 rfl rfl lt_ rfl) ?_
      refine JO_read (Value.agg #[vI 3, vI 4, vS [], vS [], vS []]) rfl ⟨_, rfl, g41⟩ (x_loadN 3 [vI 3, vI 4, vS [], vS [], vS []] rfl rfl Ty.ag23 Ty.sz23 rfl) ?_
      refine JO_call [] [] [Ent.blk b8 29 [vI ((R47.decode ((R47.encode 7 ((R47.unit 1 1 1).1) [(Change.mk 1 3 [107] [] []), (Change.mk 3 4 [] [] [])]).1)).1), vI ((R47.decode ((R47.encode 7 ((R47.unit 1 1 1).1) [(Change.mk 1 3 [107] [] []), (Change.mk 3 4 [] [] [])]).1)).2.1), Value.slice A4 ((R47.decode ((R47.encode 7 ((R47.unit 1 1 1).1) [(Change.mk 1 3 [107] [] []), (Change.mk 3 4 [] [] [])]).1)).2.2.1.length) c5], Ent.row (.slice A4 ((R47.decode ((R47.encode 7 ((R47.unit 1 1 1).1) [(Change.mk 1 3 [107] [] []), (Change.mk 3 4 [] [] [])]).1)).2.2.1).length c5) 23 5 ((R47.decode ((R47.encode 7 ((R47.unit 1 1 1).1) [(Change.mk 1 3 [107] [] []), (Change.mk 3 4 [] [] [])]).1)).2.2.1).length (((R47.decode ((R47.encode 7 ((R47.unit 1 1 1).1) [(Change.mk 1 3 [107] [] []), (Change.mk 3 4 [] [] [])]).1)).2.2.1).flatMap Change.enc), Ent.blk b3 29 [vI 7, vI ((R47.unit 1 1 1).1), Value.slice (some ⟨b2, 0, none⟩) 2 2], Ent.blk b2 23 [vI 1, vI 3, vS [107], vS [], vS [], vI 3, vI 4, vS [], vS [], vS []]] rfl ⟨_, rfl, g41⟩ (fun _ => x_call Ty.ca13 rfl) (fun _ h => h) (fun _ h => by cases h) (fun w hS => f13_ok (Change.mk 3 4 [] [] []) w (hT.on hS (fun _ h => by cases h)) hy_) ?_
      rintro _ _ ⟨rfl, rfl⟩
      refine JO_read (vB (decide (R47.text (Change.mk 3 4 [] [] []) = ([101, 109, 112, 116, 121, 32, 52] : Bytes)))) rfl ⟨_, rfl, g41⟩ (fun _ _ => x_eql_s rfl rfl) ?_
      refine JO_read (vB (decide (R47.text (Change.mk 3 4 [] [] []) = ([101, 109, 112, 116, 121, 32, 52] : Bytes)))) rfl trivial (fun _ _ => x_pick_t rfl g41 rfl) ?_
      refine JO_nil (JX_cut (decide (R47.text (Change.mk 3 4 [] [] []) = ([101, 109, 112, 116, 121, 32, 52] : Bytes))) (by rw [g41]; simp) ⟨rfl, rfl, rfl, rfl, rfl, trivial⟩ (fun _ h => h))
    · have g41r := g41
      simp only [Bool.and_eq_true, Bool.or_eq_true, Bool.and_eq_false_iff, Bool.or_eq_false_iff, Bool.not_eq_true', Bool.not_eq_false', decide_eq_true_eq, decide_eq_false_iff_not] at g41r
      refine JO_shun rfl ⟨_, rfl, g41⟩ ?_
      refine JO_shun rfl ⟨_, rfl, g41⟩ ?_
      refine JO_shun rfl ⟨_, rfl, g41⟩ ?_
      refine JO_shun rfl ⟨_, rfl, g41⟩ ?_
      refine JO_shun rfl ⟨_, rfl, g41⟩ ?_
      refine JO_shun rfl ⟨_, rfl, g41⟩ ?_
      refine JO_read (vB false) rfl trivial (fun _ _ => x_pick_f rfl g41 rfl) ?_
      refine JO_nil (JX_cut (false) (by rw [g41]; simp) ⟨rfl, rfl, rfl, rfl, rfl, trivial⟩ (fun _ h => h))
  rintro z40 rfl
  refine JO_read (vB ((((((((decide ((R47.unit 1 1 1).2 = 0)) && (decide ((R47.unit 1 1 1).1 = 262145))) && (decide ((R47.encode 7 ((R47.unit 1 1 1).1) [(Change.mk 1 3 [107] [] []), (Change.mk 3 4 [] [] [])]).2 = 0))) && (decide ((R47.decode ((R47.encode 7 ((R47.unit 1 1 1).1) [(Change.mk 1 3 [107] [] []), (Change.mk 3 4 [] [] [])]).1)).2.2.2 = 0))) && (((decide (((R47.decode ((R47.encode 7 ((R47.unit 1 1 1).1) [(Change.mk 1 3 [107] [] []), (Change.mk 3 4 [] [] [])]).1)).1) = 7)) && (decide (((R47.decode ((R47.encode 7 ((R47.unit 1 1 1).1) [(Change.mk 1 3 [107] [] []), (Change.mk 3 4 [] [] [])]).1)).2.1) = ((R47.unit 1 1 1).1)))) && (decide (((R47.decode ((R47.encode 7 ((R47.unit 1 1 1).1) [(Change.mk 1 3 [107] [] []), (Change.mk 3 4 [] [] [])]).1)).2.2.1) = [(Change.mk 1 3 [107] [] []), (Change.mk 3 4 [] [] [])])))) && (decide ((7 + ([(Change.mk 1 3 [107] [] []), (Change.mk 3 4 [] [] [])].length : Int)) - 1 = 8))) && (decide (R47.text (Change.mk 1 3 [107] [] []) = ([101, 114, 97, 115, 101, 32, 51, 32, 54, 98] : Bytes)))) && (decide (R47.text (Change.mk 3 4 [] [] []) = ([101, 109, 112, 116, 121, 32, 52] : Bytes))))) rfl trivial (fun _ _ => rfl) ?_
  refine JO_cut (X := Bool) 3 (fun z => z = (((((((((decide ((R47.unit 1 1 1).2 = 0)) && (decide ((R47.unit 1 1 1).1 = 262145))) && (decide ((R47.encode 7 ((R47.unit 1 1 1).1) [(Change.mk 1 3 [107] [] []), (Change.mk 3 4 [] [] [])]).2 = 0))) && (decide ((R47.decode ((R47.encode 7 ((R47.unit 1 1 1).1) [(Change.mk 1 3 [107] [] []), (Change.mk 3 4 [] [] [])]).1)).2.2.2 = 0))) && (((decide (((R47.decode ((R47.encode 7 ((R47.unit 1 1 1).1) [(Change.mk 1 3 [107] [] []), (Change.mk 3 4 [] [] [])]).1)).1) = 7)) && (decide (((R47.decode ((R47.encode 7 ((R47.unit 1 1 1).1) [(Change.mk 1 3 [107] [] []), (Change.mk 3 4 [] [] [])]).1)).2.1) = ((R47.unit 1 1 1).1)))) && (decide (((R47.decode ((R47.encode 7 ((R47.unit 1 1 1).1) [(Change.mk 1 3 [107] [] []), (Change.mk 3 4 [] [] [])]).1)).2.2.1) = [(Change.mk 1 3 [107] [] []), (Change.mk 3 4 [] [] [])])))) && (decide ((7 + ([(Change.mk 1 3 [107] [] []), (Change.mk 3 4 [] [] [])].length : Int)) - 1 = 8))) && (decide (R47.text (Change.mk 1 3 [107] [] []) = ([101, 114, 97, 115, 101, 32, 51, 32, 54, 98] : Bytes)))) && (decide (R47.text (Change.mk 3 4 [] [] []) = ([101, 109, 112, 116, 121, 32, 52] : Bytes)))) && (decide ((R47.idn ((R47.unit 1 1 1).1) 2).2 = 0)))) (fun z => [(0, vB false), (1, vI ((R47.unit 1 1 1).1)), (8, vI ((R47.idn ((R47.unit 1 1 1).1) 2).1)), (77, vB z)]) (fun _ => [Ent.blk b8 29 [vI ((R47.decode ((R47.encode 7 ((R47.unit 1 1 1).1) [(Change.mk 1 3 [107] [] []), (Change.mk 3 4 [] [] [])]).1)).1), vI ((R47.decode ((R47.encode 7 ((R47.unit 1 1 1).1) [(Change.mk 1 3 [107] [] []), (Change.mk 3 4 [] [] [])]).1)).2.1), Value.slice A4 ((R47.decode ((R47.encode 7 ((R47.unit 1 1 1).1) [(Change.mk 1 3 [107] [] []), (Change.mk 3 4 [] [] [])]).1)).2.2.1.length) c5], Ent.row (.slice A4 ((R47.decode ((R47.encode 7 ((R47.unit 1 1 1).1) [(Change.mk 1 3 [107] [] []), (Change.mk 3 4 [] [] [])]).1)).2.2.1).length c5) 23 5 ((R47.decode ((R47.encode 7 ((R47.unit 1 1 1).1) [(Change.mk 1 3 [107] [] []), (Change.mk 3 4 [] [] [])]).1)).2.2.1).length (((R47.decode ((R47.encode 7 ((R47.unit 1 1 1).1) [(Change.mk 1 3 [107] [] []), (Change.mk 3 4 [] [] [])]).1)).2.2.1).flatMap Change.enc), Ent.blk b3 29 [vI 7, vI ((R47.unit 1 1 1).1), Value.slice (some ⟨b2, 0, none⟩) 2 2], Ent.blk b2 23 [vI 1, vI 3, vS [107], vS [], vS [], vI 3, vI 4, vS [], vS [], vS []]]) ?_ ?_
  · rcases Bool.eq_false_or_eq_true ((((((((decide ((R47.unit 1 1 1).2 = 0)) && (decide ((R47.unit 1 1 1).1 = 262145))) && (decide ((R47.encode 7 ((R47.unit 1 1 1).1) [(Change.mk 1 3 [107] [] []), (Change.mk 3 4 [] [] [])]).2 = 0))) && (decide ((R47.decode ((R47.encode 7 ((R47.unit 1 1 1).1) [(Change.mk 1 3 [107] [] []), (Change.mk 3 4 [] [] [])]).1)).2.2.2 = 0))) && (((decide (((R47.decode ((R47.encode 7 ((R47.unit 1 1 1).1) [(Change.mk 1 3 [107] [] []), (Change.mk 3 4 [] [] [])]).1)).1) = 7)) && (decide (((R47.decode ((R47.encode 7 ((R47.unit 1 1 1).1) [(Change.mk 1 3 [107] [] []), (Change.mk 3 4 [] [] [])]).1)).2.1) = ((R47.unit 1 1 1).1)))) && (decide (((R47.decode ((R47.encode 7 ((R47.unit 1 1 1).1) [(Change.mk 1 3 [107] [] []), (Change.mk 3 4 [] [] [])]).1)).2.2.1) = [(Change.mk 1 3 [107] [] []), (Change.mk 3 4 [] [] [])])))) && (decide ((7 + ([(Change.mk 1 3 [107] [] []), (Change.mk 3 4 [] [] [])].length : Int)) - 1 = 8))) && (decide (R47.text (Change.mk 1 3 [107] [] []) = ([101, 114, 97, 115, 101, 32, 51, 32, 54, 98] : Bytes)))) && (decide (R47.text (Change.mk 3 4 [] [] []) = ([101, 109, 112, 116, 121, 32, 52] : Bytes)))) with g51 | g51
    · have g51r := g51
      have ⟨g51r, h52⟩ := band_true g51r
      have ⟨g51r, h53⟩ := band_true g51r
      have ⟨g51r, h54⟩ := band_true g51r
      have ⟨g51r, h55⟩ := band_true g51r
      have ⟨g51r, h56⟩ := band_true g51r
      have ⟨g51r, h57⟩ := band_true g51r
      have ⟨g51r, h58⟩ := band_true g51r
      have g51r := of_decide_eq_true g51r
      have h58 := of_decide_eq_true h58
      have h57 := of_decide_eq_true h57
      have h56 := of_decide_eq_true h56
      have ⟨h55, h59⟩ := band_true h55
      have ⟨h55, h60⟩ := band_true h55
      have h55 := of_decide_eq_true h55
      have h60 := of_decide_eq_true h60
      have h54 := of_decide_eq_true h54
      have h53 := of_decide_eq_true h53
      have h52 := of_decide_eq_true h52
      refine JO_read (vI ((R47.idn ((R47.unit 1 1 1).1) 2).2)) rfl ⟨_, rfl, g51⟩ (fun _ _ => rfl) ?_
      refine JO_read (vB (decide ((R47.idn ((R47.unit 1 1 1).1) 2).2 = 0))) rfl ⟨_, rfl, g51⟩ (fun _ _ => x_eql_i rfl rfl) ?_
      refine JO_read (vB (decide ((R47.idn ((R47.unit 1 1 1).1) 2).2 = 0))) rfl trivial (fun _ _ => x_pick_t rfl g51 rfl) ?_
      refine JO_nil (JX_cut (decide ((R47.idn ((R47.unit 1 1 1).1) 2).2 = 0)) (by rw [g51]; simp) ⟨rfl, rfl, rfl, rfl, trivial⟩ (fun _ h => h))
    · have g51r := g51
      simp only [Bool.and_eq_true, Bool.or_eq_true, Bool.and_eq_false_iff, Bool.or_eq_false_iff, Bool.not_eq_true', Bool.not_eq_false', decide_eq_true_eq, decide_eq_false_iff_not] at g51r
      refine JO_shun rfl ⟨_, rfl, g51⟩ ?_
      refine JO_shun rfl ⟨_, rfl, g51⟩ ?_
      refine JO_read (vB false) rfl trivial (fun _ _ => x_pick_f rfl g51 rfl) ?_
      refine JO_nil (JX_cut (false) (by rw [g51]; simp) ⟨rfl, rfl, rfl, rfl, trivial⟩ (fun _ h => h))
  rintro z50 rfl
  refine JO_read (vB (((((((((decide ((R47.unit 1 1 1).2 = 0)) && (decide ((R47.unit 1 1 1).1 = 262145))) && (decide ((R47.encode 7 ((R47.unit 1 1 1).1) [(Change.mk 1 3 [107] [] []), (Change.mk 3 4 [] [] [])]).2 = 0))) && (decide ((R47.decode ((R47.encode 7 ((R47.unit 1 1 1).1) [(Change.mk 1 3 [107] [] []), (Change.mk 3 4 [] [] [])]).1)).2.2.2 = 0))) && (((decide (((R47.decode ((R47.encode 7 ((R47.unit 1 1 1).1) [(Change.mk 1 3 [107] [] []), (Change.mk 3 4 [] [] [])]).1)).1) = 7)) && (decide (((R47.decode ((R47.encode 7 ((R47.unit 1 1 1).1) [(Change.mk 1 3 [107] [] []), (Change.mk 3 4 [] [] [])]).1)).2.1) = ((R47.unit 1 1 1).1)))) && (decide (((R47.decode ((R47.encode 7 ((R47.unit 1 1 1).1) [(Change.mk 1 3 [107] [] []), (Change.mk 3 4 [] [] [])]).1)).2.2.1) = [(Change.mk 1 3 [107] [] []), (Change.mk 3 4 [] [] [])])))) && (decide ((7 + ([(Change.mk 1 3 [107] [] []), (Change.mk 3 4 [] [] [])].length : Int)) - 1 = 8))) && (decide (R47.text (Change.mk 1 3 [107] [] []) = ([101, 114, 97, 115, 101, 32, 51, 32, 54, 98] : Bytes)))) && (decide (R47.text (Change.mk 3 4 [] [] []) = ([101, 109, 112, 116, 121, 32, 52] : Bytes)))) && (decide ((R47.idn ((R47.unit 1 1 1).1) 2).2 = 0)))) rfl trivial (fun _ _ => rfl) ?_
  refine JO_cut (X := Bool) 5 (fun z => z = ((((((((((decide ((R47.unit 1 1 1).2 = 0)) && (decide ((R47.unit 1 1 1).1 = 262145))) && (decide ((R47.encode 7 ((R47.unit 1 1 1).1) [(Change.mk 1 3 [107] [] []), (Change.mk 3 4 [] [] [])]).2 = 0))) && (decide ((R47.decode ((R47.encode 7 ((R47.unit 1 1 1).1) [(Change.mk 1 3 [107] [] []), (Change.mk 3 4 [] [] [])]).1)).2.2.2 = 0))) && (((decide (((R47.decode ((R47.encode 7 ((R47.unit 1 1 1).1) [(Change.mk 1 3 [107] [] []), (Change.mk 3 4 [] [] [])]).1)).1) = 7)) && (decide (((R47.decode ((R47.encode 7 ((R47.unit 1 1 1).1) [(Change.mk 1 3 [107] [] []), (Change.mk 3 4 [] [] [])]).1)).2.1) = ((R47.unit 1 1 1).1)))) && (decide (((R47.decode ((R47.encode 7 ((R47.unit 1 1 1).1) [(Change.mk 1 3 [107] [] []), (Change.mk 3 4 [] [] [])]).1)).2.2.1) = [(Change.mk 1 3 [107] [] []), (Change.mk 3 4 [] [] [])])))) && (decide ((7 + ([(Change.mk 1 3 [107] [] []), (Change.mk 3 4 [] [] [])].length : Int)) - 1 = 8))) && (decide (R47.text (Change.mk 1 3 [107] [] []) = ([101, 114, 97, 115, 101, 32, 51, 32, 54, 98] : Bytes)))) && (decide (R47.text (Change.mk 3 4 [] [] []) = ([101, 109, 112, 116, 121, 32, 52] : Bytes)))) && (decide ((R47.idn ((R47.unit 1 1 1).1) 2).2 = 0))) && (decide (R47.creator ((R47.idn ((R47.unit 1 1 1).1) 2).1) = (R47.unit 1 1 1).1)))) (fun z => [(0, vB false), (83, vB z)]) (fun _ => [Ent.blk b8 29 [vI ((R47.decode ((R47.encode 7 ((R47.unit 1 1 1).1) [(Change.mk 1 3 [107] [] []), (Change.mk 3 4 [] [] [])]).1)).1), vI ((R47.decode ((R47.encode 7 ((R47.unit 1 1 1).1) [(Change.mk 1 3 [107] [] []), (Change.mk 3 4 [] [] [])]).1)).2.1), Value.slice A4 ((R47.decode ((R47.encode 7 ((R47.unit 1 1 1).1) [(Change.mk 1 3 [107] [] []), (Change.mk 3 4 [] [] [])]).1)).2.2.1.length) c5], Ent.row (.slice A4 ((R47.decode ((R47.encode 7 ((R47.unit 1 1 1).1) [(Change.mk 1 3 [107] [] []), (Change.mk 3 4 [] [] [])]).1)).2.2.1).length c5) 23 5 ((R47.decode ((R47.encode 7 ((R47.unit 1 1 1).1) [(Change.mk 1 3 [107] [] []), (Change.mk 3 4 [] [] [])]).1)).2.2.1).length (((R47.decode ((R47.encode 7 ((R47.unit 1 1 1).1) [(Change.mk 1 3 [107] [] []), (Change.mk 3 4 [] [] [])]).1)).2.2.1).flatMap Change.enc), Ent.blk b3 29 [vI 7, vI ((R47.unit 1 1 1).1), Value.slice (some ⟨b2, 0, none⟩) 2 2], Ent.blk b2 23 [vI 1, vI 3, vS [107], vS [], vS [], vI 3, vI 4, vS [], vS [], vS []]]) ?_ ?_
  · rcases Bool.eq_false_or_eq_true (((((((((decide ((R47.unit 1 1 1).2 = 0)) && (decide ((R47.unit 1 1 1).1 = 262145))) && (decide ((R47.encode 7 ((R47.unit 1 1 1).1) [(Change.mk 1 3 [107] [] []), (Change.mk 3 4 [] [] [])]).2 = 0))) && (decide ((R47.decode ((R47.encode 7 ((R47.unit 1 1 1).1) [(Change.mk 1 3 [107] [] []), (Change.mk 3 4 [] [] [])]).1)).2.2.2 = 0))) && (((decide (((R47.decode ((R47.encode 7 ((R47.unit 1 1 1).1) [(Change.mk 1 3 [107] [] []), (Change.mk 3 4 [] [] [])]).1)).1) = 7)) && (decide (((R47.decode ((R47.encode 7 ((R47.unit 1 1 1).1) [(Change.mk 1 3 [107] [] []), (Change.mk 3 4 [] [] [])]).1)).2.1) = ((R47.unit 1 1 1).1)))) && (decide (((R47.decode ((R47.encode 7 ((R47.unit 1 1 1).1) [(Change.mk 1 3 [107] [] []), (Change.mk 3 4 [] [] [])]).1)).2.2.1) = [(Change.mk 1 3 [107] [] []), (Change.mk 3 4 [] [] [])])))) && (decide ((7 + ([(Change.mk 1 3 [107] [] []), (Change.mk 3 4 [] [] [])].length : Int)) - 1 = 8))) && (decide (R47.text (Change.mk 1 3 [107] [] []) = ([101, 114, 97, 115, 101, 32, 51, 32, 54, 98] : Bytes)))) && (decide (R47.text (Change.mk 3 4 [] [] []) = ([101, 109, 112, 116, 121, 32, 52] : Bytes)))) && (decide ((R47.idn ((R47.unit 1 1 1).1) 2).2 = 0))) with g62 | g62
    · have g62r := g62
      have ⟨g62r, h63⟩ := band_true g62r
      have ⟨g62r, h64⟩ := band_true g62r
      have ⟨g62r, h65⟩ := band_true g62r
      have ⟨g62r, h66⟩ := band_true g62r
      have ⟨g62r, h67⟩ := band_true g62r
      have ⟨g62r, h68⟩ := band_true g62r
      have ⟨g62r, h69⟩ := band_true g62r
      have ⟨g62r, h70⟩ := band_true g62r
      have g62r := of_decide_eq_true g62r
      have h70 := of_decide_eq_true h70
      have h69 := of_decide_eq_true h69
      have h68 := of_decide_eq_true h68
      have ⟨h67, h71⟩ := band_true h67
      have ⟨h67, h72⟩ := band_true h67
      have h67 := of_decide_eq_true h67
      have h72 := of_decide_eq_true h72
      have h66 := of_decide_eq_true h66
      have h65 := of_decide_eq_true h65
      have h64 := of_decide_eq_true h64
      have h63 := of_decide_eq_true h63
      refine JO_read (vI ((R47.idn ((R47.unit 1 1 1).1) 2).1)) rfl ⟨_, rfl, g62⟩ (fun _ _ => rfl) ?_
      refine JO_call [] [] [Ent.blk b8 29 [vI ((R47.decode ((R47.encode 7 ((R47.unit 1 1 1).1) [(Change.mk 1 3 [107] [] []), (Change.mk 3 4 [] [] [])]).1)).1), vI ((R47.decode ((R47.encode 7 ((R47.unit 1 1 1).1) [(Change.mk 1 3 [107] [] []), (Change.mk 3 4 [] [] [])]).1)).2.1), Value.slice A4 ((R47.decode ((R47.encode 7 ((R47.unit 1 1 1).1) [(Change.mk 1 3 [107] [] []), (Change.mk 3 4 [] [] [])]).1)).2.2.1.length) c5], Ent.row (.slice A4 ((R47.decode ((R47.encode 7 ((R47.unit 1 1 1).1) [(Change.mk 1 3 [107] [] []), (Change.mk 3 4 [] [] [])]).1)).2.2.1).length c5) 23 5 ((R47.decode ((R47.encode 7 ((R47.unit 1 1 1).1) [(Change.mk 1 3 [107] [] []), (Change.mk 3 4 [] [] [])]).1)).2.2.1).length (((R47.decode ((R47.encode 7 ((R47.unit 1 1 1).1) [(Change.mk 1 3 [107] [] []), (Change.mk 3 4 [] [] [])]).1)).2.2.1).flatMap Change.enc), Ent.blk b3 29 [vI 7, vI ((R47.unit 1 1 1).1), Value.slice (some ⟨b2, 0, none⟩) 2 2], Ent.blk b2 23 [vI 1, vI 3, vS [107], vS [], vS [], vI 3, vI 4, vS [], vS [], vS []]] rfl ⟨_, rfl, g62⟩ (fun _ => x_call Ty.ca20 rfl) (fun _ h => h) (fun _ h => by cases h) (fun w hS => f20_ok ((R47.idn ((R47.unit 1 1 1).1) 2).1) w) ?_
      rintro _ _ ⟨rfl, rfl⟩
      refine JO_read (vI ((R47.unit 1 1 1).1)) rfl ⟨_, rfl, g62⟩ (fun _ _ => rfl) ?_
      refine JO_read (vB (decide (R47.creator ((R47.idn ((R47.unit 1 1 1).1) 2).1) = (R47.unit 1 1 1).1))) rfl ⟨_, rfl, g62⟩ (fun _ _ => x_eql_i rfl rfl) ?_
      refine JO_read (vB (decide (R47.creator ((R47.idn ((R47.unit 1 1 1).1) 2).1) = (R47.unit 1 1 1).1))) rfl trivial (fun _ _ => x_pick_t rfl g62 rfl) ?_
      refine JO_nil (JX_cut (decide (R47.creator ((R47.idn ((R47.unit 1 1 1).1) 2).1) = (R47.unit 1 1 1).1)) (by rw [g62]; simp) ⟨rfl, rfl, trivial⟩ (fun _ h => h))
    · have g62r := g62
      simp only [Bool.and_eq_true, Bool.or_eq_true, Bool.and_eq_false_iff, Bool.or_eq_false_iff, Bool.not_eq_true', Bool.not_eq_false', decide_eq_true_eq, decide_eq_false_iff_not] at g62r
      refine JO_shun rfl ⟨_, rfl, g62⟩ ?_
      refine JO_shun rfl ⟨_, rfl, g62⟩ ?_
      refine JO_shun rfl ⟨_, rfl, g62⟩ ?_
      refine JO_shun rfl ⟨_, rfl, g62⟩ ?_
      refine JO_read (vB false) rfl trivial (fun _ _ => x_pick_f rfl g62 rfl) ?_
      refine JO_nil (JX_cut (false) (by rw [g62]; simp) ⟨rfl, rfl, trivial⟩ (fun _ h => h))
  rintro z61 rfl
  refine JO_read (vB ((((((((((decide ((R47.unit 1 1 1).2 = 0)) && (decide ((R47.unit 1 1 1).1 = 262145))) && (decide ((R47.encode 7 ((R47.unit 1 1 1).1) [(Change.mk 1 3 [107] [] []), (Change.mk 3 4 [] [] [])]).2 = 0))) && (decide ((R47.decode ((R47.encode 7 ((R47.unit 1 1 1).1) [(Change.mk 1 3 [107] [] []), (Change.mk 3 4 [] [] [])]).1)).2.2.2 = 0))) && (((decide (((R47.decode ((R47.encode 7 ((R47.unit 1 1 1).1) [(Change.mk 1 3 [107] [] []), (Change.mk 3 4 [] [] [])]).1)).1) = 7)) && (decide (((R47.decode ((R47.encode 7 ((R47.unit 1 1 1).1) [(Change.mk 1 3 [107] [] []), (Change.mk 3 4 [] [] [])]).1)).2.1) = ((R47.unit 1 1 1).1)))) && (decide (((R47.decode ((R47.encode 7 ((R47.unit 1 1 1).1) [(Change.mk 1 3 [107] [] []), (Change.mk 3 4 [] [] [])]).1)).2.2.1) = [(Change.mk 1 3 [107] [] []), (Change.mk 3 4 [] [] [])])))) && (decide ((7 + ([(Change.mk 1 3 [107] [] []), (Change.mk 3 4 [] [] [])].length : Int)) - 1 = 8))) && (decide (R47.text (Change.mk 1 3 [107] [] []) = ([101, 114, 97, 115, 101, 32, 51, 32, 54, 98] : Bytes)))) && (decide (R47.text (Change.mk 3 4 [] [] []) = ([101, 109, 112, 116, 121, 32, 52] : Bytes)))) && (decide ((R47.idn ((R47.unit 1 1 1).1) 2).2 = 0))) && (decide (R47.creator ((R47.idn ((R47.unit 1 1 1).1) 2).1) = (R47.unit 1 1 1).1)))) rfl trivial (fun _ _ => rfl) ?_
  refine JO_nil ?_
  refine JX_then ?_
  refine J_ret ?_
  refine JX_rets [vB ((((((((((decide ((R47.unit 1 1 1).2 = 0)) && (decide ((R47.unit 1 1 1).1 = 262145))) && (decide ((R47.encode 7 ((R47.unit 1 1 1).1) [(Change.mk 1 3 [107] [] []), (Change.mk 3 4 [] [] [])]).2 = 0))) && (decide ((R47.decode ((R47.encode 7 ((R47.unit 1 1 1).1) [(Change.mk 1 3 [107] [] []), (Change.mk 3 4 [] [] [])]).1)).2.2.2 = 0))) && (((decide (((R47.decode ((R47.encode 7 ((R47.unit 1 1 1).1) [(Change.mk 1 3 [107] [] []), (Change.mk 3 4 [] [] [])]).1)).1) = 7)) && (decide (((R47.decode ((R47.encode 7 ((R47.unit 1 1 1).1) [(Change.mk 1 3 [107] [] []), (Change.mk 3 4 [] [] [])]).1)).2.1) = ((R47.unit 1 1 1).1)))) && (decide (((R47.decode ((R47.encode 7 ((R47.unit 1 1 1).1) [(Change.mk 1 3 [107] [] []), (Change.mk 3 4 [] [] [])]).1)).2.2.1) = [(Change.mk 1 3 [107] [] []), (Change.mk 3 4 [] [] [])])))) && (decide ((7 + ([(Change.mk 1 3 [107] [] []), (Change.mk 3 4 [] [] [])].length : Int)) - 1 = 8))) && (decide (R47.text (Change.mk 1 3 [107] [] []) = ([101, 114, 97, 115, 101, 32, 51, 32, 54, 98] : Bytes)))) && (decide (R47.text (Change.mk 3 4 [] [] []) = ([101, 109, 112, 116, 121, 32, 52] : Bytes)))) && (decide ((R47.idn ((R47.unit 1 1 1).1) 2).2 = 0))) && (decide (R47.creator ((R47.idn ((R47.unit 1 1 1).1) 2).1) = (R47.unit 1 1 1).1)))] (vB ((((((((((decide ((R47.unit 1 1 1).2 = 0)) && (decide ((R47.unit 1 1 1).1 = 262145))) && (decide ((R47.encode 7 ((R47.unit 1 1 1).1) [(Change.mk 1 3 [107] [] []), (Change.mk 3 4 [] [] [])]).2 = 0))) && (decide ((R47.decode ((R47.encode 7 ((R47.unit 1 1 1).1) [(Change.mk 1 3 [107] [] []), (Change.mk 3 4 [] [] [])]).1)).2.2.2 = 0))) && (((decide (((R47.decode ((R47.encode 7 ((R47.unit 1 1 1).1) [(Change.mk 1 3 [107] [] []), (Change.mk 3 4 [] [] [])]).1)).1) = 7)) && (decide (((R47.decode ((R47.encode 7 ((R47.unit 1 1 1).1) [(Change.mk 1 3 [107] [] []), (Change.mk 3 4 [] [] [])]).1)).2.1) = ((R47.unit 1 1 1).1)))) && (decide (((R47.decode ((R47.encode 7 ((R47.unit 1 1 1).1) [(Change.mk 1 3 [107] [] []), (Change.mk 3 4 [] [] [])]).1)).2.2.1) = [(Change.mk 1 3 [107] [] []), (Change.mk 3 4 [] [] [])])))) && (decide ((7 + ([(Change.mk 1 3 [107] [] []), (Change.mk 3 4 [] [] [])].length : Int)) - 1 = 8))) && (decide (R47.text (Change.mk 1 3 [107] [] []) = ([101, 114, 97, 115, 101, 32, 51, 32, 54, 98] : Bytes)))) && (decide (R47.text (Change.mk 3 4 [] [] []) = ([101, 109, 112, 116, 121, 32, 52] : Bytes)))) && (decide ((R47.idn ((R47.unit 1 1 1).1) 2).2 = 0))) && (decide (R47.creator ((R47.idn ((R47.unit 1 1 1).1) 2).1) = (R47.unit 1 1 1).1)))) Tryd.results10 (fun w h => ⟨rfl, trivial⟩) rfl [] (fun _ h => h.keep [false, false, false, false] rfl) ⟨?_, ?_⟩
  · have e_x0 : ((((((((((decide ((R47.unit 1 1 1).2 = 0)) && (decide ((R47.unit 1 1 1).1 = 262145))) && (decide ((R47.encode 7 ((R47.unit 1 1 1).1) [(Change.mk 1 3 [107] [] []), (Change.mk 3 4 [] [] [])]).2 = 0))) && (decide ((R47.decode ((R47.encode 7 ((R47.unit 1 1 1).1) [(Change.mk 1 3 [107] [] []), (Change.mk 3 4 [] [] [])]).1)).2.2.2 = 0))) && (((decide (((R47.decode ((R47.encode 7 ((R47.unit 1 1 1).1) [(Change.mk 1 3 [107] [] []), (Change.mk 3 4 [] [] [])]).1)).1) = 7)) && (decide (((R47.decode ((R47.encode 7 ((R47.unit 1 1 1).1) [(Change.mk 1 3 [107] [] []), (Change.mk 3 4 [] [] [])]).1)).2.1) = ((R47.unit 1 1 1).1)))) && (decide (((R47.decode ((R47.encode 7 ((R47.unit 1 1 1).1) [(Change.mk 1 3 [107] [] []), (Change.mk 3 4 [] [] [])]).1)).2.2.1) = [(Change.mk 1 3 [107] [] []), (Change.mk 3 4 [] [] [])])))) && (decide ((7 + ([(Change.mk 1 3 [107] [] []), (Change.mk 3 4 [] [] [])].length : Int)) - 1 = 8))) && (decide (R47.text (Change.mk 1 3 [107] [] []) = ([101, 114, 97, 115, 101, 32, 51, 32, 54, 98] : Bytes)))) && (decide (R47.text (Change.mk 3 4 [] [] []) = ([101, 109, 112, 116, 121, 32, 52] : Bytes)))) && (decide ((R47.idn ((R47.unit 1 1 1).1) 2).2 = 0))) && (decide (R47.creator ((R47.idn ((R47.unit 1 1 1).1) 2).1) = (R47.unit 1 1 1).1)) : Bool) = true := by
      first | (simp only [R47.ex_unit, R47.ex_encode_, R47.ex_decode_, R47.ex_text1_, R47.ex_text2_, R47.ex_idn, R47.ex_creator]; done) | (simp only [R47.ex_unit, R47.ex_encode_, R47.ex_decode_, R47.ex_text1_, R47.ex_text2_, R47.ex_idn, R47.ex_creator]; rfl) | (simp only [R47.ex_unit, R47.ex_encode_, R47.ex_decode_, R47.ex_text1_, R47.ex_text2_, R47.ex_idn, R47.ex_creator]; decide)
    exact congrArg (fun (x0 : Bool) => vB x0) e_x0
  · rfl

end Go.Proofs.YtknibpmmjhmjeaaDoor
