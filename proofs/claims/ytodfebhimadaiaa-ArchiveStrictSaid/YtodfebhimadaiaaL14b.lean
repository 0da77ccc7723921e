/- contracts L14b -/
import Derived.Test.YtodfebhimadaiaaC14l
import Derived.Test.YtodfebhimadaiaaPl14j
namespace Go.Proofs.Ytodfebhimadaiaa
open Go.GV
set_option linter.unusedVariables false
set_option linter.unusedSimpArgs false

set_option maxRecDepth 20000 in
theorem f9_ok (s : Bytes) (w : World) : Calls Try.prog 9 #[vS s] w (Gives [] w fun v L => v = vB true ∧ L = []) := by
  have hst := R14.strict R02.updateN s
  refine calls_J [] 45 Try.func9 rfl Try.ntmps9 [(0, vS s)] rfl rfl (Give.nil w) ?_
  refine J_seq ?_
  refine J_region ?_
  refine JO_read (vB false) rfl trivial (fun _ _ => rfl) ?_
  refine JO_nil ?_
  refine JX_then ?_
  refine J_seq ?_
  refine J_seq ?_
  refine J_region ?_
  refine JO_call [] [] [] rfl trivial (fun _ => x_call Ty.ca10 rfl) (fun _ h => h) (fun _ h => by cases h) (fun w hS => f10_ok w) ?_
  rintro _ _ ⟨rfl, rfl⟩
  refine JO_read (vB false) rfl trivial (fun _ _ => rfl) ?_
  refine JO_read (vB false) rfl trivial (fun _ _ => rfl) ?_
  refine JO_read (vS s) rfl ⟨_, rfl, rfl⟩ (fun _ _ => rfl) ?_
  refine JO_read (vI ((s.length : Nat) : Int)) rfl ⟨_, rfl, rfl⟩ (fun _ _ => x_len_s rfl Try.underlying9) ?_
  refine JO_read (vB (decide ((6000 : Int) < ((s.length : Nat) : Int)))) rfl ⟨_, rfl, rfl⟩ (fun _ _ => x_gtr_i rfl rfl) ?_
  refine JO_read (vB (decide ((6000 : Int) < ((s.length : Nat) : Int)))) rfl trivial (fun _ _ => rfl) ?_
  refine JO_nil ?_
  refine JX_then ?_
  refine J_cond (decide ((6000 : Int) < ((s.length : Nat) : Int))) rfl rfl (fun h1 => ?_) (fun h1 => ?_)
  · have h1w := h1
    have h1 := of_decide_eq_true h1
    refine J_seq ?_
    refine J_region ?_
    refine JO_call [] [] [] rfl trivial (fun _ => x_call Ty.ca10 rfl) (fun _ h => h) (fun _ h => by cases h) (fun w hS => f10_ok w) ?_
    rintro _ _ ⟨rfl, rfl⟩
    refine JO_read (vB true) rfl trivial (fun _ _ => rfl) ?_
    refine JO_nil ?_
    refine JX_then ?_
    refine J_ret ?_
    refine JX_then_ret ?_
    refine JX_rets [vB true] (vB true) Try.results9 (fun w h => ⟨rfl, trivial⟩) rfl [] (fun _ h => h) ⟨?_, ?_⟩
    · rfl
    · rfl
  · have h1w := h1
    have h1 := of_decide_eq_false h1
    refine J_skip ?_
    refine JX_then ?_
    refine J_seq ?_
    refine J_region ?_
    refine JO_read (vS s) rfl trivial (fun _ _ => rfl) ?_
    refine JO_call [] [] [] rfl trivial (fun _ => x_call Ty.ca26 rfl) (fun _ h => h) (fun _ h => by cases h) (fun w hS => f26_ok s w hy_) ?_
    rintro _ _ ⟨A2, c3, rfl, rfl⟩
    have ha4 := R14.dcP_len R02.updateN s
    refine JO_read (Value.tuple #[Value.agg ((DataSet.enc (R14.dcD R02.updateN s) ++ [vI (R14.dcN R02.updateN s), Value.slice A2 ((R14.dcP R02.updateN s).length) c3])).toArray, vI (R14.dcE R02.updateN s)]) rfl trivial (fun _ _ => rfl) ?_
    refine JO_read (Value.agg ((DataSet.enc (R14.dcD R02.updateN s) ++ [vI (R14.dcN R02.updateN s), Value.slice A2 ((R14.dcP R02.updateN s).length) c3])).toArray) rfl trivial (fun _ _ => rfl) ?_
    refine JO_read (vI (R14.dcE R02.updateN s)) rfl trivial (fun _ _ => rfl) ?_
    refine JO_op rfl trivial (O_alloc Ty.ze37 rfl fun b5 => ?_)
    refine JO_op rfl trivial (O_storeS (vs := (DataSet.enc (R14.dcD R02.updateN s) ++ [vI (R14.dcN R02.updateN s), Value.slice A2 ((R14.dcP R02.updateN s).length) c3])) 0 (DataSet.enc (R14.dcD R02.updateN s) ++ [vI (R14.dcN R02.updateN s), Value.slice A2 ((R14.dcP R02.updateN s).length) c3]) [Ent.blk b5 37 (DataSet.enc (R14.dcD R02.updateN s) ++ [vI (R14.dcN R02.updateN s), Value.slice A2 ((R14.dcP R02.updateN s).length) c3]), Ent.row (.slice A2 (R14.dcP R02.updateN s).length c3) 54 2 (R14.dcP R02.updateN s).length ((R14.dcP R02.updateN s).flatMap Pair.enc)] rfl rfl rfl Ty.sz37 rfl (Nat.le_of_ble_eq_true rfl) rfl (st_all rfl) rfl ?_)
    refine JO_read (vI (R14.dcE R02.updateN s)) rfl trivial (fun _ _ => rfl) ?_
    refine JO_nil ?_
    refine JX_then ?_
    refine J_seq ?_
    refine J_seq ?_
    refine J_region ?_
    refine JO_read (vI (R14.dcE R02.updateN s)) rfl trivial (fun _ _ => rfl) ?_
    refine JO_read (vB (decide (R14.dcE R02.updateN s ≠ 0))) rfl trivial (fun _ _ => x_neq_i rfl rfl) ?_
    refine JO_nil ?_
    refine JX_then ?_
    refine J_cond (decide (R14.dcE R02.updateN s ≠ 0)) rfl rfl (fun h6 => ?_) (fun h6 => ?_)
    · have h6w := h6
      have h6 := of_decide_eq_true h6
      refine J_seq ?_
      refine J_region ?_
      refine JO_read (vI (R14.dcE R02.updateN s)) rfl trivial (fun _ _ => rfl) ?_
      refine JO_read (vB (decide (R14.dcE R02.updateN s = 11))) rfl trivial (fun _ _ => x_eql_i rfl rfl) ?_
      refine JO_read (vB (decide (R14.dcE R02.updateN s = 11))) rfl trivial (fun _ _ => rfl) ?_
      refine JO_cut (X := Bool) 4 (fun z => z = ((decide (R14.dcE R02.updateN s = 11)) && (R14.same (R14.dcD R02.updateN s) (R14.dcN R02.updateN s) (R14.dcP R02.updateN s) (DataSet.mk 0 0 0 0 0 0 0 0 0 0 0 0 0 0 false 0 [] [] 0 0 false) 0 []))) (fun z => [(0, vS s), (2, vB false), (3, Value.pointer (some ⟨b5, 0, none⟩)), (28, vB z)]) (fun _ => [Ent.blk b5 37 (DataSet.enc (R14.dcD R02.updateN s) ++ [vI (R14.dcN R02.updateN s), Value.slice A2 ((R14.dcP R02.updateN s).length) c3]), Ent.row (.slice A2 (R14.dcP R02.updateN s).length c3) 54 2 (R14.dcP R02.updateN s).length ((R14.dcP R02.updateN s).flatMap Pair.enc)]) ?_ ?_
      · rcases Bool.eq_false_or_eq_true (decide (R14.dcE R02.updateN s = 11)) with g8 | g8
        · have g8r := g8
          have g8r := of_decide_eq_true g8r
          refine JO_read (Value.agg ((DataSet.enc (R14.dcD R02.updateN s) ++ [vI (R14.dcN R02.updateN s), Value.slice A2 ((R14.dcP R02.updateN s).length) c3])).toArray) rfl ⟨_, rfl, g8⟩ (x_loadN 0 (DataSet.enc (R14.dcD R02.updateN s) ++ [vI (R14.dcN R02.updateN s), Value.slice A2 ((R14.dcP R02.updateN s).length) c3]) rfl rfl Ty.ag37 Ty.sz37 rfl) ?_
          refine JO_read (Value.agg #[vI 0, vI 0, vI 0, vI 0, vI 0, vI 0, vI 0, vI 0, vI 0, vI 0, vI 0, vI 0, vI 0, vI 0, vB false, vI 0, vS [], vS [], vI 0, vI 0, vB false, vI 0, Value.slice none 0 0]) rfl ⟨_, rfl, g8⟩ (fun _ _ => x_build (by kernel_rfl)) ?_
          refine JO_call [] [] [Ent.blk b5 37 (DataSet.enc (R14.dcD R02.updateN s) ++ [vI (R14.dcN R02.updateN s), Value.slice A2 ((R14.dcP R02.updateN s).length) c3]), Ent.row (.slice A2 (R14.dcP R02.updateN s).length c3) 54 2 (R14.dcP R02.updateN s).length ((R14.dcP R02.updateN s).flatMap Pair.enc)] rfl ⟨_, rfl, g8⟩ (fun _ => x_call Ty.ca22 rfl) (fun _ h => h) (fun _ h => by cases h) (fun w hS => f22_ok (R14.dcD R02.updateN s) (R14.dcN R02.updateN s) (R14.dcP R02.updateN s) A2 c3 (DataSet.mk 0 0 0 0 0 0 0 0 0 0 0 0 0 0 false 0 [] [] 0 0 false) 0 [] none 0 w (RO.of_row hS 1 rfl) RO.nil hy_ hy_) ?_
          rintro _ _ ⟨rfl, rfl⟩
          refine JO_read (vB (R14.same (R14.dcD R02.updateN s) (R14.dcN R02.updateN s) (R14.dcP R02.updateN s) (DataSet.mk 0 0 0 0 0 0 0 0 0 0 0 0 0 0 false 0 [] [] 0 0 false) 0 [])) rfl trivial (fun _ _ => x_pick_t rfl g8 rfl) ?_
          refine JO_nil (JX_cut (R14.same (R14.dcD R02.updateN s) (R14.dcN R02.updateN s) (R14.dcP R02.updateN s) (DataSet.mk 0 0 0 0 0 0 0 0 0 0 0 0 0 0 false 0 [] [] 0 0 false) 0 []) (by rw [g8]; simp) ⟨rfl, rfl, rfl, rfl, trivial⟩ (fun _ h => h))
        · have g8r := g8
          have g8r := of_decide_eq_false g8r
          refine JO_shun rfl ⟨_, rfl, g8⟩ ?_
          refine JO_shun rfl ⟨_, rfl, g8⟩ ?_
          refine JO_shun rfl ⟨_, rfl, g8⟩ ?_
          refine JO_read (vB false) rfl trivial (fun _ _ => x_pick_f rfl g8 rfl) ?_
          refine JO_nil (JX_cut (false) (by rw [g8]; simp) ⟨rfl, rfl, rfl, rfl, trivial⟩ (fun _ h => h))
      rintro z7 rfl
      refine JO_read (vB ((decide (R14.dcE R02.updateN s = 11)) && (R14.same (R14.dcD R02.updateN s) (R14.dcN R02.updateN s) (R14.dcP R02.updateN s) (DataSet.mk 0 0 0 0 0 0 0 0 0 0 0 0 0 0 false 0 [] [] 0 0 false) 0 []))) rfl trivial (fun _ _ => rfl) ?_
      refine JO_nil ?_
      refine JX_then ?_
      refine J_ret ?_
      refine JX_then_ret ?_
      refine JX_rets [vB ((decide (R14.dcE R02.updateN s = 11)) && (R14.same (R14.dcD R02.updateN s) (R14.dcN R02.updateN s) (R14.dcP R02.updateN s) (DataSet.mk 0 0 0 0 0 0 0 0 0 0 0 0 0 0 false 0 [] [] 0 0 false) 0 []))] (vB ((decide (R14.dcE R02.updateN s = 11)) && (R14.same (R14.dcD R02.updateN s) (R14.dcN R02.updateN s) (R14.dcP R02.updateN s) (DataSet.mk 0 0 0 0 0 0 0 0 0 0 0 0 0 0 false 0 [] [] 0 0 false) 0 []))) Try.results9 (fun w h => ⟨rfl, trivial⟩) rfl [] (fun _ h => h.keep [false, false] rfl) ⟨?_, ?_⟩
      · have e_x0 : ((decide (R14.dcE R02.updateN s = 11)) && (R14.same (R14.dcD R02.updateN s) (R14.dcN R02.updateN s) (R14.dcP R02.updateN s) (DataSet.mk 0 0 0 0 0 0 0 0 0 0 0 0 0 0 false 0 [] [] 0 0 false) 0 []) : Bool) = true := by
          first | rfl | exact R14.strict_yes hst (by assumption) | exact R14.strict_no hst (by assumption)
        exact congrArg (fun (x0 : Bool) => vB x0) e_x0
      · rfl
    · have h6w := h6
      have h6 := of_decide_eq_false h6
      refine J_skip ?_
      refine JX_then ?_
      refine J_seq ?_
      refine J_region ?_
      refine JO_read (Value.agg ((DataSet.enc (R14.dcD R02.updateN s) ++ [vI (R14.dcN R02.updateN s), Value.slice A2 ((R14.dcP R02.updateN s).length) c3])).toArray) rfl trivial (x_loadN 0 (DataSet.enc (R14.dcD R02.updateN s) ++ [vI (R14.dcN R02.updateN s), Value.slice A2 ((R14.dcP R02.updateN s).length) c3]) rfl rfl Ty.ag37 Ty.sz37 rfl) ?_
      refine JO_call [] [] [Ent.blk b5 37 (DataSet.enc (R14.dcD R02.updateN s) ++ [vI (R14.dcN R02.updateN s), Value.slice A2 ((R14.dcP R02.updateN s).length) c3]), Ent.row (.slice A2 (R14.dcP R02.updateN s).length c3) 54 2 (R14.dcP R02.updateN s).length ((R14.dcP R02.updateN s).flatMap Pair.enc)] rfl trivial (fun _ => x_call Ty.ca18 rfl) (fun _ h => h) (fun _ h => by cases h) (fun w hS => f18_ok (R14.dcD R02.updateN s) (R14.dcN R02.updateN s) (R14.dcP R02.updateN s) A2 c3 w (RO.of_row hS 1 rfl) hy_) ?_
      rintro _ _ ⟨rfl, rfl⟩
      refine JO_read (Value.tuple #[vS (R14.encode R02.updateN (R14.dcD R02.updateN s) (R14.dcN R02.updateN s) (R14.dcP R02.updateN s)), vI (R14.okE (R14.valid (R14.dcD R02.updateN s) (R14.dcN R02.updateN s) (R14.dcP R02.updateN s)))]) rfl trivial (fun _ _ => rfl) ?_
      refine JO_read (vS (R14.encode R02.updateN (R14.dcD R02.updateN s) (R14.dcN R02.updateN s) (R14.dcP R02.updateN s))) rfl trivial (fun _ _ => rfl) ?_
      refine JO_read (vI (R14.okE (R14.valid (R14.dcD R02.updateN s) (R14.dcN R02.updateN s) (R14.dcP R02.updateN s)))) rfl trivial (fun _ _ => rfl) ?_
      refine JO_read (vS (R14.encode R02.updateN (R14.dcD R02.updateN s) (R14.dcN R02.updateN s) (R14.dcP R02.updateN s))) rfl trivial (fun _ _ => rfl) ?_
      refine JO_read (vI (R14.okE (R14.valid (R14.dcD R02.updateN s) (R14.dcN R02.updateN s) (R14.dcP R02.updateN s)))) rfl trivial (fun _ _ => rfl) ?_
      refine JO_nil ?_
      refine JX_then ?_
      refine J_seq ?_
      refine J_region ?_
      refine JO_read (vI (R14.okE (R14.valid (R14.dcD R02.updateN s) (R14.dcN R02.updateN s) (R14.dcP R02.updateN s)))) rfl trivial (fun _ _ => rfl) ?_
      refine JO_read (vB (decide (R14.okE (R14.valid (R14.dcD R02.updateN s) (R14.dcN R02.updateN s) (R14.dcP R02.updateN s)) = 0))) rfl trivial (fun _ _ => x_eql_i rfl rfl) ?_
      refine JO_read (vB (decide (R14.okE (R14.valid (R14.dcD R02.updateN s) (R14.dcN R02.updateN s) (R14.dcP R02.updateN s)) = 0))) rfl trivial (fun _ _ => rfl) ?_
      refine JO_cut (X := Bool) 4 (fun z => z = ((decide (R14.okE (R14.valid (R14.dcD R02.updateN s) (R14.dcN R02.updateN s) (R14.dcP R02.updateN s)) = 0)) && (decide (s = R14.encode R02.updateN (R14.dcD R02.updateN s) (R14.dcN R02.updateN s) (R14.dcP R02.updateN s))))) (fun z => [(2, vB false), (3, Value.pointer (some ⟨b5, 0, none⟩)), (40, vB z)]) (fun _ => [Ent.blk b5 37 (DataSet.enc (R14.dcD R02.updateN s) ++ [vI (R14.dcN R02.updateN s), Value.slice A2 ((R14.dcP R02.updateN s).length) c3]), Ent.row (.slice A2 (R14.dcP R02.updateN s).length c3) 54 2 (R14.dcP R02.updateN s).length ((R14.dcP R02.updateN s).flatMap Pair.enc)]) ?_ ?_
      · rcases Bool.eq_false_or_eq_true (decide (R14.okE (R14.valid (R14.dcD R02.updateN s) (R14.dcN R02.updateN s) (R14.dcP R02.updateN s)) = 0)) with g10 | g10
        · have g10r := g10
          have g10r := of_decide_eq_true g10r
          refine JO_read (vS s) rfl ⟨_, rfl, g10⟩ (fun _ _ => rfl) ?_
          refine JO_read (vS (R14.encode R02.updateN (R14.dcD R02.updateN s) (R14.dcN R02.updateN s) (R14.dcP R02.updateN s))) rfl ⟨_, rfl, g10⟩ (fun _ _ => rfl) ?_
          refine JO_read (vB (decide (s = R14.encode R02.updateN (R14.dcD R02.updateN s) (R14.dcN R02.updateN s) (R14.dcP R02.updateN s)))) rfl ⟨_, rfl, g10⟩ (fun _ _ => x_eql_s rfl rfl) ?_
          refine JO_read (vB (decide (s = R14.encode R02.updateN (R14.dcD R02.updateN s) (R14.dcN R02.updateN s) (R14.dcP R02.updateN s)))) rfl trivial (fun _ _ => x_pick_t rfl g10 rfl) ?_
          refine JO_nil (JX_cut (decide (s = R14.encode R02.updateN (R14.dcD R02.updateN s) (R14.dcN R02.updateN s) (R14.dcP R02.updateN s))) (by rw [g10]; simp) ⟨rfl, rfl, rfl, trivial⟩ (fun _ h => h))
        · have g10r := g10
          have g10r := of_decide_eq_false g10r
          refine JO_shun rfl ⟨_, rfl, g10⟩ ?_
          refine JO_shun rfl ⟨_, rfl, g10⟩ ?_
          refine JO_shun rfl ⟨_, rfl, g10⟩ ?_
          refine JO_read (vB false) rfl trivial (fun _ _ => x_pick_f rfl g10 rfl) ?_
          refine JO_nil (JX_cut (false) (by rw [g10]; simp) ⟨rfl, rfl, rfl, trivial⟩ (fun _ h => h))
      rintro z9 rfl
      refine JO_read (vB ((decide (R14.okE (R14.valid (R14.dcD R02.updateN s) (R14.dcN R02.updateN s) (R14.dcP R02.updateN s)) = 0)) && (decide (s = R14.encode R02.updateN (R14.dcD R02.updateN s) (R14.dcN R02.updateN s) (R14.dcP R02.updateN s))))) rfl trivial (fun _ _ => rfl) ?_
      refine JO_cut (X := Bool) 3 (fun z => z = (((decide (R14.okE (R14.valid (R14.dcD R02.updateN s) (R14.dcN R02.updateN s) (R14.dcP R02.updateN s)) = 0)) && (decide (s = R14.encode R02.updateN (R14.dcD R02.updateN s) (R14.dcN R02.updateN s) (R14.dcP R02.updateN s)))) && (R14.valid (R14.dcD R02.updateN s) (R14.dcN R02.updateN s) (R14.dcP R02.updateN s)))) (fun z => [(2, vB false), (44, vB z)]) (fun _ => [Ent.blk b5 37 (DataSet.enc (R14.dcD R02.updateN s) ++ [vI (R14.dcN R02.updateN s), Value.slice A2 ((R14.dcP R02.updateN s).length) c3]), Ent.row (.slice A2 (R14.dcP R02.updateN s).length c3) 54 2 (R14.dcP R02.updateN s).length ((R14.dcP R02.updateN s).flatMap Pair.enc)]) ?_ ?_
      · rcases Bool.eq_false_or_eq_true ((decide (R14.okE (R14.valid (R14.dcD R02.updateN s) (R14.dcN R02.updateN s) (R14.dcP R02.updateN s)) = 0)) && (decide (s = R14.encode R02.updateN (R14.dcD R02.updateN s) (R14.dcN R02.updateN s) (R14.dcP R02.updateN s)))) with g12 | g12
        · have g12r := g12
          have ⟨g12r, h13⟩ := band_true g12r
          have g12r := of_decide_eq_true g12r
          have h13 := of_decide_eq_true h13
          refine JO_read (Value.agg ((DataSet.enc (R14.dcD R02.updateN s) ++ [vI (R14.dcN R02.updateN s), Value.slice A2 ((R14.dcP R02.updateN s).length) c3])).toArray) rfl ⟨_, rfl, g12⟩ (x_loadN 0 (DataSet.enc (R14.dcD R02.updateN s) ++ [vI (R14.dcN R02.updateN s), Value.slice A2 ((R14.dcP R02.updateN s).length) c3]) rfl rfl Ty.ag37 Ty.sz37 rfl) ?_
          refine JO_call [] [] [Ent.blk b5 37 (DataSet.enc (R14.dcD R02.updateN s) ++ [vI (R14.dcN R02.updateN s), Value.slice A2 ((R14.dcP R02.updateN s).length) c3]), Ent.row (.slice A2 (R14.dcP R02.updateN s).length c3) 54 2 (R14.dcP R02.updateN s).length ((R14.dcP R02.updateN s).flatMap Pair.enc)] rfl ⟨_, rfl, g12⟩ (fun _ => x_call Ty.ca20 rfl) (fun _ h => h) (fun _ h => by cases h) (fun w hS => f20_ok (R14.dcD R02.updateN s) (R14.dcN R02.updateN s) (R14.dcP R02.updateN s) A2 c3 w (RO.of_row hS 1 rfl) hy_) ?_
          rintro _ _ ⟨rfl, rfl⟩
          refine JO_read (vB (R14.valid (R14.dcD R02.updateN s) (R14.dcN R02.updateN s) (R14.dcP R02.updateN s))) rfl trivial (fun _ _ => x_pick_t rfl g12 rfl) ?_
          refine JO_nil (JX_cut (R14.valid (R14.dcD R02.updateN s) (R14.dcN R02.updateN s) (R14.dcP R02.updateN s)) (by rw [g12]; simp) ⟨rfl, rfl, trivial⟩ (fun _ h => h))
        · have g12r := g12
          simp only [Bool.and_eq_true, Bool.or_eq_true, Bool.and_eq_false_iff, Bool.or_eq_false_iff, Bool.not_eq_true', Bool.not_eq_false', decide_eq_true_eq, decide_eq_false_iff_not] at g12r
          refine JO_shun rfl ⟨_, rfl, g12⟩ ?_
          refine JO_shun rfl ⟨_, rfl, g12⟩ ?_
          refine JO_read (vB false) rfl trivial (fun _ _ => x_pick_f rfl g12 rfl) ?_
          refine JO_nil (JX_cut (false) (by rw [g12]; simp) ⟨rfl, rfl, trivial⟩ (fun _ h => h))
      rintro z11 rfl
      refine JO_read (vB (((decide (R14.okE (R14.valid (R14.dcD R02.updateN s) (R14.dcN R02.updateN s) (R14.dcP R02.updateN s)) = 0)) && (decide (s = R14.encode R02.updateN (R14.dcD R02.updateN s) (R14.dcN R02.updateN s) (R14.dcP R02.updateN s)))) && (R14.valid (R14.dcD R02.updateN s) (R14.dcN R02.updateN s) (R14.dcP R02.updateN s)))) rfl trivial (fun _ _ => rfl) ?_
      refine JO_nil ?_
      refine JX_then ?_
      refine J_ret ?_
      refine JX_rets [vB (((decide (R14.okE (R14.valid (R14.dcD R02.updateN s) (R14.dcN R02.updateN s) (R14.dcP R02.updateN s)) = 0)) && (decide (s = R14.encode R02.updateN (R14.dcD R02.updateN s) (R14.dcN R02.updateN s) (R14.dcP R02.updateN s)))) && (R14.valid (R14.dcD R02.updateN s) (R14.dcN R02.updateN s) (R14.dcP R02.updateN s)))] (vB (((decide (R14.okE (R14.valid (R14.dcD R02.updateN s) (R14.dcN R02.updateN s) (R14.dcP R02.updateN s)) = 0)) && (decide (s = R14.encode R02.updateN (R14.dcD R02.updateN s) (R14.dcN R02.updateN s) (R14.dcP R02.updateN s)))) && (R14.valid (R14.dcD R02.updateN s) (R14.dcN R02.updateN s) (R14.dcP R02.updateN s)))) Try.results9 (fun w h => ⟨rfl, trivial⟩) rfl [] (fun _ h => h.keep [false, false] rfl) ⟨?_, ?_⟩
      · have e_x0 : (((decide (R14.okE (R14.valid (R14.dcD R02.updateN s) (R14.dcN R02.updateN s) (R14.dcP R02.updateN s)) = 0)) && (decide (s = R14.encode R02.updateN (R14.dcD R02.updateN s) (R14.dcN R02.updateN s) (R14.dcP R02.updateN s)))) && (R14.valid (R14.dcD R02.updateN s) (R14.dcN R02.updateN s) (R14.dcP R02.updateN s)) : Bool) = true := by
          first | rfl | exact R14.strict_yes hst (by assumption) | exact R14.strict_no hst (by assumption)
        exact congrArg (fun (x0 : Bool) => vB x0) e_x0
      · rfl

end Go.Proofs.Ytodfebhimadaiaa
