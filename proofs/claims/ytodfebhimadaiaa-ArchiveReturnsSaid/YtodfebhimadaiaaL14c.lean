/- contracts L14c -/
import Derived.Test.YtodfebhimadaiaaC14l
import Derived.Test.YtodfebhimadaiaaPl14m
namespace Go.Proofs.Ytodfebhimadaiaa
open Go.GV
set_option linter.unusedVariables false
set_option linter.unusedSimpArgs false
set_option maxRecDepth 20000 in
theorem f8_ok (d : DataSet) (n : Int) (ps : List Pair) (psA : Option Addr) (psC : Nat) (w : World) (psR : RO [] w psA (ps.flatMap Pair.enc)) (q0 : ps.length ≤ 9223372036854775807) : Calls Try.prog 8 #[Value.agg ((DataSet.enc d ++ [vI n, Value.slice psA ps.length psC])).toArray] w (Gives [] w fun v L => v = vB true ∧ L = []) := by
  refine calls_J [] 85 Try.func8 rfl Try.ntmps8 [(0, Value.agg ((DataSet.enc d ++ [vI n, Value.slice psA ps.length psC])).toArray)] rfl rfl (Give.nil w) ?_
  refine J_seq (J_region ?_)
  refine JO_op rfl trivial (O_box rfl rfl fun b1 => ?_)
  refine jr_ (vB false) ?_
  refine JO_nil (JX_then (J_seq (J_seq (J_region ?_))))
  refine JO_call [] [] [Ent.blk b1 37 (DataSet.enc d ++ [vI n, Value.slice psA ps.length psC])] rfl trivial (fun _ => x_call Ty.ca10 rfl) (fun _ h => h) (fun _ h => by cases h) (fun w hS => f10_ok w) ?_
  rintro _ _ ⟨rfl, rfl⟩
  refine jr_ (vB false) ?_
  refine jr_ (vB false) ?_
  refine JO_read (Value.agg ((DataSet.enc d ++ [vI n, Value.slice psA ps.length psC])).toArray) rfl ⟨_, rfl, rfl⟩ (x_loadN 0 (DataSet.enc d ++ [vI n, Value.slice psA ps.length psC]) rfl rfl Ty.ag37 Ty.sz37 rfl) ?_
  refine JO_call [] [] [Ent.blk b1 37 (DataSet.enc d ++ [vI n, Value.slice psA ps.length psC])] rfl ⟨_, rfl, rfl⟩ (fun _ => x_call Ty.ca17 rfl) (fun _ h => h) (fun _ h => by cases h) (fun w hS => f17_ok d n ps psA psC w (psR.on hS (fun _ h => by cases h)) hy_) ?_
  rintro _ _ ⟨rfl, rfl⟩
  refine JO_read (vB (!(R14.few d ps))) rfl ⟨_, rfl, rfl⟩ (fun _ _ => x_not rfl) ?_
  refine jr_ (vB (!(R14.few d ps))) ?_
  refine JO_nil (JX_then ?_)
  refine J_cond (!(R14.few d ps)) rfl rfl (fun h2 => ?_) (fun h2 => ?_)
  · have h2w := h2
    have h2 : (R14.few d ps) = false := bnot_true h2
    refine J_seq (J_region ?_)
    refine JO_call [] [] [Ent.blk b1 37 (DataSet.enc d ++ [vI n, Value.slice psA ps.length psC])] rfl trivial (fun _ => x_call Ty.ca10 rfl) (fun _ h => h) (fun _ h => by cases h) (fun w hS => f10_ok w) ?_
    rintro _ _ ⟨rfl, rfl⟩
    refine jr_ (vB true) ?_
    refine JO_nil (JX_then (J_ret (JX_then_ret ?_)))
    refine JX_rets [vB true] (vB true) Try.results8 (fun w h => ⟨rfl, trivial⟩) rfl [] (fun _ h => h.keep [false] rfl) ⟨?_, ?_⟩
    · rfl
    · rfl
  · have h2w := h2
    have h2 : (R14.few d ps) = true := bnot_false h2
    refine J_skip (JX_then (J_seq (J_region ?_)))
    refine JO_read (Value.agg ((DataSet.enc d ++ [vI n, Value.slice psA ps.length psC])).toArray) rfl trivial (x_loadN 0 (DataSet.enc d ++ [vI n, Value.slice psA ps.length psC]) rfl rfl Ty.ag37 Ty.sz37 rfl) ?_
    refine JO_call [] [] [Ent.blk b1 37 (DataSet.enc d ++ [vI n, Value.slice psA ps.length psC])] rfl trivial (fun _ => x_call Ty.ca18 rfl) (fun _ h => h) (fun _ h => by cases h) (fun w hS => f18_ok d n ps psA psC w (psR.on hS (fun _ h => by cases h)) hy_) ?_
    rintro _ _ ⟨rfl, rfl⟩
    have ha3 := R14.few_len (d := d) (n := n) (ps := ps) R02.updateN (by assumption)
    refine jr_ (Value.tuple #[vS (R14.encode R02.updateN d n ps), vI (R14.okE (R14.valid d n ps))]) ?_
    refine jr_ (vS (R14.encode R02.updateN d n ps)) ?_
    refine jr_ (vI (R14.okE (R14.valid d n ps))) ?_
    refine jr_ (vS (R14.encode R02.updateN d n ps)) ?_
    refine jr_ (vI (R14.okE (R14.valid d n ps))) ?_
    refine JO_nil (JX_then (J_seq (J_seq (J_region ?_))))
    refine JO_read (Value.agg ((DataSet.enc d ++ [vI n, Value.slice psA ps.length psC])).toArray) rfl trivial (x_loadN 0 (DataSet.enc d ++ [vI n, Value.slice psA ps.length psC]) rfl rfl Ty.ag37 Ty.sz37 rfl) ?_
    refine JO_call [] [] [Ent.blk b1 37 (DataSet.enc d ++ [vI n, Value.slice psA ps.length psC])] rfl trivial (fun _ => x_call Ty.ca20 rfl) (fun _ h => h) (fun _ h => by cases h) (fun w hS => f20_ok d n ps psA psC w (psR.on hS (fun _ h => by cases h)) hy_) ?_
    rintro _ _ ⟨rfl, rfl⟩
    refine JO_read (vB (!(R14.valid d n ps))) rfl trivial (fun _ _ => x_not rfl) ?_
    refine JO_nil (JX_then ?_)
    refine J_cond (!(R14.valid d n ps)) rfl rfl (fun h4 => ?_) (fun h4 => ?_)
    · have h4w := h4
      have h4 : (R14.valid d n ps) = false := bnot_true h4
      refine J_seq (J_region ?_)
      refine jr_ (vS (R14.encode R02.updateN d n ps)) ?_
      refine JO_read (vB (decide (R14.encode R02.updateN d n ps = ([] : Bytes)))) rfl trivial (fun _ _ => x_eql_s rfl rfl) ?_
      refine jr_ (vB (decide (R14.encode R02.updateN d n ps = ([] : Bytes)))) ?_
      refine JO_cut (X := Bool) 3 (fun z => z = ((decide (R14.encode R02.updateN d n ps = ([] : Bytes))) && (decide (R14.okE (R14.valid d n ps) = 1)))) (fun z => [(1, Value.pointer (some ⟨b1, 0, none⟩)), (2, vB false), (3, vS (R14.encode R02.updateN d n ps)), (4, vI (R14.okE (R14.valid d n ps))), (31, vB z)]) (fun _ => [Ent.blk b1 37 (DataSet.enc d ++ [vI n, Value.slice psA ps.length psC])]) ?_ ?_
      · rcases Bool.eq_false_or_eq_true (decide (R14.encode R02.updateN d n ps = ([] : Bytes))) with g6 | g6
        · have g6r := g6
          have g6r := of_decide_eq_true g6r
          refine JO_read (vI (R14.okE (R14.valid d n ps))) rfl ⟨_, rfl, g6⟩ (fun _ _ => rfl) ?_
          refine JO_read (vB (decide (R14.okE (R14.valid d n ps) = 1))) rfl ⟨_, rfl, g6⟩ (fun _ _ => x_eql_i rfl rfl) ?_
          refine JO_read (vB (decide (R14.okE (R14.valid d n ps) = 1))) rfl trivial (fun _ _ => x_pick_t rfl g6 rfl) ?_
          refine JO_nil (JX_cut (decide (R14.okE (R14.valid d n ps) = 1)) (by rw [g6]; simp) ⟨rfl, rfl, rfl, rfl, rfl, trivial⟩ (fun _ h => h))
        · have g6r := g6
          have g6r := of_decide_eq_false g6r
          have g6rl := List.length_pos_iff.2 g6r
          refine JO_shun rfl ⟨_, rfl, g6⟩ ?_
          refine JO_shun rfl ⟨_, rfl, g6⟩ ?_
          refine JO_read (vB false) rfl trivial (fun _ _ => x_pick_f rfl g6 rfl) ?_
          refine JO_nil (JX_cut (false) (by rw [g6]; simp) ⟨rfl, rfl, rfl, rfl, rfl, trivial⟩ (fun _ h => h))
      rintro z5 rfl
      refine jr_ (vB ((decide (R14.encode R02.updateN d n ps = ([] : Bytes))) && (decide (R14.okE (R14.valid d n ps) = 1)))) ?_
      refine JO_cut (X := Bool) 4 (fun z => z = (((decide (R14.encode R02.updateN d n ps = ([] : Bytes))) && (decide (R14.okE (R14.valid d n ps) = 1))) && (decide ((((R14.encode R02.updateN d n ps).length : Nat) : Int) = 0)))) (fun z => [(1, Value.pointer (some ⟨b1, 0, none⟩)), (2, vB false), (3, vS (R14.encode R02.updateN d n ps)), (4, vI (R14.okE (R14.valid d n ps))), (36, vB z)]) (fun _ => [Ent.blk b1 37 (DataSet.enc d ++ [vI n, Value.slice psA ps.length psC])]) ?_ ?_
      · rcases Bool.eq_false_or_eq_true ((decide (R14.encode R02.updateN d n ps = ([] : Bytes))) && (decide (R14.okE (R14.valid d n ps) = 1))) with g8 | g8
        · have g8r := g8
          have ⟨g8r, h9⟩ := band_true g8r
          have g8r := of_decide_eq_true g8r
          have h9 := of_decide_eq_true h9
          refine JO_read (Value.agg ((DataSet.enc d ++ [vI n, Value.slice psA ps.length psC])).toArray) rfl ⟨_, rfl, g8⟩ (x_loadN 0 (DataSet.enc d ++ [vI n, Value.slice psA ps.length psC]) rfl rfl Ty.ag37 Ty.sz37 rfl) ?_
          refine JO_call [] [] [Ent.blk b1 37 (DataSet.enc d ++ [vI n, Value.slice psA ps.length psC])] rfl ⟨_, rfl, g8⟩ (fun _ => x_call Ty.ca24 rfl) (fun _ h => h) (fun _ h => by cases h) (fun w hS => f24_ok d n ps psA psC w (psR.on hS (fun _ h => by cases h)) hy_) ?_
          rintro _ _ ⟨rfl, rfl⟩
          refine JO_read (vB (decide ((((R14.encode R02.updateN d n ps).length : Nat) : Int) = 0))) rfl ⟨_, rfl, g8⟩ (fun _ _ => x_eql_i rfl rfl) ?_
          refine JO_read (vB (decide ((((R14.encode R02.updateN d n ps).length : Nat) : Int) = 0))) rfl trivial (fun _ _ => x_pick_t rfl g8 rfl) ?_
          refine JO_nil (JX_cut (decide ((((R14.encode R02.updateN d n ps).length : Nat) : Int) = 0)) (by rw [g8]; simp) ⟨rfl, rfl, rfl, rfl, rfl, trivial⟩ (fun _ h => h))
        · have g8r := g8
          simp only [Bool.and_eq_true, Bool.or_eq_true, Bool.and_eq_false_iff, Bool.or_eq_false_iff, Bool.not_eq_true', Bool.not_eq_false', decide_eq_true_eq, decide_eq_false_iff_not] at g8r
          refine JO_shun rfl ⟨_, rfl, g8⟩ ?_
          refine JO_shun rfl ⟨_, rfl, g8⟩ ?_
          refine JO_shun rfl ⟨_, rfl, g8⟩ ?_
          refine JO_read (vB false) rfl trivial (fun _ _ => x_pick_f rfl g8 rfl) ?_
          refine JO_nil (JX_cut (false) (by rw [g8]; simp) ⟨rfl, rfl, rfl, rfl, rfl, trivial⟩ (fun _ h => h))
      rintro z7 rfl
      refine jr_ (vB (((decide (R14.encode R02.updateN d n ps = ([] : Bytes))) && (decide (R14.okE (R14.valid d n ps) = 1))) && (decide ((((R14.encode R02.updateN d n ps).length : Nat) : Int) = 0)))) ?_
      refine JO_nil (JX_then (J_ret (JX_then_ret ?_)))
      refine JX_rets [vB (((decide (R14.encode R02.updateN d n ps = ([] : Bytes))) && (decide (R14.okE (R14.valid d n ps) = 1))) && (decide ((((R14.encode R02.updateN d n ps).length : Nat) : Int) = 0)))] (vB (((decide (R14.encode R02.updateN d n ps = ([] : Bytes))) && (decide (R14.okE (R14.valid d n ps) = 1))) && (decide ((((R14.encode R02.updateN d n ps).length : Nat) : Int) = 0)))) Try.results8 (fun w h => ⟨rfl, trivial⟩) rfl [] (fun _ h => h.keep [false] rfl) ⟨?_, ?_⟩
      · have e_x0 : (((decide (R14.encode R02.updateN d n ps = ([] : Bytes))) && (decide (R14.okE (R14.valid d n ps) = 1))) && (decide ((((R14.encode R02.updateN d n ps).length : Nat) : Int) = 0)) : Bool) = true := by first | rfl | exact R14.ret_no (by assumption) | exact R14.ret_yes (by assumption)
        exact congrArg (fun (x0 : Bool) => vB x0) e_x0
      · rfl
    · have h4w := h4
      have h4 : (R14.valid d n ps) = true := bnot_false h4
      refine J_skip (JX_then (J_seq (J_region ?_)))
      refine jr_ (vS (R14.encode R02.updateN d n ps)) ?_
      refine JO_call [] [] [Ent.blk b1 37 (DataSet.enc d ++ [vI n, Value.slice psA ps.length psC])] rfl trivial (fun _ => x_call Ty.ca26 rfl) (fun _ h => h) (fun _ h => by cases h) (fun w hS => f26_ok (R14.encode R02.updateN d n ps) w hy_) ?_
      rintro _ _ ⟨A10, c11, rfl, rfl⟩
      have ha12 := R14.dcP_len R02.updateN (R14.encode R02.updateN d n ps)
      refine jr_ (Value.tuple #[Value.agg ((DataSet.enc (R14.dcD R02.updateN (R14.encode R02.updateN d n ps)) ++ [vI (R14.dcN R02.updateN (R14.encode R02.updateN d n ps)), Value.slice A10 ((R14.dcP R02.updateN (R14.encode R02.updateN d n ps)).length) c11])).toArray, vI (R14.dcE R02.updateN (R14.encode R02.updateN d n ps))]) ?_
      refine jr_ (Value.agg ((DataSet.enc (R14.dcD R02.updateN (R14.encode R02.updateN d n ps)) ++ [vI (R14.dcN R02.updateN (R14.encode R02.updateN d n ps)), Value.slice A10 ((R14.dcP R02.updateN (R14.encode R02.updateN d n ps)).length) c11])).toArray) ?_
      refine jr_ (vI (R14.dcE R02.updateN (R14.encode R02.updateN d n ps))) ?_
      refine JO_op rfl trivial (O_alloc Ty.ze37 rfl fun b13 => ?_)
      refine JO_op rfl trivial (O_storeS (vs := (DataSet.enc (R14.dcD R02.updateN (R14.encode R02.updateN d n ps)) ++ [vI (R14.dcN R02.updateN (R14.encode R02.updateN d n ps)), Value.slice A10 ((R14.dcP R02.updateN (R14.encode R02.updateN d n ps)).length) c11])) 0 (DataSet.enc (R14.dcD R02.updateN (R14.encode R02.updateN d n ps)) ++ [vI (R14.dcN R02.updateN (R14.encode R02.updateN d n ps)), Value.slice A10 ((R14.dcP R02.updateN (R14.encode R02.updateN d n ps)).length) c11]) [Ent.blk b13 37 (DataSet.enc (R14.dcD R02.updateN (R14.encode R02.updateN d n ps)) ++ [vI (R14.dcN R02.updateN (R14.encode R02.updateN d n ps)), Value.slice A10 ((R14.dcP R02.updateN (R14.encode R02.updateN d n ps)).length) c11]), Ent.row (.slice A10 (R14.dcP R02.updateN (R14.encode R02.updateN d n ps)).length c11) 54 2 (R14.dcP R02.updateN (R14.encode R02.updateN d n ps)).length ((R14.dcP R02.updateN (R14.encode R02.updateN d n ps)).flatMap Pair.enc), Ent.blk b1 37 (DataSet.enc d ++ [vI n, Value.slice psA ps.length psC])] rfl rfl rfl Ty.sz37 rfl (Nat.le_of_ble_eq_true rfl) rfl (st_all rfl) rfl ?_)
      refine jr_ (vI (R14.dcE R02.updateN (R14.encode R02.updateN d n ps))) ?_
      refine JO_nil (JX_then (J_seq (J_region ?_)))
      refine jr_ (vS (R14.encode R02.updateN d n ps)) ?_
      refine JO_call [] [] [Ent.blk b13 37 (DataSet.enc (R14.dcD R02.updateN (R14.encode R02.updateN d n ps)) ++ [vI (R14.dcN R02.updateN (R14.encode R02.updateN d n ps)), Value.slice A10 ((R14.dcP R02.updateN (R14.encode R02.updateN d n ps)).length) c11]), Ent.row (.slice A10 (R14.dcP R02.updateN (R14.encode R02.updateN d n ps)).length c11) 54 2 (R14.dcP R02.updateN (R14.encode R02.updateN d n ps)).length ((R14.dcP R02.updateN (R14.encode R02.updateN d n ps)).flatMap Pair.enc), Ent.blk b1 37 (DataSet.enc d ++ [vI n, Value.slice psA ps.length psC])] rfl trivial (fun _ => x_call Ty.ca28 rfl) (fun _ h => h) (fun _ h => by cases h) (fun w hS => f28_ok (R14.encode R02.updateN d n ps) w hy_) ?_
      rintro _ _ ⟨A14, c15, rfl, rfl⟩
      have ha16 := R14.svP_len R02.updateN (R14.encode R02.updateN d n ps)
      refine jr_ (Value.tuple #[Value.agg ((DataSet.enc (R14.svD R02.updateN (R14.encode R02.updateN d n ps)) ++ [vI (R14.svN R02.updateN (R14.encode R02.updateN d n ps)), Value.slice A14 ((R14.svP R02.updateN (R14.encode R02.updateN d n ps)).length) c15])).toArray, vI (R14.svM R02.updateN (R14.encode R02.updateN d n ps)), vI (R14.svE R02.updateN (R14.encode R02.updateN d n ps))]) ?_
      refine jr_ (Value.agg ((DataSet.enc (R14.svD R02.updateN (R14.encode R02.updateN d n ps)) ++ [vI (R14.svN R02.updateN (R14.encode R02.updateN d n ps)), Value.slice A14 ((R14.svP R02.updateN (R14.encode R02.updateN d n ps)).length) c15])).toArray) ?_
      refine jr_ (vI (R14.svM R02.updateN (R14.encode R02.updateN d n ps))) ?_
      refine jr_ (vI (R14.svE R02.updateN (R14.encode R02.updateN d n ps))) ?_
      refine JO_op rfl trivial (O_alloc Ty.ze37 rfl fun b17 => ?_)
      refine JO_op rfl trivial (O_storeS (vs := (DataSet.enc (R14.svD R02.updateN (R14.encode R02.updateN d n ps)) ++ [vI (R14.svN R02.updateN (R14.encode R02.updateN d n ps)), Value.slice A14 ((R14.svP R02.updateN (R14.encode R02.updateN d n ps)).length) c15])) 0 (DataSet.enc (R14.svD R02.updateN (R14.encode R02.updateN d n ps)) ++ [vI (R14.svN R02.updateN (R14.encode R02.updateN d n ps)), Value.slice A14 ((R14.svP R02.updateN (R14.encode R02.updateN d n ps)).length) c15]) [Ent.blk b17 37 (DataSet.enc (R14.svD R02.updateN (R14.encode R02.updateN d n ps)) ++ [vI (R14.svN R02.updateN (R14.encode R02.updateN d n ps)), Value.slice A14 ((R14.svP R02.updateN (R14.encode R02.updateN d n ps)).length) c15]), Ent.row (.slice A14 (R14.svP R02.updateN (R14.encode R02.updateN d n ps)).length c15) 54 2 (R14.svP R02.updateN (R14.encode R02.updateN d n ps)).length ((R14.svP R02.updateN (R14.encode R02.updateN d n ps)).flatMap Pair.enc), Ent.blk b13 37 (DataSet.enc (R14.dcD R02.updateN (R14.encode R02.updateN d n ps)) ++ [vI (R14.dcN R02.updateN (R14.encode R02.updateN d n ps)), Value.slice A10 ((R14.dcP R02.updateN (R14.encode R02.updateN d n ps)).length) c11]), Ent.row (.slice A10 (R14.dcP R02.updateN (R14.encode R02.updateN d n ps)).length c11) 54 2 (R14.dcP R02.updateN (R14.encode R02.updateN d n ps)).length ((R14.dcP R02.updateN (R14.encode R02.updateN d n ps)).flatMap Pair.enc), Ent.blk b1 37 (DataSet.enc d ++ [vI n, Value.slice psA ps.length psC])] rfl rfl rfl Ty.sz37 rfl (Nat.le_of_ble_eq_true rfl) rfl (st_all rfl) rfl ?_)
      refine jr_ (vI (R14.svM R02.updateN (R14.encode R02.updateN d n ps))) ?_
      refine jr_ (vI (R14.svE R02.updateN (R14.encode R02.updateN d n ps))) ?_
      refine JO_nil (JX_then (J_seq (J_region ?_)))
      refine jr_ (vI (R14.okE (R14.valid d n ps))) ?_
      refine JO_read (vB (decide (R14.okE (R14.valid d n ps) = 0))) rfl trivial (fun _ _ => x_eql_i rfl rfl) ?_
      refine jr_ (vB (decide (R14.okE (R14.valid d n ps) = 0))) ?_
      refine JO_cut (X := Bool) 6 (fun z => z = ((decide (R14.okE (R14.valid d n ps) = 0)) && (decide ((((R14.encode R02.updateN d n ps).length : Nat) : Int) = (((R14.encode R02.updateN d n ps).length : Nat) : Int))))) (fun z => [(1, Value.pointer (some ⟨b1, 0, none⟩)), (2, vB false), (3, vS (R14.encode R02.updateN d n ps)), (5, Value.pointer (some ⟨b13, 0, none⟩)), (6, vI (R14.dcE R02.updateN (R14.encode R02.updateN d n ps))), (7, Value.pointer (some ⟨b17, 0, none⟩)), (8, vI (R14.svM R02.updateN (R14.encode R02.updateN d n ps))), (9, vI (R14.svE R02.updateN (R14.encode R02.updateN d n ps))), (56, vB z)]) (fun _ => [Ent.blk b17 37 (DataSet.enc (R14.svD R02.updateN (R14.encode R02.updateN d n ps)) ++ [vI (R14.svN R02.updateN (R14.encode R02.updateN d n ps)), Value.slice A14 ((R14.svP R02.updateN (R14.encode R02.updateN d n ps)).length) c15]), Ent.row (.slice A14 (R14.svP R02.updateN (R14.encode R02.updateN d n ps)).length c15) 54 2 (R14.svP R02.updateN (R14.encode R02.updateN d n ps)).length ((R14.svP R02.updateN (R14.encode R02.updateN d n ps)).flatMap Pair.enc), Ent.blk b13 37 (DataSet.enc (R14.dcD R02.updateN (R14.encode R02.updateN d n ps)) ++ [vI (R14.dcN R02.updateN (R14.encode R02.updateN d n ps)), Value.slice A10 ((R14.dcP R02.updateN (R14.encode R02.updateN d n ps)).length) c11]), Ent.row (.slice A10 (R14.dcP R02.updateN (R14.encode R02.updateN d n ps)).length c11) 54 2 (R14.dcP R02.updateN (R14.encode R02.updateN d n ps)).length ((R14.dcP R02.updateN (R14.encode R02.updateN d n ps)).flatMap Pair.enc), Ent.blk b1 37 (DataSet.enc d ++ [vI n, Value.slice psA ps.length psC])]) ?_ ?_
      · rcases Bool.eq_false_or_eq_true (decide (R14.okE (R14.valid d n ps) = 0)) with g19 | g19
        · have g19r := g19
          have g19r := of_decide_eq_true g19r
          refine JO_read (vS (R14.encode R02.updateN d n ps)) rfl ⟨_, rfl, g19⟩ (fun _ _ => rfl) ?_
          refine JO_read (vI (((R14.encode R02.updateN d n ps).length : Nat) : Int)) rfl ⟨_, rfl, g19⟩ (fun _ _ => x_len_s rfl Try.underlying9) ?_
          refine JO_read (Value.agg ((DataSet.enc d ++ [vI n, Value.slice psA ps.length psC])).toArray) rfl ⟨_, rfl, g19⟩ (x_loadN 4 (DataSet.enc d ++ [vI n, Value.slice psA ps.length psC]) rfl rfl Ty.ag37 Ty.sz37 rfl) ?_
          refine JO_call [] [] [Ent.blk b17 37 (DataSet.enc (R14.svD R02.updateN (R14.encode R02.updateN d n ps)) ++ [vI (R14.svN R02.updateN (R14.encode R02.updateN d n ps)), Value.slice A14 ((R14.svP R02.updateN (R14.encode R02.updateN d n ps)).length) c15]), Ent.row (.slice A14 (R14.svP R02.updateN (R14.encode R02.updateN d n ps)).length c15) 54 2 (R14.svP R02.updateN (R14.encode R02.updateN d n ps)).length ((R14.svP R02.updateN (R14.encode R02.updateN d n ps)).flatMap Pair.enc), Ent.blk b13 37 (DataSet.enc (R14.dcD R02.updateN (R14.encode R02.updateN d n ps)) ++ [vI (R14.dcN R02.updateN (R14.encode R02.updateN d n ps)), Value.slice A10 ((R14.dcP R02.updateN (R14.encode R02.updateN d n ps)).length) c11]), Ent.row (.slice A10 (R14.dcP R02.updateN (R14.encode R02.updateN d n ps)).length c11) 54 2 (R14.dcP R02.updateN (R14.encode R02.updateN d n ps)).length ((R14.dcP R02.updateN (R14.encode R02.updateN d n ps)).flatMap Pair.enc), Ent.blk b1 37 (DataSet.enc d ++ [vI n, Value.slice psA ps.length psC])] rfl ⟨_, rfl, g19⟩ (fun _ => x_call Ty.ca24 rfl) (fun _ h => h) (fun _ h => by cases h) (fun w hS => f24_ok d n ps psA psC w (psR.on hS (fun _ h => by cases h)) hy_) ?_
          rintro _ _ ⟨rfl, rfl⟩
          refine JO_read (vB (decide ((((R14.encode R02.updateN d n ps).length : Nat) : Int) = (((R14.encode R02.updateN d n ps).length : Nat) : Int)))) rfl ⟨_, rfl, g19⟩ (fun _ _ => x_eql_i rfl rfl) ?_
          refine JO_read (vB (decide ((((R14.encode R02.updateN d n ps).length : Nat) : Int) = (((R14.encode R02.updateN d n ps).length : Nat) : Int)))) rfl trivial (fun _ _ => x_pick_t rfl g19 rfl) ?_
          refine JO_nil (JX_cut (decide ((((R14.encode R02.updateN d n ps).length : Nat) : Int) = (((R14.encode R02.updateN d n ps).length : Nat) : Int))) (by rw [g19]; simp) ⟨rfl, rfl, rfl, rfl, rfl, rfl, rfl, rfl, rfl, trivial⟩ (fun _ h => h))
        · have g19r := g19
          have g19r := of_decide_eq_false g19r
          refine JO_shun rfl ⟨_, rfl, g19⟩ ?_
          refine JO_shun rfl ⟨_, rfl, g19⟩ ?_
          refine JO_shun rfl ⟨_, rfl, g19⟩ ?_
          refine JO_shun rfl ⟨_, rfl, g19⟩ ?_
          refine JO_shun rfl ⟨_, rfl, g19⟩ ?_
          refine JO_read (vB false) rfl trivial (fun _ _ => x_pick_f rfl g19 rfl) ?_
          refine JO_nil (JX_cut (false) (by rw [g19]; simp) ⟨rfl, rfl, rfl, rfl, rfl, rfl, rfl, rfl, rfl, trivial⟩ (fun _ h => h))
      rintro z18 rfl
      refine jr_ (vB ((decide (R14.okE (R14.valid d n ps) = 0)) && (decide ((((R14.encode R02.updateN d n ps).length : Nat) : Int) = (((R14.encode R02.updateN d n ps).length : Nat) : Int))))) ?_
      refine JO_cut (X := Bool) 5 (fun z => z = (((decide (R14.okE (R14.valid d n ps) = 0)) && (decide ((((R14.encode R02.updateN d n ps).length : Nat) : Int) = (((R14.encode R02.updateN d n ps).length : Nat) : Int)))) && (decide (((((R14.encode R02.updateN d n ps).length) % 64 : Nat) : Int) = 0)))) (fun z => [(1, Value.pointer (some ⟨b1, 0, none⟩)), (2, vB false), (5, Value.pointer (some ⟨b13, 0, none⟩)), (6, vI (R14.dcE R02.updateN (R14.encode R02.updateN d n ps))), (7, Value.pointer (some ⟨b17, 0, none⟩)), (8, vI (R14.svM R02.updateN (R14.encode R02.updateN d n ps))), (9, vI (R14.svE R02.updateN (R14.encode R02.updateN d n ps))), (62, vB z)]) (fun _ => [Ent.blk b17 37 (DataSet.enc (R14.svD R02.updateN (R14.encode R02.updateN d n ps)) ++ [vI (R14.svN R02.updateN (R14.encode R02.updateN d n ps)), Value.slice A14 ((R14.svP R02.updateN (R14.encode R02.updateN d n ps)).length) c15]), Ent.row (.slice A14 (R14.svP R02.updateN (R14.encode R02.updateN d n ps)).length c15) 54 2 (R14.svP R02.updateN (R14.encode R02.updateN d n ps)).length ((R14.svP R02.updateN (R14.encode R02.updateN d n ps)).flatMap Pair.enc), Ent.blk b13 37 (DataSet.enc (R14.dcD R02.updateN (R14.encode R02.updateN d n ps)) ++ [vI (R14.dcN R02.updateN (R14.encode R02.updateN d n ps)), Value.slice A10 ((R14.dcP R02.updateN (R14.encode R02.updateN d n ps)).length) c11]), Ent.row (.slice A10 (R14.dcP R02.updateN (R14.encode R02.updateN d n ps)).length c11) 54 2 (R14.dcP R02.updateN (R14.encode R02.updateN d n ps)).length ((R14.dcP R02.updateN (R14.encode R02.updateN d n ps)).flatMap Pair.enc), Ent.blk b1 37 (DataSet.enc d ++ [vI n, Value.slice psA ps.length psC])]) ?_ ?_
      · rcases Bool.eq_false_or_eq_true ((decide (R14.okE (R14.valid d n ps) = 0)) && (decide ((((R14.encode R02.updateN d n ps).length : Nat) : Int) = (((R14.encode R02.updateN d n ps).length : Nat) : Int)))) with g21 | g21
        · have g21r := g21
          have ⟨g21r, h22⟩ := band_true g21r
          have g21r := of_decide_eq_true g21r
          have h22 := of_decide_eq_true h22
          refine JO_read (vS (R14.encode R02.updateN d n ps)) rfl ⟨_, rfl, g21⟩ (fun _ _ => rfl) ?_
          refine JO_read (vI (((R14.encode R02.updateN d n ps).length : Nat) : Int)) rfl ⟨_, rfl, g21⟩ (fun _ _ => x_len_s rfl Try.underlying9) ?_
          refine JO_read (vI ((((R14.encode R02.updateN d n ps).length) % 64 : Nat) : Int)) rfl ⟨_, rfl, g21⟩ (fun _ _ => x_rem_n (a := (R14.encode R02.updateN d n ps).length) (b := 64) rfl rfl (by omega) (by omega)) ?_
          refine JO_read (vB (decide (((((R14.encode R02.updateN d n ps).length) % 64 : Nat) : Int) = 0))) rfl ⟨_, rfl, g21⟩ (fun _ _ => x_eql_i rfl rfl) ?_
          refine JO_read (vB (decide (((((R14.encode R02.updateN d n ps).length) % 64 : Nat) : Int) = 0))) rfl trivial (fun _ _ => x_pick_t rfl g21 rfl) ?_
          refine JO_nil (JX_cut (decide (((((R14.encode R02.updateN d n ps).length) % 64 : Nat) : Int) = 0)) (by rw [g21]; simp) ⟨rfl, rfl, rfl, rfl, rfl, rfl, rfl, rfl, trivial⟩ (fun _ h => h))
        · have g21r := g21
          simp only [Bool.and_eq_true, Bool.or_eq_true, Bool.and_eq_false_iff, Bool.or_eq_false_iff, Bool.not_eq_true', Bool.not_eq_false', decide_eq_true_eq, decide_eq_false_iff_not] at g21r
          refine JO_shun rfl ⟨_, rfl, g21⟩ ?_
          refine JO_shun rfl ⟨_, rfl, g21⟩ ?_
          refine JO_shun rfl ⟨_, rfl, g21⟩ ?_
          refine JO_shun rfl ⟨_, rfl, g21⟩ ?_
          refine JO_read (vB false) rfl trivial (fun _ _ => x_pick_f rfl g21 rfl) ?_
          refine JO_nil (JX_cut (false) (by rw [g21]; simp) ⟨rfl, rfl, rfl, rfl, rfl, rfl, rfl, rfl, trivial⟩ (fun _ h => h))
      rintro z20 rfl
      refine jr_ (vB (((decide (R14.okE (R14.valid d n ps) = 0)) && (decide ((((R14.encode R02.updateN d n ps).length : Nat) : Int) = (((R14.encode R02.updateN d n ps).length : Nat) : Int)))) && (decide (((((R14.encode R02.updateN d n ps).length) % 64 : Nat) : Int) = 0)))) ?_
      refine JO_cut (X := Bool) 3 (fun z => z = ((((decide (R14.okE (R14.valid d n ps) = 0)) && (decide ((((R14.encode R02.updateN d n ps).length : Nat) : Int) = (((R14.encode R02.updateN d n ps).length : Nat) : Int)))) && (decide (((((R14.encode R02.updateN d n ps).length) % 64 : Nat) : Int) = 0))) && (decide (R14.dcE R02.updateN (R14.encode R02.updateN d n ps) = 0)))) (fun z => [(1, Value.pointer (some ⟨b1, 0, none⟩)), (2, vB false), (5, Value.pointer (some ⟨b13, 0, none⟩)), (7, Value.pointer (some ⟨b17, 0, none⟩)), (8, vI (R14.svM R02.updateN (R14.encode R02.updateN d n ps))), (9, vI (R14.svE R02.updateN (R14.encode R02.updateN d n ps))), (66, vB z)]) (fun _ => [Ent.blk b17 37 (DataSet.enc (R14.svD R02.updateN (R14.encode R02.updateN d n ps)) ++ [vI (R14.svN R02.updateN (R14.encode R02.updateN d n ps)), Value.slice A14 ((R14.svP R02.updateN (R14.encode R02.updateN d n ps)).length) c15]), Ent.row (.slice A14 (R14.svP R02.updateN (R14.encode R02.updateN d n ps)).length c15) 54 2 (R14.svP R02.updateN (R14.encode R02.updateN d n ps)).length ((R14.svP R02.updateN (R14.encode R02.updateN d n ps)).flatMap Pair.enc), Ent.blk b13 37 (DataSet.enc (R14.dcD R02.updateN (R14.encode R02.updateN d n ps)) ++ [vI (R14.dcN R02.updateN (R14.encode R02.updateN d n ps)), Value.slice A10 ((R14.dcP R02.updateN (R14.encode R02.updateN d n ps)).length) c11]), Ent.row (.slice A10 (R14.dcP R02.updateN (R14.encode R02.updateN d n ps)).length c11) 54 2 (R14.dcP R02.updateN (R14.encode R02.updateN d n ps)).length ((R14.dcP R02.updateN (R14.encode R02.updateN d n ps)).flatMap Pair.enc), Ent.blk b1 37 (DataSet.enc d ++ [vI n, Value.slice psA ps.length psC])]) ?_ ?_
      · rcases Bool.eq_false_or_eq_true (((decide (R14.okE (R14.valid d n ps) = 0)) && (decide ((((R14.encode R02.updateN d n ps).length : Nat) : Int) = (((R14.encode R02.updateN d n ps).length : Nat) : Int)))) && (decide (((((R14.encode R02.updateN d n ps).length) % 64 : Nat) : Int) = 0))) with g24 | g24
        · have g24r := g24
          have ⟨g24r, h25⟩ := band_true g24r
          have ⟨g24r, h26⟩ := band_true g24r
          have g24r := of_decide_eq_true g24r
          have h26 := of_decide_eq_true h26
          have h25 := of_decide_eq_true h25
          refine JO_read (vI (R14.dcE R02.updateN (R14.encode R02.updateN d n ps))) rfl ⟨_, rfl, g24⟩ (fun _ _ => rfl) ?_
          refine JO_read (vB (decide (R14.dcE R02.updateN (R14.encode R02.updateN d n ps) = 0))) rfl ⟨_, rfl, g24⟩ (fun _ _ => x_eql_i rfl rfl) ?_
          refine JO_read (vB (decide (R14.dcE R02.updateN (R14.encode R02.updateN d n ps) = 0))) rfl trivial (fun _ _ => x_pick_t rfl g24 rfl) ?_
          refine JO_nil (JX_cut (decide (R14.dcE R02.updateN (R14.encode R02.updateN d n ps) = 0)) (by rw [g24]; simp) ⟨rfl, rfl, rfl, rfl, rfl, rfl, rfl, trivial⟩ (fun _ h => h))
        · have g24r := g24
          simp only [Bool.and_eq_true, Bool.or_eq_true, Bool.and_eq_false_iff, Bool.or_eq_false_iff, Bool.not_eq_true', Bool.not_eq_false', decide_eq_true_eq, decide_eq_false_iff_not] at g24r
          refine JO_shun rfl ⟨_, rfl, g24⟩ ?_
          refine JO_shun rfl ⟨_, rfl, g24⟩ ?_
          refine JO_read (vB false) rfl trivial (fun _ _ => x_pick_f rfl g24 rfl) ?_
          refine JO_nil (JX_cut (false) (by rw [g24]; simp) ⟨rfl, rfl, rfl, rfl, rfl, rfl, rfl, trivial⟩ (fun _ h => h))
      rintro z23 rfl
      refine jr_ (vB ((((decide (R14.okE (R14.valid d n ps) = 0)) && (decide ((((R14.encode R02.updateN d n ps).length : Nat) : Int) = (((R14.encode R02.updateN d n ps).length : Nat) : Int)))) && (decide (((((R14.encode R02.updateN d n ps).length) % 64 : Nat) : Int) = 0))) && (decide (R14.dcE R02.updateN (R14.encode R02.updateN d n ps) = 0)))) ?_
      refine JO_cut (X := Bool) 4 (fun z => z = (((((decide (R14.okE (R14.valid d n ps) = 0)) && (decide ((((R14.encode R02.updateN d n ps).length : Nat) : Int) = (((R14.encode R02.updateN d n ps).length : Nat) : Int)))) && (decide (((((R14.encode R02.updateN d n ps).length) % 64 : Nat) : Int) = 0))) && (decide (R14.dcE R02.updateN (R14.encode R02.updateN d n ps) = 0))) && (R14.same d n ps (R14.dcD R02.updateN (R14.encode R02.updateN d n ps)) (R14.dcN R02.updateN (R14.encode R02.updateN d n ps)) (R14.dcP R02.updateN (R14.encode R02.updateN d n ps))))) (fun z => [(1, Value.pointer (some ⟨b1, 0, none⟩)), (2, vB false), (7, Value.pointer (some ⟨b17, 0, none⟩)), (8, vI (R14.svM R02.updateN (R14.encode R02.updateN d n ps))), (9, vI (R14.svE R02.updateN (R14.encode R02.updateN d n ps))), (71, vB z)]) (fun _ => [Ent.blk b17 37 (DataSet.enc (R14.svD R02.updateN (R14.encode R02.updateN d n ps)) ++ [vI (R14.svN R02.updateN (R14.encode R02.updateN d n ps)), Value.slice A14 ((R14.svP R02.updateN (R14.encode R02.updateN d n ps)).length) c15]), Ent.row (.slice A14 (R14.svP R02.updateN (R14.encode R02.updateN d n ps)).length c15) 54 2 (R14.svP R02.updateN (R14.encode R02.updateN d n ps)).length ((R14.svP R02.updateN (R14.encode R02.updateN d n ps)).flatMap Pair.enc), Ent.blk b13 37 (DataSet.enc (R14.dcD R02.updateN (R14.encode R02.updateN d n ps)) ++ [vI (R14.dcN R02.updateN (R14.encode R02.updateN d n ps)), Value.slice A10 ((R14.dcP R02.updateN (R14.encode R02.updateN d n ps)).length) c11]), Ent.row (.slice A10 (R14.dcP R02.updateN (R14.encode R02.updateN d n ps)).length c11) 54 2 (R14.dcP R02.updateN (R14.encode R02.updateN d n ps)).length ((R14.dcP R02.updateN (R14.encode R02.updateN d n ps)).flatMap Pair.enc), Ent.blk b1 37 (DataSet.enc d ++ [vI n, Value.slice psA ps.length psC])]) ?_ ?_
      · rcases Bool.eq_false_or_eq_true ((((decide (R14.okE (R14.valid d n ps) = 0)) && (decide ((((R14.encode R02.updateN d n ps).length : Nat) : Int) = (((R14.encode R02.updateN d n ps).length : Nat) : Int)))) && (decide (((((R14.encode R02.updateN d n ps).length) % 64 : Nat) : Int) = 0))) && (decide (R14.dcE R02.updateN (R14.encode R02.updateN d n ps) = 0))) with g28 | g28
        · have g28r := g28
          have ⟨g28r, h29⟩ := band_true g28r
          have ⟨g28r, h30⟩ := band_true g28r
          have ⟨g28r, h31⟩ := band_true g28r
          have g28r := of_decide_eq_true g28r
          have h31 := of_decide_eq_true h31
          have h30 := of_decide_eq_true h30
          have h29 := of_decide_eq_true h29
          refine JO_read (Value.agg ((DataSet.enc d ++ [vI n, Value.slice psA ps.length psC])).toArray) rfl ⟨_, rfl, g28⟩ (x_loadN 4 (DataSet.enc d ++ [vI n, Value.slice psA ps.length psC]) rfl rfl Ty.ag37 Ty.sz37 rfl) ?_
          refine JO_read (Value.agg ((DataSet.enc (R14.dcD R02.updateN (R14.encode R02.updateN d n ps)) ++ [vI (R14.dcN R02.updateN (R14.encode R02.updateN d n ps)), Value.slice A10 ((R14.dcP R02.updateN (R14.encode R02.updateN d n ps)).length) c11])).toArray) rfl ⟨_, rfl, g28⟩ (x_loadN 2 (DataSet.enc (R14.dcD R02.updateN (R14.encode R02.updateN d n ps)) ++ [vI (R14.dcN R02.updateN (R14.encode R02.updateN d n ps)), Value.slice A10 ((R14.dcP R02.updateN (R14.encode R02.updateN d n ps)).length) c11]) rfl rfl Ty.ag37 Ty.sz37 rfl) ?_
          refine JO_call [] [] [Ent.blk b17 37 (DataSet.enc (R14.svD R02.updateN (R14.encode R02.updateN d n ps)) ++ [vI (R14.svN R02.updateN (R14.encode R02.updateN d n ps)), Value.slice A14 ((R14.svP R02.updateN (R14.encode R02.updateN d n ps)).length) c15]), Ent.row (.slice A14 (R14.svP R02.updateN (R14.encode R02.updateN d n ps)).length c15) 54 2 (R14.svP R02.updateN (R14.encode R02.updateN d n ps)).length ((R14.svP R02.updateN (R14.encode R02.updateN d n ps)).flatMap Pair.enc), Ent.blk b13 37 (DataSet.enc (R14.dcD R02.updateN (R14.encode R02.updateN d n ps)) ++ [vI (R14.dcN R02.updateN (R14.encode R02.updateN d n ps)), Value.slice A10 ((R14.dcP R02.updateN (R14.encode R02.updateN d n ps)).length) c11]), Ent.row (.slice A10 (R14.dcP R02.updateN (R14.encode R02.updateN d n ps)).length c11) 54 2 (R14.dcP R02.updateN (R14.encode R02.updateN d n ps)).length ((R14.dcP R02.updateN (R14.encode R02.updateN d n ps)).flatMap Pair.enc), Ent.blk b1 37 (DataSet.enc d ++ [vI n, Value.slice psA ps.length psC])] rfl ⟨_, rfl, g28⟩ (fun _ => x_call Ty.ca22 rfl) (fun _ h => h) (fun _ h => by cases h) (fun w hS => f22_ok d n ps psA psC (R14.dcD R02.updateN (R14.encode R02.updateN d n ps)) (R14.dcN R02.updateN (R14.encode R02.updateN d n ps)) (R14.dcP R02.updateN (R14.encode R02.updateN d n ps)) A10 c11 w (psR.on hS (fun _ h => by cases h)) (RO.of_row hS 3 rfl) hy_ hy_) ?_
          rintro _ _ ⟨rfl, rfl⟩
          refine JO_read (vB (R14.same d n ps (R14.dcD R02.updateN (R14.encode R02.updateN d n ps)) (R14.dcN R02.updateN (R14.encode R02.updateN d n ps)) (R14.dcP R02.updateN (R14.encode R02.updateN d n ps)))) rfl trivial (fun _ _ => x_pick_t rfl g28 rfl) ?_
          refine JO_nil (JX_cut (R14.same d n ps (R14.dcD R02.updateN (R14.encode R02.updateN d n ps)) (R14.dcN R02.updateN (R14.encode R02.updateN d n ps)) (R14.dcP R02.updateN (R14.encode R02.updateN d n ps))) (by rw [g28]; simp) ⟨rfl, rfl, rfl, rfl, rfl, rfl, trivial⟩ (fun _ h => h))
        · have g28r := g28
          simp only [Bool.and_eq_true, Bool.or_eq_true, Bool.and_eq_false_iff, Bool.or_eq_false_iff, Bool.not_eq_true', Bool.not_eq_false', decide_eq_true_eq, decide_eq_false_iff_not] at g28r
          refine JO_shun rfl ⟨_, rfl, g28⟩ ?_
          refine JO_shun rfl ⟨_, rfl, g28⟩ ?_
          refine JO_shun rfl ⟨_, rfl, g28⟩ ?_
          refine JO_read (vB false) rfl trivial (fun _ _ => x_pick_f rfl g28 rfl) ?_
          refine JO_nil (JX_cut (false) (by rw [g28]; simp) ⟨rfl, rfl, rfl, rfl, rfl, rfl, trivial⟩ (fun _ h => h))
      rintro z27 rfl
      refine jr_ (vB (((((decide (R14.okE (R14.valid d n ps) = 0)) && (decide ((((R14.encode R02.updateN d n ps).length : Nat) : Int) = (((R14.encode R02.updateN d n ps).length : Nat) : Int)))) && (decide (((((R14.encode R02.updateN d n ps).length) % 64 : Nat) : Int) = 0))) && (decide (R14.dcE R02.updateN (R14.encode R02.updateN d n ps) = 0))) && (R14.same d n ps (R14.dcD R02.updateN (R14.encode R02.updateN d n ps)) (R14.dcN R02.updateN (R14.encode R02.updateN d n ps)) (R14.dcP R02.updateN (R14.encode R02.updateN d n ps))))) ?_
      refine JO_cut (X := Bool) 3 (fun z => z = ((((((decide (R14.okE (R14.valid d n ps) = 0)) && (decide ((((R14.encode R02.updateN d n ps).length : Nat) : Int) = (((R14.encode R02.updateN d n ps).length : Nat) : Int)))) && (decide (((((R14.encode R02.updateN d n ps).length) % 64 : Nat) : Int) = 0))) && (decide (R14.dcE R02.updateN (R14.encode R02.updateN d n ps) = 0))) && (R14.same d n ps (R14.dcD R02.updateN (R14.encode R02.updateN d n ps)) (R14.dcN R02.updateN (R14.encode R02.updateN d n ps)) (R14.dcP R02.updateN (R14.encode R02.updateN d n ps)))) && (decide (R14.svM R02.updateN (R14.encode R02.updateN d n ps) = 0)))) (fun z => [(1, Value.pointer (some ⟨b1, 0, none⟩)), (2, vB false), (7, Value.pointer (some ⟨b17, 0, none⟩)), (9, vI (R14.svE R02.updateN (R14.encode R02.updateN d n ps))), (75, vB z)]) (fun _ => [Ent.blk b17 37 (DataSet.enc (R14.svD R02.updateN (R14.encode R02.updateN d n ps)) ++ [vI (R14.svN R02.updateN (R14.encode R02.updateN d n ps)), Value.slice A14 ((R14.svP R02.updateN (R14.encode R02.updateN d n ps)).length) c15]), Ent.row (.slice A14 (R14.svP R02.updateN (R14.encode R02.updateN d n ps)).length c15) 54 2 (R14.svP R02.updateN (R14.encode R02.updateN d n ps)).length ((R14.svP R02.updateN (R14.encode R02.updateN d n ps)).flatMap Pair.enc), Ent.blk b13 37 (DataSet.enc (R14.dcD R02.updateN (R14.encode R02.updateN d n ps)) ++ [vI (R14.dcN R02.updateN (R14.encode R02.updateN d n ps)), Value.slice A10 ((R14.dcP R02.updateN (R14.encode R02.updateN d n ps)).length) c11]), Ent.row (.slice A10 (R14.dcP R02.updateN (R14.encode R02.updateN d n ps)).length c11) 54 2 (R14.dcP R02.updateN (R14.encode R02.updateN d n ps)).length ((R14.dcP R02.updateN (R14.encode R02.updateN d n ps)).flatMap Pair.enc), Ent.blk b1 37 (DataSet.enc d ++ [vI n, Value.slice psA ps.length psC])]) ?_ ?_
      · rcases Bool.eq_false_or_eq_true (((((decide (R14.okE (R14.valid d n ps) = 0)) && (decide ((((R14.encode R02.updateN d n ps).length : Nat) : Int) = (((R14.encode R02.updateN d n ps).length : Nat) : Int)))) && (decide (((((R14.encode R02.updateN d n ps).length) % 64 : Nat) : Int) = 0))) && (decide (R14.dcE R02.updateN (R14.encode R02.updateN d n ps) = 0))) && (R14.same d n ps (R14.dcD R02.updateN (R14.encode R02.updateN d n ps)) (R14.dcN R02.updateN (R14.encode R02.updateN d n ps)) (R14.dcP R02.updateN (R14.encode R02.updateN d n ps)))) with g33 | g33
        · have g33r := g33
          have ⟨g33r, h34⟩ := band_true g33r
          have ⟨g33r, h35⟩ := band_true g33r
          have ⟨g33r, h36⟩ := band_true g33r
          have ⟨g33r, h37⟩ := band_true g33r
          have g33r := of_decide_eq_true g33r
          have h37 := of_decide_eq_true h37
          have h36 := of_decide_eq_true h36
          have h35 := of_decide_eq_true h35
          refine JO_read (vI (R14.svM R02.updateN (R14.encode R02.updateN d n ps))) rfl ⟨_, rfl, g33⟩ (fun _ _ => rfl) ?_
          refine JO_read (vB (decide (R14.svM R02.updateN (R14.encode R02.updateN d n ps) = 0))) rfl ⟨_, rfl, g33⟩ (fun _ _ => x_eql_i rfl rfl) ?_
          refine JO_read (vB (decide (R14.svM R02.updateN (R14.encode R02.updateN d n ps) = 0))) rfl trivial (fun _ _ => x_pick_t rfl g33 rfl) ?_
          refine JO_nil (JX_cut (decide (R14.svM R02.updateN (R14.encode R02.updateN d n ps) = 0)) (by rw [g33]; simp) ⟨rfl, rfl, rfl, rfl, rfl, trivial⟩ (fun _ h => h))
        · have g33r := g33
          simp only [Bool.and_eq_true, Bool.or_eq_true, Bool.and_eq_false_iff, Bool.or_eq_false_iff, Bool.not_eq_true', Bool.not_eq_false', decide_eq_true_eq, decide_eq_false_iff_not] at g33r
          refine JO_shun rfl ⟨_, rfl, g33⟩ ?_
          refine JO_shun rfl ⟨_, rfl, g33⟩ ?_
          refine JO_read (vB false) rfl trivial (fun _ _ => x_pick_f rfl g33 rfl) ?_
          refine JO_nil (JX_cut (false) (by rw [g33]; simp) ⟨rfl, rfl, rfl, rfl, rfl, trivial⟩ (fun _ h => h))
      rintro z32 rfl
      refine jr_ (vB ((((((decide (R14.okE (R14.valid d n ps) = 0)) && (decide ((((R14.encode R02.updateN d n ps).length : Nat) : Int) = (((R14.encode R02.updateN d n ps).length : Nat) : Int)))) && (decide (((((R14.encode R02.updateN d n ps).length) % 64 : Nat) : Int) = 0))) && (decide (R14.dcE R02.updateN (R14.encode R02.updateN d n ps) = 0))) && (R14.same d n ps (R14.dcD R02.updateN (R14.encode R02.updateN d n ps)) (R14.dcN R02.updateN (R14.encode R02.updateN d n ps)) (R14.dcP R02.updateN (R14.encode R02.updateN d n ps)))) && (decide (R14.svM R02.updateN (R14.encode R02.updateN d n ps) = 0)))) ?_
      refine JO_cut (X := Bool) 3 (fun z => z = (((((((decide (R14.okE (R14.valid d n ps) = 0)) && (decide ((((R14.encode R02.updateN d n ps).length : Nat) : Int) = (((R14.encode R02.updateN d n ps).length : Nat) : Int)))) && (decide (((((R14.encode R02.updateN d n ps).length) % 64 : Nat) : Int) = 0))) && (decide (R14.dcE R02.updateN (R14.encode R02.updateN d n ps) = 0))) && (R14.same d n ps (R14.dcD R02.updateN (R14.encode R02.updateN d n ps)) (R14.dcN R02.updateN (R14.encode R02.updateN d n ps)) (R14.dcP R02.updateN (R14.encode R02.updateN d n ps)))) && (decide (R14.svM R02.updateN (R14.encode R02.updateN d n ps) = 0))) && (decide (R14.svE R02.updateN (R14.encode R02.updateN d n ps) = 0)))) (fun z => [(1, Value.pointer (some ⟨b1, 0, none⟩)), (2, vB false), (7, Value.pointer (some ⟨b17, 0, none⟩)), (79, vB z)]) (fun _ => [Ent.blk b17 37 (DataSet.enc (R14.svD R02.updateN (R14.encode R02.updateN d n ps)) ++ [vI (R14.svN R02.updateN (R14.encode R02.updateN d n ps)), Value.slice A14 ((R14.svP R02.updateN (R14.encode R02.updateN d n ps)).length) c15]), Ent.row (.slice A14 (R14.svP R02.updateN (R14.encode R02.updateN d n ps)).length c15) 54 2 (R14.svP R02.updateN (R14.encode R02.updateN d n ps)).length ((R14.svP R02.updateN (R14.encode R02.updateN d n ps)).flatMap Pair.enc), Ent.blk b13 37 (DataSet.enc (R14.dcD R02.updateN (R14.encode R02.updateN d n ps)) ++ [vI (R14.dcN R02.updateN (R14.encode R02.updateN d n ps)), Value.slice A10 ((R14.dcP R02.updateN (R14.encode R02.updateN d n ps)).length) c11]), Ent.row (.slice A10 (R14.dcP R02.updateN (R14.encode R02.updateN d n ps)).length c11) 54 2 (R14.dcP R02.updateN (R14.encode R02.updateN d n ps)).length ((R14.dcP R02.updateN (R14.encode R02.updateN d n ps)).flatMap Pair.enc), Ent.blk b1 37 (DataSet.enc d ++ [vI n, Value.slice psA ps.length psC])]) ?_ ?_
      · rcases Bool.eq_false_or_eq_true ((((((decide (R14.okE (R14.valid d n ps) = 0)) && (decide ((((R14.encode R02.updateN d n ps).length : Nat) : Int) = (((R14.encode R02.updateN d n ps).length : Nat) : Int)))) && (decide (((((R14.encode R02.updateN d n ps).length) % 64 : Nat) : Int) = 0))) && (decide (R14.dcE R02.updateN (R14.encode R02.updateN d n ps) = 0))) && (R14.same d n ps (R14.dcD R02.updateN (R14.encode R02.updateN d n ps)) (R14.dcN R02.updateN (R14.encode R02.updateN d n ps)) (R14.dcP R02.updateN (R14.encode R02.updateN d n ps)))) && (decide (R14.svM R02.updateN (R14.encode R02.updateN d n ps) = 0))) with g39 | g39
        · have g39r := g39
          have ⟨g39r, h40⟩ := band_true g39r
          have ⟨g39r, h41⟩ := band_true g39r
          have ⟨g39r, h42⟩ := band_true g39r
          have ⟨g39r, h43⟩ := band_true g39r
          have ⟨g39r, h44⟩ := band_true g39r
          have g39r := of_decide_eq_true g39r
          have h44 := of_decide_eq_true h44
          have h43 := of_decide_eq_true h43
          have h42 := of_decide_eq_true h42
          have h40 := of_decide_eq_true h40
          refine JO_read (vI (R14.svE R02.updateN (R14.encode R02.updateN d n ps))) rfl ⟨_, rfl, g39⟩ (fun _ _ => rfl) ?_
          refine JO_read (vB (decide (R14.svE R02.updateN (R14.encode R02.updateN d n ps) = 0))) rfl ⟨_, rfl, g39⟩ (fun _ _ => x_eql_i rfl rfl) ?_
          refine JO_read (vB (decide (R14.svE R02.updateN (R14.encode R02.updateN d n ps) = 0))) rfl trivial (fun _ _ => x_pick_t rfl g39 rfl) ?_
          refine JO_nil (JX_cut (decide (R14.svE R02.updateN (R14.encode R02.updateN d n ps) = 0)) (by rw [g39]; simp) ⟨rfl, rfl, rfl, rfl, trivial⟩ (fun _ h => h))
        · have g39r := g39
          simp only [Bool.and_eq_true, Bool.or_eq_true, Bool.and_eq_false_iff, Bool.or_eq_false_iff, Bool.not_eq_true', Bool.not_eq_false', decide_eq_true_eq, decide_eq_false_iff_not] at g39r
          refine JO_shun rfl ⟨_, rfl, g39⟩ ?_
          refine JO_shun rfl ⟨_, rfl, g39⟩ ?_
          refine JO_read (vB false) rfl trivial (fun _ _ => x_pick_f rfl g39 rfl) ?_
          refine JO_nil (JX_cut (false) (by rw [g39]; simp) ⟨rfl, rfl, rfl, rfl, trivial⟩ (fun _ h => h))
      rintro z38 rfl
      refine jr_ (vB (((((((decide (R14.okE (R14.valid d n ps) = 0)) && (decide ((((R14.encode R02.updateN d n ps).length : Nat) : Int) = (((R14.encode R02.updateN d n ps).length : Nat) : Int)))) && (decide (((((R14.encode R02.updateN d n ps).length) % 64 : Nat) : Int) = 0))) && (decide (R14.dcE R02.updateN (R14.encode R02.updateN d n ps) = 0))) && (R14.same d n ps (R14.dcD R02.updateN (R14.encode R02.updateN d n ps)) (R14.dcN R02.updateN (R14.encode R02.updateN d n ps)) (R14.dcP R02.updateN (R14.encode R02.updateN d n ps)))) && (decide (R14.svM R02.updateN (R14.encode R02.updateN d n ps) = 0))) && (decide (R14.svE R02.updateN (R14.encode R02.updateN d n ps) = 0)))) ?_
      refine JO_cut (X := Bool) 4 (fun z => z = ((((((((decide (R14.okE (R14.valid d n ps) = 0)) && (decide ((((R14.encode R02.updateN d n ps).length : Nat) : Int) = (((R14.encode R02.updateN d n ps).length : Nat) : Int)))) && (decide (((((R14.encode R02.updateN d n ps).length) % 64 : Nat) : Int) = 0))) && (decide (R14.dcE R02.updateN (R14.encode R02.updateN d n ps) = 0))) && (R14.same d n ps (R14.dcD R02.updateN (R14.encode R02.updateN d n ps)) (R14.dcN R02.updateN (R14.encode R02.updateN d n ps)) (R14.dcP R02.updateN (R14.encode R02.updateN d n ps)))) && (decide (R14.svM R02.updateN (R14.encode R02.updateN d n ps) = 0))) && (decide (R14.svE R02.updateN (R14.encode R02.updateN d n ps) = 0))) && (R14.same d n ps (R14.svD R02.updateN (R14.encode R02.updateN d n ps)) (R14.svN R02.updateN (R14.encode R02.updateN d n ps)) (R14.svP R02.updateN (R14.encode R02.updateN d n ps))))) (fun z => [(2, vB false), (84, vB z)]) (fun _ => [Ent.blk b17 37 (DataSet.enc (R14.svD R02.updateN (R14.encode R02.updateN d n ps)) ++ [vI (R14.svN R02.updateN (R14.encode R02.updateN d n ps)), Value.slice A14 ((R14.svP R02.updateN (R14.encode R02.updateN d n ps)).length) c15]), Ent.row (.slice A14 (R14.svP R02.updateN (R14.encode R02.updateN d n ps)).length c15) 54 2 (R14.svP R02.updateN (R14.encode R02.updateN d n ps)).length ((R14.svP R02.updateN (R14.encode R02.updateN d n ps)).flatMap Pair.enc), Ent.blk b13 37 (DataSet.enc (R14.dcD R02.updateN (R14.encode R02.updateN d n ps)) ++ [vI (R14.dcN R02.updateN (R14.encode R02.updateN d n ps)), Value.slice A10 ((R14.dcP R02.updateN (R14.encode R02.updateN d n ps)).length) c11]), Ent.row (.slice A10 (R14.dcP R02.updateN (R14.encode R02.updateN d n ps)).length c11) 54 2 (R14.dcP R02.updateN (R14.encode R02.updateN d n ps)).length ((R14.dcP R02.updateN (R14.encode R02.updateN d n ps)).flatMap Pair.enc), Ent.blk b1 37 (DataSet.enc d ++ [vI n, Value.slice psA ps.length psC])]) ?_ ?_
      · rcases Bool.eq_false_or_eq_true (((((((decide (R14.okE (R14.valid d n ps) = 0)) && (decide ((((R14.encode R02.updateN d n ps).length : Nat) : Int) = (((R14.encode R02.updateN d n ps).length : Nat) : Int)))) && (decide (((((R14.encode R02.updateN d n ps).length) % 64 : Nat) : Int) = 0))) && (decide (R14.dcE R02.updateN (R14.encode R02.updateN d n ps) = 0))) && (R14.same d n ps (R14.dcD R02.updateN (R14.encode R02.updateN d n ps)) (R14.dcN R02.updateN (R14.encode R02.updateN d n ps)) (R14.dcP R02.updateN (R14.encode R02.updateN d n ps)))) && (decide (R14.svM R02.updateN (R14.encode R02.updateN d n ps) = 0))) && (decide (R14.svE R02.updateN (R14.encode R02.updateN d n ps) = 0))) with g46 | g46
        · have g46r := g46
          have ⟨g46r, h47⟩ := band_true g46r
          have ⟨g46r, h48⟩ := band_true g46r
          have ⟨g46r, h49⟩ := band_true g46r
          have ⟨g46r, h50⟩ := band_true g46r
          have ⟨g46r, h51⟩ := band_true g46r
          have ⟨g46r, h52⟩ := band_true g46r
          have g46r := of_decide_eq_true g46r
          have h52 := of_decide_eq_true h52
          have h51 := of_decide_eq_true h51
          have h50 := of_decide_eq_true h50
          have h48 := of_decide_eq_true h48
          have h47 := of_decide_eq_true h47
          refine JO_read (Value.agg ((DataSet.enc d ++ [vI n, Value.slice psA ps.length psC])).toArray) rfl ⟨_, rfl, g46⟩ (x_loadN 4 (DataSet.enc d ++ [vI n, Value.slice psA ps.length psC]) rfl rfl Ty.ag37 Ty.sz37 rfl) ?_
          refine JO_read (Value.agg ((DataSet.enc (R14.svD R02.updateN (R14.encode R02.updateN d n ps)) ++ [vI (R14.svN R02.updateN (R14.encode R02.updateN d n ps)), Value.slice A14 ((R14.svP R02.updateN (R14.encode R02.updateN d n ps)).length) c15])).toArray) rfl ⟨_, rfl, g46⟩ (x_loadN 0 (DataSet.enc (R14.svD R02.updateN (R14.encode R02.updateN d n ps)) ++ [vI (R14.svN R02.updateN (R14.encode R02.updateN d n ps)), Value.slice A14 ((R14.svP R02.updateN (R14.encode R02.updateN d n ps)).length) c15]) rfl rfl Ty.ag37 Ty.sz37 rfl) ?_
          refine JO_call [] [] [Ent.blk b17 37 (DataSet.enc (R14.svD R02.updateN (R14.encode R02.updateN d n ps)) ++ [vI (R14.svN R02.updateN (R14.encode R02.updateN d n ps)), Value.slice A14 ((R14.svP R02.updateN (R14.encode R02.updateN d n ps)).length) c15]), Ent.row (.slice A14 (R14.svP R02.updateN (R14.encode R02.updateN d n ps)).length c15) 54 2 (R14.svP R02.updateN (R14.encode R02.updateN d n ps)).length ((R14.svP R02.updateN (R14.encode R02.updateN d n ps)).flatMap Pair.enc), Ent.blk b13 37 (DataSet.enc (R14.dcD R02.updateN (R14.encode R02.updateN d n ps)) ++ [vI (R14.dcN R02.updateN (R14.encode R02.updateN d n ps)), Value.slice A10 ((R14.dcP R02.updateN (R14.encode R02.updateN d n ps)).length) c11]), Ent.row (.slice A10 (R14.dcP R02.updateN (R14.encode R02.updateN d n ps)).length c11) 54 2 (R14.dcP R02.updateN (R14.encode R02.updateN d n ps)).length ((R14.dcP R02.updateN (R14.encode R02.updateN d n ps)).flatMap Pair.enc), Ent.blk b1 37 (DataSet.enc d ++ [vI n, Value.slice psA ps.length psC])] rfl ⟨_, rfl, g46⟩ (fun _ => x_call Ty.ca22 rfl) (fun _ h => h) (fun _ h => by cases h) (fun w hS => f22_ok d n ps psA psC (R14.svD R02.updateN (R14.encode R02.updateN d n ps)) (R14.svN R02.updateN (R14.encode R02.updateN d n ps)) (R14.svP R02.updateN (R14.encode R02.updateN d n ps)) A14 c15 w (psR.on hS (fun _ h => by cases h)) (RO.of_row hS 1 rfl) hy_ hy_) ?_
          rintro _ _ ⟨rfl, rfl⟩
          refine JO_read (vB (R14.same d n ps (R14.svD R02.updateN (R14.encode R02.updateN d n ps)) (R14.svN R02.updateN (R14.encode R02.updateN d n ps)) (R14.svP R02.updateN (R14.encode R02.updateN d n ps)))) rfl trivial (fun _ _ => x_pick_t rfl g46 rfl) ?_
          refine JO_nil (JX_cut (R14.same d n ps (R14.svD R02.updateN (R14.encode R02.updateN d n ps)) (R14.svN R02.updateN (R14.encode R02.updateN d n ps)) (R14.svP R02.updateN (R14.encode R02.updateN d n ps))) (by rw [g46]; simp) ⟨rfl, rfl, trivial⟩ (fun _ h => h))
        · have g46r := g46
          simp only [Bool.and_eq_true, Bool.or_eq_true, Bool.and_eq_false_iff, Bool.or_eq_false_iff, Bool.not_eq_true', Bool.not_eq_false', decide_eq_true_eq, decide_eq_false_iff_not] at g46r
          refine JO_shun rfl ⟨_, rfl, g46⟩ ?_
          refine JO_shun rfl ⟨_, rfl, g46⟩ ?_
          refine JO_shun rfl ⟨_, rfl, g46⟩ ?_
          refine JO_read (vB false) rfl trivial (fun _ _ => x_pick_f rfl g46 rfl) ?_
          refine JO_nil (JX_cut (false) (by rw [g46]; simp) ⟨rfl, rfl, trivial⟩ (fun _ h => h))
      rintro z45 rfl
      refine jr_ (vB ((((((((decide (R14.okE (R14.valid d n ps) = 0)) && (decide ((((R14.encode R02.updateN d n ps).length : Nat) : Int) = (((R14.encode R02.updateN d n ps).length : Nat) : Int)))) && (decide (((((R14.encode R02.updateN d n ps).length) % 64 : Nat) : Int) = 0))) && (decide (R14.dcE R02.updateN (R14.encode R02.updateN d n ps) = 0))) && (R14.same d n ps (R14.dcD R02.updateN (R14.encode R02.updateN d n ps)) (R14.dcN R02.updateN (R14.encode R02.updateN d n ps)) (R14.dcP R02.updateN (R14.encode R02.updateN d n ps)))) && (decide (R14.svM R02.updateN (R14.encode R02.updateN d n ps) = 0))) && (decide (R14.svE R02.updateN (R14.encode R02.updateN d n ps) = 0))) && (R14.same d n ps (R14.svD R02.updateN (R14.encode R02.updateN d n ps)) (R14.svN R02.updateN (R14.encode R02.updateN d n ps)) (R14.svP R02.updateN (R14.encode R02.updateN d n ps))))) ?_
      refine JO_nil (JX_then (J_ret ?_))
      refine JX_rets [vB ((((((((decide (R14.okE (R14.valid d n ps) = 0)) && (decide ((((R14.encode R02.updateN d n ps).length : Nat) : Int) = (((R14.encode R02.updateN d n ps).length : Nat) : Int)))) && (decide (((((R14.encode R02.updateN d n ps).length) % 64 : Nat) : Int) = 0))) && (decide (R14.dcE R02.updateN (R14.encode R02.updateN d n ps) = 0))) && (R14.same d n ps (R14.dcD R02.updateN (R14.encode R02.updateN d n ps)) (R14.dcN R02.updateN (R14.encode R02.updateN d n ps)) (R14.dcP R02.updateN (R14.encode R02.updateN d n ps)))) && (decide (R14.svM R02.updateN (R14.encode R02.updateN d n ps) = 0))) && (decide (R14.svE R02.updateN (R14.encode R02.updateN d n ps) = 0))) && (R14.same d n ps (R14.svD R02.updateN (R14.encode R02.updateN d n ps)) (R14.svN R02.updateN (R14.encode R02.updateN d n ps)) (R14.svP R02.updateN (R14.encode R02.updateN d n ps))))] (vB ((((((((decide (R14.okE (R14.valid d n ps) = 0)) && (decide ((((R14.encode R02.updateN d n ps).length : Nat) : Int) = (((R14.encode R02.updateN d n ps).length : Nat) : Int)))) && (decide (((((R14.encode R02.updateN d n ps).length) % 64 : Nat) : Int) = 0))) && (decide (R14.dcE R02.updateN (R14.encode R02.updateN d n ps) = 0))) && (R14.same d n ps (R14.dcD R02.updateN (R14.encode R02.updateN d n ps)) (R14.dcN R02.updateN (R14.encode R02.updateN d n ps)) (R14.dcP R02.updateN (R14.encode R02.updateN d n ps)))) && (decide (R14.svM R02.updateN (R14.encode R02.updateN d n ps) = 0))) && (decide (R14.svE R02.updateN (R14.encode R02.updateN d n ps) = 0))) && (R14.same d n ps (R14.svD R02.updateN (R14.encode R02.updateN d n ps)) (R14.svN R02.updateN (R14.encode R02.updateN d n ps)) (R14.svP R02.updateN (R14.encode R02.updateN d n ps))))) Try.results8 (fun w h => ⟨rfl, trivial⟩) rfl [] (fun _ h => h.keep [false, false, false, false, false] rfl) ⟨?_, ?_⟩
      · have e_x0 : ((((((((decide (R14.okE (R14.valid d n ps) = 0)) && (decide ((((R14.encode R02.updateN d n ps).length : Nat) : Int) = (((R14.encode R02.updateN d n ps).length : Nat) : Int)))) && (decide (((((R14.encode R02.updateN d n ps).length) % 64 : Nat) : Int) = 0))) && (decide (R14.dcE R02.updateN (R14.encode R02.updateN d n ps) = 0))) && (R14.same d n ps (R14.dcD R02.updateN (R14.encode R02.updateN d n ps)) (R14.dcN R02.updateN (R14.encode R02.updateN d n ps)) (R14.dcP R02.updateN (R14.encode R02.updateN d n ps)))) && (decide (R14.svM R02.updateN (R14.encode R02.updateN d n ps) = 0))) && (decide (R14.svE R02.updateN (R14.encode R02.updateN d n ps) = 0))) && (R14.same d n ps (R14.svD R02.updateN (R14.encode R02.updateN d n ps)) (R14.svN R02.updateN (R14.encode R02.updateN d n ps)) (R14.svP R02.updateN (R14.encode R02.updateN d n ps))) : Bool) = true := by first | rfl | exact R14.ret_no (by assumption) | exact R14.ret_yes (by assumption)
        exact congrArg (fun (x0 : Bool) => vB x0) e_x0
      · rfl
end Go.Proofs.Ytodfebhimadaiaa
