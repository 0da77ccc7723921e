/- contracts L14d -/
import Derived.Test.YtodfebhimadaiaaC14p
import Derived.Test.YtodfebhimadaiaaC14l
import Derived.Test.YtodfebhimadaiaaGvW
namespace Go.Proofs.Ytodfebhimadaiaa
open Go.GV
set_option linter.unusedVariables false
set_option linter.unusedSimpArgs false
set_option maxHeartbeats 2000000 in
set_option maxRecDepth 20000 in
theorem f7_ok (d : DataSet) (n : Int) (ps : List Pair) (psA : Option Addr) (psC : Nat) (l : List Harm) (lA : Option Addr) (lC : Nat) (w : World) (psR : RO [] w psA (ps.flatMap Pair.enc)) (lR : RO [] w lA (l.flatMap Harm.enc)) (q0 : ps.length ≤ 9223372036854775807) : Calls Try.prog 7 #[Value.agg ((DataSet.enc d ++ [vI n, Value.slice psA ps.length psC])).toArray, Value.slice lA l.length lC] w (Gives [] w fun v L => v = vB true ∧ L = []) := by
  refine calls_J [] 175 Try.func7 rfl Try.ntmps7 [(0, Value.agg ((DataSet.enc d ++ [vI n, Value.slice psA ps.length psC])).toArray), (1, Value.slice lA l.length lC)] rfl rfl (Give.nil w) ?_
  refine J_seq (J_region ?_)
  refine JO_op rfl trivial (O_box rfl rfl fun b1 => ?_)
  refine jr_ (vB false) ?_
  refine JO_nil (JX_then (J_seq (J_seq (J_region ?_))))
  refine JO_call [] [] [Ent.blk b1 37 (DataSet.enc d ++ [vI n, Value.slice psA ps.length psC])] rfl trivial (fun _ => x_call Ty.ca10 rfl) (fun _ h => h) (fun _ h => by cases h) (fun w hS => f10_ok w) ?_
  rintro _ _ ⟨rfl, rfl⟩
  refine jr_ (vB false) ?_
  refine jr_ (vB false) ?_
  refine JO_read (Value.agg ((DataSet.enc d ++ [vI n, Value.slice psA ps.length psC])).toArray) rfl ⟨_, rfl, rfl⟩ (x_loadN 0 (DataSet.enc d ++ [vI n, Value.slice psA ps.length psC]) rfl rfl Ty.ag37 Ty.sz37 rfl) ?_
  refine JO_call [] [] [Ent.blk b1 37 (DataSet.enc d ++ [vI n, Value.slice psA ps.length psC])] rfl ⟨_, rfl, rfl⟩ (fun _ => x_call Ty.ca17 rfl) (fun _ h => h) (fun _ h => by cases h) (fun w hS => f17_ok d n ps psA psC w (psR.on hS (fun _ h => by cases h)) hy_) ?_
  rintro _ _ ⟨rfl, rfl⟩
  refine JO_read (vB (!(R14.few d ps))) rfl ⟨_, rfl, rfl⟩ (fun _ _ => x_not rfl) ?_
  refine jr_ (vB (!(R14.few d ps))) ?_
  refine jr_ (vB (!(R14.few d ps))) ?_
  refine JO_cut (X := Bool) 4 (fun z => z = ((!(R14.few d ps)) || (!(R14.valid d n ps)))) (fun z => [(1, Value.slice lA l.length lC), (2, Value.pointer (some ⟨b1, 0, none⟩)), (4, vB false), (34, vB z)]) (fun _ => [Ent.blk b1 37 (DataSet.enc d ++ [vI n, Value.slice psA ps.length psC])]) ?_ ?_
  · rcases Bool.eq_false_or_eq_true (!(R14.few d ps)) with g3 | g3
    · have g3r := g3
      have g3r : (R14.few d ps) = false := bnot_true g3r
      refine JO_shun rfl ⟨_, rfl, g3⟩ ?_
      refine JO_shun rfl ⟨_, rfl, g3⟩ ?_
      refine JO_shun rfl ⟨_, rfl, g3⟩ ?_
      refine JO_read (vB true) rfl trivial (fun _ _ => x_pick_t rfl g3 rfl) ?_
      refine JO_nil (JX_cut (true) (by rw [g3]; simp) ⟨rfl, rfl, rfl, rfl, trivial⟩ (fun _ h => h))
    · have g3r := g3
      have g3r : (R14.few d ps) = true := bnot_false g3r
      refine JO_read (Value.agg ((DataSet.enc d ++ [vI n, Value.slice psA ps.length psC])).toArray) rfl ⟨_, rfl, g3⟩ (x_loadN 0 (DataSet.enc d ++ [vI n, Value.slice psA ps.length psC]) rfl rfl Ty.ag37 Ty.sz37 rfl) ?_
      refine JO_call [] [] [Ent.blk b1 37 (DataSet.enc d ++ [vI n, Value.slice psA ps.length psC])] rfl ⟨_, rfl, g3⟩ (fun _ => x_call Ty.ca20 rfl) (fun _ h => h) (fun _ h => by cases h) (fun w hS => f20_ok d n ps psA psC w (psR.on hS (fun _ h => by cases h)) hy_) ?_
      rintro _ _ ⟨rfl, rfl⟩
      refine JO_read (vB (!(R14.valid d n ps))) rfl ⟨_, rfl, g3⟩ (fun _ _ => x_not rfl) ?_
      refine JO_read (vB (!(R14.valid d n ps))) rfl trivial (fun _ _ => x_pick_f rfl g3 rfl) ?_
      refine JO_nil (JX_cut (!(R14.valid d n ps)) (by rw [g3]; simp) ⟨rfl, rfl, rfl, rfl, trivial⟩ (fun _ h => h))
  rintro z2 rfl
  refine jr_ (vB ((!(R14.few d ps)) || (!(R14.valid d n ps)))) ?_
  refine JO_cut (X := Bool) 4 (fun z => z = (((!(R14.few d ps)) || (!(R14.valid d n ps))) || (decide ((20 : Int) < ((l.length : Nat) : Int))))) (fun z => [(1, Value.slice lA l.length lC), (2, Value.pointer (some ⟨b1, 0, none⟩)), (4, vB false), (39, vB z)]) (fun _ => [Ent.blk b1 37 (DataSet.enc d ++ [vI n, Value.slice psA ps.length psC])]) ?_ ?_
  · rcases Bool.eq_false_or_eq_true ((!(R14.few d ps)) || (!(R14.valid d n ps))) with g5 | g5
    · have g5r := g5
      simp only [Bool.and_eq_true, Bool.or_eq_true, Bool.and_eq_false_iff, Bool.or_eq_false_iff, Bool.not_eq_true', Bool.not_eq_false', decide_eq_true_eq, decide_eq_false_iff_not] at g5r
      refine JO_shun rfl ⟨_, rfl, g5⟩ ?_
      refine JO_shun rfl ⟨_, rfl, g5⟩ ?_
      refine JO_shun rfl ⟨_, rfl, g5⟩ ?_
      refine JO_read (vB true) rfl trivial (fun _ _ => x_pick_t rfl g5 rfl) ?_
      refine JO_nil (JX_cut (true) (by rw [g5]; simp) ⟨rfl, rfl, rfl, rfl, trivial⟩ (fun _ h => h))
    · have g5r := g5
      have ⟨g5r, h6⟩ := bor_false g5r
      have g5r : (R14.few d ps) = true := bnot_false g5r
      have h6 : (R14.valid d n ps) = true := bnot_false h6
      refine JO_read (Value.slice lA l.length lC) rfl ⟨_, rfl, g5⟩ (fun _ _ => rfl) ?_
      refine JO_read (vI ((l.length : Nat) : Int)) rfl ⟨_, rfl, g5⟩ (fun _ _ => x_len_sl Try.underlying48 rfl) ?_
      refine JO_read (vB (decide ((20 : Int) < ((l.length : Nat) : Int)))) rfl ⟨_, rfl, g5⟩ (fun _ _ => x_gtr_i rfl rfl) ?_
      refine JO_read (vB (decide ((20 : Int) < ((l.length : Nat) : Int)))) rfl trivial (fun _ _ => x_pick_f rfl g5 rfl) ?_
      refine JO_nil (JX_cut (decide ((20 : Int) < ((l.length : Nat) : Int))) (by rw [g5]; simp) ⟨rfl, rfl, rfl, rfl, trivial⟩ (fun _ h => h))
  rintro z4 rfl
  refine JO_nil (JX_then ?_)
  refine J_cond (((!(R14.few d ps)) || (!(R14.valid d n ps))) || (decide ((20 : Int) < ((l.length : Nat) : Int)))) rfl rfl (fun h7 => ?_) (fun h7 => ?_)
  · have h7w := h7
    simp only [Bool.and_eq_true, Bool.or_eq_true, Bool.and_eq_false_iff, Bool.or_eq_false_iff, Bool.not_eq_true', Bool.not_eq_false', decide_eq_true_eq, decide_eq_false_iff_not] at h7
    refine J_seq (J_region ?_)
    refine JO_call [] [] [Ent.blk b1 37 (DataSet.enc d ++ [vI n, Value.slice psA ps.length psC])] rfl trivial (fun _ => x_call Ty.ca10 rfl) (fun _ h => h) (fun _ h => by cases h) (fun w hS => f10_ok w) ?_
    rintro _ _ ⟨rfl, rfl⟩
    refine jr_ (vB true) ?_
    refine JO_nil (JX_then (J_ret (JX_then_ret ?_)))
    refine JX_rets [vB true] (vB true) Try.results7 (fun w h => ⟨rfl, trivial⟩) rfl [] (fun _ h => h.keep [false] rfl) ⟨?_, ?_⟩
    · rfl
    · rfl
  · have h7w := h7
    have ⟨h7, h8⟩ := bor_false h7
    have ⟨h7, h9⟩ := bor_false h7
    have h7 : (R14.few d ps) = true := bnot_false h7
    have h9 : (R14.valid d n ps) = true := bnot_false h9
    have h8 := of_decide_eq_false h8
    refine J_skip (JX_then (J_seq (J_region ?_)))
    refine JO_read (Value.agg ((DataSet.enc d ++ [vI n, Value.slice psA ps.length psC])).toArray) rfl trivial (x_loadN 0 (DataSet.enc d ++ [vI n, Value.slice psA ps.length psC]) rfl rfl Ty.ag37 Ty.sz37 rfl) ?_
    refine JO_call [] [] [Ent.blk b1 37 (DataSet.enc d ++ [vI n, Value.slice psA ps.length psC])] rfl trivial (fun _ => x_call Ty.ca18 rfl) (fun _ h => h) (fun _ h => by cases h) (fun w hS => f18_ok d n ps psA psC w (psR.on hS (fun _ h => by cases h)) hy_) ?_
    rintro _ _ ⟨rfl, rfl⟩
    have ha10 := R14.few_len (d := d) (n := n) (ps := ps) R02.updateN (by assumption)
    refine jr_ (Value.tuple #[vS (R14.encode R02.updateN d n ps), vI (R14.okE (R14.valid d n ps))]) ?_
    refine jr_ (vS (R14.encode R02.updateN d n ps)) ?_
    refine jr_ (vI (R14.okE (R14.valid d n ps))) ?_
    refine jr_ (vS (R14.encode R02.updateN d n ps)) ?_
    refine jr_ (vI (R14.okE (R14.valid d n ps))) ?_
    refine JO_nil (JX_then (J_seq (J_seq (J_region ?_))))
    refine jr_ (vI (R14.okE (R14.valid d n ps))) ?_
    refine JO_read (vB (decide (R14.okE (R14.valid d n ps) ≠ 0))) rfl trivial (fun _ _ => x_neq_i rfl rfl) ?_
    refine jr_ (vB (decide (R14.okE (R14.valid d n ps) ≠ 0))) ?_
    refine JO_cut (X := Bool) 4 (fun z => z = ((decide (R14.okE (R14.valid d n ps) ≠ 0)) || (decide ((((R14.encode R02.updateN d n ps).length : Nat) : Int) < 64)))) (fun z => [(1, Value.slice lA l.length lC), (2, Value.pointer (some ⟨b1, 0, none⟩)), (4, vB false), (5, vS (R14.encode R02.updateN d n ps)), (52, vB z)]) (fun _ => [Ent.blk b1 37 (DataSet.enc d ++ [vI n, Value.slice psA ps.length psC])]) ?_ ?_
    · rcases Bool.eq_false_or_eq_true (decide (R14.okE (R14.valid d n ps) ≠ 0)) with g12 | g12
      · have g12r := g12
        have g12r := of_decide_eq_true g12r
        refine JO_shun rfl ⟨_, rfl, g12⟩ ?_
        refine JO_shun rfl ⟨_, rfl, g12⟩ ?_
        refine JO_shun rfl ⟨_, rfl, g12⟩ ?_
        refine JO_read (vB true) rfl trivial (fun _ _ => x_pick_t rfl g12 rfl) ?_
        refine JO_nil (JX_cut (true) (by rw [g12]; simp) ⟨rfl, rfl, rfl, rfl, rfl, trivial⟩ (fun _ h => h))
      · have g12r := g12
        have g12r := of_decide_eq_false g12r
        refine JO_read (vS (R14.encode R02.updateN d n ps)) rfl ⟨_, rfl, g12⟩ (fun _ _ => rfl) ?_
        refine JO_read (vI (((R14.encode R02.updateN d n ps).length : Nat) : Int)) rfl ⟨_, rfl, g12⟩ (fun _ _ => x_len_s rfl Try.underlying9) ?_
        refine JO_read (vB (decide ((((R14.encode R02.updateN d n ps).length : Nat) : Int) < 64))) rfl ⟨_, rfl, g12⟩ (fun _ _ => x_lss_i rfl rfl) ?_
        refine JO_read (vB (decide ((((R14.encode R02.updateN d n ps).length : Nat) : Int) < 64))) rfl trivial (fun _ _ => x_pick_f rfl g12 rfl) ?_
        refine JO_nil (JX_cut (decide ((((R14.encode R02.updateN d n ps).length : Nat) : Int) < 64)) (by rw [g12]; simp) ⟨rfl, rfl, rfl, rfl, rfl, trivial⟩ (fun _ h => h))
    rintro z11 rfl
    refine JO_nil (JX_then ?_)
    refine J_cond ((decide (R14.okE (R14.valid d n ps) ≠ 0)) || (decide ((((R14.encode R02.updateN d n ps).length : Nat) : Int) < 64))) rfl rfl (fun h13 => ?_) (fun h13 => ?_)
    · have h13w := h13
      simp only [Bool.and_eq_true, Bool.or_eq_true, Bool.and_eq_false_iff, Bool.or_eq_false_iff, Bool.not_eq_true', Bool.not_eq_false', decide_eq_true_eq, decide_eq_false_iff_not] at h13
      refine J_seq (J_region ?_)
      refine jr_ (vB false) ?_
      refine JO_nil (JX_then (J_ret (JX_then_ret ?_)))
      refine JX_rets [vB false] (vB false) Try.results7 (fun w h => ⟨rfl, trivial⟩) rfl [] (fun _ h => h.keep [false] rfl) ⟨?_, ?_⟩
      · have e_x0 : (false : Bool) = true := by first | rfl | (exfalso; exact R14.sal_bad0 (by assumption) (by assumption)) | (exfalso; omega) | (exfalso; exact absurd (hfr (by omega)).1 (by assumption)) | (exfalso; exact R14.sal_bad1 (by assumption) i1_1 i1_2 (by assumption) (by omega) (by assumption)) | exact R14.sal_none (by assumption) hws (by assumption) | exact R14.sal_yes (by assumption) hws (by assumption) i2_0 (by assumption) i2_1
        exact congrArg (fun (x0 : Bool) => vB x0) e_x0
      · rfl
    · have h13w := h13
      have ⟨h13, h14⟩ := bor_false h13
      have h13 := of_decide_eq_false h13
      have h14 := of_decide_eq_false h14
      refine J_skip (JX_then (J_seq (J_region ?_)))
      refine jr_ (vS (R14.encode R02.updateN d n ps)) ?_
      refine jr_ (Value.slice lA l.length lC) ?_
      refine JO_call [] [] [Ent.blk b1 37 (DataSet.enc d ++ [vI n, Value.slice psA ps.length psC])] rfl trivial (fun _ => x_call Ty.ca30 rfl) (fun _ h => h) (fun _ h => by cases h) (fun w hS => f30_ok (R14.encode R02.updateN d n ps) l lA lC w (lR.on hS (fun _ h => by cases h)) hy_ hy_ hy_) ?_
      rintro _ _ ⟨M15, rfl, rfl⟩
      have ha16 := R14.harmT_len (d := d) (n := n) (ps := ps) (l := l) (by assumption) (by omega) (by assumption)
      refine jr_ (Value.tuple #[vS (R14.harmT (R14.encode R02.updateN d n ps) l), Value.map (some M15)]) ?_
      refine jr_ (vS (R14.harmT (R14.encode R02.updateN d n ps) l)) ?_
      refine jr_ (Value.map (some M15)) ?_
      refine jr_ (vS (R14.harmT (R14.encode R02.updateN d n ps) l)) ?_
      refine jr_ (Value.map (some M15)) ?_
      refine JO_nil (JX_then (J_seq (J_region ?_)))
      refine JO_op rfl trivial (O_buildSlice0 Try.underlying52 Ty.sz4 fun b17 => ?_)
      refine jr_ (Value.slice (some ⟨b17, 0, none⟩) 0 0) ?_
      refine jr_ (vI (-1)) ?_
      refine JO_nil (JX_then (J_seq (J_seq (J_region ?_))))
      refine jr_ (vI 0) ?_
      refine JO_nil (JX_then (J_block ?_))
      refine J_loop (X := Nat × (List Bool) × (Option Addr) × Nat × Int) (fun (⟨i, ws, wsA, wsC, it⟩ : Nat × (List Bool) × (Option Addr) × Nat × Int) => (i ≤ ((R14.encode R02.updateN d n ps).length / 64)) ∧ (ws = R14.wsc (R14.encode R02.updateN d n ps) l d n ps i) ∧ (it = ((ws.length : Nat) : Int) - 1) ∧ (ws.length ≤ i)) (fun (⟨i, ws, wsA, wsC, it⟩ : Nat × (List Bool) × (Option Addr) × Nat × Int) => [(2, Value.pointer (some ⟨b1, 0, none⟩)), (5, vS (R14.encode R02.updateN d n ps)), (7, vS (R14.harmT (R14.encode R02.updateN d n ps) l)), (8, Value.map (some M15)), (9, Value.slice wsA ws.length wsC), (10, vI it), (11, vI ((i : Nat) : Int))]) (fun (⟨i, ws, wsA, wsC, it⟩ : Nat × (List Bool) × (Option Addr) × Nat × Int) => [Ent.mp vI M15 ((R14.harmG (R14.encode R02.updateN d n ps) l).map kT), Ent.blk b1 37 (DataSet.enc d ++ [vI n, Value.slice psA ps.length psC]), Ent.row (.slice wsA ws.length wsC) 4 1 ws.length (ws.map vB)]) (fun (⟨i, ws, wsA, wsC, it⟩ : Nat × (List Bool) × (Option Addr) × Nat × Int) => ((R14.encode R02.updateN d n ps).length / 64) - i) ((0, ([] : List Bool), (some ⟨b17, 0, none⟩), 0, (-1)) : Nat × (List Bool) × (Option Addr) × Nat × Int) ?_ ⟨rfl, rfl, rfl, rfl, rfl, rfl, rfl, trivial⟩ (fun _ h => (((St.torow (cs := []) h 1 0 rfl (by decide)).front 2 _ rfl).front 2 _ rfl).keep [true, true, true] rfl) ?_
      · show (0 ≤ ((R14.encode R02.updateN d n ps).length / 64)) ∧ (([] : List Bool) = R14.wsc (R14.encode R02.updateN d n ps) l d n ps 0) ∧ ((-1) = ((([] : List Bool).length : Nat) : Int) - 1) ∧ (([] : List Bool).length ≤ 0)
        refine ⟨?_, ?_, ?_, ?_⟩
        · first | rfl | omega | (simp_all; done) | (simp_all; omega)
        · rfl
        · rfl
        · exact Nat.le_refl _
      rintro ⟨i, ws, wsA, wsC, it⟩ hI1
      obtain ⟨i1_0, i1_1, i1_2, i1_3⟩ : (i ≤ ((R14.encode R02.updateN d n ps).length / 64)) ∧ (ws = R14.wsc (R14.encode R02.updateN d n ps) l d n ps i) ∧ (it = ((ws.length : Nat) : Int) - 1) ∧ (ws.length ≤ i) := hI1
      have hfr := R14.fs_read (d := d) (n := n) (ps := ps) (i := i) (by assumption)
      refine J_weaken (E' := [(2, Value.pointer (some ⟨b1, 0, none⟩)), (5, vS (R14.encode R02.updateN d n ps)), (7, vS (R14.harmT (R14.encode R02.updateN d n ps) l)), (8, Value.map (some M15)), (9, Value.slice wsA ws.length wsC), (10, vI it), (11, vI ((i : Nat) : Int))]) (L' := [Ent.mp vI M15 ((R14.harmG (R14.encode R02.updateN d n ps) l).map kT), Ent.blk b1 37 (DataSet.enc d ++ [vI n, Value.slice psA ps.length psC]), Ent.row (.slice wsA ws.length wsC) 4 1 ws.length (ws.map vB)]) ⟨rfl, rfl, rfl, rfl, rfl, rfl, rfl, trivial⟩ (fun _ h => h) ?_
      refine J_seq (J_seq (J_region ?_))
      refine jr_ (vI ((i : Nat) : Int)) ?_
      refine jr_ (vS (R14.encode R02.updateN d n ps)) ?_
      refine JO_read (vI (((R14.encode R02.updateN d n ps).length : Nat) : Int)) rfl trivial (fun _ _ => x_len_s rfl Try.underlying9) ?_
      refine JO_read (vI ((((R14.encode R02.updateN d n ps).length) / 64 : Nat) : Int)) rfl trivial (fun _ _ => x_quo_n (a := (R14.encode R02.updateN d n ps).length) (b := 64) rfl rfl (by omega) (by omega)) ?_
      refine JO_read (vB (decide (((i : Nat) : Int) < ((((R14.encode R02.updateN d n ps).length) / 64 : Nat) : Int)))) rfl trivial (fun _ _ => x_lss_i rfl rfl) ?_
      refine JO_nil (JX_then ?_)
      refine J_cond (decide (((i : Nat) : Int) < ((((R14.encode R02.updateN d n ps).length) / 64 : Nat) : Int))) rfl rfl (fun h18 => ?_) (fun h18 => ?_)
      · have h18w := h18
        have h18 := of_decide_eq_true h18
        refine J_skip (JX_then (J_seq (J_block (J_seq (J_region ?_)))))
        refine jr_ (vS (R14.encode R02.updateN d n ps)) ?_
        refine jr_ (vI ((i : Nat) : Int)) ?_
        refine JO_read (vI ((i * 64 : Nat) : Int)) rfl trivial (fun _ _ => x_mul_n (a := i) (b := 64) rfl rfl (by omega)) ?_
        refine jr_ (vI ((i : Nat) : Int)) ?_
        refine JO_read (vI ((i * 64 : Nat) : Int)) rfl trivial (fun _ _ => x_mul_n (a := i) (b := 64) rfl rfl (by omega)) ?_
        refine JO_read (vI (((i * 64) + 64 : Nat) : Int)) rfl trivial (fun _ _ => x_add_n (a := i * 64) (b := 64) rfl rfl (by omega)) ?_
        refine JO_read (vS (sub (R14.encode R02.updateN d n ps) (i * 64) ((i * 64) + 64))) rfl trivial (fun _ _ => x_sub_s (lo := i * 64) (hi := (i * 64) + 64) rfl Try.underlying9 (.inl rfl) (.inl rfl) lt_ (by first | omega | (simp only [sub, List.length_drop, List.length_take]; omega) | (simp; omega) | (simp_all; omega))) ?_
        refine JO_call [] [] [Ent.mp vI M15 ((R14.harmG (R14.encode R02.updateN d n ps) l).map kT), Ent.blk b1 37 (DataSet.enc d ++ [vI n, Value.slice psA ps.length psC]), Ent.row (.slice wsA ws.length wsC) 4 1 ws.length (ws.map vB)] rfl trivial (fun _ => x_call Ty.ca11 rfl) (fun _ h => h) (fun _ h => by cases h) (fun w hS => f11_ok (sub (R14.encode R02.updateN d n ps) (i * 64) ((i * 64) + 64)) w hy_) ?_
        rintro _ _ ⟨rfl, rfl⟩
        refine jr_ (Value.tuple #[vI (R14.rfN R02.updateN (sub (R14.encode R02.updateN d n ps) (i * 64) ((i * 64) + 64))), vB (R14.rfA R02.updateN (sub (R14.encode R02.updateN d n ps) (i * 64) ((i * 64) + 64))), vB (R14.rfB R02.updateN (sub (R14.encode R02.updateN d n ps) (i * 64) ((i * 64) + 64))), vS (R14.rfD R02.updateN (sub (R14.encode R02.updateN d n ps) (i * 64) ((i * 64) + 64))), vI (R14.rfE R02.updateN (sub (R14.encode R02.updateN d n ps) (i * 64) ((i * 64) + 64)))]) ?_
        refine jr_ (vI (R14.rfN R02.updateN (sub (R14.encode R02.updateN d n ps) (i * 64) ((i * 64) + 64)))) ?_
        refine jr_ (vB (R14.rfA R02.updateN (sub (R14.encode R02.updateN d n ps) (i * 64) ((i * 64) + 64)))) ?_
        refine jr_ (vB (R14.rfB R02.updateN (sub (R14.encode R02.updateN d n ps) (i * 64) ((i * 64) + 64)))) ?_
        refine jr_ (vS (R14.rfD R02.updateN (sub (R14.encode R02.updateN d n ps) (i * 64) ((i * 64) + 64)))) ?_
        refine jr_ (vI (R14.rfE R02.updateN (sub (R14.encode R02.updateN d n ps) (i * 64) ((i * 64) + 64)))) ?_
        refine jr_ (vI (R14.rfN R02.updateN (sub (R14.encode R02.updateN d n ps) (i * 64) ((i * 64) + 64)))) ?_
        refine jr_ (vB (R14.rfA R02.updateN (sub (R14.encode R02.updateN d n ps) (i * 64) ((i * 64) + 64)))) ?_
        refine jr_ (vB (R14.rfB R02.updateN (sub (R14.encode R02.updateN d n ps) (i * 64) ((i * 64) + 64)))) ?_
        refine jr_ (vS (R14.rfD R02.updateN (sub (R14.encode R02.updateN d n ps) (i * 64) ((i * 64) + 64)))) ?_
        refine jr_ (vI (R14.rfE R02.updateN (sub (R14.encode R02.updateN d n ps) (i * 64) ((i * 64) + 64)))) ?_
        refine JO_nil (JX_then (J_seq (J_seq (J_region ?_))))
        refine jr_ (vI (R14.rfE R02.updateN (sub (R14.encode R02.updateN d n ps) (i * 64) ((i * 64) + 64)))) ?_
        refine JO_read (vB (decide (R14.rfE R02.updateN (sub (R14.encode R02.updateN d n ps) (i * 64) ((i * 64) + 64)) ≠ 0))) rfl trivial (fun _ _ => x_neq_i rfl rfl) ?_
        refine JO_nil (JX_then ?_)
        refine J_cond (decide (R14.rfE R02.updateN (sub (R14.encode R02.updateN d n ps) (i * 64) ((i * 64) + 64)) ≠ 0)) rfl rfl (fun h19 => ?_) (fun h19 => ?_)
        · have h19w := h19
          have h19 := of_decide_eq_true h19
          refine J_seq (J_region ?_)
          refine jr_ (vB false) ?_
          refine JO_nil (JX_then (J_ret (JX_then_ret (JX_block_ret (JX_then_ret ?_)))))
          refine JX_round_ret (JX_block_ret (JX_then_ret ?_))
          refine JX_rets [vB false] (vB false) Try.results7 (fun w h => ⟨rfl, trivial⟩) rfl [] (fun _ h => h.keep [false, false, false] rfl) ⟨?_, ?_⟩
          · have e_x0 : (false : Bool) = true := by first | rfl | (exfalso; exact R14.sal_bad0 (by assumption) (by assumption)) | (exfalso; omega) | (exfalso; exact absurd (hfr (by omega)).1 (by assumption)) | (exfalso; exact R14.sal_bad1 (by assumption) i1_1 i1_2 (by assumption) (by omega) (by assumption)) | exact R14.sal_none (by assumption) hws (by assumption) | exact R14.sal_yes (by assumption) hws (by assumption) i2_0 (by assumption) i2_1
            exact congrArg (fun (x0 : Bool) => vB x0) e_x0
          · rfl
        · have h19w := h19
          have h19 := of_decide_eq_false h19
          refine J_skip (JX_then (J_seq (J_seq (J_region ?_))))
          refine jr_ (vB (R14.rfA R02.updateN (sub (R14.encode R02.updateN d n ps) (i * 64) ((i * 64) + 64)))) ?_
          refine JO_nil (JX_then ?_)
          refine J_cond (R14.rfA R02.updateN (sub (R14.encode R02.updateN d n ps) (i * 64) ((i * 64) + 64))) rfl rfl (fun h20 => ?_) (fun h20 => ?_)
          · have h20w := h20
            refine J_seq (J_region ?_)
            refine jr_ (Value.slice wsA ws.length wsC) ?_
            refine JO_op rfl trivial (O_buildSlice (cs := [vB true]) Try.underlying52 Ty.sz4 Ty.ze4 (by decide) (by decide) (by kernel_rfl) fun b21 => ?_)
            refine JO_op rfl trivial (O_append_m 3 vB ws [true] Try.underlying52 Ty.sz4 Ty.by4 Ty.ze4 rfl rfl rfl rfl rfl (fun _ => rfl) (cells_blk 0 (off := 0) (m := 1) rfl rfl) lt_ lt_ fun A22 c23 => ?_)
            refine jr_ (Value.slice A22 ((ws ++ [true]).length) c23) ?_
            refine JO_nil (JX_then (J_region ?_))
            refine jr_ (vI it) ?_
            refine JO_read (vI (it + 1)) rfl trivial (fun _ _ => x_add_i (a := it) (b := 1) rfl rfl (by omega) (by omega)) ?_
            refine jr_ (vI (it + 1)) ?_
            refine JO_nil (JX_then (J_seq (J_seq (J_region ?_))))
            refine jr_ (vI (it + 1)) ?_
            refine JO_read (vB (decide (it + 1 < 0))) rfl trivial (fun _ _ => x_lss_i rfl rfl) ?_
            refine JO_nil (JX_then ?_)
            refine J_cond (decide (it + 1 < 0)) rfl rfl (fun h24 => ?_) (fun h24 => ?_)
            · have h24w := h24
              have h24 := of_decide_eq_true h24
              refine J_seq (J_region ?_)
              refine jr_ (vB false) ?_
              refine JO_nil (JX_then (J_ret (JX_then_ret (JX_block_ret (JX_then_ret ?_)))))
              refine JX_round_ret (JX_block_ret (JX_then_ret ?_))
              refine JX_rets [vB false] (vB false) Try.results7 (fun w h => ⟨rfl, trivial⟩) rfl [] (fun _ h => h.keep [false, false, false, false] rfl) ⟨?_, ?_⟩
              · have e_x0 : (false : Bool) = true := by first | rfl | (exfalso; exact R14.sal_bad0 (by assumption) (by assumption)) | (exfalso; omega) | (exfalso; exact absurd (hfr (by omega)).1 (by assumption)) | (exfalso; exact R14.sal_bad1 (by assumption) i1_1 i1_2 (by assumption) (by omega) (by assumption)) | exact R14.sal_none (by assumption) hws (by assumption) | exact R14.sal_yes (by assumption) hws (by assumption) i2_0 (by assumption) i2_1
                exact congrArg (fun (x0 : Bool) => vB x0) e_x0
              · rfl
            · have h24w := h24
              have h24 := of_decide_eq_false h24
              refine J_skip (JX_then (J_region ?_))
              refine jr_ (Value.slice A22 ((ws ++ [true]).length) c23) ?_
              refine jr_ (vI (it + 1)) ?_
              refine jr_ (Value.slice A22 ((ws ++ [true]).length) c23) ?_
              refine jr_ (vI (it + 1)) ?_
              refine JO_read (Value.pointer (some (adr A22 ((it + 1).toNat)))) rfl trivial (x_indexAddr_at (k := (it + 1).toNat) (off := (it + 1).toNat) (cells_row 3 rfl) Try.underlying52 Ty.sz4 rfl (ix_nat rfl (by omega)) lt_ (by rw [List.length_map]; first | omega | (simp; omega) | (simp_all; omega) | (simp_all; done)) (Nat.mul_one _)) ?_
              refine JO_read (vB ((ws ++ [true]).getD ((it + 1).toNat) false)) rfl trivial (x_load_at (cells_row 3 rfl) rfl Ty.sc4 (map_at vB (ws ++ [true]) false lt_)) ?_
              refine jr_ (vB ((ws ++ [true]).getD ((it + 1).toNat) false)) ?_
              refine JO_cut (X := Bool) 5 (fun z => z = ((((ws ++ [true]).getD ((it + 1).toNat) false)) && (!((hasK (R14.harmG (R14.encode R02.updateN d n ps) l) ((i : Nat) : Int)))))) (fun z => [(2, Value.pointer (some ⟨b1, 0, none⟩)), (5, vS (R14.encode R02.updateN d n ps)), (7, vS (R14.harmT (R14.encode R02.updateN d n ps) l)), (8, Value.map (some M15)), (9, Value.slice A22 ((ws ++ [true]).length) c23), (10, vI (it + 1)), (11, vI ((i : Nat) : Int)), (91, Value.slice A22 ((ws ++ [true]).length) c23), (92, vI (it + 1)), (102, vB z)]) (fun _ => [Ent.blk b21 4 [vB true], Ent.mp vI M15 ((R14.harmG (R14.encode R02.updateN d n ps) l).map kT), Ent.blk b1 37 (DataSet.enc d ++ [vI n, Value.slice psA ps.length psC]), Ent.row (.slice A22 (ws ++ [true]).length c23) 4 1 (ws ++ [true]).length ((ws ++ [true]).map vB)]) ?_ ?_
              · rcases Bool.eq_false_or_eq_true (((ws ++ [true]).getD ((it + 1).toNat) false)) with g26 | g26
                · have g26r := g26
                  refine JO_read (Value.map (some M15)) rfl ⟨_, rfl, g26⟩ (fun _ _ => rfl) ?_
                  refine JO_read (vI ((i : Nat) : Int)) rfl ⟨_, rfl, g26⟩ (fun _ _ => rfl) ?_
                  refine JO_read (vB (hasK (R14.harmG (R14.encode R02.updateN d n ps) l) ((i : Nat) : Int))) rfl ⟨_, rfl, g26⟩ (x_lookup_v 1 (f := vI) (k := ((i : Nat) : Int)) rfl rfl rfl Try.underlying49 (mapK_i Try.underlying3) Ty.ze4 rfl (lk_kT_v (R14.harmG (R14.encode R02.updateN d n ps) l) ((i : Nat) : Int))) ?_
                  refine JO_read (vB (!((hasK (R14.harmG (R14.encode R02.updateN d n ps) l) ((i : Nat) : Int))))) rfl ⟨_, rfl, g26⟩ (fun _ _ => x_not rfl) ?_
                  refine JO_read (vB (!((hasK (R14.harmG (R14.encode R02.updateN d n ps) l) ((i : Nat) : Int))))) rfl trivial (fun _ _ => x_pick_t rfl g26 rfl) ?_
                  refine JO_nil (JX_cut (!((hasK (R14.harmG (R14.encode R02.updateN d n ps) l) ((i : Nat) : Int)))) (by rw [g26]; simp) ⟨rfl, rfl, rfl, rfl, rfl, rfl, rfl, rfl, rfl, rfl, trivial⟩ (fun _ h => h))
                · have g26r := g26
                  refine JO_shun rfl ⟨_, rfl, g26⟩ ?_
                  refine JO_shun rfl ⟨_, rfl, g26⟩ ?_
                  refine JO_shun rfl ⟨_, rfl, g26⟩ ?_
                  refine JO_shun rfl ⟨_, rfl, g26⟩ ?_
                  refine JO_read (vB false) rfl trivial (fun _ _ => x_pick_f rfl g26 rfl) ?_
                  refine JO_nil (JX_cut (false) (by rw [g26]; simp) ⟨rfl, rfl, rfl, rfl, rfl, rfl, rfl, rfl, rfl, rfl, trivial⟩ (fun _ h => h))
              rintro z25 rfl
              refine JO_read (Value.pointer (some (adr A22 ((it + 1).toNat)))) rfl trivial (x_indexAddr_at (k := (it + 1).toNat) (off := (it + 1).toNat) (cells_row 3 rfl) Try.underlying52 Ty.sz4 rfl (ix_nat rfl (by omega)) lt_ (by rw [List.length_map]; first | omega | (simp; omega) | (simp_all; omega) | (simp_all; done)) (Nat.mul_one _)) ?_
              refine JO_op rfl trivial (O_store_row_1 (a := (((ws ++ [true]).getD ((it + 1).toNat) false)) && (!((hasK (R14.harmG (R14.encode R02.updateN d n ps) l) ((i : Nat) : Int))))) (xs := ws ++ [true]) (k := (it + 1).toNat) 3 vB [Ent.blk b21 4 [vB true], Ent.mp vI M15 ((R14.harmG (R14.encode R02.updateN d n ps) l).map kT), Ent.blk b1 37 (DataSet.enc d ++ [vI n, Value.slice psA ps.length psC]), Ent.row (.slice A22 ((ws ++ [true]).set ((it + 1).toNat) ((((ws ++ [true]).getD ((it + 1).toNat) false)) && (!((hasK (R14.harmG (R14.encode R02.updateN d n ps) l) ((i : Nat) : Int)))))).length c23) 4 1 ((ws ++ [true]).set ((it + 1).toNat) ((((ws ++ [true]).getD ((it + 1).toNat) false)) && (!((hasK (R14.harmG (R14.encode R02.updateN d n ps) l) ((i : Nat) : Int)))))).length (((ws ++ [true]).set ((it + 1).toNat) ((((ws ++ [true]).getD ((it + 1).toNat) false)) && (!((hasK (R14.harmG (R14.encode R02.updateN d n ps) l) ((i : Nat) : Int)))))).map vB)] rfl rfl rfl Ty.sz4 rfl (fun _ => rfl) lt_ rfl ?_)
              refine JO_weaken (E' := [(2, Value.pointer (some ⟨b1, 0, none⟩)), (5, vS (R14.encode R02.updateN d n ps)), (7, vS (R14.harmT (R14.encode R02.updateN d n ps) l)), (8, Value.map (some M15)), (9, Value.slice A22 (((ws ++ [true]).set ((it + 1).toNat) ((((ws ++ [true]).getD ((it + 1).toNat) false)) && (!((hasK (R14.harmG (R14.encode R02.updateN d n ps) l) ((i : Nat) : Int)))))).length) c23), (10, vI (it + 1)), (11, vI ((i : Nat) : Int)), (91, Value.slice A22 (((ws ++ [true]).set ((it + 1).toNat) ((((ws ++ [true]).getD ((it + 1).toNat) false)) && (!((hasK (R14.harmG (R14.encode R02.updateN d n ps) l) ((i : Nat) : Int)))))).length) c23), (92, vI (it + 1)), (102, vB ((((ws ++ [true]).getD ((it + 1).toNat) false)) && (!((hasK (R14.harmG (R14.encode R02.updateN d n ps) l) ((i : Nat) : Int)))))), (103, Value.pointer (some (adr A22 ((it + 1).toNat))))]) (L' := [Ent.blk b21 4 [vB true], Ent.mp vI M15 ((R14.harmG (R14.encode R02.updateN d n ps) l).map kT), Ent.blk b1 37 (DataSet.enc d ++ [vI n, Value.slice psA ps.length psC]), Ent.row (.slice A22 ((ws ++ [true]).set ((it + 1).toNat) ((((ws ++ [true]).getD ((it + 1).toNat) false)) && (!((hasK (R14.harmG (R14.encode R02.updateN d n ps) l) ((i : Nat) : Int)))))).length c23) 4 1 ((ws ++ [true]).set ((it + 1).toNat) ((((ws ++ [true]).getD ((it + 1).toNat) false)) && (!((hasK (R14.harmG (R14.encode R02.updateN d n ps) l) ((i : Nat) : Int)))))).length (((ws ++ [true]).set ((it + 1).toNat) ((((ws ++ [true]).getD ((it + 1).toNat) false)) && (!((hasK (R14.harmG (R14.encode R02.updateN d n ps) l) ((i : Nat) : Int)))))).map vB)]) ⟨rfl, rfl, rfl, rfl, (congrArg (fun n : Nat => some (Value.slice A22 n c23)) (set_len (ws ++ [true]) ((it + 1).toNat) ((((ws ++ [true]).getD ((it + 1).toNat) false)) && (!((hasK (R14.harmG (R14.encode R02.updateN d n ps) l) ((i : Nat) : Int)))))).symm), rfl, rfl, (congrArg (fun n : Nat => some (Value.slice A22 n c23)) (set_len (ws ++ [true]) ((it + 1).toNat) ((((ws ++ [true]).getD ((it + 1).toNat) false)) && (!((hasK (R14.harmG (R14.encode R02.updateN d n ps) l) ((i : Nat) : Int)))))).symm), rfl, rfl, rfl, trivial⟩ (fun _ h => h) ?_
              refine JO_nil (JX_block (JX_then (J_region ?_)))
              refine jr_ (vI ((i : Nat) : Int)) ?_
              refine JO_read (vI ((i + 1 : Nat) : Int)) rfl trivial (fun _ _ => x_add_n (a := i) (b := 1) rfl rfl (by omega)) ?_
              refine jr_ (vI ((i + 1 : Nat) : Int)) ?_
              refine JO_nil ?_
              refine JX_round ((i + 1, ((ws ++ [true]).set ((it + 1).toNat) ((((ws ++ [true]).getD ((it + 1).toNat) false)) && (!((hasK (R14.harmG (R14.encode R02.updateN d n ps) l) ((i : Nat) : Int)))))), A22, c23, it + 1) : Nat × (List Bool) × (Option Addr) × Nat × Int) ?_ ?_ ⟨rfl, rfl, rfl, rfl, rfl, rfl, rfl, trivial⟩ (fun _ h => h.keep [false, true, true, true] rfl)
              · show ((i + 1) ≤ ((R14.encode R02.updateN d n ps).length / 64)) ∧ (((ws ++ [true]).set ((it + 1).toNat) ((((ws ++ [true]).getD ((it + 1).toNat) false)) && (!((hasK (R14.harmG (R14.encode R02.updateN d n ps) l) ((i : Nat) : Int)))))) = R14.wsc (R14.encode R02.updateN d n ps) l d n ps (i + 1)) ∧ ((it + 1) = ((((ws ++ [true]).set ((it + 1).toNat) ((((ws ++ [true]).getD ((it + 1).toNat) false)) && (!((hasK (R14.harmG (R14.encode R02.updateN d n ps) l) ((i : Nat) : Int)))))).length : Nat) : Int) - 1) ∧ (((ws ++ [true]).set ((it + 1).toNat) ((((ws ++ [true]).getD ((it + 1).toNat) false)) && (!((hasK (R14.harmG (R14.encode R02.updateN d n ps) l) ((i : Nat) : Int)))))).length ≤ (i + 1))
                refine ⟨?_, ?_, ?_, ?_⟩
                · first | rfl | omega | (simp_all; done) | (simp_all; omega)
                · first | exact R14.sal_a (by assumption) (by omega) i1_1 i1_2 (by assumption) | exact R14.sal_b (by assumption) (by omega) i1_1 i1_2 (by assumption) (by assumption)
                · first | omega | (simp only [List.length_set, List.length_append, List.length_cons, List.length_nil]; omega)
                · first | omega | (simp only [List.length_set, List.length_append, List.length_cons, List.length_nil]; omega)
              · show ((R14.encode R02.updateN d n ps).length / 64) - (i + 1) < ((R14.encode R02.updateN d n ps).length / 64) - i
                first | omega | (simp; omega) | (simp_all; omega)
          · have h20w := h20
            refine J_skip (JX_then (J_seq (J_seq (J_region ?_))))
            refine jr_ (vI it) ?_
            refine JO_read (vB (decide (it < 0))) rfl trivial (fun _ _ => x_lss_i rfl rfl) ?_
            refine JO_nil (JX_then ?_)
            refine J_cond (decide (it < 0)) rfl rfl (fun h27 => ?_) (fun h27 => ?_)
            · have h27w := h27
              have h27 := of_decide_eq_true h27
              refine J_seq (J_region ?_)
              refine jr_ (vB false) ?_
              refine JO_nil (JX_then (J_ret (JX_then_ret (JX_block_ret (JX_then_ret ?_)))))
              refine JX_round_ret (JX_block_ret (JX_then_ret ?_))
              refine JX_rets [vB false] (vB false) Try.results7 (fun w h => ⟨rfl, trivial⟩) rfl [] (fun _ h => h.keep [false, false, false] rfl) ⟨?_, ?_⟩
              · have e_x0 : (false : Bool) = true := by first | rfl | (exfalso; exact R14.sal_bad0 (by assumption) (by assumption)) | (exfalso; omega) | (exfalso; exact absurd (hfr (by omega)).1 (by assumption)) | (exfalso; exact R14.sal_bad1 (by assumption) i1_1 i1_2 (by assumption) (by omega) (by assumption)) | exact R14.sal_none (by assumption) hws (by assumption) | exact R14.sal_yes (by assumption) hws (by assumption) i2_0 (by assumption) i2_1
                exact congrArg (fun (x0 : Bool) => vB x0) e_x0
              · rfl
            · have h27w := h27
              have h27 := of_decide_eq_false h27
              refine J_skip (JX_then (J_region ?_))
              refine jr_ (Value.slice wsA ws.length wsC) ?_
              refine jr_ (vI it) ?_
              refine jr_ (Value.slice wsA ws.length wsC) ?_
              refine jr_ (vI it) ?_
              refine JO_read (Value.pointer (some (adr wsA ((it).toNat)))) rfl trivial (x_indexAddr_at (k := (it).toNat) (off := (it).toNat) (cells_row 2 rfl) Try.underlying52 Ty.sz4 rfl (ix_nat rfl (by omega)) lt_ (by rw [List.length_map]; first | omega | (simp; omega) | (simp_all; omega) | (simp_all; done)) (Nat.mul_one _)) ?_
              refine JO_read (vB (ws.getD ((it).toNat) false)) rfl trivial (x_load_at (cells_row 2 rfl) rfl Ty.sc4 (map_at vB ws false lt_)) ?_
              refine jr_ (vB (ws.getD ((it).toNat) false)) ?_
              refine JO_cut (X := Bool) 5 (fun z => z = (((ws.getD ((it).toNat) false)) && (!((hasK (R14.harmG (R14.encode R02.updateN d n ps) l) ((i : Nat) : Int)))))) (fun z => [(2, Value.pointer (some ⟨b1, 0, none⟩)), (5, vS (R14.encode R02.updateN d n ps)), (7, vS (R14.harmT (R14.encode R02.updateN d n ps) l)), (8, Value.map (some M15)), (9, Value.slice wsA ws.length wsC), (10, vI it), (11, vI ((i : Nat) : Int)), (91, Value.slice wsA ws.length wsC), (92, vI it), (102, vB z)]) (fun _ => [Ent.mp vI M15 ((R14.harmG (R14.encode R02.updateN d n ps) l).map kT), Ent.blk b1 37 (DataSet.enc d ++ [vI n, Value.slice psA ps.length psC]), Ent.row (.slice wsA ws.length wsC) 4 1 ws.length (ws.map vB)]) ?_ ?_
              · rcases Bool.eq_false_or_eq_true ((ws.getD ((it).toNat) false)) with g29 | g29
                · have g29r := g29
                  refine JO_read (Value.map (some M15)) rfl ⟨_, rfl, g29⟩ (fun _ _ => rfl) ?_
                  refine JO_read (vI ((i : Nat) : Int)) rfl ⟨_, rfl, g29⟩ (fun _ _ => rfl) ?_
                  refine JO_read (vB (hasK (R14.harmG (R14.encode R02.updateN d n ps) l) ((i : Nat) : Int))) rfl ⟨_, rfl, g29⟩ (x_lookup_v 0 (f := vI) (k := ((i : Nat) : Int)) rfl rfl rfl Try.underlying49 (mapK_i Try.underlying3) Ty.ze4 rfl (lk_kT_v (R14.harmG (R14.encode R02.updateN d n ps) l) ((i : Nat) : Int))) ?_
                  refine JO_read (vB (!((hasK (R14.harmG (R14.encode R02.updateN d n ps) l) ((i : Nat) : Int))))) rfl ⟨_, rfl, g29⟩ (fun _ _ => x_not rfl) ?_
                  refine JO_read (vB (!((hasK (R14.harmG (R14.encode R02.updateN d n ps) l) ((i : Nat) : Int))))) rfl trivial (fun _ _ => x_pick_t rfl g29 rfl) ?_
                  refine JO_nil (JX_cut (!((hasK (R14.harmG (R14.encode R02.updateN d n ps) l) ((i : Nat) : Int)))) (by rw [g29]; simp) ⟨rfl, rfl, rfl, rfl, rfl, rfl, rfl, rfl, rfl, rfl, trivial⟩ (fun _ h => h))
                · have g29r := g29
                  refine JO_shun rfl ⟨_, rfl, g29⟩ ?_
                  refine JO_shun rfl ⟨_, rfl, g29⟩ ?_
                  refine JO_shun rfl ⟨_, rfl, g29⟩ ?_
                  refine JO_shun rfl ⟨_, rfl, g29⟩ ?_
                  refine JO_read (vB false) rfl trivial (fun _ _ => x_pick_f rfl g29 rfl) ?_
                  refine JO_nil (JX_cut (false) (by rw [g29]; simp) ⟨rfl, rfl, rfl, rfl, rfl, rfl, rfl, rfl, rfl, rfl, trivial⟩ (fun _ h => h))
              rintro z28 rfl
              refine JO_read (Value.pointer (some (adr wsA ((it).toNat)))) rfl trivial (x_indexAddr_at (k := (it).toNat) (off := (it).toNat) (cells_row 2 rfl) Try.underlying52 Ty.sz4 rfl (ix_nat rfl (by omega)) lt_ (by rw [List.length_map]; first | omega | (simp; omega) | (simp_all; omega) | (simp_all; done)) (Nat.mul_one _)) ?_
              refine JO_op rfl trivial (O_store_row_1 (a := ((ws.getD ((it).toNat) false)) && (!((hasK (R14.harmG (R14.encode R02.updateN d n ps) l) ((i : Nat) : Int))))) (xs := ws) (k := (it).toNat) 2 vB [Ent.mp vI M15 ((R14.harmG (R14.encode R02.updateN d n ps) l).map kT), Ent.blk b1 37 (DataSet.enc d ++ [vI n, Value.slice psA ps.length psC]), Ent.row (.slice wsA (ws.set ((it).toNat) (((ws.getD ((it).toNat) false)) && (!((hasK (R14.harmG (R14.encode R02.updateN d n ps) l) ((i : Nat) : Int)))))).length wsC) 4 1 (ws.set ((it).toNat) (((ws.getD ((it).toNat) false)) && (!((hasK (R14.harmG (R14.encode R02.updateN d n ps) l) ((i : Nat) : Int)))))).length ((ws.set ((it).toNat) (((ws.getD ((it).toNat) false)) && (!((hasK (R14.harmG (R14.encode R02.updateN d n ps) l) ((i : Nat) : Int)))))).map vB)] rfl rfl rfl Ty.sz4 rfl (fun _ => rfl) lt_ rfl ?_)
              refine JO_weaken (E' := [(2, Value.pointer (some ⟨b1, 0, none⟩)), (5, vS (R14.encode R02.updateN d n ps)), (7, vS (R14.harmT (R14.encode R02.updateN d n ps) l)), (8, Value.map (some M15)), (9, Value.slice wsA ((ws.set ((it).toNat) (((ws.getD ((it).toNat) false)) && (!((hasK (R14.harmG (R14.encode R02.updateN d n ps) l) ((i : Nat) : Int)))))).length) wsC), (10, vI it), (11, vI ((i : Nat) : Int)), (91, Value.slice wsA ((ws.set ((it).toNat) (((ws.getD ((it).toNat) false)) && (!((hasK (R14.harmG (R14.encode R02.updateN d n ps) l) ((i : Nat) : Int)))))).length) wsC), (92, vI it), (102, vB (((ws.getD ((it).toNat) false)) && (!((hasK (R14.harmG (R14.encode R02.updateN d n ps) l) ((i : Nat) : Int)))))), (103, Value.pointer (some (adr wsA ((it).toNat))))]) (L' := [Ent.mp vI M15 ((R14.harmG (R14.encode R02.updateN d n ps) l).map kT), Ent.blk b1 37 (DataSet.enc d ++ [vI n, Value.slice psA ps.length psC]), Ent.row (.slice wsA (ws.set ((it).toNat) (((ws.getD ((it).toNat) false)) && (!((hasK (R14.harmG (R14.encode R02.updateN d n ps) l) ((i : Nat) : Int)))))).length wsC) 4 1 (ws.set ((it).toNat) (((ws.getD ((it).toNat) false)) && (!((hasK (R14.harmG (R14.encode R02.updateN d n ps) l) ((i : Nat) : Int)))))).length ((ws.set ((it).toNat) (((ws.getD ((it).toNat) false)) && (!((hasK (R14.harmG (R14.encode R02.updateN d n ps) l) ((i : Nat) : Int)))))).map vB)]) ⟨rfl, rfl, rfl, rfl, (congrArg (fun n : Nat => some (Value.slice wsA n wsC)) (set_len ws ((it).toNat) (((ws.getD ((it).toNat) false)) && (!((hasK (R14.harmG (R14.encode R02.updateN d n ps) l) ((i : Nat) : Int)))))).symm), rfl, rfl, (congrArg (fun n : Nat => some (Value.slice wsA n wsC)) (set_len ws ((it).toNat) (((ws.getD ((it).toNat) false)) && (!((hasK (R14.harmG (R14.encode R02.updateN d n ps) l) ((i : Nat) : Int)))))).symm), rfl, rfl, rfl, trivial⟩ (fun _ h => h) ?_
              refine JO_nil (JX_block (JX_then (J_region ?_)))
              refine jr_ (vI ((i : Nat) : Int)) ?_
              refine JO_read (vI ((i + 1 : Nat) : Int)) rfl trivial (fun _ _ => x_add_n (a := i) (b := 1) rfl rfl (by omega)) ?_
              refine jr_ (vI ((i + 1 : Nat) : Int)) ?_
              refine JO_nil ?_
              refine JX_round ((i + 1, (ws.set ((it).toNat) (((ws.getD ((it).toNat) false)) && (!((hasK (R14.harmG (R14.encode R02.updateN d n ps) l) ((i : Nat) : Int)))))), wsA, wsC, it) : Nat × (List Bool) × (Option Addr) × Nat × Int) ?_ ?_ ⟨rfl, rfl, rfl, rfl, rfl, rfl, rfl, trivial⟩ (fun _ h => h)
              · show ((i + 1) ≤ ((R14.encode R02.updateN d n ps).length / 64)) ∧ ((ws.set ((it).toNat) (((ws.getD ((it).toNat) false)) && (!((hasK (R14.harmG (R14.encode R02.updateN d n ps) l) ((i : Nat) : Int)))))) = R14.wsc (R14.encode R02.updateN d n ps) l d n ps (i + 1)) ∧ (it = (((ws.set ((it).toNat) (((ws.getD ((it).toNat) false)) && (!((hasK (R14.harmG (R14.encode R02.updateN d n ps) l) ((i : Nat) : Int)))))).length : Nat) : Int) - 1) ∧ ((ws.set ((it).toNat) (((ws.getD ((it).toNat) false)) && (!((hasK (R14.harmG (R14.encode R02.updateN d n ps) l) ((i : Nat) : Int)))))).length ≤ (i + 1))
                refine ⟨?_, ?_, ?_, ?_⟩
                · first | rfl | omega | (simp_all; done) | (simp_all; omega)
                · first | exact R14.sal_a (by assumption) (by omega) i1_1 i1_2 (by assumption) | exact R14.sal_b (by assumption) (by omega) i1_1 i1_2 (by assumption) (by assumption)
                · first | omega | (simp only [List.length_set, List.length_append, List.length_cons, List.length_nil]; omega)
                · first | omega | (simp only [List.length_set, List.length_append, List.length_cons, List.length_nil]; omega)
              · show ((R14.encode R02.updateN d n ps).length / 64) - (i + 1) < ((R14.encode R02.updateN d n ps).length / 64) - i
                first | omega | (simp; omega) | (simp_all; omega)
      · have h18w := h18
        have h18 := of_decide_eq_false h18
        refine J_exit (JX_then_exit (JX_round_exit ?_))
        have hws := R14.sal_end (by assumption) i1_0 (by assumption) i1_1
        have hwl := R14.sal_len hws
        refine JX_block_hit (JX_then (J_seq (J_seq (J_region ?_))))
        refine jr_ (Value.slice wsA ws.length wsC) ?_
        refine JO_read (vI ((ws.length : Nat) : Int)) rfl trivial (fun _ _ => x_len_sl Try.underlying52 rfl) ?_
        refine JO_read (Value.pointer (some ⟨b1, 22, none⟩)) rfl trivial (fun _ _ => x_fieldAddr Ty.fi37_2 rfl rfl) ?_
        refine JO_read (Value.slice psA ps.length psC) rfl trivial (x_load 1 rfl rfl Ty.sc35 rfl) ?_
        refine JO_read (vI ((ps.length : Nat) : Int)) rfl trivial (fun _ _ => x_len_sl Try.underlying35 rfl) ?_
        refine JO_read (vI ((1 + ps.length : Nat) : Int)) rfl trivial (fun _ _ => x_add_n (a := 1) (b := ps.length) rfl rfl (by omega)) ?_
        refine JO_read (vB (decide (((ws.length : Nat) : Int) ≠ ((1 + ps.length : Nat) : Int)))) rfl trivial (fun _ _ => x_neq_i rfl rfl) ?_
        refine JO_nil (JX_then ?_)
        refine J_cond (decide (((ws.length : Nat) : Int) ≠ ((1 + ps.length : Nat) : Int))) rfl rfl (fun h30 => ?_) (fun h30 => ?_)
        · have h30w := h30
          have h30 := of_decide_eq_true h30
          refine J_seq (J_region ?_)
          refine jr_ (vB false) ?_
          refine JO_nil (JX_then (J_ret (JX_then_ret ?_)))
          refine JX_rets [vB false] (vB false) Try.results7 (fun w h => ⟨rfl, trivial⟩) rfl [] (fun _ h => h.keep [false, false, false] rfl) ⟨?_, ?_⟩
          · have e_x0 : (false : Bool) = true := by first | rfl | (exfalso; exact R14.sal_bad0 (by assumption) (by assumption)) | (exfalso; omega) | (exfalso; exact absurd (hfr (by omega)).1 (by assumption)) | (exfalso; exact R14.sal_bad1 (by assumption) i1_1 i1_2 (by assumption) (by omega) (by assumption)) | exact R14.sal_none (by assumption) hws (by assumption) | exact R14.sal_yes (by assumption) hws (by assumption) i2_0 (by assumption) i2_1
            exact congrArg (fun (x0 : Bool) => vB x0) e_x0
          · rfl
        · have h30w := h30
          have h30 := of_decide_eq_false h30
          refine J_skip (JX_then (J_seq (J_region ?_)))
          refine jr_ (vS (R14.harmT (R14.encode R02.updateN d n ps) l)) ?_
          refine JO_call [] [] [Ent.mp vI M15 ((R14.harmG (R14.encode R02.updateN d n ps) l).map kT), Ent.blk b1 37 (DataSet.enc d ++ [vI n, Value.slice psA ps.length psC]), Ent.row (.slice wsA ws.length wsC) 4 1 ws.length (ws.map vB)] rfl trivial (fun _ => x_call Ty.ca28 rfl) (fun _ h => h) (fun _ h => by cases h) (fun w hS => f28_ok (R14.harmT (R14.encode R02.updateN d n ps) l) w hy_) ?_
          rintro _ _ ⟨A31, c32, rfl, rfl⟩
          have ha33 := R14.svP_len R02.updateN (R14.harmT (R14.encode R02.updateN d n ps) l)
          refine jr_ (Value.tuple #[Value.agg ((DataSet.enc (R14.svD R02.updateN (R14.harmT (R14.encode R02.updateN d n ps) l)) ++ [vI (R14.svN R02.updateN (R14.harmT (R14.encode R02.updateN d n ps) l)), Value.slice A31 ((R14.svP R02.updateN (R14.harmT (R14.encode R02.updateN d n ps) l)).length) c32])).toArray, vI (R14.svM R02.updateN (R14.harmT (R14.encode R02.updateN d n ps) l)), vI (R14.svE R02.updateN (R14.harmT (R14.encode R02.updateN d n ps) l))]) ?_
          refine jr_ (Value.agg ((DataSet.enc (R14.svD R02.updateN (R14.harmT (R14.encode R02.updateN d n ps) l)) ++ [vI (R14.svN R02.updateN (R14.harmT (R14.encode R02.updateN d n ps) l)), Value.slice A31 ((R14.svP R02.updateN (R14.harmT (R14.encode R02.updateN d n ps) l)).length) c32])).toArray) ?_
          refine jr_ (vI (R14.svM R02.updateN (R14.harmT (R14.encode R02.updateN d n ps) l))) ?_
          refine jr_ (vI (R14.svE R02.updateN (R14.harmT (R14.encode R02.updateN d n ps) l))) ?_
          refine JO_op rfl trivial (O_alloc Ty.ze37 rfl fun b34 => ?_)
          refine JO_op rfl trivial (O_storeS (vs := (DataSet.enc (R14.svD R02.updateN (R14.harmT (R14.encode R02.updateN d n ps) l)) ++ [vI (R14.svN R02.updateN (R14.harmT (R14.encode R02.updateN d n ps) l)), Value.slice A31 ((R14.svP R02.updateN (R14.harmT (R14.encode R02.updateN d n ps) l)).length) c32])) 0 (DataSet.enc (R14.svD R02.updateN (R14.harmT (R14.encode R02.updateN d n ps) l)) ++ [vI (R14.svN R02.updateN (R14.harmT (R14.encode R02.updateN d n ps) l)), Value.slice A31 ((R14.svP R02.updateN (R14.harmT (R14.encode R02.updateN d n ps) l)).length) c32]) [Ent.blk b34 37 (DataSet.enc (R14.svD R02.updateN (R14.harmT (R14.encode R02.updateN d n ps) l)) ++ [vI (R14.svN R02.updateN (R14.harmT (R14.encode R02.updateN d n ps) l)), Value.slice A31 ((R14.svP R02.updateN (R14.harmT (R14.encode R02.updateN d n ps) l)).length) c32]), Ent.row (.slice A31 (R14.svP R02.updateN (R14.harmT (R14.encode R02.updateN d n ps) l)).length c32) 54 2 (R14.svP R02.updateN (R14.harmT (R14.encode R02.updateN d n ps) l)).length ((R14.svP R02.updateN (R14.harmT (R14.encode R02.updateN d n ps) l)).flatMap Pair.enc), Ent.mp vI M15 ((R14.harmG (R14.encode R02.updateN d n ps) l).map kT), Ent.blk b1 37 (DataSet.enc d ++ [vI n, Value.slice psA ps.length psC]), Ent.row (.slice wsA ws.length wsC) 4 1 ws.length (ws.map vB)] rfl rfl rfl Ty.sz37 rfl (Nat.le_of_ble_eq_true rfl) rfl (st_all rfl) rfl ?_)
          refine jr_ (vI (R14.svM R02.updateN (R14.harmT (R14.encode R02.updateN d n ps) l))) ?_
          refine jr_ (vI (R14.svE R02.updateN (R14.harmT (R14.encode R02.updateN d n ps) l))) ?_
          refine JO_nil (JX_then (J_seq (J_seq (J_region ?_))))
          refine jr_ (Value.slice wsA ws.length wsC) ?_
          refine JO_read (Value.pointer (some (adr wsA 0))) rfl trivial (x_indexAddr_at (k := 0) (off := 0) (cells_row 4 rfl) Try.underlying52 Ty.sz4 rfl rfl lt_ (by rw [List.length_map]; first | omega | (simp; omega) | (simp_all; omega) | (simp_all; done)) rfl) ?_
          refine JO_read (vB (ws.getD 0 false)) rfl trivial (x_load_at (cells_row 4 rfl) rfl Ty.sc4 (map_at vB ws false lt_)) ?_
          refine JO_read (vB (!((ws.getD 0 false)))) rfl trivial (fun _ _ => x_not rfl) ?_
          refine JO_nil (JX_then ?_)
          refine J_cond (!((ws.getD 0 false))) rfl rfl (fun h35 => ?_) (fun h35 => ?_)
          · have h35w := h35
            have h35 : ((ws.getD 0 false)) = false := bnot_true h35
            refine J_seq (J_region ?_)
            refine jr_ (vI (R14.svE R02.updateN (R14.harmT (R14.encode R02.updateN d n ps) l))) ?_
            refine JO_read (vB (decide (R14.svE R02.updateN (R14.harmT (R14.encode R02.updateN d n ps) l) = 11))) rfl trivial (fun _ _ => x_eql_i rfl rfl) ?_
            refine jr_ (vB (decide (R14.svE R02.updateN (R14.harmT (R14.encode R02.updateN d n ps) l) = 11))) ?_
            refine JO_cut (X := Bool) 4 (fun z => z = ((decide (R14.svE R02.updateN (R14.harmT (R14.encode R02.updateN d n ps) l) = 11)) && (R14.same (R14.svD R02.updateN (R14.harmT (R14.encode R02.updateN d n ps) l)) (R14.svN R02.updateN (R14.harmT (R14.encode R02.updateN d n ps) l)) (R14.svP R02.updateN (R14.harmT (R14.encode R02.updateN d n ps) l)) (DataSet.mk 0 0 0 0 0 0 0 0 0 0 0 0 0 0 false 0 [] [] 0 0 false) 0 []))) (fun z => [(2, Value.pointer (some ⟨b1, 0, none⟩)), (9, Value.slice wsA ws.length wsC), (17, Value.pointer (some ⟨b34, 0, none⟩)), (18, vI (R14.svM R02.updateN (R14.harmT (R14.encode R02.updateN d n ps) l))), (19, vI (R14.svE R02.updateN (R14.harmT (R14.encode R02.updateN d n ps) l))), (127, vB z)]) (fun _ => [Ent.blk b34 37 (DataSet.enc (R14.svD R02.updateN (R14.harmT (R14.encode R02.updateN d n ps) l)) ++ [vI (R14.svN R02.updateN (R14.harmT (R14.encode R02.updateN d n ps) l)), Value.slice A31 ((R14.svP R02.updateN (R14.harmT (R14.encode R02.updateN d n ps) l)).length) c32]), Ent.row (.slice A31 (R14.svP R02.updateN (R14.harmT (R14.encode R02.updateN d n ps) l)).length c32) 54 2 (R14.svP R02.updateN (R14.harmT (R14.encode R02.updateN d n ps) l)).length ((R14.svP R02.updateN (R14.harmT (R14.encode R02.updateN d n ps) l)).flatMap Pair.enc), Ent.mp vI M15 ((R14.harmG (R14.encode R02.updateN d n ps) l).map kT), Ent.blk b1 37 (DataSet.enc d ++ [vI n, Value.slice psA ps.length psC]), Ent.row (.slice wsA ws.length wsC) 4 1 ws.length (ws.map vB)]) ?_ ?_
            · rcases Bool.eq_false_or_eq_true (decide (R14.svE R02.updateN (R14.harmT (R14.encode R02.updateN d n ps) l) = 11)) with g37 | g37
              · have g37r := g37
                have g37r := of_decide_eq_true g37r
                refine JO_read (Value.agg ((DataSet.enc (R14.svD R02.updateN (R14.harmT (R14.encode R02.updateN d n ps) l)) ++ [vI (R14.svN R02.updateN (R14.harmT (R14.encode R02.updateN d n ps) l)), Value.slice A31 ((R14.svP R02.updateN (R14.harmT (R14.encode R02.updateN d n ps) l)).length) c32])).toArray) rfl ⟨_, rfl, g37⟩ (x_loadN 0 (DataSet.enc (R14.svD R02.updateN (R14.harmT (R14.encode R02.updateN d n ps) l)) ++ [vI (R14.svN R02.updateN (R14.harmT (R14.encode R02.updateN d n ps) l)), Value.slice A31 ((R14.svP R02.updateN (R14.harmT (R14.encode R02.updateN d n ps) l)).length) c32]) rfl rfl Ty.ag37 Ty.sz37 rfl) ?_
                refine JO_read (Value.agg #[vI 0, vI 0, vI 0, vI 0, vI 0, vI 0, vI 0, vI 0, vI 0, vI 0, vI 0, vI 0, vI 0, vI 0, vB false, vI 0, vS [], vS [], vI 0, vI 0, vB false, vI 0, Value.slice none 0 0]) rfl ⟨_, rfl, g37⟩ (fun _ _ => x_build (by kernel_rfl)) ?_
                refine JO_call [] [] [Ent.blk b34 37 (DataSet.enc (R14.svD R02.updateN (R14.harmT (R14.encode R02.updateN d n ps) l)) ++ [vI (R14.svN R02.updateN (R14.harmT (R14.encode R02.updateN d n ps) l)), Value.slice A31 ((R14.svP R02.updateN (R14.harmT (R14.encode R02.updateN d n ps) l)).length) c32]), Ent.row (.slice A31 (R14.svP R02.updateN (R14.harmT (R14.encode R02.updateN d n ps) l)).length c32) 54 2 (R14.svP R02.updateN (R14.harmT (R14.encode R02.updateN d n ps) l)).length ((R14.svP R02.updateN (R14.harmT (R14.encode R02.updateN d n ps) l)).flatMap Pair.enc), Ent.mp vI M15 ((R14.harmG (R14.encode R02.updateN d n ps) l).map kT), Ent.blk b1 37 (DataSet.enc d ++ [vI n, Value.slice psA ps.length psC]), Ent.row (.slice wsA ws.length wsC) 4 1 ws.length (ws.map vB)] rfl ⟨_, rfl, g37⟩ (fun _ => x_call Ty.ca22 rfl) (fun _ h => h) (fun _ h => by cases h) (fun w hS => f22_ok (R14.svD R02.updateN (R14.harmT (R14.encode R02.updateN d n ps) l)) (R14.svN R02.updateN (R14.harmT (R14.encode R02.updateN d n ps) l)) (R14.svP R02.updateN (R14.harmT (R14.encode R02.updateN d n ps) l)) A31 c32 (DataSet.mk 0 0 0 0 0 0 0 0 0 0 0 0 0 0 false 0 [] [] 0 0 false) 0 [] none 0 w (RO.of_row hS 1 rfl) RO.nil hy_ hy_) ?_
                rintro _ _ ⟨rfl, rfl⟩
                refine JO_read (vB (R14.same (R14.svD R02.updateN (R14.harmT (R14.encode R02.updateN d n ps) l)) (R14.svN R02.updateN (R14.harmT (R14.encode R02.updateN d n ps) l)) (R14.svP R02.updateN (R14.harmT (R14.encode R02.updateN d n ps) l)) (DataSet.mk 0 0 0 0 0 0 0 0 0 0 0 0 0 0 false 0 [] [] 0 0 false) 0 [])) rfl trivial (fun _ _ => x_pick_t rfl g37 rfl) ?_
                refine JO_nil (JX_cut (R14.same (R14.svD R02.updateN (R14.harmT (R14.encode R02.updateN d n ps) l)) (R14.svN R02.updateN (R14.harmT (R14.encode R02.updateN d n ps) l)) (R14.svP R02.updateN (R14.harmT (R14.encode R02.updateN d n ps) l)) (DataSet.mk 0 0 0 0 0 0 0 0 0 0 0 0 0 0 false 0 [] [] 0 0 false) 0 []) (by rw [g37]; simp) ⟨rfl, rfl, rfl, rfl, rfl, rfl, trivial⟩ (fun _ h => h))
              · have g37r := g37
                have g37r := of_decide_eq_false g37r
                refine JO_shun rfl ⟨_, rfl, g37⟩ ?_
                refine JO_shun rfl ⟨_, rfl, g37⟩ ?_
                refine JO_shun rfl ⟨_, rfl, g37⟩ ?_
                refine JO_read (vB false) rfl trivial (fun _ _ => x_pick_f rfl g37 rfl) ?_
                refine JO_nil (JX_cut (false) (by rw [g37]; simp) ⟨rfl, rfl, rfl, rfl, rfl, rfl, trivial⟩ (fun _ h => h))
            rintro z36 rfl
            refine jr_ (vB ((decide (R14.svE R02.updateN (R14.harmT (R14.encode R02.updateN d n ps) l) = 11)) && (R14.same (R14.svD R02.updateN (R14.harmT (R14.encode R02.updateN d n ps) l)) (R14.svN R02.updateN (R14.harmT (R14.encode R02.updateN d n ps) l)) (R14.svP R02.updateN (R14.harmT (R14.encode R02.updateN d n ps) l)) (DataSet.mk 0 0 0 0 0 0 0 0 0 0 0 0 0 0 false 0 [] [] 0 0 false) 0 []))) ?_
            refine JO_cut (X := Bool) 3 (fun z => z = (((decide (R14.svE R02.updateN (R14.harmT (R14.encode R02.updateN d n ps) l) = 11)) && (R14.same (R14.svD R02.updateN (R14.harmT (R14.encode R02.updateN d n ps) l)) (R14.svN R02.updateN (R14.harmT (R14.encode R02.updateN d n ps) l)) (R14.svP R02.updateN (R14.harmT (R14.encode R02.updateN d n ps) l)) (DataSet.mk 0 0 0 0 0 0 0 0 0 0 0 0 0 0 false 0 [] [] 0 0 false) 0 [])) && (decide (R14.svM R02.updateN (R14.harmT (R14.encode R02.updateN d n ps) l) = 0)))) (fun z => [(2, Value.pointer (some ⟨b1, 0, none⟩)), (9, Value.slice wsA ws.length wsC), (17, Value.pointer (some ⟨b34, 0, none⟩)), (18, vI (R14.svM R02.updateN (R14.harmT (R14.encode R02.updateN d n ps) l))), (19, vI (R14.svE R02.updateN (R14.harmT (R14.encode R02.updateN d n ps) l))), (131, vB z)]) (fun _ => [Ent.blk b34 37 (DataSet.enc (R14.svD R02.updateN (R14.harmT (R14.encode R02.updateN d n ps) l)) ++ [vI (R14.svN R02.updateN (R14.harmT (R14.encode R02.updateN d n ps) l)), Value.slice A31 ((R14.svP R02.updateN (R14.harmT (R14.encode R02.updateN d n ps) l)).length) c32]), Ent.row (.slice A31 (R14.svP R02.updateN (R14.harmT (R14.encode R02.updateN d n ps) l)).length c32) 54 2 (R14.svP R02.updateN (R14.harmT (R14.encode R02.updateN d n ps) l)).length ((R14.svP R02.updateN (R14.harmT (R14.encode R02.updateN d n ps) l)).flatMap Pair.enc), Ent.mp vI M15 ((R14.harmG (R14.encode R02.updateN d n ps) l).map kT), Ent.blk b1 37 (DataSet.enc d ++ [vI n, Value.slice psA ps.length psC]), Ent.row (.slice wsA ws.length wsC) 4 1 ws.length (ws.map vB)]) ?_ ?_
            · rcases Bool.eq_false_or_eq_true ((decide (R14.svE R02.updateN (R14.harmT (R14.encode R02.updateN d n ps) l) = 11)) && (R14.same (R14.svD R02.updateN (R14.harmT (R14.encode R02.updateN d n ps) l)) (R14.svN R02.updateN (R14.harmT (R14.encode R02.updateN d n ps) l)) (R14.svP R02.updateN (R14.harmT (R14.encode R02.updateN d n ps) l)) (DataSet.mk 0 0 0 0 0 0 0 0 0 0 0 0 0 0 false 0 [] [] 0 0 false) 0 [])) with g39 | g39
              · have g39r := g39
                have ⟨g39r, h40⟩ := band_true g39r
                have g39r := of_decide_eq_true g39r
                refine JO_read (vI (R14.svM R02.updateN (R14.harmT (R14.encode R02.updateN d n ps) l))) rfl ⟨_, rfl, g39⟩ (fun _ _ => rfl) ?_
                refine JO_read (vB (decide (R14.svM R02.updateN (R14.harmT (R14.encode R02.updateN d n ps) l) = 0))) rfl ⟨_, rfl, g39⟩ (fun _ _ => x_eql_i rfl rfl) ?_
                refine JO_read (vB (decide (R14.svM R02.updateN (R14.harmT (R14.encode R02.updateN d n ps) l) = 0))) rfl trivial (fun _ _ => x_pick_t rfl g39 rfl) ?_
                refine JO_nil (JX_cut (decide (R14.svM R02.updateN (R14.harmT (R14.encode R02.updateN d n ps) l) = 0)) (by rw [g39]; simp) ⟨rfl, rfl, rfl, rfl, rfl, rfl, trivial⟩ (fun _ h => h))
              · have g39r := g39
                simp only [Bool.and_eq_true, Bool.or_eq_true, Bool.and_eq_false_iff, Bool.or_eq_false_iff, Bool.not_eq_true', Bool.not_eq_false', decide_eq_true_eq, decide_eq_false_iff_not] at g39r
                refine JO_shun rfl ⟨_, rfl, g39⟩ ?_
                refine JO_shun rfl ⟨_, rfl, g39⟩ ?_
                refine JO_read (vB false) rfl trivial (fun _ _ => x_pick_f rfl g39 rfl) ?_
                refine JO_nil (JX_cut (false) (by rw [g39]; simp) ⟨rfl, rfl, rfl, rfl, rfl, rfl, trivial⟩ (fun _ h => h))
            rintro z38 rfl
            refine jr_ (vB (((decide (R14.svE R02.updateN (R14.harmT (R14.encode R02.updateN d n ps) l) = 11)) && (R14.same (R14.svD R02.updateN (R14.harmT (R14.encode R02.updateN d n ps) l)) (R14.svN R02.updateN (R14.harmT (R14.encode R02.updateN d n ps) l)) (R14.svP R02.updateN (R14.harmT (R14.encode R02.updateN d n ps) l)) (DataSet.mk 0 0 0 0 0 0 0 0 0 0 0 0 0 0 false 0 [] [] 0 0 false) 0 [])) && (decide (R14.svM R02.updateN (R14.harmT (R14.encode R02.updateN d n ps) l) = 0)))) ?_
            refine JO_nil (JX_then (J_ret (JX_then_ret ?_)))
            refine JX_rets [vB (((decide (R14.svE R02.updateN (R14.harmT (R14.encode R02.updateN d n ps) l) = 11)) && (R14.same (R14.svD R02.updateN (R14.harmT (R14.encode R02.updateN d n ps) l)) (R14.svN R02.updateN (R14.harmT (R14.encode R02.updateN d n ps) l)) (R14.svP R02.updateN (R14.harmT (R14.encode R02.updateN d n ps) l)) (DataSet.mk 0 0 0 0 0 0 0 0 0 0 0 0 0 0 false 0 [] [] 0 0 false) 0 [])) && (decide (R14.svM R02.updateN (R14.harmT (R14.encode R02.updateN d n ps) l) = 0)))] (vB (((decide (R14.svE R02.updateN (R14.harmT (R14.encode R02.updateN d n ps) l) = 11)) && (R14.same (R14.svD R02.updateN (R14.harmT (R14.encode R02.updateN d n ps) l)) (R14.svN R02.updateN (R14.harmT (R14.encode R02.updateN d n ps) l)) (R14.svP R02.updateN (R14.harmT (R14.encode R02.updateN d n ps) l)) (DataSet.mk 0 0 0 0 0 0 0 0 0 0 0 0 0 0 false 0 [] [] 0 0 false) 0 [])) && (decide (R14.svM R02.updateN (R14.harmT (R14.encode R02.updateN d n ps) l) = 0)))) Try.results7 (fun w h => ⟨rfl, trivial⟩) rfl [] (fun _ h => h.keep [false, false, false, false, false] rfl) ⟨?_, ?_⟩
            · have e_x0 : (((decide (R14.svE R02.updateN (R14.harmT (R14.encode R02.updateN d n ps) l) = 11)) && (R14.same (R14.svD R02.updateN (R14.harmT (R14.encode R02.updateN d n ps) l)) (R14.svN R02.updateN (R14.harmT (R14.encode R02.updateN d n ps) l)) (R14.svP R02.updateN (R14.harmT (R14.encode R02.updateN d n ps) l)) (DataSet.mk 0 0 0 0 0 0 0 0 0 0 0 0 0 0 false 0 [] [] 0 0 false) 0 [])) && (decide (R14.svM R02.updateN (R14.harmT (R14.encode R02.updateN d n ps) l) = 0)) : Bool) = true := by first | rfl | (exfalso; exact R14.sal_bad0 (by assumption) (by assumption)) | (exfalso; omega) | (exfalso; exact absurd (hfr (by omega)).1 (by assumption)) | (exfalso; exact R14.sal_bad1 (by assumption) i1_1 i1_2 (by assumption) (by omega) (by assumption)) | exact R14.sal_none (by assumption) hws (by assumption) | exact R14.sal_yes (by assumption) hws (by assumption) i2_0 (by assumption) i2_1
              exact congrArg (fun (x0 : Bool) => vB x0) e_x0
            · rfl
          · have h35w := h35
            have h35 : ((ws.getD 0 false)) = true := bnot_false h35
            refine J_skip (JX_then (J_seq (J_region ?_)))
            refine JO_read (Value.pointer (some ⟨b1, 0, none⟩)) rfl trivial (fun _ _ => x_fieldAddr Ty.fi37_0 rfl rfl) ?_
            refine JO_read (Value.agg ((DataSet.enc d)).toArray) rfl trivial (x_loadN 3 (DataSet.enc d) rfl rfl Ty.ag34 Ty.sz34 rfl) ?_
            refine JO_read (Value.pointer (some ⟨b1, 21, none⟩)) rfl trivial (fun _ _ => x_fieldAddr Ty.fi37_1 rfl rfl) ?_
            refine JO_read (vI n) rfl trivial (x_load 3 rfl rfl Ty.sc3 rfl) ?_
            refine JO_read (Value.agg ((DataSet.enc d ++ [vI n, Value.slice none 0 0])).toArray) rfl trivial (fun _ _ => x_build (by kernel_rfl)) ?_
            refine JO_op rfl trivial (O_alloc Ty.ze37 rfl fun b41 => ?_)
            refine JO_op rfl trivial (O_storeS (vs := (DataSet.enc d ++ [vI n, Value.slice none 0 0])) 0 (DataSet.enc d ++ [vI n, Value.slice none 0 0]) [Ent.blk b41 37 (DataSet.enc d ++ [vI n, Value.slice none 0 0]), Ent.blk b34 37 (DataSet.enc (R14.svD R02.updateN (R14.harmT (R14.encode R02.updateN d n ps) l)) ++ [vI (R14.svN R02.updateN (R14.harmT (R14.encode R02.updateN d n ps) l)), Value.slice A31 ((R14.svP R02.updateN (R14.harmT (R14.encode R02.updateN d n ps) l)).length) c32]), Ent.row (.slice A31 (R14.svP R02.updateN (R14.harmT (R14.encode R02.updateN d n ps) l)).length c32) 54 2 (R14.svP R02.updateN (R14.harmT (R14.encode R02.updateN d n ps) l)).length ((R14.svP R02.updateN (R14.harmT (R14.encode R02.updateN d n ps) l)).flatMap Pair.enc), Ent.mp vI M15 ((R14.harmG (R14.encode R02.updateN d n ps) l).map kT), Ent.blk b1 37 (DataSet.enc d ++ [vI n, Value.slice psA ps.length psC]), Ent.row (.slice wsA ws.length wsC) 4 1 ws.length (ws.map vB)] rfl rfl rfl Ty.sz37 rfl (Nat.le_of_ble_eq_true rfl) rfl (st_all rfl) rfl ?_)
            refine JO_nil (JX_then (J_seq (J_seq (J_region ?_))))
            refine JO_read (Value.pointer (some ⟨b1, 22, none⟩)) rfl trivial (fun _ _ => x_fieldAddr Ty.fi37_2 rfl rfl) ?_
            refine JO_read (Value.slice psA ps.length psC) rfl trivial (x_load 4 rfl rfl Ty.sc35 rfl) ?_
            refine JO_read (vI ((ps.length : Nat) : Int)) rfl trivial (fun _ _ => x_len_sl Try.underlying35 rfl) ?_
            refine jr_ (vI 0) ?_
            refine JO_nil (JX_then (J_block ?_))
            refine J_loop (X := Nat × (List Pair) × (Option Addr) × Nat) (fun (⟨k, qs, qsA, qsC⟩ : Nat × (List Pair) × (Option Addr) × Nat) => (k ≤ ps.length) ∧ (qs = (List.range k).flatMap (R14.wantP ws ps)) ∧ (qs.length ≤ k)) (fun (⟨k, qs, qsA, qsC⟩ : Nat × (List Pair) × (Option Addr) × Nat) => [(2, Value.pointer (some ⟨b1, 0, none⟩)), (9, Value.slice wsA ws.length wsC), (17, Value.pointer (some ⟨b34, 0, none⟩)), (18, vI (R14.svM R02.updateN (R14.harmT (R14.encode R02.updateN d n ps) l))), (19, vI (R14.svE R02.updateN (R14.harmT (R14.encode R02.updateN d n ps) l))), (20, Value.pointer (some ⟨b41, 0, none⟩)), (138, Value.slice psA ps.length psC), (139, vI ((ps.length : Nat) : Int)), (140, vI ((k : Nat) : Int))]) (fun (⟨k, qs, qsA, qsC⟩ : Nat × (List Pair) × (Option Addr) × Nat) => [Ent.blk b41 37 (DataSet.enc d ++ [vI n, Value.slice qsA qs.length qsC]), Ent.blk b34 37 (DataSet.enc (R14.svD R02.updateN (R14.harmT (R14.encode R02.updateN d n ps) l)) ++ [vI (R14.svN R02.updateN (R14.harmT (R14.encode R02.updateN d n ps) l)), Value.slice A31 ((R14.svP R02.updateN (R14.harmT (R14.encode R02.updateN d n ps) l)).length) c32]), Ent.row (.slice A31 (R14.svP R02.updateN (R14.harmT (R14.encode R02.updateN d n ps) l)).length c32) 54 2 (R14.svP R02.updateN (R14.harmT (R14.encode R02.updateN d n ps) l)).length ((R14.svP R02.updateN (R14.harmT (R14.encode R02.updateN d n ps) l)).flatMap Pair.enc), Ent.blk b1 37 (DataSet.enc d ++ [vI n, Value.slice psA ps.length psC]), Ent.row (.slice wsA ws.length wsC) 4 1 ws.length (ws.map vB), Ent.row (.slice qsA qs.length qsC) 54 2 qs.length (qs.flatMap Pair.enc)]) (fun (⟨k, qs, qsA, qsC⟩ : Nat × (List Pair) × (Option Addr) × Nat) => ps.length - k) ((0, ([] : List Pair), none, 0) : Nat × (List Pair) × (Option Addr) × Nat) ?_ ⟨rfl, rfl, rfl, rfl, rfl, rfl, rfl, rfl, rfl, trivial⟩ (fun _ h => ((((((h.nilrow 54 2).front 6 _ rfl).front 6 _ rfl).front 5 _ rfl).front 5 _ rfl).front 5 _ rfl).keep [true, true, true, true, true, true, false] rfl) ?_
            · show (0 ≤ ps.length) ∧ (([] : List Pair) = (List.range 0).flatMap (R14.wantP ws ps)) ∧ (([] : List Pair).length ≤ 0)
              refine ⟨?_, ?_, ?_⟩
              · first | rfl | omega | (simp_all; done) | (simp_all; omega)
              · rfl
              · exact Nat.le_refl _
            rintro ⟨k, qs, qsA, qsC⟩ hI2
            obtain ⟨i2_0, i2_1, i2_2⟩ : (k ≤ ps.length) ∧ (qs = (List.range k).flatMap (R14.wantP ws ps)) ∧ (qs.length ≤ k) := hI2
            refine J_weaken (E' := [(2, Value.pointer (some ⟨b1, 0, none⟩)), (9, Value.slice wsA ws.length wsC), (17, Value.pointer (some ⟨b34, 0, none⟩)), (18, vI (R14.svM R02.updateN (R14.harmT (R14.encode R02.updateN d n ps) l))), (19, vI (R14.svE R02.updateN (R14.harmT (R14.encode R02.updateN d n ps) l))), (20, Value.pointer (some ⟨b41, 0, none⟩)), (138, Value.slice psA ps.length psC), (139, vI ((ps.length : Nat) : Int)), (140, vI ((k : Nat) : Int))]) (L' := [Ent.blk b41 37 (DataSet.enc d ++ [vI n, Value.slice qsA qs.length qsC]), Ent.blk b34 37 (DataSet.enc (R14.svD R02.updateN (R14.harmT (R14.encode R02.updateN d n ps) l)) ++ [vI (R14.svN R02.updateN (R14.harmT (R14.encode R02.updateN d n ps) l)), Value.slice A31 ((R14.svP R02.updateN (R14.harmT (R14.encode R02.updateN d n ps) l)).length) c32]), Ent.row (.slice A31 (R14.svP R02.updateN (R14.harmT (R14.encode R02.updateN d n ps) l)).length c32) 54 2 (R14.svP R02.updateN (R14.harmT (R14.encode R02.updateN d n ps) l)).length ((R14.svP R02.updateN (R14.harmT (R14.encode R02.updateN d n ps) l)).flatMap Pair.enc), Ent.blk b1 37 (DataSet.enc d ++ [vI n, Value.slice psA ps.length psC]), Ent.row (.slice wsA ws.length wsC) 4 1 ws.length (ws.map vB), Ent.row (.slice qsA qs.length qsC) 54 2 qs.length (qs.flatMap Pair.enc)]) ⟨rfl, rfl, rfl, rfl, rfl, rfl, rfl, rfl, rfl, trivial⟩ (fun _ h => h) ?_
            refine J_seq (J_region ?_)
            refine JO_read (vB (decide (((k : Nat) : Int) < ((ps.length : Nat) : Int)))) rfl trivial (fun _ _ => x_lss_i rfl rfl) ?_
            refine JO_nil (JX_then (J_seq ?_))
            refine J_cond (decide (((k : Nat) : Int) < ((ps.length : Nat) : Int))) rfl rfl (fun h42 => ?_) (fun h42 => ?_)
            · have h42w := h42
              have h42 := of_decide_eq_true h42
              refine J_skip (JX_then (J_seq (J_block (J_seq (J_region ?_)))))
              refine jr_ (vI ((k : Nat) : Int)) ?_
              refine JO_read (Value.pointer (some (adr psA (k * 2)))) rfl trivial (x_indexAddr_at (k := k) (off := k * 2) (cells_ro psR) Try.underlying35 Ty.sz54 rfl rfl lt_ (by rw [flat_length Pair.enc 2 Pair.enc_len]; first | omega | (simp; omega) | (simp_all; omega) | (simp_all; done)) rfl) ?_
              refine JO_read (Value.agg #[vS ((ps.getD k default).key), vS ((ps.getD k default).record)]) rfl trivial (x_loadN_at [vS ((ps.getD k default).key), vS ((ps.getD k default).record)] (cells_ro psR) rfl Ty.ag54 Ty.sz54 (flat_drop Pair.enc 2 Pair.enc_len ps default k lt_)) ?_
              refine JO_op rfl trivial (O_alloc Ty.ze54 rfl fun b43 => ?_)
              refine jr_ (vI ((k : Nat) : Int)) ?_
              refine JO_op rfl trivial (O_store 0 [vS ((ps.getD k default).key), vS ((ps.getD k default).record)] [Ent.blk b43 54 [vS ((ps.getD k default).key), vS ((ps.getD k default).record)], Ent.blk b41 37 (DataSet.enc d ++ [vI n, Value.slice qsA qs.length qsC]), Ent.blk b34 37 (DataSet.enc (R14.svD R02.updateN (R14.harmT (R14.encode R02.updateN d n ps) l)) ++ [vI (R14.svN R02.updateN (R14.harmT (R14.encode R02.updateN d n ps) l)), Value.slice A31 ((R14.svP R02.updateN (R14.harmT (R14.encode R02.updateN d n ps) l)).length) c32]), Ent.row (.slice A31 (R14.svP R02.updateN (R14.harmT (R14.encode R02.updateN d n ps) l)).length c32) 54 2 (R14.svP R02.updateN (R14.harmT (R14.encode R02.updateN d n ps) l)).length ((R14.svP R02.updateN (R14.harmT (R14.encode R02.updateN d n ps) l)).flatMap Pair.enc), Ent.blk b1 37 (DataSet.enc d ++ [vI n, Value.slice psA ps.length psC]), Ent.row (.slice wsA ws.length wsC) 4 1 ws.length (ws.map vB), Ent.row (.slice qsA qs.length qsC) 54 2 qs.length (qs.flatMap Pair.enc)] rfl rfl rfl Ty.sz54 rfl (Nat.le_of_ble_eq_true rfl) rfl rfl rfl ?_)
              refine JO_nil (JX_then (J_seq (J_region ?_)))
              refine jr_ (Value.slice wsA ws.length wsC) ?_
              refine jr_ (vI ((k : Nat) : Int)) ?_
              refine JO_read (vI ((1 + k : Nat) : Int)) rfl trivial (fun _ _ => x_add_n (a := 1) (b := k) rfl rfl (by omega)) ?_
              refine JO_read (Value.pointer (some (adr wsA (1 + k)))) rfl trivial (x_indexAddr_at (k := 1 + k) (off := 1 + k) (cells_row 5 rfl) Try.underlying52 Ty.sz4 rfl rfl lt_ (by rw [List.length_map]; first | omega | (simp; omega) | (simp_all; omega) | (simp_all; done)) (Nat.mul_one _)) ?_
              refine JO_read (vB (ws.getD (1 + k) false)) rfl trivial (x_load_at (cells_row 5 rfl) rfl Ty.sc4 (map_at vB ws false lt_)) ?_
              refine JO_nil (JX_then ?_)
              refine J_cond ((ws.getD (1 + k) false)) rfl rfl (fun h44 => ?_) (fun h44 => ?_)
              · have h44w := h44
                refine J_region ?_
                refine JO_read (Value.pointer (some ⟨b41, 22, none⟩)) rfl trivial (fun _ _ => x_fieldAddr Ty.fi37_2 rfl rfl) ?_
                refine JO_read (Value.slice qsA qs.length qsC) rfl trivial (x_load 1 rfl rfl Ty.sc35 rfl) ?_
                refine JO_read (Value.agg #[vS ((ps.getD k default).key), vS ((ps.getD k default).record)]) rfl trivial (x_loadN 0 [vS ((ps.getD k default).key), vS ((ps.getD k default).record)] rfl rfl Ty.ag54 Ty.sz54 rfl) ?_
                refine JO_op rfl trivial (O_buildSlice (cs := [vS ((ps.getD k default).key), vS ((ps.getD k default).record)]) Try.underlying35 Ty.sz54 Ty.ze54 (by decide) (by decide) (by kernel_rfl) fun b45 => ?_)
                refine JO_op rfl trivial (O_append_f 7 Pair.enc 2 qs [(ps.getD k default)] Try.underlying35 Ty.sz54 Ty.by54 Ty.ze54 rfl (by decide) rfl rfl rfl rfl Pair.enc_len Pair.enc_one (cells_blk 0 (off := 0) (m := 2) rfl rfl) lt_ lt_ fun A46 c47 => ?_)
                refine JO_read (Value.pointer (some ⟨b41, 22, none⟩)) rfl trivial (fun _ _ => x_fieldAddr Ty.fi37_2 rfl rfl) ?_
                refine JO_op rfl trivial (O_store 2 (DataSet.enc d ++ [vI n, Value.slice A46 ((qs ++ [(ps.getD k default)]).length) c47]) [Ent.blk b45 54 [vS ((ps.getD k default).key), vS ((ps.getD k default).record)], Ent.blk b43 54 [vS ((ps.getD k default).key), vS ((ps.getD k default).record)], Ent.blk b41 37 (DataSet.enc d ++ [vI n, Value.slice A46 ((qs ++ [(ps.getD k default)]).length) c47]), Ent.blk b34 37 (DataSet.enc (R14.svD R02.updateN (R14.harmT (R14.encode R02.updateN d n ps) l)) ++ [vI (R14.svN R02.updateN (R14.harmT (R14.encode R02.updateN d n ps) l)), Value.slice A31 ((R14.svP R02.updateN (R14.harmT (R14.encode R02.updateN d n ps) l)).length) c32]), Ent.row (.slice A31 (R14.svP R02.updateN (R14.harmT (R14.encode R02.updateN d n ps) l)).length c32) 54 2 (R14.svP R02.updateN (R14.harmT (R14.encode R02.updateN d n ps) l)).length ((R14.svP R02.updateN (R14.harmT (R14.encode R02.updateN d n ps) l)).flatMap Pair.enc), Ent.blk b1 37 (DataSet.enc d ++ [vI n, Value.slice psA ps.length psC]), Ent.row (.slice wsA ws.length wsC) 4 1 ws.length (ws.map vB), Ent.row (.slice A46 (qs ++ [(ps.getD k default)]).length c47) 54 2 (qs ++ [(ps.getD k default)]).length ((qs ++ [(ps.getD k default)]).flatMap Pair.enc)] rfl rfl rfl Ty.sz35 rfl (Nat.le_of_ble_eq_true rfl) rfl rfl rfl ?_)
                refine JO_nil (JX_block (JX_then (J_region ?_)))
                refine JO_read (vI ((k + 1 : Nat) : Int)) rfl trivial (fun _ _ => x_add_n (a := k) (b := 1) rfl rfl (by omega)) ?_
                refine jr_ (vI ((k + 1 : Nat) : Int)) ?_
                refine JO_nil ?_
                refine JX_round ((k + 1, qs ++ [(ps.getD k default)], A46, c47) : Nat × (List Pair) × (Option Addr) × Nat) ?_ ?_ ⟨rfl, rfl, rfl, rfl, rfl, rfl, rfl, rfl, rfl, trivial⟩ (fun _ h => h.keep [false, false, true, true, true, true, true, true] rfl)
                · show ((k + 1) ≤ ps.length) ∧ ((qs ++ [(ps.getD k default)]) = (List.range (k + 1)).flatMap (R14.wantP ws ps)) ∧ ((qs ++ [(ps.getD k default)]).length ≤ (k + 1))
                  refine ⟨?_, ?_, ?_⟩
                  · first | rfl | omega | (simp_all; done) | (simp_all; omega)
                  · first | exact R14.want_yes i2_1 (by assumption) | exact R14.want_no i2_1 (by assumption)
                  · first | omega | (rw [List.length_append]; simp only [List.length_cons, List.length_nil]; omega)
                · show ps.length - (k + 1) < ps.length - k
                  first | omega | (simp; omega) | (simp_all; omega)
              · have h44w := h44
                refine J_skip (JX_block (JX_then (J_region ?_)))
                refine JO_read (vI ((k + 1 : Nat) : Int)) rfl trivial (fun _ _ => x_add_n (a := k) (b := 1) rfl rfl (by omega)) ?_
                refine jr_ (vI ((k + 1 : Nat) : Int)) ?_
                refine JO_nil ?_
                refine JX_round ((k + 1, qs, qsA, qsC) : Nat × (List Pair) × (Option Addr) × Nat) ?_ ?_ ⟨rfl, rfl, rfl, rfl, rfl, rfl, rfl, rfl, rfl, trivial⟩ (fun _ h => h.keep [false, true, true, true, true, true, true] rfl)
                · show ((k + 1) ≤ ps.length) ∧ (qs = (List.range (k + 1)).flatMap (R14.wantP ws ps)) ∧ (qs.length ≤ (k + 1))
                  refine ⟨?_, ?_, ?_⟩
                  · first | rfl | omega | (simp_all; done) | (simp_all; omega)
                  · first | exact R14.want_yes i2_1 (by assumption) | exact R14.want_no i2_1 (by assumption)
                  · first | omega | (rw [List.length_append]; simp only [List.length_cons, List.length_nil]; omega)
                · show ps.length - (k + 1) < ps.length - k
                  first | omega | (simp; omega) | (simp_all; omega)
            · have h42w := h42
              have h42 := of_decide_eq_false h42
              refine J_exit (JX_then_exit (JX_round_exit (JX_block_hit (JX_then (J_seq ?_)))))
              refine J_region ?_
              refine jr_ (vI (R14.svE R02.updateN (R14.harmT (R14.encode R02.updateN d n ps) l))) ?_
              refine JO_read (vB (decide (R14.svE R02.updateN (R14.harmT (R14.encode R02.updateN d n ps) l) = 0))) rfl trivial (fun _ _ => x_eql_i rfl rfl) ?_
              refine jr_ (vB (decide (R14.svE R02.updateN (R14.harmT (R14.encode R02.updateN d n ps) l) = 0))) ?_
              refine JO_cut (X := Bool) 4 (fun z => z = ((decide (R14.svE R02.updateN (R14.harmT (R14.encode R02.updateN d n ps) l) = 0)) && (R14.same (R14.svD R02.updateN (R14.harmT (R14.encode R02.updateN d n ps) l)) (R14.svN R02.updateN (R14.harmT (R14.encode R02.updateN d n ps) l)) (R14.svP R02.updateN (R14.harmT (R14.encode R02.updateN d n ps) l)) d n qs))) (fun z => [(2, Value.pointer (some ⟨b1, 0, none⟩)), (18, vI (R14.svM R02.updateN (R14.harmT (R14.encode R02.updateN d n ps) l))), (20, Value.pointer (some ⟨b41, 0, none⟩)), (163, vB z)]) (fun _ => [Ent.blk b41 37 (DataSet.enc d ++ [vI n, Value.slice qsA qs.length qsC]), Ent.blk b34 37 (DataSet.enc (R14.svD R02.updateN (R14.harmT (R14.encode R02.updateN d n ps) l)) ++ [vI (R14.svN R02.updateN (R14.harmT (R14.encode R02.updateN d n ps) l)), Value.slice A31 ((R14.svP R02.updateN (R14.harmT (R14.encode R02.updateN d n ps) l)).length) c32]), Ent.row (.slice A31 (R14.svP R02.updateN (R14.harmT (R14.encode R02.updateN d n ps) l)).length c32) 54 2 (R14.svP R02.updateN (R14.harmT (R14.encode R02.updateN d n ps) l)).length ((R14.svP R02.updateN (R14.harmT (R14.encode R02.updateN d n ps) l)).flatMap Pair.enc), Ent.blk b1 37 (DataSet.enc d ++ [vI n, Value.slice psA ps.length psC]), Ent.row (.slice wsA ws.length wsC) 4 1 ws.length (ws.map vB), Ent.row (.slice qsA qs.length qsC) 54 2 qs.length (qs.flatMap Pair.enc)]) ?_ ?_
              · rcases Bool.eq_false_or_eq_true (decide (R14.svE R02.updateN (R14.harmT (R14.encode R02.updateN d n ps) l) = 0)) with g49 | g49
                · have g49r := g49
                  have g49r := of_decide_eq_true g49r
                  refine JO_read (Value.agg ((DataSet.enc (R14.svD R02.updateN (R14.harmT (R14.encode R02.updateN d n ps) l)) ++ [vI (R14.svN R02.updateN (R14.harmT (R14.encode R02.updateN d n ps) l)), Value.slice A31 ((R14.svP R02.updateN (R14.harmT (R14.encode R02.updateN d n ps) l)).length) c32])).toArray) rfl ⟨_, rfl, g49⟩ (x_loadN 1 (DataSet.enc (R14.svD R02.updateN (R14.harmT (R14.encode R02.updateN d n ps) l)) ++ [vI (R14.svN R02.updateN (R14.harmT (R14.encode R02.updateN d n ps) l)), Value.slice A31 ((R14.svP R02.updateN (R14.harmT (R14.encode R02.updateN d n ps) l)).length) c32]) rfl rfl Ty.ag37 Ty.sz37 rfl) ?_
                  refine JO_read (Value.agg ((DataSet.enc d ++ [vI n, Value.slice qsA qs.length qsC])).toArray) rfl ⟨_, rfl, g49⟩ (x_loadN 0 (DataSet.enc d ++ [vI n, Value.slice qsA qs.length qsC]) rfl rfl Ty.ag37 Ty.sz37 rfl) ?_
                  refine JO_call [] [] [Ent.blk b41 37 (DataSet.enc d ++ [vI n, Value.slice qsA qs.length qsC]), Ent.blk b34 37 (DataSet.enc (R14.svD R02.updateN (R14.harmT (R14.encode R02.updateN d n ps) l)) ++ [vI (R14.svN R02.updateN (R14.harmT (R14.encode R02.updateN d n ps) l)), Value.slice A31 ((R14.svP R02.updateN (R14.harmT (R14.encode R02.updateN d n ps) l)).length) c32]), Ent.row (.slice A31 (R14.svP R02.updateN (R14.harmT (R14.encode R02.updateN d n ps) l)).length c32) 54 2 (R14.svP R02.updateN (R14.harmT (R14.encode R02.updateN d n ps) l)).length ((R14.svP R02.updateN (R14.harmT (R14.encode R02.updateN d n ps) l)).flatMap Pair.enc), Ent.blk b1 37 (DataSet.enc d ++ [vI n, Value.slice psA ps.length psC]), Ent.row (.slice wsA ws.length wsC) 4 1 ws.length (ws.map vB), Ent.row (.slice qsA qs.length qsC) 54 2 qs.length (qs.flatMap Pair.enc)] rfl ⟨_, rfl, g49⟩ (fun _ => x_call Ty.ca22 rfl) (fun _ h => h) (fun _ h => by cases h) (fun w hS => f22_ok (R14.svD R02.updateN (R14.harmT (R14.encode R02.updateN d n ps) l)) (R14.svN R02.updateN (R14.harmT (R14.encode R02.updateN d n ps) l)) (R14.svP R02.updateN (R14.harmT (R14.encode R02.updateN d n ps) l)) A31 c32 d n qs qsA qsC w (RO.of_row hS 2 rfl) (RO.of_row hS 5 rfl) hy_ hy_) ?_
                  rintro _ _ ⟨rfl, rfl⟩
                  refine JO_read (vB (R14.same (R14.svD R02.updateN (R14.harmT (R14.encode R02.updateN d n ps) l)) (R14.svN R02.updateN (R14.harmT (R14.encode R02.updateN d n ps) l)) (R14.svP R02.updateN (R14.harmT (R14.encode R02.updateN d n ps) l)) d n qs)) rfl trivial (fun _ _ => x_pick_t rfl g49 rfl) ?_
                  refine JO_nil (JX_cut (R14.same (R14.svD R02.updateN (R14.harmT (R14.encode R02.updateN d n ps) l)) (R14.svN R02.updateN (R14.harmT (R14.encode R02.updateN d n ps) l)) (R14.svP R02.updateN (R14.harmT (R14.encode R02.updateN d n ps) l)) d n qs) (by rw [g49]; simp) ⟨rfl, rfl, rfl, rfl, trivial⟩ (fun _ h => h))
                · have g49r := g49
                  have g49r := of_decide_eq_false g49r
                  refine JO_shun rfl ⟨_, rfl, g49⟩ ?_
                  refine JO_shun rfl ⟨_, rfl, g49⟩ ?_
                  refine JO_shun rfl ⟨_, rfl, g49⟩ ?_
                  refine JO_read (vB false) rfl trivial (fun _ _ => x_pick_f rfl g49 rfl) ?_
                  refine JO_nil (JX_cut (false) (by rw [g49]; simp) ⟨rfl, rfl, rfl, rfl, trivial⟩ (fun _ h => h))
              rintro z48 rfl
              refine jr_ (vB ((decide (R14.svE R02.updateN (R14.harmT (R14.encode R02.updateN d n ps) l) = 0)) && (R14.same (R14.svD R02.updateN (R14.harmT (R14.encode R02.updateN d n ps) l)) (R14.svN R02.updateN (R14.harmT (R14.encode R02.updateN d n ps) l)) (R14.svP R02.updateN (R14.harmT (R14.encode R02.updateN d n ps) l)) d n qs))) ?_
              refine JO_cut (X := Bool) 10 (fun z => z = (((decide (R14.svE R02.updateN (R14.harmT (R14.encode R02.updateN d n ps) l) = 0)) && (R14.same (R14.svD R02.updateN (R14.harmT (R14.encode R02.updateN d n ps) l)) (R14.svN R02.updateN (R14.harmT (R14.encode R02.updateN d n ps) l)) (R14.svP R02.updateN (R14.harmT (R14.encode R02.updateN d n ps) l)) d n qs)) && (decide (R14.svM R02.updateN (R14.harmT (R14.encode R02.updateN d n ps) l) = ((ps.length : Nat) : Int) - ((qs.length : Nat) : Int))))) (fun z => [(174, vB z)]) (fun _ => [Ent.blk b41 37 (DataSet.enc d ++ [vI n, Value.slice qsA qs.length qsC]), Ent.blk b34 37 (DataSet.enc (R14.svD R02.updateN (R14.harmT (R14.encode R02.updateN d n ps) l)) ++ [vI (R14.svN R02.updateN (R14.harmT (R14.encode R02.updateN d n ps) l)), Value.slice A31 ((R14.svP R02.updateN (R14.harmT (R14.encode R02.updateN d n ps) l)).length) c32]), Ent.row (.slice A31 (R14.svP R02.updateN (R14.harmT (R14.encode R02.updateN d n ps) l)).length c32) 54 2 (R14.svP R02.updateN (R14.harmT (R14.encode R02.updateN d n ps) l)).length ((R14.svP R02.updateN (R14.harmT (R14.encode R02.updateN d n ps) l)).flatMap Pair.enc), Ent.blk b1 37 (DataSet.enc d ++ [vI n, Value.slice psA ps.length psC]), Ent.row (.slice wsA ws.length wsC) 4 1 ws.length (ws.map vB), Ent.row (.slice qsA qs.length qsC) 54 2 qs.length (qs.flatMap Pair.enc)]) ?_ ?_
              · rcases Bool.eq_false_or_eq_true ((decide (R14.svE R02.updateN (R14.harmT (R14.encode R02.updateN d n ps) l) = 0)) && (R14.same (R14.svD R02.updateN (R14.harmT (R14.encode R02.updateN d n ps) l)) (R14.svN R02.updateN (R14.harmT (R14.encode R02.updateN d n ps) l)) (R14.svP R02.updateN (R14.harmT (R14.encode R02.updateN d n ps) l)) d n qs)) with g51 | g51
                · have g51r := g51
                  have ⟨g51r, h52⟩ := band_true g51r
                  have g51r := of_decide_eq_true g51r
                  refine JO_read (vI (R14.svM R02.updateN (R14.harmT (R14.encode R02.updateN d n ps) l))) rfl ⟨_, rfl, g51⟩ (fun _ _ => rfl) ?_
                  refine JO_read (Value.pointer (some ⟨b1, 22, none⟩)) rfl ⟨_, rfl, g51⟩ (fun _ _ => x_fieldAddr Ty.fi37_2 rfl rfl) ?_
                  refine JO_read (Value.slice psA ps.length psC) rfl ⟨_, rfl, g51⟩ (x_load 3 rfl rfl Ty.sc35 rfl) ?_
                  refine JO_read (vI ((ps.length : Nat) : Int)) rfl ⟨_, rfl, g51⟩ (fun _ _ => x_len_sl Try.underlying35 rfl) ?_
                  refine JO_read (Value.pointer (some ⟨b41, 22, none⟩)) rfl ⟨_, rfl, g51⟩ (fun _ _ => x_fieldAddr Ty.fi37_2 rfl rfl) ?_
                  refine JO_read (Value.slice qsA qs.length qsC) rfl ⟨_, rfl, g51⟩ (x_load 0 rfl rfl Ty.sc35 rfl) ?_
                  refine JO_read (vI ((qs.length : Nat) : Int)) rfl ⟨_, rfl, g51⟩ (fun _ _ => x_len_sl Try.underlying35 rfl) ?_
                  refine JO_read (vI (((ps.length : Nat) : Int) - ((qs.length : Nat) : Int))) rfl ⟨_, rfl, g51⟩ (fun _ _ => x_sub_i (a := ((ps.length : Nat) : Int)) (b := ((qs.length : Nat) : Int)) rfl rfl (by omega) (by omega)) ?_
                  refine JO_read (vB (decide (R14.svM R02.updateN (R14.harmT (R14.encode R02.updateN d n ps) l) = ((ps.length : Nat) : Int) - ((qs.length : Nat) : Int)))) rfl ⟨_, rfl, g51⟩ (fun _ _ => x_eql_i rfl rfl) ?_
                  refine JO_read (vB (decide (R14.svM R02.updateN (R14.harmT (R14.encode R02.updateN d n ps) l) = ((ps.length : Nat) : Int) - ((qs.length : Nat) : Int)))) rfl trivial (fun _ _ => x_pick_t rfl g51 rfl) ?_
                  refine JO_nil (JX_cut (decide (R14.svM R02.updateN (R14.harmT (R14.encode R02.updateN d n ps) l) = ((ps.length : Nat) : Int) - ((qs.length : Nat) : Int))) (by rw [g51]; simp) ⟨rfl, trivial⟩ (fun _ h => h))
                · have g51r := g51
                  simp only [Bool.and_eq_true, Bool.or_eq_true, Bool.and_eq_false_iff, Bool.or_eq_false_iff, Bool.not_eq_true', Bool.not_eq_false', decide_eq_true_eq, decide_eq_false_iff_not] at g51r
                  refine JO_shun rfl ⟨_, rfl, g51⟩ ?_
                  refine JO_shun rfl ⟨_, rfl, g51⟩ ?_
                  refine JO_shun rfl ⟨_, rfl, g51⟩ ?_
                  refine JO_shun rfl ⟨_, rfl, g51⟩ ?_
                  refine JO_shun rfl ⟨_, rfl, g51⟩ ?_
                  refine JO_shun rfl ⟨_, rfl, g51⟩ ?_
                  refine JO_shun rfl ⟨_, rfl, g51⟩ ?_
                  refine JO_shun rfl ⟨_, rfl, g51⟩ ?_
                  refine JO_shun rfl ⟨_, rfl, g51⟩ ?_
                  refine JO_read (vB false) rfl trivial (fun _ _ => x_pick_f rfl g51 rfl) ?_
                  refine JO_nil (JX_cut (false) (by rw [g51]; simp) ⟨rfl, trivial⟩ (fun _ h => h))
              rintro z50 rfl
              refine jr_ (vB (((decide (R14.svE R02.updateN (R14.harmT (R14.encode R02.updateN d n ps) l) = 0)) && (R14.same (R14.svD R02.updateN (R14.harmT (R14.encode R02.updateN d n ps) l)) (R14.svN R02.updateN (R14.harmT (R14.encode R02.updateN d n ps) l)) (R14.svP R02.updateN (R14.harmT (R14.encode R02.updateN d n ps) l)) d n qs)) && (decide (R14.svM R02.updateN (R14.harmT (R14.encode R02.updateN d n ps) l) = ((ps.length : Nat) : Int) - ((qs.length : Nat) : Int))))) ?_
              refine JO_nil (JX_then (J_ret ?_))
              refine JX_rets [vB (((decide (R14.svE R02.updateN (R14.harmT (R14.encode R02.updateN d n ps) l) = 0)) && (R14.same (R14.svD R02.updateN (R14.harmT (R14.encode R02.updateN d n ps) l)) (R14.svN R02.updateN (R14.harmT (R14.encode R02.updateN d n ps) l)) (R14.svP R02.updateN (R14.harmT (R14.encode R02.updateN d n ps) l)) d n qs)) && (decide (R14.svM R02.updateN (R14.harmT (R14.encode R02.updateN d n ps) l) = ((ps.length : Nat) : Int) - ((qs.length : Nat) : Int))))] (vB (((decide (R14.svE R02.updateN (R14.harmT (R14.encode R02.updateN d n ps) l) = 0)) && (R14.same (R14.svD R02.updateN (R14.harmT (R14.encode R02.updateN d n ps) l)) (R14.svN R02.updateN (R14.harmT (R14.encode R02.updateN d n ps) l)) (R14.svP R02.updateN (R14.harmT (R14.encode R02.updateN d n ps) l)) d n qs)) && (decide (R14.svM R02.updateN (R14.harmT (R14.encode R02.updateN d n ps) l) = ((ps.length : Nat) : Int) - ((qs.length : Nat) : Int))))) Try.results7 (fun w h => ⟨rfl, trivial⟩) rfl [] (fun _ h => h.keep [false, false, false, false, false, false] rfl) ⟨?_, ?_⟩
              · have e_x0 : (((decide (R14.svE R02.updateN (R14.harmT (R14.encode R02.updateN d n ps) l) = 0)) && (R14.same (R14.svD R02.updateN (R14.harmT (R14.encode R02.updateN d n ps) l)) (R14.svN R02.updateN (R14.harmT (R14.encode R02.updateN d n ps) l)) (R14.svP R02.updateN (R14.harmT (R14.encode R02.updateN d n ps) l)) d n qs)) && (decide (R14.svM R02.updateN (R14.harmT (R14.encode R02.updateN d n ps) l) = ((ps.length : Nat) : Int) - ((qs.length : Nat) : Int))) : Bool) = true := by first | rfl | (exfalso; exact R14.sal_bad0 (by assumption) (by assumption)) | (exfalso; omega) | (exfalso; exact absurd (hfr (by omega)).1 (by assumption)) | (exfalso; exact R14.sal_bad1 (by assumption) i1_1 i1_2 (by assumption) (by omega) (by assumption)) | exact R14.sal_none (by assumption) hws (by assumption) | exact R14.sal_yes (by assumption) hws (by assumption) i2_0 (by assumption) i2_1
                exact congrArg (fun (x0 : Bool) => vB x0) e_x0
              · rfl
end Go.Proofs.Ytodfebhimadaiaa
