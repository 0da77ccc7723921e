/- contracts C26d -/
import Derived.Test.YtimjfpioenkbjaaC26c
import Derived.Test.YtimjfpioenkbjaaPl26b
namespace Go.Proofs.Ytimjfpioenkbjaa
open Go.GV
set_option linter.unusedVariables false
set_option linter.unusedSimpArgs false

set_option maxRecDepth 20000 in
theorem f42_ok (a : DataSet) (w : World) (q0 : 0 ≤ a.AltLength) (q1 : a.AltLength ≤ 10000) (q2 : 0 ≤ a.KeyLength) (q3 : a.KeyLength ≤ 10000) : Calls Try.prog 42 #[Value.agg ((DataSet.enc a)).toArray] w (Gives [] w fun v L => v = vI (a.KeyLength - a.AltLength) ∧ L = []) := by
  refine calls_J [] 8 Try.func42 rfl Try.ntmps42 [(0, Value.agg ((DataSet.enc a)).toArray)] rfl rfl (Give.nil w) ?_
  refine J_seq ?_
  refine J_region ?_
  refine JO_op rfl trivial (O_box rfl rfl fun b1 => ?_)
  refine JO_read (vI 0) rfl trivial (fun _ _ => rfl) ?_
  refine JO_nil ?_
  refine JX_then ?_
  refine J_seq ?_
  refine J_region ?_
  refine JO_read (Value.pointer (some ⟨b1, 6, none⟩)) rfl trivial (fun _ _ => x_fieldAddr Ty.fi23_6 rfl rfl) ?_
  refine JO_read (vI a.KeyLength) rfl trivial (x_load 0 rfl rfl Ty.sc3 rfl) ?_
  refine JO_read (Value.pointer (some ⟨b1, 13, none⟩)) rfl trivial (fun _ _ => x_fieldAddr Ty.fi23_13 rfl rfl) ?_
  refine JO_read (vI a.AltLength) rfl trivial (x_load 0 rfl rfl Ty.sc3 rfl) ?_
  refine JO_read (vI (a.KeyLength - a.AltLength)) rfl trivial (fun _ _ => x_sub_i (a := a.KeyLength) (b := a.AltLength) rfl rfl (by omega) (by omega)) ?_
  refine JO_read (vI (a.KeyLength - a.AltLength)) rfl trivial (fun _ _ => rfl) ?_
  refine JO_nil ?_
  refine JX_then ?_
  refine J_ret ?_
  refine JX_rets [vI (a.KeyLength - a.AltLength)] (vI (a.KeyLength - a.AltLength)) Try.results42 (fun w h => ⟨rfl, trivial⟩) rfl [] (fun _ h => h.keep [false] rfl) ⟨?_, ?_⟩
  · rfl
  · rfl

set_option maxRecDepth 20000 in
theorem f17_ok (a : DataSet) (r : Bytes) (w : World) : Calls Try.prog 17 #[Value.agg ((DataSet.enc a)).toArray, vS r] w (Gives [] w fun v L => v = Value.tuple #[vS ((R26.key a r).1), vB ((R26.key a r).2)] ∧ L = []) := by
  refine calls_J [] 26 Try.func17 rfl Try.ntmps17 [(0, Value.agg ((DataSet.enc a)).toArray), (1, vS r)] rfl rfl (Give.nil w) ?_
  refine J_seq ?_
  refine J_region ?_
  refine JO_op rfl trivial (O_box rfl rfl fun b1 => ?_)
  refine JO_read (vS []) rfl trivial (fun _ _ => rfl) ?_
  refine JO_read (vB false) rfl trivial (fun _ _ => rfl) ?_
  refine JO_nil ?_
  refine JX_then ?_
  refine J_seq ?_
  refine J_seq ?_
  refine J_region ?_
  refine JO_read (Value.agg ((DataSet.enc a)).toArray) rfl trivial (x_loadN 0 (DataSet.enc a) rfl rfl Ty.ag23 Ty.sz23 rfl) ?_
  refine JO_call [] [] [Ent.blk b1 23 (DataSet.enc a)] rfl trivial (fun _ => x_call Ty.ca41 rfl) (fun _ h => h) (fun _ h => by cases h) (fun w hS => f41_ok a w) ?_
  rintro _ _ ⟨rfl, rfl⟩
  refine JO_read (vB (!(R26.isAlt a))) rfl trivial (fun _ _ => x_not rfl) ?_
  refine JO_read (vB (!(R26.isAlt a))) rfl trivial (fun _ _ => rfl) ?_
  refine JO_cut (X := Bool) 9 (fun z => z = ((!(R26.isAlt a)) || (decide (((r.length : Nat) : Int) < a.AltAt + a.AltLength)))) (fun z => [(1, vS r), (2, Value.pointer (some ⟨b1, 0, none⟩)), (4, vS []), (5, vB false), (18, vB z)]) (fun _ => [Ent.blk b1 23 (DataSet.enc a)]) ?_ ?_
  · rcases Bool.eq_false_or_eq_true (!(R26.isAlt a)) with g3 | g3
    · have g3r := g3
      have g3r : (R26.isAlt a) = false := bnot_true g3r
      refine JO_shun rfl ⟨_, rfl, g3⟩ ?_
      refine JO_shun rfl ⟨_, rfl, g3⟩ ?_
      refine JO_shun rfl ⟨_, rfl, g3⟩ ?_
      refine JO_shun rfl ⟨_, rfl, g3⟩ ?_
      refine JO_shun rfl ⟨_, rfl, g3⟩ ?_
      refine JO_shun rfl ⟨_, rfl, g3⟩ ?_
      refine JO_shun rfl ⟨_, rfl, g3⟩ ?_
      refine JO_shun rfl ⟨_, rfl, g3⟩ ?_
      refine JO_read (vB true) rfl trivial (fun _ _ => x_pick_t rfl g3 rfl) ?_
      refine JO_nil (JX_cut (true) (by rw [g3]; simp) ⟨rfl, rfl, rfl, rfl, rfl, trivial⟩ (fun _ h => h))
    · have g3r := g3
      have g3r : (R26.isAlt a) = true := bnot_false g3r
      have hi4 := R26.isAlt_facts g3r
      refine JO_read (vS r) rfl ⟨_, rfl, g3⟩ (fun _ _ => rfl) ?_
      refine JO_read (vI ((r.length : Nat) : Int)) rfl ⟨_, rfl, g3⟩ (fun _ _ => x_len_s rfl Try.underlying9) ?_
      refine JO_read (Value.pointer (some ⟨b1, 12, none⟩)) rfl ⟨_, rfl, g3⟩ (fun _ _ => x_fieldAddr Ty.fi23_12 rfl rfl) ?_
      refine JO_read (vI a.AltAt) rfl ⟨_, rfl, g3⟩ (x_load 0 rfl rfl Ty.sc3 rfl) ?_
      refine JO_read (Value.pointer (some ⟨b1, 13, none⟩)) rfl ⟨_, rfl, g3⟩ (fun _ _ => x_fieldAddr Ty.fi23_13 rfl rfl) ?_
      refine JO_read (vI a.AltLength) rfl ⟨_, rfl, g3⟩ (x_load 0 rfl rfl Ty.sc3 rfl) ?_
      refine JO_read (vI (a.AltAt + a.AltLength)) rfl ⟨_, rfl, g3⟩ (fun _ _ => x_add_i (a := a.AltAt) (b := a.AltLength) rfl rfl (by omega) (by omega)) ?_
      refine JO_read (vB (decide (((r.length : Nat) : Int) < a.AltAt + a.AltLength))) rfl ⟨_, rfl, g3⟩ (fun _ _ => x_lss_i rfl rfl) ?_
      refine JO_read (vB (decide (((r.length : Nat) : Int) < a.AltAt + a.AltLength))) rfl trivial (fun _ _ => x_pick_f rfl g3 rfl) ?_
      refine JO_nil (JX_cut (decide (((r.length : Nat) : Int) < a.AltAt + a.AltLength)) (by rw [g3]; simp) ⟨rfl, rfl, rfl, rfl, rfl, trivial⟩ (fun _ h => h))
  rintro z2 rfl
  refine JO_nil ?_
  refine JX_then ?_
  refine J_cond ((!(R26.isAlt a)) || (decide (((r.length : Nat) : Int) < a.AltAt + a.AltLength))) rfl rfl (fun h5 => ?_) (fun h5 => ?_)
  · simp only [Bool.and_eq_true, Bool.or_eq_true, Bool.and_eq_false_iff, Bool.or_eq_false_iff, Bool.not_eq_true', Bool.not_eq_false', decide_eq_true_eq, decide_eq_false_iff_not] at h5
    refine J_seq ?_
    refine J_region ?_
    refine JO_read (vS []) rfl trivial (fun _ _ => rfl) ?_
    refine JO_read (vB false) rfl trivial (fun _ _ => rfl) ?_
    refine JO_nil ?_
    refine JX_then ?_
    refine J_ret ?_
    refine JX_then_ret ?_
    first
      | have hd := R26.key_no (a := a) (r := r) (by rintro ⟨g1, g2⟩; simp only [g1, Bool.true_eq_false, false_or] at *; omega)
      | have hd := R26.key_yes (a := a) (r := r) (by assumption) (by omega)
    refine JX_rets [vS [], vB false] (Value.tuple #[vS [], vB false]) Try.results17 (fun w h => ⟨rfl, rfl, trivial⟩) rfl [] (fun _ h => h.keep [false] rfl) ⟨?_, ?_⟩
    · have e_x0 : ([] : Bytes) = ((R26.key a r).1) := by
        first | (rw [hd]; done) | (rw [hd]; exact R26.sub_sub2 (by omega) (by omega) (by omega))
      have e_x1 : (false : Bool) = ((R26.key a r).2) := by
        first | (rw [hd]; done) | (rw [hd]; rfl)
      have e_all := (congr (congrArg (fun (x0 : Bytes) (x1 : Bool) => Value.tuple #[vS x0, vB x1]) e_x0) e_x1)
      exact e_all
    · rfl
  · have ⟨h5, h6⟩ := bor_false h5
    have h5 : (R26.isAlt a) = true := bnot_false h5
    have hi7 := R26.isAlt_facts h5
    have h6 := of_decide_eq_false h6
    refine J_skip ?_
    refine JX_then ?_
    refine J_seq ?_
    refine J_draw [Ent.blk b1 23 (DataSet.enc a)] [] [Ent.blk b1 23 (DataSet.enc a)] 9 Ty.mixed rfl ?_
    refine JA_take 0 (vS r) rfl (by kernel_rfl) (by kernel_rfl) (by kernel_rfl) rfl (fun _ _ _ h => h) rfl trivial (fun _ _ => rfl) ?_
    refine JA_take 1 (Value.pointer (some ⟨b1, 12, none⟩)) rfl (by kernel_rfl) (by kernel_rfl) (by kernel_rfl) rfl (fun _ _ _ h => h) rfl trivial (fun _ _ => x_fieldAddr Ty.fi23_12 rfl rfl) ?_
    refine JA_take 2 (vI a.AltAt) rfl (by kernel_rfl) (by kernel_rfl) (by kernel_rfl) rfl (fun _ _ _ h => h) rfl trivial (x_load 0 rfl rfl Ty.sc3 rfl) ?_
    refine JA_take 3 (vS (sub r ((a.AltAt).toNat) r.length)) rfl (by kernel_rfl) (by kernel_rfl) (by kernel_rfl) rfl (fun _ _ _ h => h) rfl trivial (fun _ _ => x_sub_s (lo := (a.AltAt).toNat) (hi := r.length) rfl Try.underlying9 (.inl (lo_i (by omega))) (.inr ⟨rfl, rfl⟩) lt_ (by first | omega | (simp only [sub, List.length_drop, List.length_take]; omega) | (simp; omega) | (simp_all; omega))) ?_
    refine JA_take 4 (Value.pointer (some ⟨b1, 13, none⟩)) rfl (by kernel_rfl) (by kernel_rfl) (by kernel_rfl) rfl (fun _ _ _ h => h) rfl trivial (fun _ _ => x_fieldAddr Ty.fi23_13 rfl rfl) ?_
    refine JA_take 5 (vI a.AltLength) rfl (by kernel_rfl) (by kernel_rfl) (by kernel_rfl) rfl (fun _ _ _ h => h) rfl trivial (x_load 0 rfl rfl Ty.sc3 rfl) ?_
    refine JA_take 6 (vS (sub (sub r ((a.AltAt).toNat) r.length) 0 ((a.AltLength).toNat))) rfl (by kernel_rfl) (by kernel_rfl) (by kernel_rfl) rfl (fun _ _ _ h => h) rfl trivial (fun _ _ => x_sub_s (lo := 0) (hi := (a.AltLength).toNat) rfl Try.underlying9 (.inr ⟨rfl, rfl⟩) (.inl (lo_i (by omega))) lt_ (by first | omega | (simp only [sub, List.length_drop, List.length_take]; omega) | (simp; omega) | (simp_all; omega))) ?_
    refine JA_take 7 (vS (sub (sub r ((a.AltAt).toNat) r.length) 0 ((a.AltLength).toNat))) rfl (by kernel_rfl) (by kernel_rfl) (by kernel_rfl) rfl (fun _ _ _ h => h) rfl trivial (fun _ _ => rfl) ?_
    refine JA_take 8 (vB true) rfl (by kernel_rfl) (by kernel_rfl) (by kernel_rfl) rfl (fun _ _ _ h => h) rfl trivial (fun _ _ => rfl) ?_
    refine JA_done (by kernel_rfl) (fun _ h => ⟨h, fun _ => h⟩) ?_
    refine JX_then ?_
    refine J_ret ?_
    first
      | have hd := R26.key_no (a := a) (r := r) (by rintro ⟨g1, g2⟩; simp only [g1, Bool.true_eq_false, false_or] at *; omega)
      | have hd := R26.key_yes (a := a) (r := r) (by assumption) (by omega)
    refine JX_rets [vS (sub (sub r ((a.AltAt).toNat) r.length) 0 ((a.AltLength).toNat)), vB true] (Value.tuple #[vS (sub (sub r ((a.AltAt).toNat) r.length) 0 ((a.AltLength).toNat)), vB true]) Try.results17 (fun w h => ⟨rfl, rfl, trivial⟩) rfl [] (fun _ h => h.keep [false] rfl) ⟨?_, ?_⟩
    · have e_x0 : (sub (sub r ((a.AltAt).toNat) r.length) 0 ((a.AltLength).toNat) : Bytes) = ((R26.key a r).1) := by
        first | (rw [hd]; done) | (rw [hd]; exact R26.sub_sub2 (by omega) (by omega) (by omega))
      have e_x1 : (true : Bool) = ((R26.key a r).2) := by
        first | (rw [hd]; done) | (rw [hd]; rfl)
      have e_all := (congr (congrArg (fun (x0 : Bytes) (x1 : Bool) => Value.tuple #[vS x0, vB x1]) e_x0) e_x1)
      exact e_all
    · rfl

set_option maxRecDepth 20000 in
theorem f18_ok (a : DataSet) (r : Bytes) (w : World) : Calls Try.prog 18 #[Value.agg ((DataSet.enc a)).toArray, vS r] w (Gives [] w fun v L => v = Value.tuple #[vS ((R26.key a r).1), vB ((R26.key a r).2)] ∧ L = []) := by
  refine calls_J [] 28 Try.func18 rfl Try.ntmps18 [(0, Value.agg ((DataSet.enc a)).toArray), (1, vS r)] rfl rfl (Give.nil w) ?_
  refine J_seq ?_
  refine J_region ?_
  refine JO_op rfl trivial (O_box rfl rfl fun b1 => ?_)
  refine JO_read (vS []) rfl trivial (fun _ _ => rfl) ?_
  refine JO_read (vB false) rfl trivial (fun _ _ => rfl) ?_
  refine JO_nil ?_
  refine JX_then ?_
  refine J_seq ?_
  refine J_seq ?_
  refine J_region ?_
  refine JO_read (Value.agg ((DataSet.enc a)).toArray) rfl trivial (x_loadN 0 (DataSet.enc a) rfl rfl Ty.ag23 Ty.sz23 rfl) ?_
  refine JO_call [] [] [Ent.blk b1 23 (DataSet.enc a)] rfl trivial (fun _ => x_call Ty.ca39 rfl) (fun _ h => h) (fun _ h => by cases h) (fun w hS => f39_ok a w) ?_
  rintro _ _ ⟨rfl, rfl⟩
  refine JO_read (vB (!(R26.isAlt a))) rfl trivial (fun _ _ => x_not rfl) ?_
  refine JO_read (vB (!(R26.isAlt a))) rfl trivial (fun _ _ => rfl) ?_
  refine JO_cut (X := Bool) 9 (fun z => z = ((!(R26.isAlt a)) || (decide (((r.length : Nat) : Int) < a.AltAt + a.AltLength)))) (fun z => [(1, vS r), (2, Value.pointer (some ⟨b1, 0, none⟩)), (4, vS []), (5, vB false), (18, vB z)]) (fun _ => [Ent.blk b1 23 (DataSet.enc a)]) ?_ ?_
  · rcases Bool.eq_false_or_eq_true (!(R26.isAlt a)) with g3 | g3
    · have g3r := g3
      have g3r : (R26.isAlt a) = false := bnot_true g3r
      refine JO_shun rfl ⟨_, rfl, g3⟩ ?_
      refine JO_shun rfl ⟨_, rfl, g3⟩ ?_
      refine JO_shun rfl ⟨_, rfl, g3⟩ ?_
      refine JO_shun rfl ⟨_, rfl, g3⟩ ?_
      refine JO_shun rfl ⟨_, rfl, g3⟩ ?_
      refine JO_shun rfl ⟨_, rfl, g3⟩ ?_
      refine JO_shun rfl ⟨_, rfl, g3⟩ ?_
      refine JO_shun rfl ⟨_, rfl, g3⟩ ?_
      refine JO_read (vB true) rfl trivial (fun _ _ => x_pick_t rfl g3 rfl) ?_
      refine JO_nil (JX_cut (true) (by rw [g3]; simp) ⟨rfl, rfl, rfl, rfl, rfl, trivial⟩ (fun _ h => h))
    · have g3r := g3
      have g3r : (R26.isAlt a) = true := bnot_false g3r
      have hi4 := R26.isAlt_facts g3r
      refine JO_read (vS r) rfl ⟨_, rfl, g3⟩ (fun _ _ => rfl) ?_
      refine JO_read (vI ((r.length : Nat) : Int)) rfl ⟨_, rfl, g3⟩ (fun _ _ => x_len_s rfl Try.underlying9) ?_
      refine JO_read (Value.pointer (some ⟨b1, 12, none⟩)) rfl ⟨_, rfl, g3⟩ (fun _ _ => x_fieldAddr Ty.fi23_12 rfl rfl) ?_
      refine JO_read (vI a.AltAt) rfl ⟨_, rfl, g3⟩ (x_load 0 rfl rfl Ty.sc3 rfl) ?_
      refine JO_read (Value.pointer (some ⟨b1, 13, none⟩)) rfl ⟨_, rfl, g3⟩ (fun _ _ => x_fieldAddr Ty.fi23_13 rfl rfl) ?_
      refine JO_read (vI a.AltLength) rfl ⟨_, rfl, g3⟩ (x_load 0 rfl rfl Ty.sc3 rfl) ?_
      refine JO_read (vI (a.AltAt + a.AltLength)) rfl ⟨_, rfl, g3⟩ (fun _ _ => x_add_i (a := a.AltAt) (b := a.AltLength) rfl rfl (by omega) (by omega)) ?_
      refine JO_read (vB (decide (((r.length : Nat) : Int) < a.AltAt + a.AltLength))) rfl ⟨_, rfl, g3⟩ (fun _ _ => x_lss_i rfl rfl) ?_
      refine JO_read (vB (decide (((r.length : Nat) : Int) < a.AltAt + a.AltLength))) rfl trivial (fun _ _ => x_pick_f rfl g3 rfl) ?_
      refine JO_nil (JX_cut (decide (((r.length : Nat) : Int) < a.AltAt + a.AltLength)) (by rw [g3]; simp) ⟨rfl, rfl, rfl, rfl, rfl, trivial⟩ (fun _ h => h))
  rintro z2 rfl
  refine JO_nil ?_
  refine JX_then ?_
  refine J_cond ((!(R26.isAlt a)) || (decide (((r.length : Nat) : Int) < a.AltAt + a.AltLength))) rfl rfl (fun h5 => ?_) (fun h5 => ?_)
  · simp only [Bool.and_eq_true, Bool.or_eq_true, Bool.and_eq_false_iff, Bool.or_eq_false_iff, Bool.not_eq_true', Bool.not_eq_false', decide_eq_true_eq, decide_eq_false_iff_not] at h5
    refine J_seq ?_
    refine J_region ?_
    refine JO_read (vS []) rfl trivial (fun _ _ => rfl) ?_
    refine JO_read (vB false) rfl trivial (fun _ _ => rfl) ?_
    refine JO_nil ?_
    refine JX_then ?_
    refine J_ret ?_
    refine JX_then_ret ?_
    first
      | have hd := R26.key_no (a := a) (r := r) (by rintro ⟨g1, g2⟩; simp only [g1, Bool.true_eq_false, false_or] at *; omega)
      | have hd := R26.key_yes (a := a) (r := r) (by assumption) (by omega)
    refine JX_rets [vS [], vB false] (Value.tuple #[vS [], vB false]) Try.results18 (fun w h => ⟨rfl, rfl, trivial⟩) rfl [] (fun _ h => h.keep [false] rfl) ⟨?_, ?_⟩
    · have e_x0 : ([] : Bytes) = ((R26.key a r).1) := by
        first | (rw [hd]; done) | (rw [hd]; rfl)
      have e_x1 : (false : Bool) = ((R26.key a r).2) := by
        first | (rw [hd]; done) | (rw [hd]; rfl)
      have e_all := (congr (congrArg (fun (x0 : Bytes) (x1 : Bool) => Value.tuple #[vS x0, vB x1]) e_x0) e_x1)
      exact e_all
    · rfl
  · have ⟨h5, h6⟩ := bor_false h5
    have h5 : (R26.isAlt a) = true := bnot_false h5
    have hi7 := R26.isAlt_facts h5
    have h6 := of_decide_eq_false h6
    refine J_skip ?_
    refine JX_then ?_
    refine J_seq ?_
    refine J_region ?_
    refine JO_read (vS r) rfl trivial (fun _ _ => rfl) ?_
    refine JO_read (Value.pointer (some ⟨b1, 12, none⟩)) rfl trivial (fun _ _ => x_fieldAddr Ty.fi23_12 rfl rfl) ?_
    refine JO_read (vI a.AltAt) rfl trivial (x_load 0 rfl rfl Ty.sc3 rfl) ?_
    refine JO_read (Value.pointer (some ⟨b1, 12, none⟩)) rfl trivial (fun _ _ => x_fieldAddr Ty.fi23_12 rfl rfl) ?_
    refine JO_read (vI a.AltAt) rfl trivial (x_load 0 rfl rfl Ty.sc3 rfl) ?_
    refine JO_read (Value.pointer (some ⟨b1, 13, none⟩)) rfl trivial (fun _ _ => x_fieldAddr Ty.fi23_13 rfl rfl) ?_
    refine JO_read (vI a.AltLength) rfl trivial (x_load 0 rfl rfl Ty.sc3 rfl) ?_
    refine JO_read (vI (a.AltAt + a.AltLength)) rfl trivial (fun _ _ => x_add_i (a := a.AltAt) (b := a.AltLength) rfl rfl (by omega) (by omega)) ?_
    refine JO_read (vS (sub r ((a.AltAt).toNat) ((a.AltAt + a.AltLength).toNat))) rfl trivial (fun _ _ => x_sub_s (lo := (a.AltAt).toNat) (hi := (a.AltAt + a.AltLength).toNat) rfl Try.underlying9 (.inl (lo_i (by omega))) (.inl (lo_i (by omega))) lt_ (by first | omega | (simp only [sub, List.length_drop, List.length_take]; omega) | (simp; omega) | (simp_all; omega))) ?_
    refine JO_read (vS (sub r ((a.AltAt).toNat) ((a.AltAt + a.AltLength).toNat))) rfl trivial (fun _ _ => rfl) ?_
    refine JO_read (vB true) rfl trivial (fun _ _ => rfl) ?_
    refine JO_nil ?_
    refine JX_then ?_
    refine J_ret ?_
    first
      | have hd := R26.key_no (a := a) (r := r) (by rintro ⟨g1, g2⟩; simp only [g1, Bool.true_eq_false, false_or] at *; omega)
      | have hd := R26.key_yes (a := a) (r := r) (by assumption) (by omega)
    refine JX_rets [vS (sub r ((a.AltAt).toNat) ((a.AltAt + a.AltLength).toNat)), vB true] (Value.tuple #[vS (sub r ((a.AltAt).toNat) ((a.AltAt + a.AltLength).toNat)), vB true]) Try.results18 (fun w h => ⟨rfl, rfl, trivial⟩) rfl [] (fun _ h => h.keep [false] rfl) ⟨?_, ?_⟩
    · have e_x0 : (sub r ((a.AltAt).toNat) ((a.AltAt + a.AltLength).toNat) : Bytes) = ((R26.key a r).1) := by
        first | (rw [hd]; done) | (rw [hd]; rfl)
      have e_x1 : (true : Bool) = ((R26.key a r).2) := by
        first | (rw [hd]; done) | (rw [hd]; rfl)
      have e_all := (congr (congrArg (fun (x0 : Bytes) (x1 : Bool) => Value.tuple #[vS x0, vB x1]) e_x0) e_x1)
      exact e_all
    · rfl

set_option maxRecDepth 20000 in
theorem f19_ok (a : DataSet) (k : Bytes) (b : Bytes) (w : World) : Calls Try.prog 19 #[Value.agg ((DataSet.enc a)).toArray, vS k, vS b] w (Gives [] w fun v L => v = Value.tuple #[vS ((R26.record a k b).1), vI ((R26.record a k b).2)] ∧ L = []) := by
  refine calls_J [] 28 Try.func19 rfl Try.ntmps19 [(0, Value.agg ((DataSet.enc a)).toArray), (1, vS k), (2, vS b)] rfl rfl (Give.nil w) ?_
  refine J_seq ?_
  refine J_region ?_
  refine JO_op rfl trivial (O_box rfl rfl fun b1 => ?_)
  refine JO_read (vS []) rfl trivial (fun _ _ => rfl) ?_
  refine JO_read (vI 0) rfl trivial (fun _ _ => rfl) ?_
  refine JO_nil ?_
  refine JX_then ?_
  refine J_seq ?_
  refine J_block ?_
  refine J_seq ?_
  refine J_region ?_
  refine JO_read (Value.agg ((DataSet.enc a)).toArray) rfl trivial (x_loadN 0 (DataSet.enc a) rfl rfl Ty.ag23 Ty.sz23 rfl) ?_
  refine JO_call [] [] [Ent.blk b1 23 (DataSet.enc a)] rfl trivial (fun _ => x_call Ty.ca41 rfl) (fun _ h => h) (fun _ h => by cases h) (fun w hS => f41_ok a w) ?_
  rintro _ _ ⟨rfl, rfl⟩
  refine JO_read (vB (!(R26.isAlt a))) rfl trivial (fun _ _ => x_not rfl) ?_
  refine JO_read (vB (!(R26.isAlt a))) rfl trivial (fun _ _ => rfl) ?_
  refine JO_nil ?_
  refine JX_then ?_
  refine J_cond (!(R26.isAlt a)) rfl rfl (fun h2 => ?_) (fun h2 => ?_)
  · have h2 : (R26.isAlt a) = false := bnot_true h2
    refine J_seq ?_
    refine J_region ?_
    refine JO_read (vS []) rfl trivial (fun _ _ => rfl) ?_
    refine JO_read (vI 1) rfl trivial (fun _ _ => rfl) ?_
    refine JO_nil ?_
    refine JX_then ?_
    refine J_ret ?_
    refine JX_block_ret ?_
    refine JX_then_ret ?_
    first
      | have hd := R26.record_no (a := a) (k := k) (b := b) (by assumption)
      | have hd := R26.record_bad (a := a) (k := k) (b := b) (by assumption) (by omega)
      | have hd := R26.record_ok (a := a) (k := k) (b := b) (by assumption) (by omega)
    refine JX_rets [vS [], vI 1] (Value.tuple #[vS [], vI 1]) Try.results19 (fun w h => ⟨rfl, rfl, trivial⟩) rfl [] (fun _ h => h.keep [false] rfl) ⟨?_, ?_⟩
    · have e_x0 : ([] : Bytes) = ((R26.record a k b).1) := by
        first | (rw [hd]; done) | (rw [hd]; rfl)
      have e_x1 : (1 : Int) = ((R26.record a k b).2) := by
        first | (rw [hd]; done) | (rw [hd]; rfl)
      have e_all := (congr (congrArg (fun (x0 : Bytes) (x1 : Int) => Value.tuple #[vS x0, vI x1]) e_x0) e_x1)
      exact e_all
    · rfl
  · have h2 : (R26.isAlt a) = true := bnot_false h2
    have hi3 := R26.isAlt_facts h2
    refine J_seq ?_
    refine J_region ?_
    refine JO_read (vS k) rfl trivial (fun _ _ => rfl) ?_
    refine JO_read (vI ((k.length : Nat) : Int)) rfl trivial (fun _ _ => x_len_s rfl Try.underlying9) ?_
    refine JO_read (Value.pointer (some ⟨b1, 13, none⟩)) rfl trivial (fun _ _ => x_fieldAddr Ty.fi23_13 rfl rfl) ?_
    refine JO_read (vI a.AltLength) rfl trivial (x_load 0 rfl rfl Ty.sc3 rfl) ?_
    refine JO_read (vB (decide (((k.length : Nat) : Int) ≠ a.AltLength))) rfl trivial (fun _ _ => x_neq_i rfl rfl) ?_
    refine JO_read (vB (decide (((k.length : Nat) : Int) ≠ a.AltLength))) rfl trivial (fun _ _ => rfl) ?_
    refine JO_cut (X := Bool) 6 (fun z => z = ((decide (((k.length : Nat) : Int) ≠ a.AltLength)) || (decide (((b.length : Nat) : Int) ≠ a.KeyLength - a.AltLength)))) (fun z => [(1, vS k), (2, vS b), (6, vS []), (7, vI 0), (24, vB z)]) (fun _ => [Ent.blk b1 23 (DataSet.enc a)]) ?_ ?_
    · rcases Bool.eq_false_or_eq_true (decide (((k.length : Nat) : Int) ≠ a.AltLength)) with g5 | g5
      · have g5r := g5
        have g5r := of_decide_eq_true g5r
        refine JO_shun rfl ⟨_, rfl, g5⟩ ?_
        refine JO_shun rfl ⟨_, rfl, g5⟩ ?_
        refine JO_shun rfl ⟨_, rfl, g5⟩ ?_
        refine JO_shun rfl ⟨_, rfl, g5⟩ ?_
        refine JO_shun rfl ⟨_, rfl, g5⟩ ?_
        refine JO_read (vB true) rfl trivial (fun _ _ => x_pick_t rfl g5 rfl) ?_
        refine JO_nil (JX_cut (true) (by rw [g5]; simp) ⟨rfl, rfl, rfl, rfl, rfl, trivial⟩ (fun _ h => h))
      · have g5r := g5
        have g5r := of_decide_eq_false g5r
        refine JO_read (vS b) rfl ⟨_, rfl, g5⟩ (fun _ _ => rfl) ?_
        refine JO_read (vI ((b.length : Nat) : Int)) rfl ⟨_, rfl, g5⟩ (fun _ _ => x_len_s rfl Try.underlying9) ?_
        refine JO_read (Value.agg ((DataSet.enc a)).toArray) rfl ⟨_, rfl, g5⟩ (x_loadN 0 (DataSet.enc a) rfl rfl Ty.ag23 Ty.sz23 rfl) ?_
        refine JO_call [] [] [Ent.blk b1 23 (DataSet.enc a)] rfl ⟨_, rfl, g5⟩ (fun _ => x_call Ty.ca42 rfl) (fun _ h => h) (fun _ h => by cases h) (fun w hS => f42_ok a w hy_ hy_ hy_ hy_) ?_
        rintro _ _ ⟨rfl, rfl⟩
        refine JO_read (vB (decide (((b.length : Nat) : Int) ≠ a.KeyLength - a.AltLength))) rfl ⟨_, rfl, g5⟩ (fun _ _ => x_neq_i rfl rfl) ?_
        refine JO_read (vB (decide (((b.length : Nat) : Int) ≠ a.KeyLength - a.AltLength))) rfl trivial (fun _ _ => x_pick_f rfl g5 rfl) ?_
        refine JO_nil (JX_cut (decide (((b.length : Nat) : Int) ≠ a.KeyLength - a.AltLength)) (by rw [g5]; simp) ⟨rfl, rfl, rfl, rfl, rfl, trivial⟩ (fun _ h => h))
    rintro z4 rfl
    refine JO_read (vB ((decide (((k.length : Nat) : Int) ≠ a.AltLength)) || (decide (((b.length : Nat) : Int) ≠ a.KeyLength - a.AltLength)))) rfl trivial (fun _ _ => rfl) ?_
    refine JO_nil ?_
    refine JX_then ?_
    refine J_cond ((decide (((k.length : Nat) : Int) ≠ a.AltLength)) || (decide (((b.length : Nat) : Int) ≠ a.KeyLength - a.AltLength))) rfl rfl (fun h6 => ?_) (fun h6 => ?_)
    · simp only [Bool.and_eq_true, Bool.or_eq_true, Bool.and_eq_false_iff, Bool.or_eq_false_iff, Bool.not_eq_true', Bool.not_eq_false', decide_eq_true_eq, decide_eq_false_iff_not] at h6
      refine J_seq ?_
      refine J_region ?_
      refine JO_read (vS []) rfl trivial (fun _ _ => rfl) ?_
      refine JO_read (vI 2) rfl trivial (fun _ _ => rfl) ?_
      refine JO_nil ?_
      refine JX_then ?_
      refine J_ret ?_
      refine JX_block_ret ?_
      refine JX_then_ret ?_
      first
        | have hd := R26.record_no (a := a) (k := k) (b := b) (by assumption)
        | have hd := R26.record_bad (a := a) (k := k) (b := b) (by assumption) (by omega)
        | have hd := R26.record_ok (a := a) (k := k) (b := b) (by assumption) (by omega)
      refine JX_rets [vS [], vI 2] (Value.tuple #[vS [], vI 2]) Try.results19 (fun w h => ⟨rfl, rfl, trivial⟩) rfl [] (fun _ h => h.keep [false] rfl) ⟨?_, ?_⟩
      · have e_x0 : ([] : Bytes) = ((R26.record a k b).1) := by
          first | (rw [hd]; done) | (rw [hd]; rfl)
        have e_x1 : (2 : Int) = ((R26.record a k b).2) := by
          first | (rw [hd]; done) | (rw [hd]; rfl)
        have e_all := (congr (congrArg (fun (x0 : Bytes) (x1 : Int) => Value.tuple #[vS x0, vI x1]) e_x0) e_x1)
        exact e_all
      · rfl
    · have ⟨h6, h7⟩ := bor_false h6
      have h6 := of_decide_eq_false h6
      have h7 := of_decide_eq_false h7
      refine J_skip ?_
      refine JX_block ?_
      refine JX_then ?_
      refine J_seq ?_
      refine J_region ?_
      refine JO_read (vS k) rfl trivial (fun _ _ => rfl) ?_
      refine JO_read (vS b) rfl trivial (fun _ _ => rfl) ?_
      refine JO_read (vS (k ++ b)) rfl trivial (fun _ _ => x_cat_s rfl rfl (by first | omega | (simp only [List.length_append, List.length_cons, List.length_nil]; omega) | (simp; omega) | (simp_all; omega))) ?_
      refine JO_read (vS (k ++ b)) rfl trivial (fun _ _ => rfl) ?_
      refine JO_read (vI 0) rfl trivial (fun _ _ => rfl) ?_
      refine JO_nil ?_
      refine JX_then ?_
      refine J_ret ?_
      first
        | have hd := R26.record_no (a := a) (k := k) (b := b) (by assumption)
        | have hd := R26.record_bad (a := a) (k := k) (b := b) (by assumption) (by omega)
        | have hd := R26.record_ok (a := a) (k := k) (b := b) (by assumption) (by omega)
      refine JX_rets [vS (k ++ b), vI 0] (Value.tuple #[vS (k ++ b), vI 0]) Try.results19 (fun w h => ⟨rfl, rfl, trivial⟩) rfl [] (fun _ h => h.keep [false] rfl) ⟨?_, ?_⟩
      · have e_x0 : (k ++ b : Bytes) = ((R26.record a k b).1) := by
          first | (rw [hd]; done) | (rw [hd]; rfl)
        have e_x1 : (0 : Int) = ((R26.record a k b).2) := by
          first | (rw [hd]; done) | (rw [hd]; rfl)
        have e_all := (congr (congrArg (fun (x0 : Bytes) (x1 : Int) => Value.tuple #[vS x0, vI x1]) e_x0) e_x1)
        exact e_all
      · rfl

set_option maxRecDepth 20000 in
theorem f20_ok (a : DataSet) (k : Bytes) (b : Bytes) (w : World) : Calls Try.prog 20 #[Value.agg ((DataSet.enc a)).toArray, vS k, vS b] w (Gives [] w fun v L => v = Value.tuple #[vS ((R26.record a k b).1), vI ((R26.record a k b).2)] ∧ L = []) := by
  refine calls_J [] 29 Try.func20 rfl Try.ntmps20 [(0, Value.agg ((DataSet.enc a)).toArray), (1, vS k), (2, vS b)] rfl rfl (Give.nil w) ?_
  refine J_seq ?_
  refine J_region ?_
  refine JO_op rfl trivial (O_box rfl rfl fun b1 => ?_)
  refine JO_read (vS []) rfl trivial (fun _ _ => rfl) ?_
  refine JO_read (vI 0) rfl trivial (fun _ _ => rfl) ?_
  refine JO_nil ?_
  refine JX_then ?_
  refine J_seq ?_
  refine J_seq ?_
  refine J_region ?_
  refine JO_read (Value.agg ((DataSet.enc a)).toArray) rfl trivial (x_loadN 0 (DataSet.enc a) rfl rfl Ty.ag23 Ty.sz23 rfl) ?_
  refine JO_call [] [] [Ent.blk b1 23 (DataSet.enc a)] rfl trivial (fun _ => x_call Ty.ca39 rfl) (fun _ h => h) (fun _ h => by cases h) (fun w hS => f39_ok a w) ?_
  rintro _ _ ⟨rfl, rfl⟩
  refine JO_read (vB (!(R26.isAlt a))) rfl trivial (fun _ _ => x_not rfl) ?_
  refine JO_nil ?_
  refine JX_then ?_
  refine J_cond (!(R26.isAlt a)) rfl rfl (fun h2 => ?_) (fun h2 => ?_)
  · have h2 : (R26.isAlt a) = false := bnot_true h2
    refine J_seq ?_
    refine J_region ?_
    refine JO_read (vS []) rfl trivial (fun _ _ => rfl) ?_
    refine JO_read (vI 1) rfl trivial (fun _ _ => rfl) ?_
    refine JO_nil ?_
    refine JX_then ?_
    refine J_ret ?_
    refine JX_then_ret ?_
    first
      | have hd := R26.record_no (a := a) (k := k) (b := b) (by assumption)
      | have hd := R26.record_bad (a := a) (k := k) (b := b) (by assumption) (by omega)
      | have hd := R26.record_ok (a := a) (k := k) (b := b) (by assumption) (by omega)
    refine JX_rets [vS [], vI 1] (Value.tuple #[vS [], vI 1]) Try.results20 (fun w h => ⟨rfl, rfl, trivial⟩) rfl [] (fun _ h => h.keep [false] rfl) ⟨?_, ?_⟩
    · have e_x0 : ([] : Bytes) = ((R26.record a k b).1) := by
        first | (rw [hd]; done) | (rw [hd]; rfl)
      have e_x1 : (1 : Int) = ((R26.record a k b).2) := by
        first | (rw [hd]; done) | (rw [hd]; rfl)
      have e_all := (congr (congrArg (fun (x0 : Bytes) (x1 : Int) => Value.tuple #[vS x0, vI x1]) e_x0) e_x1)
      exact e_all
    · rfl
  · have h2 : (R26.isAlt a) = true := bnot_false h2
    have hi3 := R26.isAlt_facts h2
    refine J_skip ?_
    refine JX_then ?_
    refine J_seq ?_
    refine J_seq ?_
    refine J_region ?_
    refine JO_read (vS k) rfl trivial (fun _ _ => rfl) ?_
    refine JO_read (vI ((k.length : Nat) : Int)) rfl trivial (fun _ _ => x_len_s rfl Try.underlying9) ?_
    refine JO_read (Value.pointer (some ⟨b1, 13, none⟩)) rfl trivial (fun _ _ => x_fieldAddr Ty.fi23_13 rfl rfl) ?_
    refine JO_read (vI a.AltLength) rfl trivial (x_load 0 rfl rfl Ty.sc3 rfl) ?_
    refine JO_read (vB (decide (((k.length : Nat) : Int) ≠ a.AltLength))) rfl trivial (fun _ _ => x_neq_i rfl rfl) ?_
    refine JO_read (vB (decide (((k.length : Nat) : Int) ≠ a.AltLength))) rfl trivial (fun _ _ => rfl) ?_
    refine JO_cut (X := Bool) 9 (fun z => z = ((decide (((k.length : Nat) : Int) ≠ a.AltLength)) || (decide (((b.length : Nat) : Int) ≠ a.KeyLength - a.AltLength)))) (fun z => [(1, vS k), (2, vS b), (6, vS []), (7, vI 0), (25, vB z)]) (fun _ => [Ent.blk b1 23 (DataSet.enc a)]) ?_ ?_
    · rcases Bool.eq_false_or_eq_true (decide (((k.length : Nat) : Int) ≠ a.AltLength)) with g5 | g5
      · have g5r := g5
        have g5r := of_decide_eq_true g5r
        refine JO_shun rfl ⟨_, rfl, g5⟩ ?_
        refine JO_shun rfl ⟨_, rfl, g5⟩ ?_
        refine JO_shun rfl ⟨_, rfl, g5⟩ ?_
        refine JO_shun rfl ⟨_, rfl, g5⟩ ?_
        refine JO_shun rfl ⟨_, rfl, g5⟩ ?_
        refine JO_shun rfl ⟨_, rfl, g5⟩ ?_
        refine JO_shun rfl ⟨_, rfl, g5⟩ ?_
        refine JO_shun rfl ⟨_, rfl, g5⟩ ?_
        refine JO_read (vB true) rfl trivial (fun _ _ => x_pick_t rfl g5 rfl) ?_
        refine JO_nil (JX_cut (true) (by rw [g5]; simp) ⟨rfl, rfl, rfl, rfl, rfl, trivial⟩ (fun _ h => h))
      · have g5r := g5
        have g5r := of_decide_eq_false g5r
        refine JO_read (vS b) rfl ⟨_, rfl, g5⟩ (fun _ _ => rfl) ?_
        refine JO_read (vI ((b.length : Nat) : Int)) rfl ⟨_, rfl, g5⟩ (fun _ _ => x_len_s rfl Try.underlying9) ?_
        refine JO_read (Value.pointer (some ⟨b1, 6, none⟩)) rfl ⟨_, rfl, g5⟩ (fun _ _ => x_fieldAddr Ty.fi23_6 rfl rfl) ?_
        refine JO_read (vI a.KeyLength) rfl ⟨_, rfl, g5⟩ (x_load 0 rfl rfl Ty.sc3 rfl) ?_
        refine JO_read (Value.pointer (some ⟨b1, 13, none⟩)) rfl ⟨_, rfl, g5⟩ (fun _ _ => x_fieldAddr Ty.fi23_13 rfl rfl) ?_
        refine JO_read (vI a.AltLength) rfl ⟨_, rfl, g5⟩ (x_load 0 rfl rfl Ty.sc3 rfl) ?_
        refine JO_read (vI (a.KeyLength - a.AltLength)) rfl ⟨_, rfl, g5⟩ (fun _ _ => x_sub_i (a := a.KeyLength) (b := a.AltLength) rfl rfl (by omega) (by omega)) ?_
        refine JO_read (vB (decide (((b.length : Nat) : Int) ≠ a.KeyLength - a.AltLength))) rfl ⟨_, rfl, g5⟩ (fun _ _ => x_neq_i rfl rfl) ?_
        refine JO_read (vB (decide (((b.length : Nat) : Int) ≠ a.KeyLength - a.AltLength))) rfl trivial (fun _ _ => x_pick_f rfl g5 rfl) ?_
        refine JO_nil (JX_cut (decide (((b.length : Nat) : Int) ≠ a.KeyLength - a.AltLength)) (by rw [g5]; simp) ⟨rfl, rfl, rfl, rfl, rfl, trivial⟩ (fun _ h => h))
    rintro z4 rfl
    refine JO_nil ?_
    refine JX_then ?_
    refine J_cond ((decide (((k.length : Nat) : Int) ≠ a.AltLength)) || (decide (((b.length : Nat) : Int) ≠ a.KeyLength - a.AltLength))) rfl rfl (fun h6 => ?_) (fun h6 => ?_)
    · simp only [Bool.and_eq_true, Bool.or_eq_true, Bool.and_eq_false_iff, Bool.or_eq_false_iff, Bool.not_eq_true', Bool.not_eq_false', decide_eq_true_eq, decide_eq_false_iff_not] at h6
      refine J_seq ?_
      refine J_region ?_
      refine JO_read (vS []) rfl trivial (fun _ _ => rfl) ?_
      refine JO_read (vI 2) rfl trivial (fun _ _ => rfl) ?_
      refine JO_nil ?_
      refine JX_then ?_
      refine J_ret ?_
      refine JX_then_ret ?_
      first
        | have hd := R26.record_no (a := a) (k := k) (b := b) (by assumption)
        | have hd := R26.record_bad (a := a) (k := k) (b := b) (by assumption) (by omega)
        | have hd := R26.record_ok (a := a) (k := k) (b := b) (by assumption) (by omega)
      refine JX_rets [vS [], vI 2] (Value.tuple #[vS [], vI 2]) Try.results20 (fun w h => ⟨rfl, rfl, trivial⟩) rfl [] (fun _ h => h.keep [false] rfl) ⟨?_, ?_⟩
      · have e_x0 : ([] : Bytes) = ((R26.record a k b).1) := by
          first | (rw [hd]; done) | (rw [hd]; rfl)
        have e_x1 : (2 : Int) = ((R26.record a k b).2) := by
          first | (rw [hd]; done) | (rw [hd]; rfl)
        have e_all := (congr (congrArg (fun (x0 : Bytes) (x1 : Int) => Value.tuple #[vS x0, vI x1]) e_x0) e_x1)
        exact e_all
      · rfl
    · have ⟨h6, h7⟩ := bor_false h6
      have h6 := of_decide_eq_false h6
      have h7 := of_decide_eq_false h7
      refine J_skip ?_
      refine JX_then ?_
      refine J_seq ?_
      refine J_region ?_
      refine JO_read (vS k) rfl trivial (fun _ _ => rfl) ?_
      refine JO_read (vS b) rfl trivial (fun _ _ => rfl) ?_
      refine JO_read (vS (k ++ b)) rfl trivial (fun _ _ => x_cat_s rfl rfl (by first | omega | (simp only [List.length_append, List.length_cons, List.length_nil]; omega) | (simp; omega) | (simp_all; omega))) ?_
      refine JO_read (vS (k ++ b)) rfl trivial (fun _ _ => rfl) ?_
      refine JO_read (vI 0) rfl trivial (fun _ _ => rfl) ?_
      refine JO_nil ?_
      refine JX_then ?_
      refine J_ret ?_
      first
        | have hd := R26.record_no (a := a) (k := k) (b := b) (by assumption)
        | have hd := R26.record_bad (a := a) (k := k) (b := b) (by assumption) (by omega)
        | have hd := R26.record_ok (a := a) (k := k) (b := b) (by assumption) (by omega)
      refine JX_rets [vS (k ++ b), vI 0] (Value.tuple #[vS (k ++ b), vI 0]) Try.results20 (fun w h => ⟨rfl, rfl, trivial⟩) rfl [] (fun _ h => h.keep [false] rfl) ⟨?_, ?_⟩
      · have e_x0 : (k ++ b : Bytes) = ((R26.record a k b).1) := by
          first | (rw [hd]; done) | (rw [hd]; rfl)
        have e_x1 : (0 : Int) = ((R26.record a k b).2) := by
          first | (rw [hd]; done) | (rw [hd]; rfl)
        have e_all := (congr (congrArg (fun (x0 : Bytes) (x1 : Int) => Value.tuple #[vS x0, vI x1]) e_x0) e_x1)
        exact e_all
      · rfl

set_option maxRecDepth 20000 in
theorem f21_ok (a : DataSet) (r : Bytes) (w : World) : Calls Try.prog 21 #[Value.agg ((DataSet.enc a)).toArray, vS r] w (Gives [] w fun v L => v = Value.tuple #[vS ((R26.parts a r).1), vS ((R26.parts a r).2.1), vI ((R26.parts a r).2.2)] ∧ L = []) := by
  refine calls_J [] 25 Try.func21 rfl Try.ntmps21 [(0, Value.agg ((DataSet.enc a)).toArray), (1, vS r)] rfl rfl (Give.nil w) ?_
  refine J_seq ?_
  refine J_region ?_
  refine JO_op rfl trivial (O_box rfl rfl fun b1 => ?_)
  refine JO_read (vS []) rfl trivial (fun _ _ => rfl) ?_
  refine JO_read (vS []) rfl trivial (fun _ _ => rfl) ?_
  refine JO_read (vI 0) rfl trivial (fun _ _ => rfl) ?_
  refine JO_nil ?_
  refine JX_then ?_
  refine J_seq ?_
  refine J_block ?_
  refine J_seq ?_
  refine J_region ?_
  refine JO_read (Value.agg ((DataSet.enc a)).toArray) rfl trivial (x_loadN 0 (DataSet.enc a) rfl rfl Ty.ag23 Ty.sz23 rfl) ?_
  refine JO_call [] [] [Ent.blk b1 23 (DataSet.enc a)] rfl trivial (fun _ => x_call Ty.ca41 rfl) (fun _ h => h) (fun _ h => by cases h) (fun w hS => f41_ok a w) ?_
  rintro _ _ ⟨rfl, rfl⟩
  refine JO_read (vB (!(R26.isAlt a))) rfl trivial (fun _ _ => x_not rfl) ?_
  refine JO_read (vB (!(R26.isAlt a))) rfl trivial (fun _ _ => rfl) ?_
  refine JO_nil ?_
  refine JX_then ?_
  refine J_cond (!(R26.isAlt a)) rfl rfl (fun h2 => ?_) (fun h2 => ?_)
  · have h2 : (R26.isAlt a) = false := bnot_true h2
    refine J_seq ?_
    refine J_region ?_
    refine JO_read (vS []) rfl trivial (fun _ _ => rfl) ?_
    refine JO_read (vS []) rfl trivial (fun _ _ => rfl) ?_
    refine JO_read (vI 1) rfl trivial (fun _ _ => rfl) ?_
    refine JO_nil ?_
    refine JX_then ?_
    refine J_ret ?_
    refine JX_block_ret ?_
    refine JX_then_ret ?_
    first
      | have hd := R26.parts_no (a := a) (r := r) (by assumption)
      | have hd := R26.parts_bad (a := a) (r := r) (by assumption) (by omega)
      | have hd := R26.parts_ok (a := a) (r := r) (by assumption) (by omega)
    refine JX_rets [vS [], vS [], vI 1] (Value.tuple #[vS [], vS [], vI 1]) Try.results21 (fun w h => ⟨rfl, rfl, rfl, trivial⟩) rfl [] (fun _ h => h.keep [false] rfl) ⟨?_, ?_⟩
    · have e_x0 : ([] : Bytes) = ((R26.parts a r).1) := by
        first | (rw [hd]; done) | (rw [hd]; rfl)
      have e_x1 : ([] : Bytes) = ((R26.parts a r).2.1) := by
        first | (rw [hd]; done) | (rw [hd]; rfl)
      have e_x2 : (1 : Int) = ((R26.parts a r).2.2) := by
        first | (rw [hd]; done) | (rw [hd]; rfl)
      have e_all := (congr (congr (congrArg (fun (x0 : Bytes) (x1 : Bytes) (x2 : Int) => Value.tuple #[vS x0, vS x1, vI x2]) e_x0) e_x1) e_x2)
      exact e_all
    · rfl
  · have h2 : (R26.isAlt a) = true := bnot_false h2
    have hi3 := R26.isAlt_facts h2
    refine J_seq ?_
    refine J_region ?_
    refine JO_read (vS r) rfl trivial (fun _ _ => rfl) ?_
    refine JO_read (vI ((r.length : Nat) : Int)) rfl trivial (fun _ _ => x_len_s rfl Try.underlying9) ?_
    refine JO_read (Value.pointer (some ⟨b1, 6, none⟩)) rfl trivial (fun _ _ => x_fieldAddr Ty.fi23_6 rfl rfl) ?_
    refine JO_read (vI a.KeyLength) rfl trivial (x_load 0 rfl rfl Ty.sc3 rfl) ?_
    refine JO_read (vB (decide (((r.length : Nat) : Int) ≠ a.KeyLength))) rfl trivial (fun _ _ => x_neq_i rfl rfl) ?_
    refine JO_read (vB (decide (((r.length : Nat) : Int) ≠ a.KeyLength))) rfl trivial (fun _ _ => rfl) ?_
    refine JO_nil ?_
    refine JX_then ?_
    refine J_cond (decide (((r.length : Nat) : Int) ≠ a.KeyLength)) rfl rfl (fun h4 => ?_) (fun h4 => ?_)
    · have h4 := of_decide_eq_true h4
      refine J_seq ?_
      refine J_region ?_
      refine JO_read (vS []) rfl trivial (fun _ _ => rfl) ?_
      refine JO_read (vS []) rfl trivial (fun _ _ => rfl) ?_
      refine JO_read (vI 2) rfl trivial (fun _ _ => rfl) ?_
      refine JO_nil ?_
      refine JX_then ?_
      refine J_ret ?_
      refine JX_block_ret ?_
      refine JX_then_ret ?_
      first
        | have hd := R26.parts_no (a := a) (r := r) (by assumption)
        | have hd := R26.parts_bad (a := a) (r := r) (by assumption) (by omega)
        | have hd := R26.parts_ok (a := a) (r := r) (by assumption) (by omega)
      refine JX_rets [vS [], vS [], vI 2] (Value.tuple #[vS [], vS [], vI 2]) Try.results21 (fun w h => ⟨rfl, rfl, rfl, trivial⟩) rfl [] (fun _ h => h.keep [false] rfl) ⟨?_, ?_⟩
      · have e_x0 : ([] : Bytes) = ((R26.parts a r).1) := by
          first | (rw [hd]; done) | (rw [hd]; rfl)
        have e_x1 : ([] : Bytes) = ((R26.parts a r).2.1) := by
          first | (rw [hd]; done) | (rw [hd]; rfl)
        have e_x2 : (2 : Int) = ((R26.parts a r).2.2) := by
          first | (rw [hd]; done) | (rw [hd]; rfl)
        have e_all := (congr (congr (congrArg (fun (x0 : Bytes) (x1 : Bytes) (x2 : Int) => Value.tuple #[vS x0, vS x1, vI x2]) e_x0) e_x1) e_x2)
        exact e_all
      · rfl
    · have h4 := of_decide_eq_false h4
      refine J_skip ?_
      refine JX_block ?_
      refine JX_then ?_
      refine J_seq ?_
      refine J_draw [Ent.blk b1 23 (DataSet.enc a)] [] [Ent.blk b1 23 (DataSet.enc a)] 11 Ty.mixed rfl ?_
      refine JA_take 0 (vS r) rfl (by kernel_rfl) (by kernel_rfl) (by kernel_rfl) rfl (fun _ _ _ h => h) rfl trivial (fun _ _ => rfl) ?_
      refine JA_take 1 (Value.pointer (some ⟨b1, 13, none⟩)) rfl (by kernel_rfl) (by kernel_rfl) (by kernel_rfl) rfl (fun _ _ _ h => h) rfl trivial (fun _ _ => x_fieldAddr Ty.fi23_13 rfl rfl) ?_
      refine JA_take 2 (vI a.AltLength) rfl (by kernel_rfl) (by kernel_rfl) (by kernel_rfl) rfl (fun _ _ _ h => h) rfl trivial (x_load 0 rfl rfl Ty.sc3 rfl) ?_
      refine JA_take 3 (vS (sub r 0 ((a.AltLength).toNat))) rfl (by kernel_rfl) (by kernel_rfl) (by kernel_rfl) rfl (fun _ _ _ h => h) rfl trivial (fun _ _ => x_sub_s (lo := 0) (hi := (a.AltLength).toNat) rfl Try.underlying9 (.inr ⟨rfl, rfl⟩) (.inl (lo_i (by omega))) lt_ (by first | omega | (simp only [sub, List.length_drop, List.length_take]; omega) | (simp; omega) | (simp_all; omega))) ?_
      refine JA_take 4 (vS r) rfl (by kernel_rfl) (by kernel_rfl) (by kernel_rfl) rfl (fun _ _ _ h => h) rfl trivial (fun _ _ => rfl) ?_
      refine JA_take 5 (Value.pointer (some ⟨b1, 13, none⟩)) rfl (by kernel_rfl) (by kernel_rfl) (by kernel_rfl) rfl (fun _ _ _ h => h) rfl trivial (fun _ _ => x_fieldAddr Ty.fi23_13 rfl rfl) ?_
      refine JA_take 6 (vI a.AltLength) rfl (by kernel_rfl) (by kernel_rfl) (by kernel_rfl) rfl (fun _ _ _ h => h) rfl trivial (x_load 0 rfl rfl Ty.sc3 rfl) ?_
      refine JA_take 7 (vS (sub r ((a.AltLength).toNat) r.length)) rfl (by kernel_rfl) (by kernel_rfl) (by kernel_rfl) rfl (fun _ _ _ h => h) rfl trivial (fun _ _ => x_sub_s (lo := (a.AltLength).toNat) (hi := r.length) rfl Try.underlying9 (.inl (lo_i (by omega))) (.inr ⟨rfl, rfl⟩) lt_ (by first | omega | (simp only [sub, List.length_drop, List.length_take]; omega) | (simp; omega) | (simp_all; omega))) ?_
      refine JA_take 8 (vS (sub r 0 ((a.AltLength).toNat))) rfl (by kernel_rfl) (by kernel_rfl) (by kernel_rfl) rfl (fun _ _ _ h => h) rfl trivial (fun _ _ => rfl) ?_
      refine JA_take 9 (vS (sub r ((a.AltLength).toNat) r.length)) rfl (by kernel_rfl) (by kernel_rfl) (by kernel_rfl) rfl (fun _ _ _ h => h) rfl trivial (fun _ _ => rfl) ?_
      refine JA_take 10 (vI 0) rfl (by kernel_rfl) (by kernel_rfl) (by kernel_rfl) rfl (fun _ _ _ h => h) rfl trivial (fun _ _ => rfl) ?_
      refine JA_done (by kernel_rfl) (fun _ h => ⟨h, fun _ => h⟩) ?_
      refine JX_then ?_
      refine J_ret ?_
      first
        | have hd := R26.parts_no (a := a) (r := r) (by assumption)
        | have hd := R26.parts_bad (a := a) (r := r) (by assumption) (by omega)
        | have hd := R26.parts_ok (a := a) (r := r) (by assumption) (by omega)
      refine JX_rets [vS (sub r 0 ((a.AltLength).toNat)), vS (sub r ((a.AltLength).toNat) r.length), vI 0] (Value.tuple #[vS (sub r 0 ((a.AltLength).toNat)), vS (sub r ((a.AltLength).toNat) r.length), vI 0]) Try.results21 (fun w h => ⟨rfl, rfl, rfl, trivial⟩) rfl [] (fun _ h => h.keep [false] rfl) ⟨?_, ?_⟩
      · have e_x0 : (sub r 0 ((a.AltLength).toNat) : Bytes) = ((R26.parts a r).1) := by
          first | (rw [hd]; done) | (rw [hd]; rfl)
        have e_x1 : (sub r ((a.AltLength).toNat) r.length : Bytes) = ((R26.parts a r).2.1) := by
          first | (rw [hd]; done) | (rw [hd]; rfl)
        have e_x2 : (0 : Int) = ((R26.parts a r).2.2) := by
          first | (rw [hd]; done) | (rw [hd]; rfl)
        have e_all := (congr (congr (congrArg (fun (x0 : Bytes) (x1 : Bytes) (x2 : Int) => Value.tuple #[vS x0, vS x1, vI x2]) e_x0) e_x1) e_x2)
        exact e_all
      · rfl

set_option maxRecDepth 20000 in
theorem f22_ok (a : DataSet) (r : Bytes) (w : World) : Calls Try.prog 22 #[Value.agg ((DataSet.enc a)).toArray, vS r] w (Gives [] w fun v L => v = Value.tuple #[vS ((R26.parts a r).1), vS ((R26.parts a r).2.1), vI ((R26.parts a r).2.2)] ∧ L = []) := by
  refine calls_J [] 23 Try.func22 rfl Try.ntmps22 [(0, Value.agg ((DataSet.enc a)).toArray), (1, vS r)] rfl rfl (Give.nil w) ?_
  refine J_seq ?_
  refine J_region ?_
  refine JO_op rfl trivial (O_box rfl rfl fun b1 => ?_)
  refine JO_read (vS []) rfl trivial (fun _ _ => rfl) ?_
  refine JO_read (vS []) rfl trivial (fun _ _ => rfl) ?_
  refine JO_read (vI 0) rfl trivial (fun _ _ => rfl) ?_
  refine JO_nil ?_
  refine JX_then ?_
  refine J_seq ?_
  refine J_seq ?_
  refine J_region ?_
  refine JO_read (Value.agg ((DataSet.enc a)).toArray) rfl trivial (x_loadN 0 (DataSet.enc a) rfl rfl Ty.ag23 Ty.sz23 rfl) ?_
  refine JO_call [] [] [Ent.blk b1 23 (DataSet.enc a)] rfl trivial (fun _ => x_call Ty.ca39 rfl) (fun _ h => h) (fun _ h => by cases h) (fun w hS => f39_ok a w) ?_
  rintro _ _ ⟨rfl, rfl⟩
  refine JO_read (vB (!(R26.isAlt a))) rfl trivial (fun _ _ => x_not rfl) ?_
  refine JO_nil ?_
  refine JX_then ?_
  refine J_cond (!(R26.isAlt a)) rfl rfl (fun h2 => ?_) (fun h2 => ?_)
  · have h2 : (R26.isAlt a) = false := bnot_true h2
    refine J_seq ?_
    refine J_region ?_
    refine JO_read (vS []) rfl trivial (fun _ _ => rfl) ?_
    refine JO_read (vS []) rfl trivial (fun _ _ => rfl) ?_
    refine JO_read (vI 1) rfl trivial (fun _ _ => rfl) ?_
    refine JO_nil ?_
    refine JX_then ?_
    refine J_ret ?_
    refine JX_then_ret ?_
    first
      | have hd := R26.parts_no (a := a) (r := r) (by assumption)
      | have hd := R26.parts_bad (a := a) (r := r) (by assumption) (by omega)
      | have hd := R26.parts_ok (a := a) (r := r) (by assumption) (by omega)
    refine JX_rets [vS [], vS [], vI 1] (Value.tuple #[vS [], vS [], vI 1]) Try.results22 (fun w h => ⟨rfl, rfl, rfl, trivial⟩) rfl [] (fun _ h => h.keep [false] rfl) ⟨?_, ?_⟩
    · have e_x0 : ([] : Bytes) = ((R26.parts a r).1) := by
        first | (rw [hd]; done) | (rw [hd]; rfl)
      have e_x1 : ([] : Bytes) = ((R26.parts a r).2.1) := by
        first | (rw [hd]; done) | (rw [hd]; rfl)
      have e_x2 : (1 : Int) = ((R26.parts a r).2.2) := by
        first | (rw [hd]; done) | (rw [hd]; rfl)
      have e_all := (congr (congr (congrArg (fun (x0 : Bytes) (x1 : Bytes) (x2 : Int) => Value.tuple #[vS x0, vS x1, vI x2]) e_x0) e_x1) e_x2)
      exact e_all
    · rfl
  · have h2 : (R26.isAlt a) = true := bnot_false h2
    have hi3 := R26.isAlt_facts h2
    refine J_skip ?_
    refine JX_then ?_
    refine J_seq ?_
    refine J_seq ?_
    refine J_region ?_
    refine JO_read (vS r) rfl trivial (fun _ _ => rfl) ?_
    refine JO_read (vI ((r.length : Nat) : Int)) rfl trivial (fun _ _ => x_len_s rfl Try.underlying9) ?_
    refine JO_read (Value.pointer (some ⟨b1, 6, none⟩)) rfl trivial (fun _ _ => x_fieldAddr Ty.fi23_6 rfl rfl) ?_
    refine JO_read (vI a.KeyLength) rfl trivial (x_load 0 rfl rfl Ty.sc3 rfl) ?_
    refine JO_read (vB (decide (((r.length : Nat) : Int) ≠ a.KeyLength))) rfl trivial (fun _ _ => x_neq_i rfl rfl) ?_
    refine JO_nil ?_
    refine JX_then ?_
    refine J_cond (decide (((r.length : Nat) : Int) ≠ a.KeyLength)) rfl rfl (fun h4 => ?_) (fun h4 => ?_)
    · have h4 := of_decide_eq_true h4
      refine J_seq ?_
      refine J_region ?_
      refine JO_read (vS []) rfl trivial (fun _ _ => rfl) ?_
      refine JO_read (vS []) rfl trivial (fun _ _ => rfl) ?_
      refine JO_read (vI 2) rfl trivial (fun _ _ => rfl) ?_
      refine JO_nil ?_
      refine JX_then ?_
      refine J_ret ?_
      refine JX_then_ret ?_
      first
        | have hd := R26.parts_no (a := a) (r := r) (by assumption)
        | have hd := R26.parts_bad (a := a) (r := r) (by assumption) (by omega)
        | have hd := R26.parts_ok (a := a) (r := r) (by assumption) (by omega)
      refine JX_rets [vS [], vS [], vI 2] (Value.tuple #[vS [], vS [], vI 2]) Try.results22 (fun w h => ⟨rfl, rfl, rfl, trivial⟩) rfl [] (fun _ h => h.keep [false] rfl) ⟨?_, ?_⟩
      · have e_x0 : ([] : Bytes) = ((R26.parts a r).1) := by
          first | (rw [hd]; done) | (rw [hd]; rfl)
        have e_x1 : ([] : Bytes) = ((R26.parts a r).2.1) := by
          first | (rw [hd]; done) | (rw [hd]; rfl)
        have e_x2 : (2 : Int) = ((R26.parts a r).2.2) := by
          first | (rw [hd]; done) | (rw [hd]; rfl)
        have e_all := (congr (congr (congrArg (fun (x0 : Bytes) (x1 : Bytes) (x2 : Int) => Value.tuple #[vS x0, vS x1, vI x2]) e_x0) e_x1) e_x2)
        exact e_all
      · rfl
    · have h4 := of_decide_eq_false h4
      refine J_skip ?_
      refine JX_then ?_
      refine J_seq ?_
      refine J_draw [Ent.blk b1 23 (DataSet.enc a)] [] [Ent.blk b1 23 (DataSet.enc a)] 11 Ty.mixed rfl ?_
      refine JA_take 0 (vS r) rfl (by kernel_rfl) (by kernel_rfl) (by kernel_rfl) rfl (fun _ _ _ h => h) rfl trivial (fun _ _ => rfl) ?_
      refine JA_take 1 (Value.pointer (some ⟨b1, 13, none⟩)) rfl (by kernel_rfl) (by kernel_rfl) (by kernel_rfl) rfl (fun _ _ _ h => h) rfl trivial (fun _ _ => x_fieldAddr Ty.fi23_13 rfl rfl) ?_
      refine JA_take 2 (vI a.AltLength) rfl (by kernel_rfl) (by kernel_rfl) (by kernel_rfl) rfl (fun _ _ _ h => h) rfl trivial (x_load 0 rfl rfl Ty.sc3 rfl) ?_
      refine JA_take 3 (vS (sub r 0 ((a.AltLength).toNat))) rfl (by kernel_rfl) (by kernel_rfl) (by kernel_rfl) rfl (fun _ _ _ h => h) rfl trivial (fun _ _ => x_sub_s (lo := 0) (hi := (a.AltLength).toNat) rfl Try.underlying9 (.inr ⟨rfl, rfl⟩) (.inl (lo_i (by omega))) lt_ (by first | omega | (simp only [sub, List.length_drop, List.length_take]; omega) | (simp; omega) | (simp_all; omega))) ?_
      refine JA_take 4 (vS r) rfl (by kernel_rfl) (by kernel_rfl) (by kernel_rfl) rfl (fun _ _ _ h => h) rfl trivial (fun _ _ => rfl) ?_
      refine JA_take 5 (Value.pointer (some ⟨b1, 13, none⟩)) rfl (by kernel_rfl) (by kernel_rfl) (by kernel_rfl) rfl (fun _ _ _ h => h) rfl trivial (fun _ _ => x_fieldAddr Ty.fi23_13 rfl rfl) ?_
      refine JA_take 6 (vI a.AltLength) rfl (by kernel_rfl) (by kernel_rfl) (by kernel_rfl) rfl (fun _ _ _ h => h) rfl trivial (x_load 0 rfl rfl Ty.sc3 rfl) ?_
      refine JA_take 7 (vS (sub r ((a.AltLength).toNat) r.length)) rfl (by kernel_rfl) (by kernel_rfl) (by kernel_rfl) rfl (fun _ _ _ h => h) rfl trivial (fun _ _ => x_sub_s (lo := (a.AltLength).toNat) (hi := r.length) rfl Try.underlying9 (.inl (lo_i (by omega))) (.inr ⟨rfl, rfl⟩) lt_ (by first | omega | (simp only [sub, List.length_drop, List.length_take]; omega) | (simp; omega) | (simp_all; omega))) ?_
      refine JA_take 8 (vS (sub r 0 ((a.AltLength).toNat))) rfl (by kernel_rfl) (by kernel_rfl) (by kernel_rfl) rfl (fun _ _ _ h => h) rfl trivial (fun _ _ => rfl) ?_
      refine JA_take 9 (vS (sub r ((a.AltLength).toNat) r.length)) rfl (by kernel_rfl) (by kernel_rfl) (by kernel_rfl) rfl (fun _ _ _ h => h) rfl trivial (fun _ _ => rfl) ?_
      refine JA_take 10 (vI 0) rfl (by kernel_rfl) (by kernel_rfl) (by kernel_rfl) rfl (fun _ _ _ h => h) rfl trivial (fun _ _ => rfl) ?_
      refine JA_done (by kernel_rfl) (fun _ h => ⟨h, fun _ => h⟩) ?_
      refine JX_then ?_
      refine J_ret ?_
      first
        | have hd := R26.parts_no (a := a) (r := r) (by assumption)
        | have hd := R26.parts_bad (a := a) (r := r) (by assumption) (by omega)
        | have hd := R26.parts_ok (a := a) (r := r) (by assumption) (by omega)
      refine JX_rets [vS (sub r 0 ((a.AltLength).toNat)), vS (sub r ((a.AltLength).toNat) r.length), vI 0] (Value.tuple #[vS (sub r 0 ((a.AltLength).toNat)), vS (sub r ((a.AltLength).toNat) r.length), vI 0]) Try.results22 (fun w h => ⟨rfl, rfl, rfl, trivial⟩) rfl [] (fun _ h => h.keep [false] rfl) ⟨?_, ?_⟩
      · have e_x0 : (sub r 0 ((a.AltLength).toNat) : Bytes) = ((R26.parts a r).1) := by
          first | (rw [hd]; done) | (rw [hd]; rfl)
        have e_x1 : (sub r ((a.AltLength).toNat) r.length : Bytes) = ((R26.parts a r).2.1) := by
          first | (rw [hd]; done) | (rw [hd]; rfl)
        have e_x2 : (0 : Int) = ((R26.parts a r).2.2) := by
          first | (rw [hd]; done) | (rw [hd]; rfl)
        have e_all := (congr (congr (congrArg (fun (x0 : Bytes) (x1 : Bytes) (x2 : Int) => Value.tuple #[vS x0, vS x1, vI x2]) e_x0) e_x1) e_x2)
        exact e_all
      · rfl

set_option maxRecDepth 20000 in
theorem f23_ok (a : DataSet) (k : Bytes) (w : World) : Calls Try.prog 23 #[Value.agg ((DataSet.enc a)).toArray, vS k] w (Gives [] w fun v L => v = Value.tuple #[Value.agg #[vS (((R26.span a k).1).Low), vS (((R26.span a k).1).High), vB (((R26.span a k).1).End)], vI ((R26.span a k).2)] ∧ L = []) := by
  refine calls_J [] 25 Try.func23 rfl Try.ntmps23 [(0, Value.agg ((DataSet.enc a)).toArray), (1, vS k)] rfl rfl (Give.nil w) ?_
  refine J_seq ?_
  refine J_region ?_
  refine JO_op rfl trivial (O_box rfl rfl fun b1 => ?_)
  refine JO_op rfl trivial (O_alloc Ty.ze41 rfl fun b2 => ?_)
  refine JO_read (vI 0) rfl trivial (fun _ _ => rfl) ?_
  refine JO_nil ?_
  refine JX_then ?_
  refine J_seq ?_
  refine J_block ?_
  refine J_seq ?_
  refine J_region ?_
  refine JO_read (Value.agg ((DataSet.enc a)).toArray) rfl trivial (x_loadN 1 (DataSet.enc a) rfl rfl Ty.ag23 Ty.sz23 rfl) ?_
  refine JO_call [] [] [Ent.blk b2 41 [vS [], vS [], vB false], Ent.blk b1 23 (DataSet.enc a)] rfl trivial (fun _ => x_call Ty.ca41 rfl) (fun _ h => h) (fun _ h => by cases h) (fun w hS => f41_ok a w) ?_
  rintro _ _ ⟨rfl, rfl⟩
  refine JO_read (vB (!(R26.isAlt a))) rfl trivial (fun _ _ => x_not rfl) ?_
  refine JO_read (vB (!(R26.isAlt a))) rfl trivial (fun _ _ => rfl) ?_
  refine JO_nil ?_
  refine JX_then ?_
  refine J_cond (!(R26.isAlt a)) rfl rfl (fun h3 => ?_) (fun h3 => ?_)
  · have h3 : (R26.isAlt a) = false := bnot_true h3
    refine J_seq ?_
    refine J_region ?_
    refine JO_read (Value.agg #[vS [], vS [], vB false]) rfl trivial (fun _ _ => x_build (by kernel_rfl)) ?_
    refine JO_op rfl trivial (O_store 0 [vS [], vS [], vB false] [Ent.blk b2 41 [vS [], vS [], vB false], Ent.blk b1 23 (DataSet.enc a)] rfl rfl rfl Ty.sz41 rfl (Nat.le_of_ble_eq_true rfl) rfl rfl rfl ?_)
    refine JO_read (vI 1) rfl trivial (fun _ _ => rfl) ?_
    refine JO_nil ?_
    refine JX_then ?_
    refine J_ret ?_
    refine JX_block_ret ?_
    refine JX_then_ret ?_
    first
      | have hd := R26.span_no (a := a) (k := k) (by assumption)
      | have hd := R26.span_bad (a := a) (k := k) (by assumption) (by omega)
      | have hd := R26.span_ok (a := a) (k := k) (by assumption) (by omega)
    refine JX_rets [Value.agg #[vS [], vS [], vB false], vI 1] (Value.tuple #[Value.agg #[vS [], vS [], vB false], vI 1]) Try.results23 (fun w h => ⟨⟨_, rfl, load_blkN 0 [vS [], vS [], vB false] h rfl Ty.ag41 Ty.sz41 rfl⟩, rfl, trivial⟩) rfl [] (fun _ h => h.keep [false, false] rfl) ⟨?_, ?_⟩
    · have e_x0 : ([] : Bytes) = (((R26.span a k).1).Low) := by
        first | (rw [hd]; done) | (rw [hd]; rfl)
      have e_x1 : ([] : Bytes) = (((R26.span a k).1).High) := by
        first | (rw [hd]; done) | (rw [hd]; rfl)
      have e_x2 : (false : Bool) = (((R26.span a k).1).End) := by
        first | (rw [hd]; done) | (rw [hd]; rfl)
      have e_x3 : (1 : Int) = ((R26.span a k).2) := by
        first | (rw [hd]; done) | (rw [hd]; rfl)
      have e_all := (congr (congr (congr (congrArg (fun (x0 : Bytes) (x1 : Bytes) (x2 : Bool) (x3 : Int) => Value.tuple #[Value.agg #[vS x0, vS x1, vB x2], vI x3]) e_x0) e_x1) e_x2) e_x3)
      exact e_all
    · rfl
  · have h3 : (R26.isAlt a) = true := bnot_false h3
    have hi4 := R26.isAlt_facts h3
    refine J_seq ?_
    refine J_region ?_
    refine JO_read (vS k) rfl trivial (fun _ _ => rfl) ?_
    refine JO_read (vI ((k.length : Nat) : Int)) rfl trivial (fun _ _ => x_len_s rfl Try.underlying9) ?_
    refine JO_read (Value.pointer (some ⟨b1, 13, none⟩)) rfl trivial (fun _ _ => x_fieldAddr Ty.fi23_13 rfl rfl) ?_
    refine JO_read (vI a.AltLength) rfl trivial (x_load 1 rfl rfl Ty.sc3 rfl) ?_
    refine JO_read (vB (decide (((k.length : Nat) : Int) ≠ a.AltLength))) rfl trivial (fun _ _ => x_neq_i rfl rfl) ?_
    refine JO_read (vB (decide (((k.length : Nat) : Int) ≠ a.AltLength))) rfl trivial (fun _ _ => rfl) ?_
    refine JO_nil ?_
    refine JX_then ?_
    refine J_cond (decide (((k.length : Nat) : Int) ≠ a.AltLength)) rfl rfl (fun h5 => ?_) (fun h5 => ?_)
    · have h5 := of_decide_eq_true h5
      refine J_seq ?_
      refine J_region ?_
      refine JO_read (Value.agg #[vS [], vS [], vB false]) rfl trivial (fun _ _ => x_build (by kernel_rfl)) ?_
      refine JO_op rfl trivial (O_store 0 [vS [], vS [], vB false] [Ent.blk b2 41 [vS [], vS [], vB false], Ent.blk b1 23 (DataSet.enc a)] rfl rfl rfl Ty.sz41 rfl (Nat.le_of_ble_eq_true rfl) rfl rfl rfl ?_)
      refine JO_read (vI 2) rfl trivial (fun _ _ => rfl) ?_
      refine JO_nil ?_
      refine JX_then ?_
      refine J_ret ?_
      refine JX_block_ret ?_
      refine JX_then_ret ?_
      first
        | have hd := R26.span_no (a := a) (k := k) (by assumption)
        | have hd := R26.span_bad (a := a) (k := k) (by assumption) (by omega)
        | have hd := R26.span_ok (a := a) (k := k) (by assumption) (by omega)
      refine JX_rets [Value.agg #[vS [], vS [], vB false], vI 2] (Value.tuple #[Value.agg #[vS [], vS [], vB false], vI 2]) Try.results23 (fun w h => ⟨⟨_, rfl, load_blkN 0 [vS [], vS [], vB false] h rfl Ty.ag41 Ty.sz41 rfl⟩, rfl, trivial⟩) rfl [] (fun _ h => h.keep [false, false] rfl) ⟨?_, ?_⟩
      · have e_x0 : ([] : Bytes) = (((R26.span a k).1).Low) := by
          first | (rw [hd]; done) | (rw [hd]; rfl)
        have e_x1 : ([] : Bytes) = (((R26.span a k).1).High) := by
          first | (rw [hd]; done) | (rw [hd]; rfl)
        have e_x2 : (false : Bool) = (((R26.span a k).1).End) := by
          first | (rw [hd]; done) | (rw [hd]; rfl)
        have e_x3 : (2 : Int) = ((R26.span a k).2) := by
          first | (rw [hd]; done) | (rw [hd]; rfl)
        have e_all := (congr (congr (congr (congrArg (fun (x0 : Bytes) (x1 : Bytes) (x2 : Bool) (x3 : Int) => Value.tuple #[Value.agg #[vS x0, vS x1, vB x2], vI x3]) e_x0) e_x1) e_x2) e_x3)
        exact e_all
      · rfl
    · have h5 := of_decide_eq_false h5
      refine J_skip ?_
      refine JX_block ?_
      refine JX_then ?_
      refine J_seq ?_
      refine J_region ?_
      refine JO_read (vS k) rfl trivial (fun _ _ => rfl) ?_
      refine JO_read (vS k) rfl trivial (fun _ _ => rfl) ?_
      refine JO_read (Value.agg ((DataSet.enc a)).toArray) rfl trivial (x_loadN 1 (DataSet.enc a) rfl rfl Ty.ag23 Ty.sz23 rfl) ?_
      refine JO_call [] [] [Ent.blk b2 41 [vS [], vS [], vB false], Ent.blk b1 23 (DataSet.enc a)] rfl trivial (fun _ => x_call Ty.ca42 rfl) (fun _ h => h) (fun _ h => by cases h) (fun w hS => f42_ok a w hy_ hy_ hy_ hy_) ?_
      rintro _ _ ⟨rfl, rfl⟩
      refine JO_call [] [] [Ent.blk b2 41 [vS [], vS [], vB false], Ent.blk b1 23 (DataSet.enc a)] rfl trivial (fun _ => x_call Ty.ca43 rfl) (fun _ h => h) (fun _ h => by cases h) (fun w hS => repeat_spec [255] (a.KeyLength - a.AltLength) w hy_ hy_ hy_) ?_
      rintro _ _ ⟨rfl, rfl⟩
      have ha6 := rep_length [255] (a.KeyLength - a.AltLength).toNat
      try simp only [List.length_cons, List.length_nil, Nat.zero_add, Nat.reduceAdd, Nat.reduceMul] at ha6
      refine JO_read (vS (k ++ (rep [255] (a.KeyLength - a.AltLength).toNat))) rfl trivial (fun _ _ => x_cat_s rfl rfl (by first | omega | (simp only [List.length_append, List.length_cons, List.length_nil]; omega) | (simp; omega) | (simp_all; omega))) ?_
      refine JO_read (Value.agg ([vS k, vS (k ++ (rep [255] (a.KeyLength - a.AltLength).toNat)), vB false]).toArray) rfl trivial (fun _ _ => x_build (by kernel_rfl)) ?_
      refine JO_op rfl trivial (O_store 0 [vS k, vS (k ++ (rep [255] (a.KeyLength - a.AltLength).toNat)), vB false] [Ent.blk b2 41 [vS k, vS (k ++ (rep [255] (a.KeyLength - a.AltLength).toNat)), vB false], Ent.blk b1 23 (DataSet.enc a)] rfl rfl rfl Ty.sz41 rfl (Nat.le_of_ble_eq_true rfl) rfl rfl rfl ?_)
      refine JO_read (vI 0) rfl trivial (fun _ _ => rfl) ?_
      refine JO_nil ?_
      refine JX_then ?_
      refine J_ret ?_
      first
        | have hd := R26.span_no (a := a) (k := k) (by assumption)
        | have hd := R26.span_bad (a := a) (k := k) (by assumption) (by omega)
        | have hd := R26.span_ok (a := a) (k := k) (by assumption) (by omega)
      refine JX_rets [Value.agg ([vS k, vS (k ++ (rep [255] (a.KeyLength - a.AltLength).toNat)), vB false]).toArray, vI 0] (Value.tuple #[Value.agg ([vS k, vS (k ++ (rep [255] (a.KeyLength - a.AltLength).toNat)), vB false]).toArray, vI 0]) Try.results23 (fun w h => ⟨⟨_, rfl, load_blkN 0 [vS k, vS (k ++ (rep [255] (a.KeyLength - a.AltLength).toNat)), vB false] h rfl Ty.ag41 Ty.sz41 rfl⟩, rfl, trivial⟩) rfl [] (fun _ h => h.keep [false, false] rfl) ⟨?_, ?_⟩
      · have e_x0 : (k : Bytes) = (((R26.span a k).1).Low) := by
          first | (rw [hd]; done) | (rw [hd]; rfl)
        have e_x1 : (k ++ (rep [255] (a.KeyLength - a.AltLength).toNat) : Bytes) = (((R26.span a k).1).High) := by
          first | (rw [hd]; done) | (rw [hd]; rfl)
        have e_x2 : (false : Bool) = (((R26.span a k).1).End) := by
          first | (rw [hd]; done) | (rw [hd]; rfl)
        have e_x3 : (0 : Int) = ((R26.span a k).2) := by
          first | (rw [hd]; done) | (rw [hd]; rfl)
        have e_all := (congr (congr (congr (congrArg (fun (x0 : Bytes) (x1 : Bytes) (x2 : Bool) (x3 : Int) => Value.tuple #[Value.agg #[vS x0, vS x1, vB x2], vI x3]) e_x0) e_x1) e_x2) e_x3)
        exact e_all
      · rfl

set_option maxRecDepth 20000 in
theorem f24_ok (a : DataSet) (k : Bytes) (w : World) : Calls Try.prog 24 #[Value.agg ((DataSet.enc a)).toArray, vS k] w (Gives [] w fun v L => v = Value.tuple #[Value.agg #[vS (((R26.span a k).1).Low), vS (((R26.span a k).1).High), vB (((R26.span a k).1).End)], vI ((R26.span a k).2)] ∧ L = []) := by
  refine calls_J [] 28 Try.func24 rfl Try.ntmps24 [(0, Value.agg ((DataSet.enc a)).toArray), (1, vS k)] rfl rfl (Give.nil w) ?_
  refine J_seq ?_
  refine J_region ?_
  refine JO_op rfl trivial (O_box rfl rfl fun b1 => ?_)
  refine JO_op rfl trivial (O_alloc Ty.ze41 rfl fun b2 => ?_)
  refine JO_read (vI 0) rfl trivial (fun _ _ => rfl) ?_
  refine JO_nil ?_
  refine JX_then ?_
  refine J_seq ?_
  refine J_seq ?_
  refine J_region ?_
  refine JO_read (Value.agg ((DataSet.enc a)).toArray) rfl trivial (x_loadN 1 (DataSet.enc a) rfl rfl Ty.ag23 Ty.sz23 rfl) ?_
  refine JO_call [] [] [Ent.blk b2 41 [vS [], vS [], vB false], Ent.blk b1 23 (DataSet.enc a)] rfl trivial (fun _ => x_call Ty.ca39 rfl) (fun _ h => h) (fun _ h => by cases h) (fun w hS => f39_ok a w) ?_
  rintro _ _ ⟨rfl, rfl⟩
  refine JO_read (vB (!(R26.isAlt a))) rfl trivial (fun _ _ => x_not rfl) ?_
  refine JO_nil ?_
  refine JX_then ?_
  refine J_cond (!(R26.isAlt a)) rfl rfl (fun h3 => ?_) (fun h3 => ?_)
  · have h3 : (R26.isAlt a) = false := bnot_true h3
    refine J_seq ?_
    refine J_region ?_
    refine JO_read (Value.agg #[vS [], vS [], vB false]) rfl trivial (fun _ _ => x_build (by kernel_rfl)) ?_
    refine JO_op rfl trivial (O_store 0 [vS [], vS [], vB false] [Ent.blk b2 41 [vS [], vS [], vB false], Ent.blk b1 23 (DataSet.enc a)] rfl rfl rfl Ty.sz41 rfl (Nat.le_of_ble_eq_true rfl) rfl rfl rfl ?_)
    refine JO_read (vI 1) rfl trivial (fun _ _ => rfl) ?_
    refine JO_nil ?_
    refine JX_then ?_
    refine J_ret ?_
    refine JX_then_ret ?_
    first
      | have hd := R26.span_no (a := a) (k := k) (by assumption)
      | have hd := R26.span_bad (a := a) (k := k) (by assumption) (by omega)
      | have hd := R26.span_ok (a := a) (k := k) (by assumption) (by omega)
    refine JX_rets [Value.agg #[vS [], vS [], vB false], vI 1] (Value.tuple #[Value.agg #[vS [], vS [], vB false], vI 1]) Try.results24 (fun w h => ⟨⟨_, rfl, load_blkN 0 [vS [], vS [], vB false] h rfl Ty.ag41 Ty.sz41 rfl⟩, rfl, trivial⟩) rfl [] (fun _ h => h.keep [false, false] rfl) ⟨?_, ?_⟩
    · have e_x0 : ([] : Bytes) = (((R26.span a k).1).Low) := by
        first | (rw [hd]; done) | (rw [hd]; rfl) | (rw [hd, i1_0, show j = (a.KeyLength - a.AltLength).toNat by omega])
      have e_x1 : ([] : Bytes) = (((R26.span a k).1).High) := by
        first | (rw [hd]; done) | (rw [hd]; rfl) | (rw [hd, i1_0, show j = (a.KeyLength - a.AltLength).toNat by omega])
      have e_x2 : (false : Bool) = (((R26.span a k).1).End) := by
        first | (rw [hd]; done) | (rw [hd]; rfl) | (rw [hd, i1_0, show j = (a.KeyLength - a.AltLength).toNat by omega])
      have e_x3 : (1 : Int) = ((R26.span a k).2) := by
        first | (rw [hd]; done) | (rw [hd]; rfl) | (rw [hd, i1_0, show j = (a.KeyLength - a.AltLength).toNat by omega])
      have e_all := (congr (congr (congr (congrArg (fun (x0 : Bytes) (x1 : Bytes) (x2 : Bool) (x3 : Int) => Value.tuple #[Value.agg #[vS x0, vS x1, vB x2], vI x3]) e_x0) e_x1) e_x2) e_x3)
      exact e_all
    · rfl
  · have h3 : (R26.isAlt a) = true := bnot_false h3
    have hi4 := R26.isAlt_facts h3
    refine J_skip ?_
    refine JX_then ?_
    refine J_seq ?_
    refine J_seq ?_
    refine J_region ?_
    refine JO_read (vS k) rfl trivial (fun _ _ => rfl) ?_
    refine JO_read (vI ((k.length : Nat) : Int)) rfl trivial (fun _ _ => x_len_s rfl Try.underlying9) ?_
    refine JO_read (Value.pointer (some ⟨b1, 13, none⟩)) rfl trivial (fun _ _ => x_fieldAddr Ty.fi23_13 rfl rfl) ?_
    refine JO_read (vI a.AltLength) rfl trivial (x_load 1 rfl rfl Ty.sc3 rfl) ?_
    refine JO_read (vB (decide (((k.length : Nat) : Int) ≠ a.AltLength))) rfl trivial (fun _ _ => x_neq_i rfl rfl) ?_
    refine JO_nil ?_
    refine JX_then ?_
    refine J_cond (decide (((k.length : Nat) : Int) ≠ a.AltLength)) rfl rfl (fun h5 => ?_) (fun h5 => ?_)
    · have h5 := of_decide_eq_true h5
      refine J_seq ?_
      refine J_region ?_
      refine JO_read (Value.agg #[vS [], vS [], vB false]) rfl trivial (fun _ _ => x_build (by kernel_rfl)) ?_
      refine JO_op rfl trivial (O_store 0 [vS [], vS [], vB false] [Ent.blk b2 41 [vS [], vS [], vB false], Ent.blk b1 23 (DataSet.enc a)] rfl rfl rfl Ty.sz41 rfl (Nat.le_of_ble_eq_true rfl) rfl rfl rfl ?_)
      refine JO_read (vI 2) rfl trivial (fun _ _ => rfl) ?_
      refine JO_nil ?_
      refine JX_then ?_
      refine J_ret ?_
      refine JX_then_ret ?_
      first
        | have hd := R26.span_no (a := a) (k := k) (by assumption)
        | have hd := R26.span_bad (a := a) (k := k) (by assumption) (by omega)
        | have hd := R26.span_ok (a := a) (k := k) (by assumption) (by omega)
      refine JX_rets [Value.agg #[vS [], vS [], vB false], vI 2] (Value.tuple #[Value.agg #[vS [], vS [], vB false], vI 2]) Try.results24 (fun w h => ⟨⟨_, rfl, load_blkN 0 [vS [], vS [], vB false] h rfl Ty.ag41 Ty.sz41 rfl⟩, rfl, trivial⟩) rfl [] (fun _ h => h.keep [false, false] rfl) ⟨?_, ?_⟩
      · have e_x0 : ([] : Bytes) = (((R26.span a k).1).Low) := by
          first | (rw [hd]; done) | (rw [hd]; rfl) | (rw [hd, i1_0, show j = (a.KeyLength - a.AltLength).toNat by omega])
        have e_x1 : ([] : Bytes) = (((R26.span a k).1).High) := by
          first | (rw [hd]; done) | (rw [hd]; rfl) | (rw [hd, i1_0, show j = (a.KeyLength - a.AltLength).toNat by omega])
        have e_x2 : (false : Bool) = (((R26.span a k).1).End) := by
          first | (rw [hd]; done) | (rw [hd]; rfl) | (rw [hd, i1_0, show j = (a.KeyLength - a.AltLength).toNat by omega])
        have e_x3 : (2 : Int) = ((R26.span a k).2) := by
          first | (rw [hd]; done) | (rw [hd]; rfl) | (rw [hd, i1_0, show j = (a.KeyLength - a.AltLength).toNat by omega])
        have e_all := (congr (congr (congr (congrArg (fun (x0 : Bytes) (x1 : Bytes) (x2 : Bool) (x3 : Int) => Value.tuple #[Value.agg #[vS x0, vS x1, vB x2], vI x3]) e_x0) e_x1) e_x2) e_x3)
        exact e_all
      · rfl
    · have h5 := of_decide_eq_false h5
      refine J_skip ?_
      refine JX_then ?_
      refine J_seq ?_
      refine J_region ?_
      refine JO_read (vS k) rfl trivial (fun _ _ => rfl) ?_
      refine JO_read (vS k) rfl trivial (fun _ _ => rfl) ?_
      refine JO_nil ?_
      refine JX_then ?_
      refine J_seq ?_
      refine J_block ?_
      refine J_loop (X := Bytes × Nat) (fun (⟨hi, j⟩ : Bytes × Nat) => (hi = k ++ rep [255] j) ∧ ((k.length : Int) = a.AltLength) ∧ (hi.length = k.length + j) ∧ ((hi.length : Int) ≤ a.KeyLength)) (fun (⟨hi, j⟩ : Bytes × Nat) => [(1, vS k), (2, Value.pointer (some ⟨b1, 0, none⟩)), (4, Value.pointer (some ⟨b2, 0, none⟩)), (5, vI 0), (6, vS hi)]) (fun (⟨hi, j⟩ : Bytes × Nat) => [Ent.blk b2 41 [vS [], vS [], vB false], Ent.blk b1 23 (DataSet.enc a)]) (fun (⟨hi, j⟩ : Bytes × Nat) => (a.KeyLength - hi.length).toNat) ((k, 0) : Bytes × Nat) ?_ ⟨rfl, rfl, rfl, rfl, rfl, trivial⟩ (fun _ h => h) ?_
      · show (k = k ++ rep [255] 0) ∧ ((k.length : Int) = a.AltLength) ∧ (k.length = k.length + 0) ∧ ((k.length : Int) ≤ a.KeyLength)
        refine ⟨?_, ?_, ?_, ?_⟩
        · exact (List.append_nil k).symm
        · first | rfl | omega | (simp_all; done) | (simp_all; omega)
        · first | rfl | omega | (simp_all; done) | (simp_all; omega)
        · first | rfl | omega | (simp_all; done) | (simp_all; omega)
      rintro ⟨hi, j⟩ hI1
      obtain ⟨i1_0, i1_1, i1_2, i1_3⟩ : (hi = k ++ rep [255] j) ∧ ((k.length : Int) = a.AltLength) ∧ (hi.length = k.length + j) ∧ ((hi.length : Int) ≤ a.KeyLength) := hI1
      refine J_weaken (E' := [(1, vS k), (2, Value.pointer (some ⟨b1, 0, none⟩)), (4, Value.pointer (some ⟨b2, 0, none⟩)), (5, vI 0), (6, vS hi)]) (L' := [Ent.blk b2 41 [vS [], vS [], vB false], Ent.blk b1 23 (DataSet.enc a)]) ⟨rfl, rfl, rfl, rfl, rfl, trivial⟩ (fun _ h => h) ?_
      refine J_seq ?_
      refine J_seq ?_
      refine J_region ?_
      refine JO_read (vS hi) rfl trivial (fun _ _ => rfl) ?_
      refine JO_read (vI ((hi.length : Nat) : Int)) rfl trivial (fun _ _ => x_len_s rfl Try.underlying9) ?_
      refine JO_read (Value.pointer (some ⟨b1, 6, none⟩)) rfl trivial (fun _ _ => x_fieldAddr Ty.fi23_6 rfl rfl) ?_
      refine JO_read (vI a.KeyLength) rfl trivial (x_load 1 rfl rfl Ty.sc3 rfl) ?_
      refine JO_read (vB (decide (((hi.length : Nat) : Int) < a.KeyLength))) rfl trivial (fun _ _ => x_lss_i rfl rfl) ?_
      refine JO_nil ?_
      refine JX_then ?_
      refine J_cond (decide (((hi.length : Nat) : Int) < a.KeyLength)) rfl rfl (fun h6 => ?_) (fun h6 => ?_)
      · have h6 := of_decide_eq_true h6
        refine J_skip ?_
        refine JX_then ?_
        refine J_block ?_
        refine J_region ?_
        refine JO_read (vS hi) rfl trivial (fun _ _ => rfl) ?_
        refine JO_read (vS (hi ++ [255])) rfl trivial (fun _ _ => x_cat_s rfl rfl (by first | omega | (simp only [List.length_append, List.length_cons, List.length_nil]; omega) | (simp; omega) | (simp_all; omega))) ?_
        refine JO_read (vS (hi ++ [255])) rfl trivial (fun _ _ => rfl) ?_
        refine JO_nil ?_
        refine JX_block ?_
        refine JX_round ((hi ++ [255], j + 1) : Bytes × Nat) ?_ ?_ ⟨rfl, rfl, rfl, rfl, rfl, trivial⟩ (fun _ h => h)
        · show ((hi ++ [255]) = k ++ rep [255] (j + 1)) ∧ ((k.length : Int) = a.AltLength) ∧ ((hi ++ [255]).length = k.length + (j + 1)) ∧ (((hi ++ [255]).length : Int) ≤ a.KeyLength)
          refine ⟨?_, ?_, ?_, ?_⟩
          · rw [i1_0, rep_step, List.append_assoc]
          · first | rfl | omega | (simp_all; done) | (simp_all; omega)
          · rw [List.length_append, i1_2]; rfl
          · rw [List.length_append]; simp only [List.length_cons, List.length_nil]; omega
        · show (a.KeyLength - (hi ++ [255]).length).toNat < (a.KeyLength - hi.length).toNat
          rw [List.length_append]; simp only [List.length_cons, List.length_nil]; omega
      · have h6 := of_decide_eq_false h6
        refine J_exit ?_
        refine JX_then_exit ?_
        refine JX_round_exit ?_
        refine JX_block_hit ?_
        refine JX_then ?_
        refine J_seq ?_
        refine J_region ?_
        refine JO_read (vS k) rfl trivial (fun _ _ => rfl) ?_
        refine JO_read (vS hi) rfl trivial (fun _ _ => rfl) ?_
        refine JO_read (Value.agg #[vS k, vS hi, vB false]) rfl trivial (fun _ _ => x_build (by kernel_rfl)) ?_
        refine JO_op rfl trivial (O_store 0 [vS k, vS hi, vB false] [Ent.blk b2 41 [vS k, vS hi, vB false], Ent.blk b1 23 (DataSet.enc a)] rfl rfl rfl Ty.sz41 rfl (Nat.le_of_ble_eq_true rfl) rfl rfl rfl ?_)
        refine JO_read (vI 0) rfl trivial (fun _ _ => rfl) ?_
        refine JO_nil ?_
        refine JX_then ?_
        refine J_ret ?_
        first
          | have hd := R26.span_no (a := a) (k := k) (by assumption)
          | have hd := R26.span_bad (a := a) (k := k) (by assumption) (by omega)
          | have hd := R26.span_ok (a := a) (k := k) (by assumption) (by omega)
        refine JX_rets [Value.agg #[vS k, vS hi, vB false], vI 0] (Value.tuple #[Value.agg #[vS k, vS hi, vB false], vI 0]) Try.results24 (fun w h => ⟨⟨_, rfl, load_blkN 0 [vS k, vS hi, vB false] h rfl Ty.ag41 Ty.sz41 rfl⟩, rfl, trivial⟩) rfl [] (fun _ h => h.keep [false, false] rfl) ⟨?_, ?_⟩
        · have e_x0 : (k : Bytes) = (((R26.span a k).1).Low) := by
            first | (rw [hd]; done) | (rw [hd]; rfl) | (rw [hd, i1_0, show j = (a.KeyLength - a.AltLength).toNat by omega])
          have e_x1 : (hi : Bytes) = (((R26.span a k).1).High) := by
            first | (rw [hd]; done) | (rw [hd]; rfl) | (rw [hd, i1_0, show j = (a.KeyLength - a.AltLength).toNat by omega])
          have e_x2 : (false : Bool) = (((R26.span a k).1).End) := by
            first | (rw [hd]; done) | (rw [hd]; rfl) | (rw [hd, i1_0, show j = (a.KeyLength - a.AltLength).toNat by omega])
          have e_x3 : (0 : Int) = ((R26.span a k).2) := by
            first | (rw [hd]; done) | (rw [hd]; rfl) | (rw [hd, i1_0, show j = (a.KeyLength - a.AltLength).toNat by omega])
          have e_all := (congr (congr (congr (congrArg (fun (x0 : Bytes) (x1 : Bytes) (x2 : Bool) (x3 : Int) => Value.tuple #[Value.agg #[vS x0, vS x1, vB x2], vI x3]) e_x0) e_x1) e_x2) e_x3)
          exact e_all
        · rfl

set_option maxRecDepth 20000 in
theorem f25_ok (r : Range) (s : Bytes) (w : World) : Calls Try.prog 25 #[Value.agg #[vS r.Low, vS r.High, vB r.End], vS s] w (Gives [] w fun v L => v = vB (R26.inr r s) ∧ L = []) := by
  refine calls_J [] 19 Try.func25 rfl Try.ntmps25 [(0, Value.agg #[vS r.Low, vS r.High, vB r.End]), (1, vS s)] rfl rfl (Give.nil w) ?_
  refine J_seq ?_
  refine J_region ?_
  refine JO_op rfl trivial (O_box rfl rfl fun b1 => ?_)
  refine JO_read (vB false) rfl trivial (fun _ _ => rfl) ?_
  refine JO_nil ?_
  refine JX_then ?_
  refine J_seq ?_
  refine J_region ?_
  refine JO_read (vS s) rfl trivial (fun _ _ => rfl) ?_
  refine JO_read (Value.pointer (some ⟨b1, 0, none⟩)) rfl trivial (fun _ _ => x_fieldAddr Ty.fi41_0 rfl rfl) ?_
  refine JO_read (vS r.Low) rfl trivial (x_load 0 rfl rfl Ty.sc9 rfl) ?_
  refine JO_read (vB (!(Op.bytesLess s r.Low))) rfl trivial (fun _ _ => x_geq_s rfl rfl) ?_
  refine JO_read (vB (!(Op.bytesLess s r.Low))) rfl trivial (fun _ _ => rfl) ?_
  refine JO_cut (X := Bool) 9 (fun z => z = ((!(Op.bytesLess s r.Low)) && (r.End || ((Op.bytesLess s r.High) || (decide (s = r.High)))))) (fun z => [(4, vB false), (18, vB z)]) (fun _ => [Ent.blk b1 41 [vS r.Low, vS r.High, vB r.End]]) ?_ ?_
  · rcases Bool.eq_false_or_eq_true (!(Op.bytesLess s r.Low)) with g3 | g3
    · have g3r := g3
      have g3r : (Op.bytesLess s r.Low) = false := bnot_true g3r
      refine JO_read (Value.pointer (some ⟨b1, 2, none⟩)) rfl ⟨_, rfl, g3⟩ (fun _ _ => x_fieldAddr Ty.fi41_2 rfl rfl) ?_
      refine JO_read (vB r.End) rfl ⟨_, rfl, g3⟩ (x_load 0 rfl rfl Ty.sc4 rfl) ?_
      refine JO_read (vB r.End) rfl ⟨_, rfl, g3⟩ (fun _ _ => rfl) ?_
      refine JO_cut (X := Bool) 5 (fun z => z = (r.End || ((Op.bytesLess s r.High) || (decide (s = r.High))))) (fun z => [(4, vB false), (9, vB (!(Op.bytesLess s r.Low))), (17, vB z)]) (fun _ => [Ent.blk b1 41 [vS r.Low, vS r.High, vB r.End]]) ?_ ?_
      · rcases Bool.eq_false_or_eq_true (r.End) with g5 | g5
        · have g5r := g5
          refine JO_shun rfl ⟨_, rfl, g5⟩ ?_
          refine JO_shun rfl ⟨_, rfl, g5⟩ ?_
          refine JO_shun rfl ⟨_, rfl, g5⟩ ?_
          refine JO_shun rfl ⟨_, rfl, g5⟩ ?_
          refine JO_read (vB true) rfl ⟨_, rfl, g3⟩ (fun _ _ => x_pick_t rfl g5 rfl) ?_
          refine JO_nil (JX_cut (true) (by rw [g5]; simp) ⟨rfl, rfl, rfl, trivial⟩ (fun _ h => h))
        · have g5r := g5
          refine JO_read (vS s) rfl ⟨_, rfl, g5⟩ (fun _ _ => rfl) ?_
          refine JO_read (Value.pointer (some ⟨b1, 1, none⟩)) rfl ⟨_, rfl, g5⟩ (fun _ _ => x_fieldAddr Ty.fi41_1 rfl rfl) ?_
          refine JO_read (vS r.High) rfl ⟨_, rfl, g5⟩ (x_load 0 rfl rfl Ty.sc9 rfl) ?_
          refine JO_read (vB ((Op.bytesLess s r.High) || (decide (s = r.High)))) rfl ⟨_, rfl, g5⟩ (fun _ _ => x_leq_s rfl rfl) ?_
          refine JO_read (vB ((Op.bytesLess s r.High) || (decide (s = r.High)))) rfl ⟨_, rfl, g3⟩ (fun _ _ => x_pick_f rfl g5 rfl) ?_
          refine JO_nil (JX_cut ((Op.bytesLess s r.High) || (decide (s = r.High))) (by rw [g5]; simp) ⟨rfl, rfl, rfl, trivial⟩ (fun _ h => h))
      rintro z4 rfl
      refine JO_read (vB (r.End || ((Op.bytesLess s r.High) || (decide (s = r.High))))) rfl trivial (fun _ _ => x_pick_t rfl g3 rfl) ?_
      refine JO_nil (JX_cut (r.End || ((Op.bytesLess s r.High) || (decide (s = r.High)))) (by rw [g3]; simp) ⟨rfl, rfl, trivial⟩ (fun _ h => h))
    · have g3r := g3
      have g3r : (Op.bytesLess s r.Low) = true := bnot_false g3r
      refine JO_shun rfl ⟨_, rfl, g3⟩ ?_
      refine JO_shun rfl ⟨_, rfl, g3⟩ ?_
      refine JO_shun rfl ⟨_, rfl, g3⟩ ?_
      refine JO_shunU rfl ⟨_, rfl, rfl⟩ ?_
      refine JO_shunU rfl ⟨_, rfl, rfl⟩ ?_
      refine JO_shunU rfl ⟨_, rfl, rfl⟩ ?_
      refine JO_shunU rfl ⟨_, rfl, rfl⟩ ?_
      refine JO_shun rfl ⟨_, rfl, g3⟩ ?_
      refine JO_read (vB false) rfl trivial (fun _ _ => x_pick_f rfl g3 rfl) ?_
      refine JO_nil (JX_cut (false) (by rw [g3]; simp) ⟨rfl, rfl, trivial⟩ (fun _ h => h))
  rintro z2 rfl
  refine JO_read (vB ((!(Op.bytesLess s r.Low)) && (r.End || ((Op.bytesLess s r.High) || (decide (s = r.High)))))) rfl trivial (fun _ _ => rfl) ?_
  refine JO_nil ?_
  refine JX_then ?_
  refine J_ret ?_
  refine JX_rets [vB ((!(Op.bytesLess s r.Low)) && (r.End || ((Op.bytesLess s r.High) || (decide (s = r.High)))))] (vB ((!(Op.bytesLess s r.Low)) && (r.End || ((Op.bytesLess s r.High) || (decide (s = r.High)))))) Try.results25 (fun w h => ⟨rfl, trivial⟩) rfl [] (fun _ h => h.keep [false] rfl) ⟨?_, ?_⟩
  · have e_x0 : ((!(Op.bytesLess s r.Low)) && (r.End || ((Op.bytesLess s r.High) || (decide (s = r.High)))) : Bool) = (R26.inr r s) := by
      first | rfl | omega | (simp_all; done) | (simp_all; omega)
    exact congrArg (fun (x0 : Bool) => vB x0) e_x0
  · rfl

set_option maxRecDepth 20000 in
theorem f16_ok (l : List Bytes) (lA : Option Addr) (lC : Nat) (m : Int) (n : Int) (w : World) (lR : RO [] w lA (l.map vS)) (q0 : l.length ≤ 9223372036854775807) : Calls Try.prog 16 #[Value.slice lA l.length lC, vI m, vI n] w (Gives [] w fun v L => v = vB (R16.short l m n) ∧ L = []) := by
  refine calls_J [] 25 Try.func16 rfl Try.ntmps16 [(0, Value.slice lA l.length lC), (1, vI m), (2, vI n)] rfl rfl (Give.nil w) ?_
  refine J_seq ?_
  refine J_region ?_
  refine JO_read (vB false) rfl trivial (fun _ _ => rfl) ?_
  refine JO_nil ?_
  refine JX_then ?_
  refine J_seq ?_
  refine J_seq ?_
  refine J_region ?_
  refine JO_read (Value.slice lA l.length lC) rfl trivial (fun _ _ => rfl) ?_
  refine JO_read (vI ((l.length : Nat) : Int)) rfl trivial (fun _ _ => x_len_sl Try.underlying33 rfl) ?_
  refine JO_read (vI m) rfl trivial (fun _ _ => rfl) ?_
  refine JO_read (vB (decide (m < ((l.length : Nat) : Int)))) rfl trivial (fun _ _ => x_gtr_i rfl rfl) ?_
  refine JO_nil ?_
  refine JX_then ?_
  refine J_cond (decide (m < ((l.length : Nat) : Int))) rfl rfl (fun h1 => ?_) (fun h1 => ?_)
  · have h1 := of_decide_eq_true h1
    refine J_seq ?_
    refine J_region ?_
    refine JO_read (vB false) rfl trivial (fun _ _ => rfl) ?_
    refine JO_nil ?_
    refine JX_then ?_
    refine J_ret ?_
    refine JX_then_ret ?_
    refine JX_rets [vB false] (vB false) Try.results16 (fun w h => ⟨rfl, trivial⟩) rfl [] (fun _ h => h) ⟨?_, ?_⟩
    · have e_x0 : (false : Bool) = (R16.short l m n) := by
        first | exact (R16.short_long (by omega)).symm | exact (R16.short_bad (k := k) (by omega) (by omega)).symm | exact (R16.short_end (k := k) (by omega) i1_1 i1_2).symm
      exact congrArg (fun (x0 : Bool) => vB x0) e_x0
    · rfl
  · have h1 := of_decide_eq_false h1
    refine J_skip ?_
    refine JX_then ?_
    refine J_seq ?_
    refine J_seq ?_
    refine J_region ?_
    refine JO_read (vI 0) rfl trivial (fun _ _ => rfl) ?_
    refine JO_nil ?_
    refine JX_then ?_
    refine J_block ?_
    refine J_loop (X := Nat) (fun (k : Nat) => (k ≤ l.length) ∧ ((l.length : Int) ≤ m) ∧ (∀ i, i < k → ((l.getD i []).length : Int) ≤ n)) (fun (k : Nat) => [(0, Value.slice lA l.length lC), (2, vI n), (7, vI ((k : Nat) : Int))]) (fun (k : Nat) => []) (fun (k : Nat) => l.length - k) (0 : Nat) ?_ ⟨rfl, rfl, rfl, trivial⟩ (fun _ h => h) ?_
    · show (0 ≤ l.length) ∧ ((l.length : Int) ≤ m) ∧ (∀ i, i < 0 → ((l.getD i []).length : Int) ≤ n)
      refine ⟨?_, ?_, ?_⟩
      · first | rfl | omega | (simp_all; done) | (simp_all; omega)
      · first | rfl | omega | (simp_all; done) | (simp_all; omega)
      · intro i hi; omega
    intro k hI1
    obtain ⟨i1_0, i1_1, i1_2⟩ : (k ≤ l.length) ∧ ((l.length : Int) ≤ m) ∧ (∀ i, i < k → ((l.getD i []).length : Int) ≤ n) := hI1
    refine J_weaken (E' := [(0, Value.slice lA l.length lC), (2, vI n), (7, vI ((k : Nat) : Int))]) (L' := []) ⟨rfl, rfl, rfl, trivial⟩ (fun _ h => h) ?_
    refine J_seq ?_
    refine J_seq ?_
    refine J_region ?_
    refine JO_read (vI ((k : Nat) : Int)) rfl trivial (fun _ _ => rfl) ?_
    refine JO_read (Value.slice lA l.length lC) rfl trivial (fun _ _ => rfl) ?_
    refine JO_read (vI ((l.length : Nat) : Int)) rfl trivial (fun _ _ => x_len_sl Try.underlying33 rfl) ?_
    refine JO_read (vB (decide (((k : Nat) : Int) < ((l.length : Nat) : Int)))) rfl trivial (fun _ _ => x_lss_i rfl rfl) ?_
    refine JO_nil ?_
    refine JX_then ?_
    refine J_cond (decide (((k : Nat) : Int) < ((l.length : Nat) : Int))) rfl rfl (fun h2 => ?_) (fun h2 => ?_)
    · have h2 := of_decide_eq_true h2
      refine J_skip ?_
      refine JX_then ?_
      refine J_seq ?_
      refine J_block ?_
      refine J_seq ?_
      refine J_region ?_
      refine JO_read (Value.slice lA l.length lC) rfl trivial (fun _ _ => rfl) ?_
      refine JO_read (vI ((k : Nat) : Int)) rfl trivial (fun _ _ => rfl) ?_
      refine JO_read (Value.pointer (some (adr lA k))) rfl trivial (x_indexAddr_at (k := k) (off := k) (cells_ro lR) Try.underlying33 Ty.sz9 rfl rfl lt_ (by rw [List.length_map]; first | omega | (simp; omega) | (simp_all; omega) | (simp_all; done)) (Nat.mul_one _)) ?_
      refine JO_read (vS (l.getD k [])) rfl trivial (x_load_at (cells_ro lR) rfl Ty.sc9 (map_at vS l [] lt_)) ?_
      refine JO_read (vI (((l.getD k []).length : Nat) : Int)) rfl trivial (fun _ _ => x_len_s rfl Try.underlying9) ?_
      refine JO_read (vI n) rfl trivial (fun _ _ => rfl) ?_
      refine JO_read (vB (decide (n < (((l.getD k []).length : Nat) : Int)))) rfl trivial (fun _ _ => x_gtr_i rfl rfl) ?_
      refine JO_nil ?_
      refine JX_then ?_
      refine J_cond (decide (n < (((l.getD k []).length : Nat) : Int))) rfl rfl (fun h3 => ?_) (fun h3 => ?_)
      · have h3 := of_decide_eq_true h3
        refine J_seq ?_
        refine J_region ?_
        refine JO_read (vB false) rfl trivial (fun _ _ => rfl) ?_
        refine JO_nil ?_
        refine JX_then ?_
        refine J_ret ?_
        refine JX_block_ret ?_
        refine JX_then_ret ?_
        refine JX_round_ret ?_
        refine JX_block_ret ?_
        refine JX_then_ret ?_
        refine JX_rets [vB false] (vB false) Try.results16 (fun w h => ⟨rfl, trivial⟩) rfl [] (fun _ h => h) ⟨?_, ?_⟩
        · have e_x0 : (false : Bool) = (R16.short l m n) := by
            first | exact (R16.short_long (by omega)).symm | exact (R16.short_bad (k := k) (by omega) (by omega)).symm | exact (R16.short_end (k := k) (by omega) i1_1 i1_2).symm
          exact congrArg (fun (x0 : Bool) => vB x0) e_x0
        · rfl
      · have h3 := of_decide_eq_false h3
        refine J_skip ?_
        refine JX_block ?_
        refine JX_then ?_
        refine J_region ?_
        refine JO_read (vI ((k : Nat) : Int)) rfl trivial (fun _ _ => rfl) ?_
        refine JO_read (vI ((k + 1 : Nat) : Int)) rfl trivial (fun _ _ => x_add_n (a := k) (b := 1) rfl rfl (by omega)) ?_
        refine JO_read (vI ((k + 1 : Nat) : Int)) rfl trivial (fun _ _ => rfl) ?_
        refine JO_nil ?_
        refine JX_round (k + 1 : Nat) ?_ ?_ ⟨rfl, rfl, rfl, trivial⟩ (fun _ h => h)
        · show ((k + 1) ≤ l.length) ∧ ((l.length : Int) ≤ m) ∧ (∀ i, i < (k + 1) → ((l.getD i []).length : Int) ≤ n)
          refine ⟨?_, ?_, ?_⟩
          · first | rfl | omega | (simp_all; done) | (simp_all; omega)
          · first | rfl | omega | (simp_all; done) | (simp_all; omega)
          · intro i hi; by_cases hik : i = k
            · subst hik; omega
            · exact i1_2 i (by omega)
        · show l.length - (k + 1) < l.length - k
          first | omega | (simp; omega) | (simp_all; omega)
    · have h2 := of_decide_eq_false h2
      refine J_exit ?_
      refine JX_then_exit ?_
      refine JX_round_exit ?_
      refine JX_block_hit ?_
      refine JX_then ?_
      refine J_seq ?_
      refine J_region ?_
      refine JO_read (vB true) rfl trivial (fun _ _ => rfl) ?_
      refine JO_nil ?_
      refine JX_then ?_
      refine J_ret ?_
      refine JX_rets [vB true] (vB true) Try.results16 (fun w h => ⟨rfl, trivial⟩) rfl [] (fun _ h => h) ⟨?_, ?_⟩
      · have e_x0 : (true : Bool) = (R16.short l m n) := by
          first | exact (R16.short_long (by omega)).symm | exact (R16.short_bad (k := k) (by omega) (by omega)).symm | exact (R16.short_end (k := k) (by omega) i1_1 i1_2).symm
        exact congrArg (fun (x0 : Bool) => vB x0) e_x0
      · rfl

end Go.Proofs.Ytimjfpioenkbjaa
