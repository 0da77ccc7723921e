/- contracts C26d -/
import Derived.Test.YtmbinhhlfbgiaaaC26c
import Derived.Test.YtmbinhhlfbgiaaaPl26b
namespace Go.Proofs.Ytmbinhhlfbgiaaa
open Go.GV
set_option linter.unusedVariables false
set_option linter.unusedSimpArgs false
set_option maxRecDepth 20000 in
theorem f59_ok (a : DataSet) (w : World) (q0 : 0 ≤ a.AltLength) (q1 : a.AltLength ≤ 10000) (q2 : 0 ≤ a.KeyLength) (q3 : a.KeyLength ≤ 10000) : Calls Try.prog 59 #[Value.agg ((DataSet.enc a)).toArray] w (Gives [] w fun v L => v = vI (a.KeyLength - a.AltLength) ∧ L = []) := by
 refine calls_J [] 8 Try.func59 rfl Try.ntmps59 [(0, Value.agg ((DataSet.enc a)).toArray)] rfl rfl (Give.nil w) ?_
 refine J_seq (J_region ?_)
 refine JO_op rfl trivial (O_box rfl rfl fun b1 => ?_)
 refine jr_ (vI 0) ?_
 refine JO_nil (JX_then (J_seq (J_region ?_)))
 refine js_ (Value.pointer (some ⟨b1, 6, none⟩)) (x_fieldAddr Ty.fi24_6 rfl rfl) ?_
 refine JO_read (vI a.KeyLength) rfl trivial (x_load 0 rfl rfl Ty.sc3 rfl) ?_
 refine js_ (Value.pointer (some ⟨b1, 13, none⟩)) (x_fieldAddr Ty.fi24_13 rfl rfl) ?_
 refine JO_read (vI a.AltLength) rfl trivial (x_load 0 rfl rfl Ty.sc3 rfl) ?_
 refine js_ (vI (a.KeyLength - a.AltLength)) (x_sub_i (a := a.KeyLength) (b := a.AltLength) rfl rfl (by omega) (by omega)) ?_
 refine jr_ (vI (a.KeyLength - a.AltLength)) ?_
 refine JO_nil (JX_then (J_ret ?_))
 refine JX_rets [vI (a.KeyLength - a.AltLength)] (vI (a.KeyLength - a.AltLength)) Try.results59 (fun w h => ⟨rfl, trivial⟩) rfl [] (fun _ h => h.keep [false] rfl) ⟨?_, ?_⟩
 ·rfl
 ·rfl
set_option maxRecDepth 20000 in
theorem f48_ok (a : DataSet) (r : Bytes) (w : World) : Calls Try.prog 48 #[Value.agg ((DataSet.enc a)).toArray, vS r] w (Gives [] w fun v L => v = Value.tuple #[vS ((R26.key a r).1), vB ((R26.key a r).2)] ∧ L = []) := by
 refine calls_J [] 26 Try.func48 rfl Try.ntmps48 [(0, Value.agg ((DataSet.enc a)).toArray), (1, vS r)] rfl rfl (Give.nil w) ?_
 refine J_seq (J_region ?_)
 refine JO_op rfl trivial (O_box rfl rfl fun b1 => ?_)
 refine jr_ (vS []) ?_
 refine jr_ (vB false) ?_
 refine JO_nil (JX_then (J_seq (J_seq (J_region ?_))))
 refine JO_read (Value.agg ((DataSet.enc a)).toArray) rfl trivial (x_loadN 0 (DataSet.enc a) rfl rfl Ty.ag24 Ty.sz24 rfl) ?_
 refine JO_call [] [] [Ent.blk b1 24 (DataSet.enc a)] rfl trivial (fun _ => x_call Ty.ca57 rfl) (fun _ h => h) (fun _ h => by cases h) (fun w hS => f57_ok a w) ?_
 rintro _ _ ⟨rfl, rfl⟩
 refine js_ (vB (!(R26.isAlt a))) (x_not rfl) ?_
 refine jr_ (vB (!(R26.isAlt a))) ?_
 refine JO_cut 9 (fun z => z = ((!(R26.isAlt a)) || (decide (((r.length : Nat) : Int) < a.AltAt + a.AltLength)))) (fun z => [(1, vS r), (2, Value.pointer (some ⟨b1, 0, none⟩)), (4, vS []), (5, vB false), (18, vB z)]) (fun _ => [Ent.blk b1 24 (DataSet.enc a)]) ?_ ?_
 ·rcases Bool.eq_false_or_eq_true (!(R26.isAlt a)) with g3 | g3
  ·have g3r := g3
   have g3r : (R26.isAlt a) = false := bnot_true g3r
   refine sh_ g3 ?_
   refine sh_ g3 ?_
   refine sh_ g3 ?_
   refine sh_ g3 ?_
   refine sh_ g3 ?_
   refine sh_ g3 ?_
   refine sh_ g3 ?_
   refine sh_ g3 ?_
   refine js_ (vB true) (x_pick_t rfl g3 rfl) ?_
   refine JO_nil (JX_cut (true) (by rw [g3]; simp) ⟨rfl, rfl, rfl, rfl, rfl, trivial⟩ (fun _ h => h))
  ·have g3r := g3
   have g3r : (R26.isAlt a) = true := bnot_false g3r
   have hi4 := R26.isAlt_facts g3r
   refine jg_ g3 (vS r) (rfl) ?_
   refine jg_ g3 (vI ((r.length : Nat) : Int)) (x_len_s rfl Try.underlying9) ?_
   refine jg_ g3 (Value.pointer (some ⟨b1, 12, none⟩)) (x_fieldAddr Ty.fi24_12 rfl rfl) ?_
   refine JO_read (vI a.AltAt) rfl ⟨_, rfl, g3⟩ (x_load 0 rfl rfl Ty.sc3 rfl) ?_
   refine jg_ g3 (Value.pointer (some ⟨b1, 13, none⟩)) (x_fieldAddr Ty.fi24_13 rfl rfl) ?_
   refine JO_read (vI a.AltLength) rfl ⟨_, rfl, g3⟩ (x_load 0 rfl rfl Ty.sc3 rfl) ?_
   refine jg_ g3 (vI (a.AltAt + a.AltLength)) (x_add_i (a := a.AltAt) (b := a.AltLength) rfl rfl (by omega) (by omega)) ?_
   refine jg_ g3 (vB (decide (((r.length : Nat) : Int) < a.AltAt + a.AltLength))) (x_lss_i rfl rfl) ?_
   refine js_ (vB (decide (((r.length : Nat) : Int) < a.AltAt + a.AltLength))) (x_pick_f rfl g3 rfl) ?_
   refine JO_nil (JX_cut (decide (((r.length : Nat) : Int) < a.AltAt + a.AltLength)) (by rw [g3]; simp) ⟨rfl, rfl, rfl, rfl, rfl, trivial⟩ (fun _ h => h))
 rintro z2 rfl
 refine JO_nil (JX_then ?_)
 refine J_cond ((!(R26.isAlt a)) || (decide (((r.length : Nat) : Int) < a.AltAt + a.AltLength))) rfl rfl (fun h5 => ?_) (fun h5 => ?_)
 ·simp only [Bool.and_eq_true, Bool.or_eq_true, Bool.and_eq_false_iff, Bool.or_eq_false_iff, Bool.not_eq_true', Bool.not_eq_false', decide_eq_true_eq, decide_eq_false_iff_not] at h5
  refine J_seq (J_region ?_)
  refine jr_ (vS []) ?_
  refine jr_ (vB false) ?_
  refine JO_nil (JX_then (J_ret (JX_then_ret ?_)))
  first
   | have hd := R26.key_no (a := a) (r := r) (by rintro ⟨g1, g2⟩; simp only [g1, Bool.true_eq_false, false_or] at *; omega)
   | have hd := R26.key_yes (a := a) (r := r) (by assumption) (by omega)
  refine JX_rets [vS [], vB false] (Value.tuple #[vS [], vB false]) Try.results48 (fun w h => ⟨rfl, rfl, trivial⟩) rfl [] (fun _ h => h.keep [false] rfl) ⟨?_, ?_⟩
  ·have e_x0 : ([] : Bytes) = ((R26.key a r).1) := by first | (rw [hd]; done) | (rw [hd]; exact R26.sub_sub2 (by omega) (by omega) (by omega))
   have e_x1 : (false : Bool) = ((R26.key a r).2) := by first | (rw [hd]; done) | (rw [hd]; rfl)
   have e_all := (congr (congrArg (fun (x0 : Bytes) (x1 : Bool) => Value.tuple #[vS x0, vB x1]) e_x0) e_x1)
   exact e_all
  ·rfl
 ·have ⟨h5, h6⟩ := bor_false h5
  have h5 : (R26.isAlt a) = true := bnot_false h5
  have hi7 := R26.isAlt_facts h5
  have h6 := of_decide_eq_false h6
  refine J_skip (JX_then (J_seq ?_))
  refine J_draw [Ent.blk b1 24 (DataSet.enc a)] [] [Ent.blk b1 24 (DataSet.enc a)] 9 Ty.mixed rfl ?_
  refine jt_ 0 (vS r) rfl (fun _ _ => rfl) ?_
  refine jt_ 1 (Value.pointer (some ⟨b1, 12, none⟩)) rfl (fun _ _ => x_fieldAddr Ty.fi24_12 rfl rfl) ?_
  refine jt_ 2 (vI a.AltAt) rfl (x_load 0 rfl rfl Ty.sc3 rfl) ?_
  refine jt_ 3 (vS (sub r ((a.AltAt).toNat) r.length)) rfl (fun _ _ => x_sub_s (lo := (a.AltAt).toNat) (hi := r.length) rfl Try.underlying9 (.inl (lo_i (by omega))) (.inr ⟨rfl, rfl⟩) lt_ (by first | omega | (simp only [sub, List.length_drop, List.length_take]; omega) | (simp; omega) | (simp_all; omega))) ?_
  refine jt_ 4 (Value.pointer (some ⟨b1, 13, none⟩)) rfl (fun _ _ => x_fieldAddr Ty.fi24_13 rfl rfl) ?_
  refine jt_ 5 (vI a.AltLength) rfl (x_load 0 rfl rfl Ty.sc3 rfl) ?_
  refine jt_ 6 (vS (sub (sub r ((a.AltAt).toNat) r.length) 0 ((a.AltLength).toNat))) rfl (fun _ _ => x_sub_s (lo := 0) (hi := (a.AltLength).toNat) rfl Try.underlying9 (.inr ⟨rfl, rfl⟩) (.inl (lo_i (by omega))) lt_ (by first | omega | (simp only [sub, List.length_drop, List.length_take]; omega) | (simp; omega) | (simp_all; omega))) ?_
  refine jt_ 7 (vS (sub (sub r ((a.AltAt).toNat) r.length) 0 ((a.AltLength).toNat))) rfl (fun _ _ => rfl) ?_
  refine jt_ 8 (vB true) rfl (fun _ _ => rfl) ?_
  refine JA_done (by kernel_rfl) (fun _ h => ⟨h, fun _ => h⟩) ?_
  refine JX_then (J_ret ?_)
  first
   | have hd := R26.key_no (a := a) (r := r) (by rintro ⟨g1, g2⟩; simp only [g1, Bool.true_eq_false, false_or] at *; omega)
   | have hd := R26.key_yes (a := a) (r := r) (by assumption) (by omega)
  refine JX_rets [vS (sub (sub r ((a.AltAt).toNat) r.length) 0 ((a.AltLength).toNat)), vB true] (Value.tuple #[vS (sub (sub r ((a.AltAt).toNat) r.length) 0 ((a.AltLength).toNat)), vB true]) Try.results48 (fun w h => ⟨rfl, rfl, trivial⟩) rfl [] (fun _ h => h.keep [false] rfl) ⟨?_, ?_⟩
  ·have e_x0 : (sub (sub r ((a.AltAt).toNat) r.length) 0 ((a.AltLength).toNat) : Bytes) = ((R26.key a r).1) := by first | (rw [hd]; done) | (rw [hd]; exact R26.sub_sub2 (by omega) (by omega) (by omega))
   have e_x1 : (true : Bool) = ((R26.key a r).2) := by first | (rw [hd]; done) | (rw [hd]; rfl)
   have e_all := (congr (congrArg (fun (x0 : Bytes) (x1 : Bool) => Value.tuple #[vS x0, vB x1]) e_x0) e_x1)
   exact e_all
  ·rfl
set_option maxRecDepth 20000 in
theorem f17_ok (a : DataSet) (r : Bytes) (w : World) : Calls Try.prog 17 #[Value.agg ((DataSet.enc a)).toArray, vS r] w (Gives [] w fun v L => v = Value.tuple #[vS ((R26.key a r).1), vB ((R26.key a r).2)] ∧ L = []) := by
 refine calls_J [] 28 Try.func17 rfl Try.ntmps17 [(0, Value.agg ((DataSet.enc a)).toArray), (1, vS r)] rfl rfl (Give.nil w) ?_
 refine J_seq (J_region ?_)
 refine JO_op rfl trivial (O_box rfl rfl fun b1 => ?_)
 refine jr_ (vS []) ?_
 refine jr_ (vB false) ?_
 refine JO_nil (JX_then (J_seq (J_seq (J_region ?_))))
 refine JO_read (Value.agg ((DataSet.enc a)).toArray) rfl trivial (x_loadN 0 (DataSet.enc a) rfl rfl Ty.ag24 Ty.sz24 rfl) ?_
 refine JO_call [] [] [Ent.blk b1 24 (DataSet.enc a)] rfl trivial (fun _ => x_call Ty.ca39 rfl) (fun _ h => h) (fun _ h => by cases h) (fun w hS => f39_ok a w) ?_
 rintro _ _ ⟨rfl, rfl⟩
 refine js_ (vB (!(R26.isAlt a))) (x_not rfl) ?_
 refine jr_ (vB (!(R26.isAlt a))) ?_
 refine JO_cut 9 (fun z => z = ((!(R26.isAlt a)) || (decide (((r.length : Nat) : Int) < a.AltAt + a.AltLength)))) (fun z => [(1, vS r), (2, Value.pointer (some ⟨b1, 0, none⟩)), (4, vS []), (5, vB false), (18, vB z)]) (fun _ => [Ent.blk b1 24 (DataSet.enc a)]) ?_ ?_
 ·rcases Bool.eq_false_or_eq_true (!(R26.isAlt a)) with g3 | g3
  ·have g3r := g3
   have g3r : (R26.isAlt a) = false := bnot_true g3r
   refine sh_ g3 ?_
   refine sh_ g3 ?_
   refine sh_ g3 ?_
   refine sh_ g3 ?_
   refine sh_ g3 ?_
   refine sh_ g3 ?_
   refine sh_ g3 ?_
   refine sh_ g3 ?_
   refine js_ (vB true) (x_pick_t rfl g3 rfl) ?_
   refine JO_nil (JX_cut (true) (by rw [g3]; simp) ⟨rfl, rfl, rfl, rfl, rfl, trivial⟩ (fun _ h => h))
  ·have g3r := g3
   have g3r : (R26.isAlt a) = true := bnot_false g3r
   have hi4 := R26.isAlt_facts g3r
   refine jg_ g3 (vS r) (rfl) ?_
   refine jg_ g3 (vI ((r.length : Nat) : Int)) (x_len_s rfl Try.underlying9) ?_
   refine jg_ g3 (Value.pointer (some ⟨b1, 12, none⟩)) (x_fieldAddr Ty.fi24_12 rfl rfl) ?_
   refine JO_read (vI a.AltAt) rfl ⟨_, rfl, g3⟩ (x_load 0 rfl rfl Ty.sc3 rfl) ?_
   refine jg_ g3 (Value.pointer (some ⟨b1, 13, none⟩)) (x_fieldAddr Ty.fi24_13 rfl rfl) ?_
   refine JO_read (vI a.AltLength) rfl ⟨_, rfl, g3⟩ (x_load 0 rfl rfl Ty.sc3 rfl) ?_
   refine jg_ g3 (vI (a.AltAt + a.AltLength)) (x_add_i (a := a.AltAt) (b := a.AltLength) rfl rfl (by omega) (by omega)) ?_
   refine jg_ g3 (vB (decide (((r.length : Nat) : Int) < a.AltAt + a.AltLength))) (x_lss_i rfl rfl) ?_
   refine js_ (vB (decide (((r.length : Nat) : Int) < a.AltAt + a.AltLength))) (x_pick_f rfl g3 rfl) ?_
   refine JO_nil (JX_cut (decide (((r.length : Nat) : Int) < a.AltAt + a.AltLength)) (by rw [g3]; simp) ⟨rfl, rfl, rfl, rfl, rfl, trivial⟩ (fun _ h => h))
 rintro z2 rfl
 refine JO_nil (JX_then ?_)
 refine J_cond ((!(R26.isAlt a)) || (decide (((r.length : Nat) : Int) < a.AltAt + a.AltLength))) rfl rfl (fun h5 => ?_) (fun h5 => ?_)
 ·simp only [Bool.and_eq_true, Bool.or_eq_true, Bool.and_eq_false_iff, Bool.or_eq_false_iff, Bool.not_eq_true', Bool.not_eq_false', decide_eq_true_eq, decide_eq_false_iff_not] at h5
  refine J_seq (J_region ?_)
  refine jr_ (vS []) ?_
  refine jr_ (vB false) ?_
  refine JO_nil (JX_then (J_ret (JX_then_ret ?_)))
  first
   | have hd := R26.key_no (a := a) (r := r) (by rintro ⟨g1, g2⟩; simp only [g1, Bool.true_eq_false, false_or] at *; omega)
   | have hd := R26.key_yes (a := a) (r := r) (by assumption) (by omega)
  refine JX_rets [vS [], vB false] (Value.tuple #[vS [], vB false]) Try.results17 (fun w h => ⟨rfl, rfl, trivial⟩) rfl [] (fun _ h => h.keep [false] rfl) ⟨?_, ?_⟩
  ·have e_x0 : ([] : Bytes) = ((R26.key a r).1) := by first | (rw [hd]; done) | (rw [hd]; rfl)
   have e_x1 : (false : Bool) = ((R26.key a r).2) := by first | (rw [hd]; done) | (rw [hd]; rfl)
   have e_all := (congr (congrArg (fun (x0 : Bytes) (x1 : Bool) => Value.tuple #[vS x0, vB x1]) e_x0) e_x1)
   exact e_all
  ·rfl
 ·have ⟨h5, h6⟩ := bor_false h5
  have h5 : (R26.isAlt a) = true := bnot_false h5
  have hi7 := R26.isAlt_facts h5
  have h6 := of_decide_eq_false h6
  refine J_skip (JX_then (J_seq (J_region ?_)))
  refine jr_ (vS r) ?_
  refine js_ (Value.pointer (some ⟨b1, 12, none⟩)) (x_fieldAddr Ty.fi24_12 rfl rfl) ?_
  refine JO_read (vI a.AltAt) rfl trivial (x_load 0 rfl rfl Ty.sc3 rfl) ?_
  refine js_ (Value.pointer (some ⟨b1, 12, none⟩)) (x_fieldAddr Ty.fi24_12 rfl rfl) ?_
  refine JO_read (vI a.AltAt) rfl trivial (x_load 0 rfl rfl Ty.sc3 rfl) ?_
  refine js_ (Value.pointer (some ⟨b1, 13, none⟩)) (x_fieldAddr Ty.fi24_13 rfl rfl) ?_
  refine JO_read (vI a.AltLength) rfl trivial (x_load 0 rfl rfl Ty.sc3 rfl) ?_
  refine js_ (vI (a.AltAt + a.AltLength)) (x_add_i (a := a.AltAt) (b := a.AltLength) rfl rfl (by omega) (by omega)) ?_
  refine js_ (vS (sub r ((a.AltAt).toNat) ((a.AltAt + a.AltLength).toNat))) (x_sub_s (lo := (a.AltAt).toNat) (hi := (a.AltAt + a.AltLength).toNat) rfl Try.underlying9 (.inl (lo_i (by omega))) (.inl (lo_i (by omega))) lt_ (by first | omega | (simp only [sub, List.length_drop, List.length_take]; omega) | (simp; omega) | (simp_all; omega))) ?_
  refine jr_ (vS (sub r ((a.AltAt).toNat) ((a.AltAt + a.AltLength).toNat))) ?_
  refine jr_ (vB true) ?_
  refine JO_nil (JX_then (J_ret ?_))
  first
   | have hd := R26.key_no (a := a) (r := r) (by rintro ⟨g1, g2⟩; simp only [g1, Bool.true_eq_false, false_or] at *; omega)
   | have hd := R26.key_yes (a := a) (r := r) (by assumption) (by omega)
  refine JX_rets [vS (sub r ((a.AltAt).toNat) ((a.AltAt + a.AltLength).toNat)), vB true] (Value.tuple #[vS (sub r ((a.AltAt).toNat) ((a.AltAt + a.AltLength).toNat)), vB true]) Try.results17 (fun w h => ⟨rfl, rfl, trivial⟩) rfl [] (fun _ h => h.keep [false] rfl) ⟨?_, ?_⟩
  ·have e_x0 : (sub r ((a.AltAt).toNat) ((a.AltAt + a.AltLength).toNat) : Bytes) = ((R26.key a r).1) := by first | (rw [hd]; done) | (rw [hd]; rfl)
   have e_x1 : (true : Bool) = ((R26.key a r).2) := by first | (rw [hd]; done) | (rw [hd]; rfl)
   have e_all := (congr (congrArg (fun (x0 : Bytes) (x1 : Bool) => Value.tuple #[vS x0, vB x1]) e_x0) e_x1)
   exact e_all
  ·rfl
set_option maxRecDepth 20000 in
theorem f36_ok (a : DataSet) (k : Bytes) (w : World) : Calls Try.prog 36 #[Value.agg ((DataSet.enc a)).toArray, vS k] w (Gives [] w fun v L => v = Value.tuple #[Value.agg #[vS (((R26.span a k).1).Low), vS (((R26.span a k).1).High), vB (((R26.span a k).1).End)], vI ((R26.span a k).2)] ∧ L = []) := by
 refine calls_J [] 25 Try.func36 rfl Try.ntmps36 [(0, Value.agg ((DataSet.enc a)).toArray), (1, vS k)] rfl rfl (Give.nil w) ?_
 refine J_seq (J_region ?_)
 refine JO_op rfl trivial (O_box rfl rfl fun b1 => ?_)
 refine JO_op rfl trivial (O_alloc Ty.ze85 rfl fun b2 => ?_)
 refine jr_ (vI 0) ?_
 refine JO_nil (JX_then (J_seq (J_block (J_seq (J_region ?_)))))
 refine JO_read (Value.agg ((DataSet.enc a)).toArray) rfl trivial (x_loadN 1 (DataSet.enc a) rfl rfl Ty.ag24 Ty.sz24 rfl) ?_
 refine JO_call [] [] [Ent.blk b2 85 [vS [], vS [], vB false], Ent.blk b1 24 (DataSet.enc a)] rfl trivial (fun _ => x_call Ty.ca57 rfl) (fun _ h => h) (fun _ h => by cases h) (fun w hS => f57_ok a w) ?_
 rintro _ _ ⟨rfl, rfl⟩
 refine js_ (vB (!(R26.isAlt a))) (x_not rfl) ?_
 refine jr_ (vB (!(R26.isAlt a))) ?_
 refine JO_nil (JX_then ?_)
 refine J_cond (!(R26.isAlt a)) rfl rfl (fun h3 => ?_) (fun h3 => ?_)
 ·have h3 : (R26.isAlt a) = false := bnot_true h3
  refine J_seq (J_region ?_)
  refine js_ (Value.agg #[vS [], vS [], vB false]) (x_build (by kernel_rfl)) ?_
  refine JO_op rfl trivial (O_store 0 [vS [], vS [], vB false] [Ent.blk b2 85 [vS [], vS [], vB false], Ent.blk b1 24 (DataSet.enc a)] rfl rfl rfl Ty.sz85 rfl (Nat.le_of_ble_eq_true rfl) rfl rfl rfl ?_)
  refine jr_ (vI 1) ?_
  refine JO_nil (JX_then (J_ret (JX_block_ret (JX_then_ret ?_))))
  first
   | have hd := R26.span_no (a := a) (k := k) (by assumption)
   | have hd := R26.span_bad (a := a) (k := k) (by assumption) (by omega)
   | have hd := R26.span_ok (a := a) (k := k) (by assumption) (by omega)
  refine JX_rets [Value.agg #[vS [], vS [], vB false], vI 1] (Value.tuple #[Value.agg #[vS [], vS [], vB false], vI 1]) Try.results36 (fun w h => ⟨⟨_, rfl, load_blkN 0 [vS [], vS [], vB false] h rfl Ty.ag85 Ty.sz85 rfl⟩, rfl, trivial⟩) rfl [] (fun _ h => h.keep [false, false] rfl) ⟨?_, ?_⟩
  ·have e_x0 : ([] : Bytes) = (((R26.span a k).1).Low) := by first | (rw [hd]; done) | (rw [hd]; rfl)
   have e_x1 : ([] : Bytes) = (((R26.span a k).1).High) := by first | (rw [hd]; done) | (rw [hd]; rfl)
   have e_x2 : (false : Bool) = (((R26.span a k).1).End) := by first | (rw [hd]; done) | (rw [hd]; rfl)
   have e_x3 : (1 : Int) = ((R26.span a k).2) := by first | (rw [hd]; done) | (rw [hd]; rfl)
   have e_all := (congr (congr (congr (congrArg (fun (x0 : Bytes) (x1 : Bytes) (x2 : Bool) (x3 : Int) => Value.tuple #[Value.agg #[vS x0, vS x1, vB x2], vI x3]) e_x0) e_x1) e_x2) e_x3)
   exact e_all
  ·rfl
 ·have h3 : (R26.isAlt a) = true := bnot_false h3
  have hi4 := R26.isAlt_facts h3
  refine J_seq (J_region ?_)
  refine jr_ (vS k) ?_
  refine js_ (vI ((k.length : Nat) : Int)) (x_len_s rfl Try.underlying9) ?_
  refine js_ (Value.pointer (some ⟨b1, 13, none⟩)) (x_fieldAddr Ty.fi24_13 rfl rfl) ?_
  refine JO_read (vI a.AltLength) rfl trivial (x_load 1 rfl rfl Ty.sc3 rfl) ?_
  refine js_ (vB (decide (((k.length : Nat) : Int) ≠ a.AltLength))) (x_neq_i rfl rfl) ?_
  refine jr_ (vB (decide (((k.length : Nat) : Int) ≠ a.AltLength))) ?_
  refine JO_nil (JX_then ?_)
  refine J_cond (decide (((k.length : Nat) : Int) ≠ a.AltLength)) rfl rfl (fun h5 => ?_) (fun h5 => ?_)
  ·have h5 := of_decide_eq_true h5
   refine J_seq (J_region ?_)
   refine js_ (Value.agg #[vS [], vS [], vB false]) (x_build (by kernel_rfl)) ?_
   refine JO_op rfl trivial (O_store 0 [vS [], vS [], vB false] [Ent.blk b2 85 [vS [], vS [], vB false], Ent.blk b1 24 (DataSet.enc a)] rfl rfl rfl Ty.sz85 rfl (Nat.le_of_ble_eq_true rfl) rfl rfl rfl ?_)
   refine jr_ (vI 2) ?_
   refine JO_nil (JX_then (J_ret (JX_block_ret (JX_then_ret ?_))))
   first
    | have hd := R26.span_no (a := a) (k := k) (by assumption)
    | have hd := R26.span_bad (a := a) (k := k) (by assumption) (by omega)
    | have hd := R26.span_ok (a := a) (k := k) (by assumption) (by omega)
   refine JX_rets [Value.agg #[vS [], vS [], vB false], vI 2] (Value.tuple #[Value.agg #[vS [], vS [], vB false], vI 2]) Try.results36 (fun w h => ⟨⟨_, rfl, load_blkN 0 [vS [], vS [], vB false] h rfl Ty.ag85 Ty.sz85 rfl⟩, rfl, trivial⟩) rfl [] (fun _ h => h.keep [false, false] rfl) ⟨?_, ?_⟩
   ·have e_x0 : ([] : Bytes) = (((R26.span a k).1).Low) := by first | (rw [hd]; done) | (rw [hd]; rfl)
    have e_x1 : ([] : Bytes) = (((R26.span a k).1).High) := by first | (rw [hd]; done) | (rw [hd]; rfl)
    have e_x2 : (false : Bool) = (((R26.span a k).1).End) := by first | (rw [hd]; done) | (rw [hd]; rfl)
    have e_x3 : (2 : Int) = ((R26.span a k).2) := by first | (rw [hd]; done) | (rw [hd]; rfl)
    have e_all := (congr (congr (congr (congrArg (fun (x0 : Bytes) (x1 : Bytes) (x2 : Bool) (x3 : Int) => Value.tuple #[Value.agg #[vS x0, vS x1, vB x2], vI x3]) e_x0) e_x1) e_x2) e_x3)
    exact e_all
   ·rfl
  ·have h5 := of_decide_eq_false h5
   refine J_skip (JX_block (JX_then (J_seq (J_region ?_))))
   refine jr_ (vS k) ?_
   refine jr_ (vS k) ?_
   refine JO_read (Value.agg ((DataSet.enc a)).toArray) rfl trivial (x_loadN 1 (DataSet.enc a) rfl rfl Ty.ag24 Ty.sz24 rfl) ?_
   refine JO_call [] [] [Ent.blk b2 85 [vS [], vS [], vB false], Ent.blk b1 24 (DataSet.enc a)] rfl trivial (fun _ => x_call Ty.ca59 rfl) (fun _ h => h) (fun _ h => by cases h) (fun w hS => f59_ok a w hy_ hy_ hy_ hy_) ?_
   rintro _ _ ⟨rfl, rfl⟩
   refine JO_call [] [] [Ent.blk b2 85 [vS [], vS [], vB false], Ent.blk b1 24 (DataSet.enc a)] rfl trivial (fun _ => x_call Ty.ca58 rfl) (fun _ h => h) (fun _ h => by cases h) (fun w hS => repeat_spec [255] (a.KeyLength - a.AltLength) w hy_ hy_ hy_) ?_
   rintro _ _ ⟨rfl, rfl⟩
   have ha6 := rep_length [255] (a.KeyLength - a.AltLength).toNat
   try simp only [List.length_cons, List.length_nil, Nat.zero_add, Nat.reduceAdd, Nat.reduceMul] at ha6
   refine js_ (vS (k ++ (rep [255] (a.KeyLength - a.AltLength).toNat))) (x_cat_s rfl rfl (by first | omega | (simp only [List.length_append, List.length_cons, List.length_nil]; omega) | (simp; omega) | (simp_all; omega))) ?_
   refine js_ (Value.agg ([vS k, vS (k ++ (rep [255] (a.KeyLength - a.AltLength).toNat)), vB false]).toArray) (x_build (by kernel_rfl)) ?_
   refine JO_op rfl trivial (O_store 0 [vS k, vS (k ++ (rep [255] (a.KeyLength - a.AltLength).toNat)), vB false] [Ent.blk b2 85 [vS k, vS (k ++ (rep [255] (a.KeyLength - a.AltLength).toNat)), vB false], Ent.blk b1 24 (DataSet.enc a)] rfl rfl rfl Ty.sz85 rfl (Nat.le_of_ble_eq_true rfl) rfl rfl rfl ?_)
   refine jr_ (vI 0) ?_
   refine JO_nil (JX_then (J_ret ?_))
   first
    | have hd := R26.span_no (a := a) (k := k) (by assumption)
    | have hd := R26.span_bad (a := a) (k := k) (by assumption) (by omega)
    | have hd := R26.span_ok (a := a) (k := k) (by assumption) (by omega)
   refine JX_rets [Value.agg ([vS k, vS (k ++ (rep [255] (a.KeyLength - a.AltLength).toNat)), vB false]).toArray, vI 0] (Value.tuple #[Value.agg ([vS k, vS (k ++ (rep [255] (a.KeyLength - a.AltLength).toNat)), vB false]).toArray, vI 0]) Try.results36 (fun w h => ⟨⟨_, rfl, load_blkN 0 [vS k, vS (k ++ (rep [255] (a.KeyLength - a.AltLength).toNat)), vB false] h rfl Ty.ag85 Ty.sz85 rfl⟩, rfl, trivial⟩) rfl [] (fun _ h => h.keep [false, false] rfl) ⟨?_, ?_⟩
   ·have e_x0 : (k : Bytes) = (((R26.span a k).1).Low) := by first | (rw [hd]; done) | (rw [hd]; rfl)
    have e_x1 : (k ++ (rep [255] (a.KeyLength - a.AltLength).toNat) : Bytes) = (((R26.span a k).1).High) := by first | (rw [hd]; done) | (rw [hd]; rfl)
    have e_x2 : (false : Bool) = (((R26.span a k).1).End) := by first | (rw [hd]; done) | (rw [hd]; rfl)
    have e_x3 : (0 : Int) = ((R26.span a k).2) := by first | (rw [hd]; done) | (rw [hd]; rfl)
    have e_all := (congr (congr (congr (congrArg (fun (x0 : Bytes) (x1 : Bytes) (x2 : Bool) (x3 : Int) => Value.tuple #[Value.agg #[vS x0, vS x1, vB x2], vI x3]) e_x0) e_x1) e_x2) e_x3)
    exact e_all
   ·rfl
end Go.Proofs.Ytmbinhhlfbgiaaa
