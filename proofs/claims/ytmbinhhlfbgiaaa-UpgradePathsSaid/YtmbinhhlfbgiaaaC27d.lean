/- contracts C27d -/
import Derived.Test.YtmbinhhlfbgiaaaC27c
import Derived.Test.YtmbinhhlfbgiaaaGvR
namespace Go.Proofs.Ytmbinhhlfbgiaaa
open Go.GV
set_option linter.unusedVariables false
set_option linter.unusedSimpArgs false
set_option maxRecDepth 20000 in
theorem f23_ok (base : DataSet) (alts : List DataSet) (altsA : Option Addr) (altsC : Nat) (w : World) (altsR : RO [] w altsA (alts.flatMap DataSet.enc)) (q0 : alts.length ≤ 1000000) : Calls Try.prog 23 #[Value.agg ((DataSet.enc base)).toArray, Value.slice altsA alts.length altsC] w (Gives [] w fun v L => v = vB (R27.isSphere base alts) ∧ L = []) := by
 refine calls_J [] 36 Try.func23 rfl Try.ntmps23 [(0, Value.agg ((DataSet.enc base)).toArray), (1, Value.slice altsA alts.length altsC)] rfl rfl (Give.nil w) ?_
 refine J_seq (J_region ?_)
 refine JO_op rfl trivial (O_box rfl rfl fun b1 => ?_)
 refine jr_ (vB false) ?_
 refine JO_nil (JX_then (J_seq (J_region ?_)))
 refine JO_op rfl trivial (O_makeMap vI fun b2 => ?_)
 refine jr_ (Value.map (some b2)) ?_
 refine JO_nil (JX_then (J_seq (J_seq (J_region ?_))))
 refine jr_ (Value.slice altsA alts.length altsC) ?_
 refine js_ (vI ((alts.length : Nat) : Int)) (x_len_sl Try.underlying25 rfl) ?_
 refine jr_ (vI 0) ?_
 refine JO_nil (JX_then (J_block ?_))
 refine J_loop (X := Nat × (List Int)) (fun (⟨k, ids⟩ : Nat × (List Int)) => (k ≤ alts.length) ∧ (ids = (alts.take k).map (·.Id)) ∧ (R27.Sph base alts k)) (fun (⟨k, ids⟩ : Nat × (List Int)) => [(1, Value.slice altsA alts.length altsC), (2, Value.pointer (some ⟨b1, 0, none⟩)), (5, Value.map (some b2)), (9, Value.slice altsA alts.length altsC), (10, vI ((alts.length : Nat) : Int)), (11, vI ((k : Nat) : Int))]) (fun (⟨k, ids⟩ : Nat × (List Int)) => [Ent.mp vI b2 (ids.map kT), Ent.blk b1 24 (DataSet.enc base)]) (fun (⟨k, ids⟩ : Nat × (List Int)) => alts.length - k) ((0, ([] : List Int)) : Nat × (List Int)) ?_ ⟨rfl, rfl, rfl, rfl, rfl, rfl, trivial⟩ (fun _ h => h) ?_
 ·show (0 ≤ alts.length) ∧ (([] : List Int) = (alts.take 0).map (·.Id)) ∧ (R27.Sph base alts 0)
  refine ⟨?_, ?_, ?_⟩
  ·first | rfl | omega | (simp_all; done) | (simp_all; omega)
  ·rfl
  ·exact R27.sph_zero
 rintro ⟨k, ids⟩ hI1
 obtain ⟨i1_0, i1_1, i1_2⟩ : (k ≤ alts.length) ∧ (ids = (alts.take k).map (·.Id)) ∧ (R27.Sph base alts k) := hI1
 refine J_weaken (E' := [(1, Value.slice altsA alts.length altsC), (2, Value.pointer (some ⟨b1, 0, none⟩)), (5, Value.map (some b2)), (9, Value.slice altsA alts.length altsC), (10, vI ((alts.length : Nat) : Int)), (11, vI ((k : Nat) : Int))]) (L' := [Ent.mp vI b2 (ids.map kT), Ent.blk b1 24 (DataSet.enc base)]) ⟨rfl, rfl, rfl, rfl, rfl, rfl, trivial⟩ (fun _ h => h) ?_
 refine J_seq (J_region ?_)
 refine js_ (vB (decide (((k : Nat) : Int) < ((alts.length : Nat) : Int)))) (x_lss_i rfl rfl) ?_
 refine JO_nil (JX_then (J_seq ?_))
 refine J_cond (decide (((k : Nat) : Int) < ((alts.length : Nat) : Int))) rfl rfl (fun h3 => ?_) (fun h3 => ?_)
 ·have h3w := h3
  have h3 := of_decide_eq_true h3
  refine J_skip (JX_then (J_seq (J_block (J_seq (J_region ?_)))))
  refine JO_read (Value.pointer (some (adr altsA (k * 21)))) rfl trivial (x_indexAddr_at (k := k) (off := k * 21) (cells_ro altsR) Try.underlying25 Ty.sz24 rfl rfl lt_ (by rw [flat_length DataSet.enc 21 DataSet.enc_len]; first | omega | (simp; omega) | (simp_all; omega) | (simp_all; done)) rfl) ?_
  refine JO_read (Value.agg ((DataSet.enc (alts.getD k default))).toArray) rfl trivial (x_loadN_at (DataSet.enc (alts.getD k default)) (cells_ro altsR) rfl Ty.ag24 Ty.sz24 (flat_drop DataSet.enc 21 DataSet.enc_len alts default k lt_)) ?_
  refine JO_op rfl trivial (O_alloc Ty.ze24 rfl fun b4 => ?_)
  refine JO_op rfl trivial (O_storeS (vs := (DataSet.enc (alts.getD k default))) 0 (DataSet.enc (alts.getD k default)) [Ent.blk b4 24 (DataSet.enc (alts.getD k default)), Ent.mp vI b2 (ids.map kT), Ent.blk b1 24 (DataSet.enc base)] rfl rfl rfl Ty.sz24 rfl (Nat.le_of_ble_eq_true rfl) rfl (st_all rfl) rfl ?_)
  refine JO_nil (JX_then (J_seq (J_seq (J_region ?_))))
  refine jr_ (Value.map (some b2)) ?_
  refine js_ (Value.pointer (some ⟨b4, 0, none⟩)) (x_fieldAddr Ty.fi24_0 rfl rfl) ?_
  refine JO_read (vI ((alts.getD k default).Id)) rfl trivial (x_load 0 rfl rfl Ty.sc3 rfl) ?_
  refine JO_read (vB (hasK ids ((alts.getD k default).Id))) rfl trivial (x_lookup_v 1 (f := vI) (k := (alts.getD k default).Id) rfl rfl rfl Try.underlying100 (mapK_i Try.underlying3) Ty.ze4 rfl (lk_kT_v ids ((alts.getD k default).Id))) ?_
  refine jr_ (vB (hasK ids ((alts.getD k default).Id))) ?_
  refine JO_cut 5 (fun z => z = (((hasK ids ((alts.getD k default).Id))) || (!(R26.valid base (alts.getD k default))))) (fun z => [(1, Value.slice altsA alts.length altsC), (2, Value.pointer (some ⟨b1, 0, none⟩)), (5, Value.map (some b2)), (9, Value.slice altsA alts.length altsC), (10, vI ((alts.length : Nat) : Int)), (11, vI ((k : Nat) : Int)), (7, Value.pointer (some ⟨b4, 0, none⟩)), (24, vB z)]) (fun _ => [Ent.blk b4 24 (DataSet.enc (alts.getD k default)), Ent.mp vI b2 (ids.map kT), Ent.blk b1 24 (DataSet.enc base)]) ?_ ?_
  ·rcases Bool.eq_false_or_eq_true ((hasK ids ((alts.getD k default).Id))) with g6 | g6
   ·have g6r := g6
    refine sh_ g6 ?_
    refine sh_ g6 ?_
    refine sh_ g6 ?_
    refine sh_ g6 ?_
    refine js_ (vB true) (x_pick_t rfl g6 rfl) ?_
    refine JO_nil (JX_cut (true) (by rw [g6]; simp) ⟨rfl, rfl, rfl, rfl, rfl, rfl, rfl, rfl, trivial⟩ (fun _ h => h))
   ·have g6r := g6
    refine JO_read (Value.agg ((DataSet.enc base)).toArray) rfl ⟨_, rfl, g6⟩ (x_loadN 2 (DataSet.enc base) rfl rfl Ty.ag24 Ty.sz24 rfl) ?_
    refine JO_read (Value.agg ((DataSet.enc (alts.getD k default))).toArray) rfl ⟨_, rfl, g6⟩ (x_loadN 0 (DataSet.enc (alts.getD k default)) rfl rfl Ty.ag24 Ty.sz24 rfl) ?_
    refine JO_call [] [] [Ent.blk b4 24 (DataSet.enc (alts.getD k default)), Ent.mp vI b2 (ids.map kT), Ent.blk b1 24 (DataSet.enc base)] rfl ⟨_, rfl, g6⟩ (fun _ => x_call Ty.ca45 rfl) (fun _ h => h) (fun _ h => by cases h) (fun w hS => f45_ok base (alts.getD k default) w) ?_
    rintro _ _ ⟨rfl, rfl⟩
    refine jg_ g6 (vB (!(R26.valid base (alts.getD k default)))) (x_not rfl) ?_
    refine js_ (vB (!(R26.valid base (alts.getD k default)))) (x_pick_f rfl g6 rfl) ?_
    refine JO_nil (JX_cut (!(R26.valid base (alts.getD k default))) (by rw [g6]; simp) ⟨rfl, rfl, rfl, rfl, rfl, rfl, rfl, rfl, trivial⟩ (fun _ h => h))
  rintro z5 rfl
  refine JO_nil (JX_then ?_)
  refine J_cond (((hasK ids ((alts.getD k default).Id))) || (!(R26.valid base (alts.getD k default)))) rfl rfl (fun h7 => ?_) (fun h7 => ?_)
  ·have h7w := h7
   simp only [Bool.and_eq_true, Bool.or_eq_true, Bool.and_eq_false_iff, Bool.or_eq_false_iff, Bool.not_eq_true', Bool.not_eq_false', decide_eq_true_eq, decide_eq_false_iff_not] at h7
   refine J_seq (J_region ?_)
   refine jr_ (vB false) ?_
   refine JO_nil (JX_then (J_ret (JX_then_ret (JX_block_ret (JX_then_ret ?_)))))
   refine JX_round_ret (JX_block_ret (JX_then_ret ?_))
   first
    | have hd := R27.sph_or (k := k) (base := base) (by omega) i1_1 (by assumption)
    | have hd := R27.sph_all i1_2 i1_0 (by assumption)
   refine JX_rets [vB false] (vB false) Try.results23 (fun w h => ⟨rfl, trivial⟩) rfl [] (fun _ h => h.keep [false, false, false] rfl) ⟨?_, ?_⟩
   ·have e_x0 : (false : Bool) = (R27.isSphere base alts) := by rw [hd]
    exact congrArg (fun (x0 : Bool) => vB x0) e_x0
   ·rfl
  ·have h7w := h7
   have ⟨h7, h8⟩ := bor_false h7
   have h8 : (R26.valid base (alts.getD k default)) = true := bnot_false h8
   have hi9 := R26.valid_facts h8
   refine J_skip (JX_then (J_region ?_))
   refine jr_ (Value.map (some b2)) ?_
   refine js_ (Value.pointer (some ⟨b4, 0, none⟩)) (x_fieldAddr Ty.fi24_0 rfl rfl) ?_
   refine JO_read (vI ((alts.getD k default).Id)) rfl trivial (x_load 0 rfl rfl Ty.sc3 rfl) ?_
   refine JO_op rfl trivial (O_mapUpdate 1 (f := vI) (k := (alts.getD k default).Id) ((addK ids ((alts.getD k default).Id)).map kT) [Ent.blk b4 24 (DataSet.enc (alts.getD k default)), Ent.mp vI b2 ((addK ids ((alts.getD k default).Id)).map kT), Ent.blk b1 24 (DataSet.enc base)] rfl rfl rfl rfl Try.underlying100 (mapK_i Try.underlying3) (upd_kT ids ((alts.getD k default).Id)) rfl ?_)
   refine JO_nil (JX_block (JX_then (J_region ?_)))
   refine js_ (vI ((k + 1 : Nat) : Int)) (x_add_n (a := k) (b := 1) rfl rfl (by omega)) ?_
   refine jr_ (vI ((k + 1 : Nat) : Int)) ?_
   refine JO_nil ?_
   refine JX_round ((k + 1, (addK ids ((alts.getD k default).Id))) : Nat × (List Int)) ?_ ?_ ⟨rfl, rfl, rfl, rfl, rfl, rfl, trivial⟩ (fun _ h => h.keep [false, true, true] rfl)
   ·show ((k + 1) ≤ alts.length) ∧ ((addK ids ((alts.getD k default).Id)) = (alts.take (k + 1)).map (·.Id)) ∧ (R27.Sph base alts (k + 1))
    refine ⟨?_, ?_, ?_⟩
    ·first | rfl | omega | (simp_all; done) | (simp_all; omega)
    ·rw [R27.take_ids (by omega), i1_1]; exact addK_new (by rw [← i1_1]; exact hasK_not (R27.orf1 (by assumption)))
    ·exact R27.sph_step (by omega) i1_2 (by rw [← i1_1]; exact hasK_not (R27.orf1 (by assumption))) (R27.orf2 (by assumption))
   ·show alts.length - (k + 1) < alts.length - k
    first | omega | (simp; omega) | (simp_all; omega)
 ·have h3w := h3
  have h3 := of_decide_eq_false h3
  refine J_exit (JX_then_exit (JX_round_exit (JX_block_hit (JX_then (J_seq ?_)))))
  refine J_region ?_
  refine JO_read (Value.agg ((DataSet.enc base)).toArray) rfl trivial (x_loadN 1 (DataSet.enc base) rfl rfl Ty.ag24 Ty.sz24 rfl) ?_
  refine JO_call [] [] [Ent.mp vI b2 (ids.map kT), Ent.blk b1 24 (DataSet.enc base)] rfl trivial (fun _ => x_call Ty.ca46 rfl) (fun _ h => h) (fun _ h => by cases h) (fun w hS => f46_ok base w) ?_
  rintro _ _ ⟨rfl, rfl⟩
  refine jr_ (vB (R27.isBase base)) ?_
  refine JO_cut 4 (fun z => z = ((R27.isBase base) && (decide (((alts.length : Nat) : Int) ≤ 4)))) (fun z => [(35, vB z)]) (fun _ => [Ent.mp vI b2 (ids.map kT), Ent.blk b1 24 (DataSet.enc base)]) ?_ ?_
  ·rcases Bool.eq_false_or_eq_true (R27.isBase base) with g11 | g11
   ·have g11r := g11
    refine jg_ g11 (Value.slice altsA alts.length altsC) (rfl) ?_
    refine jg_ g11 (vI ((alts.length : Nat) : Int)) (x_len_sl Try.underlying25 rfl) ?_
    refine jg_ g11 (vB (decide (((alts.length : Nat) : Int) ≤ 4))) (x_leq_i rfl rfl) ?_
    refine js_ (vB (decide (((alts.length : Nat) : Int) ≤ 4))) (x_pick_t rfl g11 rfl) ?_
    refine JO_nil (JX_cut (decide (((alts.length : Nat) : Int) ≤ 4)) (by rw [g11]; simp) ⟨rfl, trivial⟩ (fun _ h => h))
   ·have g11r := g11
    refine sh_ g11 ?_
    refine sh_ g11 ?_
    refine sh_ g11 ?_
    refine js_ (vB false) (x_pick_f rfl g11 rfl) ?_
    refine JO_nil (JX_cut (false) (by rw [g11]; simp) ⟨rfl, trivial⟩ (fun _ h => h))
  rintro z10 rfl
  refine jr_ (vB ((R27.isBase base) && (decide (((alts.length : Nat) : Int) ≤ 4)))) ?_
  refine JO_nil (JX_then (J_ret ?_))
  first
   | have hd := R27.sph_or (k := k) (base := base) (by omega) i1_1 (by assumption)
   | have hd := R27.sph_all i1_2 i1_0 (by assumption)
  refine JX_rets [vB ((R27.isBase base) && (decide (((alts.length : Nat) : Int) ≤ 4)))] (vB ((R27.isBase base) && (decide (((alts.length : Nat) : Int) ≤ 4)))) Try.results23 (fun w h => ⟨rfl, trivial⟩) rfl [] (fun _ h => h.keep [false, false] rfl) ⟨?_, ?_⟩
  ·have e_x0 : ((R27.isBase base) && (decide (((alts.length : Nat) : Int) ≤ 4)) : Bool) = (R27.isSphere base alts) := by rw [hd]
   exact congrArg (fun (x0 : Bool) => vB x0) e_x0
  ·rfl
set_option maxRecDepth 20000 in
theorem f30_ok (base : DataSet) (alts : List DataSet) (altsA : Option Addr) (altsC : Nat) (w : World) (altsR : RO [] w altsA (alts.flatMap DataSet.enc)) (q0 : alts.length ≤ 9223372036854775807) : Calls Try.prog 30 #[Value.agg ((DataSet.enc base)).toArray, Value.slice altsA alts.length altsC] w (Gives [] w fun v L => v = vB (R27.isSphere base alts) ∧ L = []) := by
 refine calls_J [] 59 Try.func30 rfl Try.ntmps30 [(0, Value.agg ((DataSet.enc base)).toArray), (1, Value.slice altsA alts.length altsC)] rfl rfl (Give.nil w) ?_
 refine J_seq (J_region ?_)
 refine JO_op rfl trivial (O_box rfl rfl fun b1 => ?_)
 refine jr_ (vB false) ?_
 refine JO_nil (JX_then (J_seq (J_seq (J_region ?_))))
 refine JO_read (Value.agg ((DataSet.enc base)).toArray) rfl trivial (x_loadN 0 (DataSet.enc base) rfl rfl Ty.ag24 Ty.sz24 rfl) ?_
 refine JO_call [] [] [Ent.blk b1 24 (DataSet.enc base)] rfl trivial (fun _ => x_call Ty.ca49 rfl) (fun _ h => h) (fun _ h => by cases h) (fun w hS => f49_ok base w) ?_
 rintro _ _ ⟨rfl, rfl⟩
 refine js_ (vB (!(R16.valid base))) (x_not rfl) ?_
 refine jr_ (vB (!(R16.valid base))) ?_
 refine JO_cut 4 (fun z => z = ((!(R16.valid base)) || (decide (base.Id < 1)))) (fun z => [(1, Value.slice altsA alts.length altsC), (2, Value.pointer (some ⟨b1, 0, none⟩)), (4, vB false), (14, vB z)]) (fun _ => [Ent.blk b1 24 (DataSet.enc base)]) ?_ ?_
 ·rcases Bool.eq_false_or_eq_true (!(R16.valid base)) with g3 | g3
  ·have g3r := g3
   have g3r : (R16.valid base) = false := bnot_true g3r
   refine sh_ g3 ?_
   refine sh_ g3 ?_
   refine sh_ g3 ?_
   refine js_ (vB true) (x_pick_t rfl g3 rfl) ?_
   refine JO_nil (JX_cut (true) (by rw [g3]; simp) ⟨rfl, rfl, rfl, rfl, trivial⟩ (fun _ h => h))
  ·have g3r := g3
   have g3r : (R16.valid base) = true := bnot_false g3r
   have hi4 := R16.valid_facts g3r
   refine jg_ g3 (Value.pointer (some ⟨b1, 0, none⟩)) (x_fieldAddr Ty.fi24_0 rfl rfl) ?_
   refine JO_read (vI base.Id) rfl ⟨_, rfl, g3⟩ (x_load 0 rfl rfl Ty.sc3 rfl) ?_
   refine jg_ g3 (vB (decide (base.Id < 1))) (x_lss_i rfl rfl) ?_
   refine js_ (vB (decide (base.Id < 1))) (x_pick_f rfl g3 rfl) ?_
   refine JO_nil (JX_cut (decide (base.Id < 1)) (by rw [g3]; simp) ⟨rfl, rfl, rfl, rfl, trivial⟩ (fun _ h => h))
 rintro z2 rfl
 refine jr_ (vB ((!(R16.valid base)) || (decide (base.Id < 1)))) ?_
 refine JO_cut 4 (fun z => z = (((!(R16.valid base)) || (decide (base.Id < 1))) || (decide ((1099511627776 : Int) < base.Id)))) (fun z => [(1, Value.slice altsA alts.length altsC), (2, Value.pointer (some ⟨b1, 0, none⟩)), (4, vB false), (19, vB z)]) (fun _ => [Ent.blk b1 24 (DataSet.enc base)]) ?_ ?_
 ·rcases Bool.eq_false_or_eq_true ((!(R16.valid base)) || (decide (base.Id < 1))) with g6 | g6
  ·have g6r := g6
   simp only [Bool.and_eq_true, Bool.or_eq_true, Bool.and_eq_false_iff, Bool.or_eq_false_iff, Bool.not_eq_true', Bool.not_eq_false', decide_eq_true_eq, decide_eq_false_iff_not] at g6r
   refine sh_ g6 ?_
   refine sh_ g6 ?_
   refine sh_ g6 ?_
   refine js_ (vB true) (x_pick_t rfl g6 rfl) ?_
   refine JO_nil (JX_cut (true) (by rw [g6]; simp) ⟨rfl, rfl, rfl, rfl, trivial⟩ (fun _ h => h))
  ·have g6r := g6
   have ⟨g6r, h7⟩ := bor_false g6r
   have g6r : (R16.valid base) = true := bnot_false g6r
   have hi8 := R16.valid_facts g6r
   have h7 := of_decide_eq_false h7
   refine jg_ g6 (Value.pointer (some ⟨b1, 0, none⟩)) (x_fieldAddr Ty.fi24_0 rfl rfl) ?_
   refine JO_read (vI base.Id) rfl ⟨_, rfl, g6⟩ (x_load 0 rfl rfl Ty.sc3 rfl) ?_
   refine jg_ g6 (vB (decide ((1099511627776 : Int) < base.Id))) (x_gtr_i rfl rfl) ?_
   refine js_ (vB (decide ((1099511627776 : Int) < base.Id))) (x_pick_f rfl g6 rfl) ?_
   refine JO_nil (JX_cut (decide ((1099511627776 : Int) < base.Id)) (by rw [g6]; simp) ⟨rfl, rfl, rfl, rfl, trivial⟩ (fun _ h => h))
 rintro z5 rfl
 refine jr_ (vB (((!(R16.valid base)) || (decide (base.Id < 1))) || (decide ((1099511627776 : Int) < base.Id)))) ?_
 refine JO_cut 4 (fun z => z = ((((!(R16.valid base)) || (decide (base.Id < 1))) || (decide ((1099511627776 : Int) < base.Id))) || (decide (base.Base ≠ 0)))) (fun z => [(1, Value.slice altsA alts.length altsC), (2, Value.pointer (some ⟨b1, 0, none⟩)), (4, vB false), (24, vB z)]) (fun _ => [Ent.blk b1 24 (DataSet.enc base)]) ?_ ?_
 ·rcases Bool.eq_false_or_eq_true (((!(R16.valid base)) || (decide (base.Id < 1))) || (decide ((1099511627776 : Int) < base.Id))) with g10 | g10
  ·have g10r := g10
   simp only [Bool.and_eq_true, Bool.or_eq_true, Bool.and_eq_false_iff, Bool.or_eq_false_iff, Bool.not_eq_true', Bool.not_eq_false', decide_eq_true_eq, decide_eq_false_iff_not] at g10r
   refine sh_ g10 ?_
   refine sh_ g10 ?_
   refine sh_ g10 ?_
   refine js_ (vB true) (x_pick_t rfl g10 rfl) ?_
   refine JO_nil (JX_cut (true) (by rw [g10]; simp) ⟨rfl, rfl, rfl, rfl, trivial⟩ (fun _ h => h))
  ·have g10r := g10
   have ⟨g10r, h11⟩ := bor_false g10r
   have ⟨g10r, h12⟩ := bor_false g10r
   have g10r : (R16.valid base) = true := bnot_false g10r
   have hi13 := R16.valid_facts g10r
   have h12 := of_decide_eq_false h12
   have h11 := of_decide_eq_false h11
   refine jg_ g10 (Value.pointer (some ⟨b1, 11, none⟩)) (x_fieldAddr Ty.fi24_11 rfl rfl) ?_
   refine JO_read (vI base.Base) rfl ⟨_, rfl, g10⟩ (x_load 0 rfl rfl Ty.sc3 rfl) ?_
   refine jg_ g10 (vB (decide (base.Base ≠ 0))) (x_neq_i rfl rfl) ?_
   refine js_ (vB (decide (base.Base ≠ 0))) (x_pick_f rfl g10 rfl) ?_
   refine JO_nil (JX_cut (decide (base.Base ≠ 0)) (by rw [g10]; simp) ⟨rfl, rfl, rfl, rfl, trivial⟩ (fun _ h => h))
 rintro z9 rfl
 refine jr_ (vB ((((!(R16.valid base)) || (decide (base.Id < 1))) || (decide ((1099511627776 : Int) < base.Id))) || (decide (base.Base ≠ 0)))) ?_
 refine JO_cut 4 (fun z => z = (((((!(R16.valid base)) || (decide (base.Id < 1))) || (decide ((1099511627776 : Int) < base.Id))) || (decide (base.Base ≠ 0))) || (decide ((4 : Int) < ((alts.length : Nat) : Int))))) (fun z => [(1, Value.slice altsA alts.length altsC), (2, Value.pointer (some ⟨b1, 0, none⟩)), (4, vB false), (29, vB z)]) (fun _ => [Ent.blk b1 24 (DataSet.enc base)]) ?_ ?_
 ·rcases Bool.eq_false_or_eq_true ((((!(R16.valid base)) || (decide (base.Id < 1))) || (decide ((1099511627776 : Int) < base.Id))) || (decide (base.Base ≠ 0))) with g15 | g15
  ·have g15r := g15
   simp only [Bool.and_eq_true, Bool.or_eq_true, Bool.and_eq_false_iff, Bool.or_eq_false_iff, Bool.not_eq_true', Bool.not_eq_false', decide_eq_true_eq, decide_eq_false_iff_not] at g15r
   refine sh_ g15 ?_
   refine sh_ g15 ?_
   refine sh_ g15 ?_
   refine js_ (vB true) (x_pick_t rfl g15 rfl) ?_
   refine JO_nil (JX_cut (true) (by rw [g15]; simp) ⟨rfl, rfl, rfl, rfl, trivial⟩ (fun _ h => h))
  ·have g15r := g15
   have ⟨g15r, h16⟩ := bor_false g15r
   have ⟨g15r, h17⟩ := bor_false g15r
   have ⟨g15r, h18⟩ := bor_false g15r
   have g15r : (R16.valid base) = true := bnot_false g15r
   have hi19 := R16.valid_facts g15r
   have h18 := of_decide_eq_false h18
   have h17 := of_decide_eq_false h17
   have h16 := of_decide_eq_false h16
   refine jg_ g15 (Value.slice altsA alts.length altsC) (rfl) ?_
   refine jg_ g15 (vI ((alts.length : Nat) : Int)) (x_len_sl Try.underlying25 rfl) ?_
   refine jg_ g15 (vB (decide ((4 : Int) < ((alts.length : Nat) : Int)))) (x_gtr_i rfl rfl) ?_
   refine js_ (vB (decide ((4 : Int) < ((alts.length : Nat) : Int)))) (x_pick_f rfl g15 rfl) ?_
   refine JO_nil (JX_cut (decide ((4 : Int) < ((alts.length : Nat) : Int))) (by rw [g15]; simp) ⟨rfl, rfl, rfl, rfl, trivial⟩ (fun _ h => h))
 rintro z14 rfl
 refine JO_nil (JX_then ?_)
 refine J_cond (((((!(R16.valid base)) || (decide (base.Id < 1))) || (decide ((1099511627776 : Int) < base.Id))) || (decide (base.Base ≠ 0))) || (decide ((4 : Int) < ((alts.length : Nat) : Int)))) rfl rfl (fun h20 => ?_) (fun h20 => ?_)
 ·have h20w := h20
  simp only [Bool.and_eq_true, Bool.or_eq_true, Bool.and_eq_false_iff, Bool.or_eq_false_iff, Bool.not_eq_true', Bool.not_eq_false', decide_eq_true_eq, decide_eq_false_iff_not] at h20
  refine J_seq (J_region ?_)
  refine jr_ (vB false) ?_
  refine JO_nil (JX_then (J_ret (JX_then_ret ?_)))
  first
   | have hd := R27.sph_base (base := base) (alts := alts) (by assumption)
   | have hd := R27.sph_valid (k := k) (base := base) (alts := alts) (by omega) (R27.not_t (by assumption))
   | have hd := R27.sph_twice (k := k) (base := base) (alts := alts) (by omega) (R27.ids_at (i := j) (by omega) (by omega) (by assumption))
   | have hd := (R27.sph_all i1_1 i1_0 (by assumption)).trans i1_2
  refine JX_rets [vB false] (vB false) Try.results30 (fun w h => ⟨rfl, trivial⟩) rfl [] (fun _ h => h.keep [false] rfl) ⟨?_, ?_⟩
  ·have e_x0 : (false : Bool) = (R27.isSphere base alts) := by rw [hd]
   exact congrArg (fun (x0 : Bool) => vB x0) e_x0
  ·rfl
 ·have h20w := h20
  have ⟨h20, h21⟩ := bor_false h20
  have ⟨h20, h22⟩ := bor_false h20
  have ⟨h20, h23⟩ := bor_false h20
  have ⟨h20, h24⟩ := bor_false h20
  have h20 : (R16.valid base) = true := bnot_false h20
  have hi25 := R16.valid_facts h20
  have h24 := of_decide_eq_false h24
  have h23 := of_decide_eq_false h23
  have h22 := of_decide_eq_false h22
  have h21 := of_decide_eq_false h21
  refine J_skip (JX_then (J_seq (J_seq (J_region ?_))))
  refine jr_ (vI 0) ?_
  refine JO_nil (JX_then (J_block ?_))
  refine J_loop (X := Nat) (fun (k : Nat) => (k ≤ alts.length) ∧ (R27.Sph base alts k) ∧ ((R27.isBase base && decide (((alts.length : Nat) : Int) ≤ 4)) = true)) (fun (k : Nat) => [(1, Value.slice altsA alts.length altsC), (2, Value.pointer (some ⟨b1, 0, none⟩)), (5, vI ((k : Nat) : Int))]) (fun (k : Nat) => [Ent.blk b1 24 (DataSet.enc base)]) (fun (k : Nat) => alts.length - k) (0 : Nat) ?_ ⟨rfl, rfl, rfl, trivial⟩ (fun _ h => h) ?_
  ·show (0 ≤ alts.length) ∧ (R27.Sph base alts 0) ∧ ((R27.isBase base && decide (((alts.length : Nat) : Int) ≤ 4)) = true)
   refine ⟨?_, ?_, ?_⟩
   ·first | rfl | omega | (simp_all; done) | (simp_all; omega)
   ·exact R27.sph_zero
   ·exact R27.sph_good (by assumption)
  intro k hI1
  obtain ⟨i1_0, i1_1, i1_2⟩ : (k ≤ alts.length) ∧ (R27.Sph base alts k) ∧ ((R27.isBase base && decide (((alts.length : Nat) : Int) ≤ 4)) = true) := hI1
  refine J_weaken (E' := [(1, Value.slice altsA alts.length altsC), (2, Value.pointer (some ⟨b1, 0, none⟩)), (5, vI ((k : Nat) : Int))]) (L' := [Ent.blk b1 24 (DataSet.enc base)]) ⟨rfl, rfl, rfl, trivial⟩ (fun _ h => h) ?_
  refine J_seq (J_seq (J_region ?_))
  refine jr_ (vI ((k : Nat) : Int)) ?_
  refine jr_ (Value.slice altsA alts.length altsC) ?_
  refine js_ (vI ((alts.length : Nat) : Int)) (x_len_sl Try.underlying25 rfl) ?_
  refine js_ (vB (decide (((k : Nat) : Int) < ((alts.length : Nat) : Int)))) (x_lss_i rfl rfl) ?_
  refine JO_nil (JX_then ?_)
  refine J_cond (decide (((k : Nat) : Int) < ((alts.length : Nat) : Int))) rfl rfl (fun h26 => ?_) (fun h26 => ?_)
  ·have h26w := h26
   have h26 := of_decide_eq_true h26
   refine J_skip (JX_then (J_seq (J_block (J_seq (J_seq ?_)))))
   refine J_draw [Ent.blk b1 24 (DataSet.enc base)] [] [Ent.blk b1 24 (DataSet.enc base)] 7 Ty.mixed rfl ?_
   refine jt_ 0 (Value.agg ((DataSet.enc base)).toArray) rfl (x_loadN 0 (DataSet.enc base) rfl rfl Ty.ag24 Ty.sz24 rfl) ?_
   refine jt_ 1 (Value.slice altsA alts.length altsC) rfl (fun _ _ => rfl) ?_
   refine jt_ 2 (vI ((k : Nat) : Int)) rfl (fun _ _ => rfl) ?_
   refine jt_ 3 (Value.pointer (some (adr altsA (k * 21)))) rfl (x_indexAddr_at (k := k) (off := k * 21) (cells_ro altsR) Try.underlying25 Ty.sz24 rfl rfl lt_ (by rw [flat_length DataSet.enc 21 DataSet.enc_len]; first | omega | (simp; omega) | (simp_all; omega) | (simp_all; done)) rfl) ?_
   refine jt_ 4 (Value.agg ((DataSet.enc (alts.getD k default))).toArray) rfl (x_loadN_at (DataSet.enc (alts.getD k default)) (cells_ro altsR) rfl Ty.ag24 Ty.sz24 (flat_drop DataSet.enc 21 DataSet.enc_len alts default k lt_)) ?_
   refine JA_one 5 (by kernel_rfl) (fun _ h => ⟨h, fun _ => h⟩) ?_
   refine JI_call [] [] [Ent.blk b1 24 (DataSet.enc base)] rfl rfl trivial (fun _ => x_call Ty.ca50 rfl) (fun _ h => h) (fun _ h => by cases h) (fun w hS => f50_ok base (alts.getD k default) w) ?_
   rintro _ _ ⟨rfl, rfl⟩
   refine jt_ 6 (vB (!(R26.valid base (alts.getD k default)))) rfl (fun _ _ => x_not rfl) ?_
   refine JA_done (by kernel_rfl) (fun _ h => ⟨h, fun _ => h⟩) ?_
   refine JX_then ?_
   refine J_cond (!(R26.valid base (alts.getD k default))) rfl rfl (fun h27 => ?_) (fun h27 => ?_)
   ·have h27w := h27
    have h27 : (R26.valid base (alts.getD k default)) = false := bnot_true h27
    refine J_seq (J_region ?_)
    refine jr_ (vB false) ?_
    refine JO_nil (JX_then (J_ret (JX_then_ret (JX_block_ret (JX_then_ret ?_)))))
    refine JX_round_ret (JX_block_ret (JX_then_ret ?_))
    first
     | have hd := R27.sph_base (base := base) (alts := alts) (by assumption)
     | have hd := R27.sph_valid (k := k) (base := base) (alts := alts) (by omega) (R27.not_t (by assumption))
     | have hd := R27.sph_twice (k := k) (base := base) (alts := alts) (by omega) (R27.ids_at (i := j) (by omega) (by omega) (by assumption))
     | have hd := (R27.sph_all i1_1 i1_0 (by assumption)).trans i1_2
    refine JX_rets [vB false] (vB false) Try.results30 (fun w h => ⟨rfl, trivial⟩) rfl [] (fun _ h => h.keep [false] rfl) ⟨?_, ?_⟩
    ·have e_x0 : (false : Bool) = (R27.isSphere base alts) := by rw [hd]
     exact congrArg (fun (x0 : Bool) => vB x0) e_x0
    ·rfl
   ·have h27w := h27
    have h27 : (R26.valid base (alts.getD k default)) = true := bnot_false h27
    have hi28 := R26.valid_facts h27
    refine J_skip (JX_then (J_seq (J_region ?_)))
    refine jr_ (vI 0) ?_
    refine JO_nil (JX_then (J_block ?_))
    refine J_loop (X := Nat) (fun (j : Nat) => (j ≤ k) ∧ (∀ i, i < j → (alts.getD i default).Id ≠ (alts.getD k default).Id)) (fun (j : Nat) => [(1, Value.slice altsA alts.length altsC), (2, Value.pointer (some ⟨b1, 0, none⟩)), (5, vI ((k : Nat) : Int)), (6, vI ((j : Nat) : Int))]) (fun (j : Nat) => [Ent.blk b1 24 (DataSet.enc base)]) (fun (j : Nat) => k - j) (0 : Nat) ?_ ⟨rfl, rfl, rfl, rfl, trivial⟩ (fun _ h => h) ?_
    ·show (0 ≤ k) ∧ (∀ i, i < 0 → (alts.getD i default).Id ≠ (alts.getD k default).Id)
     refine ⟨?_, ?_⟩
     ·first | rfl | omega | (simp_all; done) | (simp_all; omega)
     ·intro i hi; omega
    intro j hI2
    obtain ⟨i2_0, i2_1⟩ : (j ≤ k) ∧ (∀ i, i < j → (alts.getD i default).Id ≠ (alts.getD k default).Id) := hI2
    refine J_weaken (E' := [(1, Value.slice altsA alts.length altsC), (2, Value.pointer (some ⟨b1, 0, none⟩)), (5, vI ((k : Nat) : Int)), (6, vI ((j : Nat) : Int))]) (L' := [Ent.blk b1 24 (DataSet.enc base)]) ⟨rfl, rfl, rfl, rfl, trivial⟩ (fun _ h => h) ?_
    refine J_seq (J_seq (J_region ?_))
    refine jr_ (vI ((j : Nat) : Int)) ?_
    refine jr_ (vI ((k : Nat) : Int)) ?_
    refine js_ (vB (decide (((j : Nat) : Int) < ((k : Nat) : Int)))) (x_lss_i rfl rfl) ?_
    refine JO_nil (JX_then ?_)
    refine J_cond (decide (((j : Nat) : Int) < ((k : Nat) : Int))) rfl rfl (fun h29 => ?_) (fun h29 => ?_)
    ·have h29w := h29
     have h29 := of_decide_eq_true h29
     refine J_skip (JX_then (J_seq (J_block (J_seq ?_))))
     refine J_draw [Ent.blk b1 24 (DataSet.enc base)] [] [Ent.blk b1 24 (DataSet.enc base)] 11 Ty.mixed rfl ?_
     refine jt_ 0 (Value.slice altsA alts.length altsC) rfl (fun _ _ => rfl) ?_
     refine jt_ 1 (vI ((j : Nat) : Int)) rfl (fun _ _ => rfl) ?_
     refine jt_ 2 (Value.pointer (some (adr altsA (j * 21)))) rfl (x_indexAddr_at (k := j) (off := j * 21) (cells_ro altsR) Try.underlying25 Ty.sz24 rfl rfl lt_ (by rw [flat_length DataSet.enc 21 DataSet.enc_len]; first | omega | (simp; omega) | (simp_all; omega) | (simp_all; done)) rfl) ?_
     refine jt_ 3 (Value.pointer (some (adr altsA (j * 21)))) rfl (fun _ _ => x_fieldAddr Ty.fi24_0 rfl rfl) ?_
     refine jt_ 4 (vI ((alts.getD j default).Id)) rfl (x_load_at (cells_ro altsR) rfl Ty.sc3 (flat_at DataSet.enc 21 DataSet.enc_len alts default j 0 lt_ (by decide))) ?_
     refine jt_ 5 (Value.slice altsA alts.length altsC) rfl (fun _ _ => rfl) ?_
     refine jt_ 6 (vI ((k : Nat) : Int)) rfl (fun _ _ => rfl) ?_
     refine jt_ 7 (Value.pointer (some (adr altsA (k * 21)))) rfl (x_indexAddr_at (k := k) (off := k * 21) (cells_ro altsR) Try.underlying25 Ty.sz24 rfl rfl lt_ (by rw [flat_length DataSet.enc 21 DataSet.enc_len]; first | omega | (simp; omega) | (simp_all; omega) | (simp_all; done)) rfl) ?_
     refine jt_ 8 (Value.pointer (some (adr altsA (k * 21)))) rfl (fun _ _ => x_fieldAddr Ty.fi24_0 rfl rfl) ?_
     refine jt_ 9 (vI ((alts.getD k default).Id)) rfl (x_load_at (cells_ro altsR) rfl Ty.sc3 (flat_at DataSet.enc 21 DataSet.enc_len alts default k 0 lt_ (by decide))) ?_
     refine jt_ 10 (vB (decide ((alts.getD j default).Id = (alts.getD k default).Id))) rfl (fun _ _ => x_eql_i rfl rfl) ?_
     refine JA_done (by kernel_rfl) (fun _ h => ⟨h, fun _ => h⟩) ?_
     refine JX_then ?_
     refine J_cond (decide ((alts.getD j default).Id = (alts.getD k default).Id)) rfl rfl (fun h30 => ?_) (fun h30 => ?_)
     ·have h30w := h30
      have h30 := of_decide_eq_true h30
      refine J_seq (J_region ?_)
      refine jr_ (vB false) ?_
      refine JO_nil (JX_then (J_ret (JX_block_ret (JX_then_ret (JX_round_ret ?_)))))
      refine JX_block_ret (JX_block_ret (JX_then_ret (JX_round_ret (JX_block_ret (JX_then_ret ?_)))))
      first
       | have hd := R27.sph_base (base := base) (alts := alts) (by assumption)
       | have hd := R27.sph_valid (k := k) (base := base) (alts := alts) (by omega) (R27.not_t (by assumption))
       | have hd := R27.sph_twice (k := k) (base := base) (alts := alts) (by omega) (R27.ids_at (i := j) (by omega) (by omega) (by assumption))
       | have hd := (R27.sph_all i1_1 i1_0 (by assumption)).trans i1_2
      refine JX_rets [vB false] (vB false) Try.results30 (fun w h => ⟨rfl, trivial⟩) rfl [] (fun _ h => h.keep [false] rfl) ⟨?_, ?_⟩
      ·have e_x0 : (false : Bool) = (R27.isSphere base alts) := by rw [hd]
       exact congrArg (fun (x0 : Bool) => vB x0) e_x0
      ·rfl
     ·have h30w := h30
      have h30 := of_decide_eq_false h30
      refine J_skip (JX_block (JX_then (J_region ?_)))
      refine jr_ (vI ((j : Nat) : Int)) ?_
      refine js_ (vI ((j + 1 : Nat) : Int)) (x_add_n (a := j) (b := 1) rfl rfl (by omega)) ?_
      refine jr_ (vI ((j + 1 : Nat) : Int)) ?_
      refine JO_nil ?_
      refine JX_round (j + 1 : Nat) ?_ ?_ ⟨rfl, rfl, rfl, rfl, trivial⟩ (fun _ h => h)
      ·show ((j + 1) ≤ k) ∧ (∀ i, i < (j + 1) → (alts.getD i default).Id ≠ (alts.getD k default).Id)
       refine ⟨?_, ?_⟩
       ·first | rfl | omega | (simp_all; done) | (simp_all; omega)
       ·intro i hi; by_cases hij : i = j
        ·subst hij; assumption
        ·exact i2_1 i (by omega)
      ·show k - (j + 1) < k - j
       first | omega | (simp; omega) | (simp_all; omega)
    ·have h29w := h29
     have h29 := of_decide_eq_false h29
     refine J_exit (JX_then_exit (JX_round_exit (JX_block_hit (JX_block (JX_then ?_)))))
     refine J_region ?_
     refine jr_ (vI ((k : Nat) : Int)) ?_
     refine js_ (vI ((k + 1 : Nat) : Int)) (x_add_n (a := k) (b := 1) rfl rfl (by omega)) ?_
     refine jr_ (vI ((k + 1 : Nat) : Int)) ?_
     refine JO_nil ?_
     refine JX_round (k + 1 : Nat) ?_ ?_ ⟨rfl, rfl, rfl, trivial⟩ (fun _ h => h)
     ·show ((k + 1) ≤ alts.length) ∧ (R27.Sph base alts (k + 1)) ∧ ((R27.isBase base && decide (((alts.length : Nat) : Int) ≤ 4)) = true)
      refine ⟨?_, ?_, ?_⟩
      ·first | rfl | omega | (simp_all; done) | (simp_all; omega)
      ·exact R27.sph_step (by omega) i1_1 (fun hm => by obtain ⟨i, hi, e⟩ := R27.mem_ids (by omega) hm; exact i2_1 i (by omega) e) (R27.not_f (by assumption))
      ·exact i1_2
     ·show alts.length - (k + 1) < alts.length - k
      first | omega | (simp; omega) | (simp_all; omega)
  ·have h26w := h26
   have h26 := of_decide_eq_false h26
   refine J_exit (JX_then_exit (JX_round_exit (JX_block_hit (JX_then (J_seq ?_)))))
   refine J_region ?_
   refine jr_ (vB true) ?_
   refine JO_nil (JX_then (J_ret ?_))
   first
    | have hd := R27.sph_base (base := base) (alts := alts) (by assumption)
    | have hd := R27.sph_valid (k := k) (base := base) (alts := alts) (by omega) (R27.not_t (by assumption))
    | have hd := R27.sph_twice (k := k) (base := base) (alts := alts) (by omega) (R27.ids_at (i := j) (by omega) (by omega) (by assumption))
    | have hd := (R27.sph_all i1_1 i1_0 (by assumption)).trans i1_2
   refine JX_rets [vB true] (vB true) Try.results30 (fun w h => ⟨rfl, trivial⟩) rfl [] (fun _ h => h.keep [false] rfl) ⟨?_, ?_⟩
   ·have e_x0 : (true : Bool) = (R27.isSphere base alts) := by rw [hd]
    exact congrArg (fun (x0 : Bool) => vB x0) e_x0
   ·rfl
end Go.Proofs.Ytmbinhhlfbgiaaa
