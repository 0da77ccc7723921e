/- contracts C27h -/
import Derived.Test.YtmbinhhlfbgiaaaC27g
namespace Go.Proofs.Ytmbinhhlfbgiaaa
open Go.GV
set_option linter.unusedVariables false
set_option linter.unusedSimpArgs false
set_option maxHeartbeats 2000000 in
set_option maxRecDepth 20000 in
theorem f11_ok (ds : List Data) (dsA : Option Addr) (dsC : Nat) (base : DataSet) (alts : List DataSet) (altsA : Option Addr) (altsC : Nat) (c : Change) (w : World) (dsR : RO [] w dsA (ds.flatMap Data.enc)) (dsN : ∀ i : Nat, RO [] w (ds.getD i default).PairsA (((ds.getD i default).Pairs).flatMap Pair.enc)) (altsR : RO [] w altsA (alts.flatMap DataSet.enc)) (q0 : ds.length ≤ 1000) (q1 : ∀ i, (ds.getD i default).Pairs.length ≤ 1000) (q2 : alts.length ≤ 50) (q3 : c.Key.length ≤ 1000) (q4 : c.Record.length ≤ 1000) (q5 : R27.Shorts ds) : Calls Try.prog 11 #[Value.agg #[Value.slice dsA ds.length dsC, Value.pointer none], Value.agg ((DataSet.enc base)).toArray, Value.slice altsA alts.length altsC, Value.agg ((Change.enc c)).toArray] w (Gives [] w fun v L => ∃ A : Option Addr, ∃ cc : Nat, v = Value.tuple #[Value.slice A ((R27.plan ds base alts c).1.length) cc, vI ((R27.plan ds base alts c).2)] ∧ L = [Ent.row (.slice A ((R27.plan ds base alts c).1).length cc) 27 5 ((R27.plan ds base alts c).1).length (((R27.plan ds base alts c).1).flatMap Change.enc)]) := by
 refine calls_J [] 197 Try.func11 rfl Try.ntmps11 [(0, Value.agg #[Value.slice dsA ds.length dsC, Value.pointer none]), (1, Value.agg ((DataSet.enc base)).toArray), (2, Value.slice altsA alts.length altsC), (3, Value.agg ((Change.enc c)).toArray)] rfl rfl (Give.nil w) ?_
 rcases (R27.three c) with hc | hc | hc
 ·refine J_seq (J_region ?_)
  refine JO_op rfl trivial (O_box rfl rfl fun b1 => ?_)
  refine JO_op rfl trivial (O_box rfl rfl fun b2 => ?_)
  refine JO_op rfl trivial (O_box rfl rfl fun b3 => ?_)
  refine jr_ (Value.slice none 0 0) ?_
  refine jr_ (vI 0) ?_
  refine JO_nil (JX_then (J_seq (J_seq (J_region ?_))))
  refine JO_read (Value.agg ((DataSet.enc base)).toArray) rfl trivial (x_loadN 1 (DataSet.enc base) rfl rfl Ty.ag24 Ty.sz24 rfl) ?_
  refine jr_ (Value.slice altsA alts.length altsC) ?_
  refine JO_call [] [] [Ent.blk b3 27 (Change.enc c), Ent.blk b2 24 (DataSet.enc base), Ent.blk b1 34 [Value.slice dsA ds.length dsC, Value.pointer none]] rfl trivial (fun _ => x_call Ty.ca30 rfl) (fun _ h => h) (fun _ h => by cases h) (fun w hS => f30_ok base alts altsA altsC w (altsR.on hS (fun _ h => by cases h)) hy_) ?_
  rintro _ _ ⟨rfl, rfl⟩
  refine js_ (vB (!(R27.isSphere base alts))) (x_not rfl) ?_
  refine jr_ (vB (!(R27.isSphere base alts))) ?_
  refine JO_cut 5 (fun z => z = ((!(R27.isSphere base alts)) || (!(R27.isChange base c)))) (fun z => [(2, Value.slice altsA alts.length altsC), (4, Value.pointer (some ⟨b1, 0, none⟩)), (5, Value.pointer (some ⟨b2, 0, none⟩)), (7, Value.pointer (some ⟨b3, 0, none⟩)), (8, Value.slice none 0 0), (9, vI 0), (33, vB z)]) (fun _ => [Ent.blk b3 27 (Change.enc c), Ent.blk b2 24 (DataSet.enc base), Ent.blk b1 34 [Value.slice dsA ds.length dsC, Value.pointer none]]) ?_ ?_
  ·rcases Bool.eq_false_or_eq_true (!(R27.isSphere base alts)) with g5 | g5
   ·have g5r := g5
    have g5r : (R27.isSphere base alts) = false := bnot_true g5r
    refine sh_ g5 ?_
    refine sh_ g5 ?_
    refine sh_ g5 ?_
    refine sh_ g5 ?_
    refine js_ (vB true) (x_pick_t rfl g5 rfl) ?_
    refine JO_nil (JX_cut (true) (by rw [g5]; simp) ⟨rfl, rfl, rfl, rfl, rfl, rfl, rfl, trivial⟩ (fun _ h => h))
   ·have g5r := g5
    have g5r : (R27.isSphere base alts) = true := bnot_false g5r
    have hi6 := R27.isSphere_valid g5r
    refine JO_read (Value.agg ((DataSet.enc base)).toArray) rfl ⟨_, rfl, g5⟩ (x_loadN 1 (DataSet.enc base) rfl rfl Ty.ag24 Ty.sz24 rfl) ?_
    refine JO_read (Value.agg ((Change.enc c)).toArray) rfl ⟨_, rfl, g5⟩ (x_loadN 0 (Change.enc c) rfl rfl Ty.ag27 Ty.sz27 rfl) ?_
    refine JO_call [] [] [Ent.blk b3 27 (Change.enc c), Ent.blk b2 24 (DataSet.enc base), Ent.blk b1 34 [Value.slice dsA ds.length dsC, Value.pointer none]] rfl ⟨_, rfl, g5⟩ (fun _ => x_call Ty.ca31 rfl) (fun _ h => h) (fun _ h => by cases h) (fun w hS => f31_ok base c w hy_ hy_ hy_) ?_
    rintro _ _ ⟨rfl, rfl⟩
    refine jg_ g5 (vB (!(R27.isChange base c))) (x_not rfl) ?_
    refine js_ (vB (!(R27.isChange base c))) (x_pick_f rfl g5 rfl) ?_
    refine JO_nil (JX_cut (!(R27.isChange base c)) (by rw [g5]; simp) ⟨rfl, rfl, rfl, rfl, rfl, rfl, rfl, trivial⟩ (fun _ h => h))
  rintro z4 rfl
  refine JO_nil (JX_then ?_)
  refine J_cond ((!(R27.isSphere base alts)) || (!(R27.isChange base c))) rfl rfl (fun h7 => ?_) (fun h7 => ?_)
  ·have h7w := h7
   simp only [Bool.and_eq_true, Bool.or_eq_true, Bool.and_eq_false_iff, Bool.or_eq_false_iff, Bool.not_eq_true', Bool.not_eq_false', decide_eq_true_eq, decide_eq_false_iff_not] at h7
   refine J_seq (J_region ?_)
   refine jr_ (Value.slice none 0 0) ?_
   refine jr_ (vI 1) ?_
   refine JO_nil (JX_then (J_ret (JX_then_ret ?_)))
   first
    | have hd : False := by omega
    | have hd := R27.pl_errRA (ds := ds) h7w (by omega) (by omega) no_such_condition (by omega) i2_1 no_such_condition no_such_condition no_such_condition (of_decide_eq_true no_such_condition)
    | have hd := R27.pl_errRB (ds := ds) h7w (by omega) (by omega) i2_1 no_such_condition no_such_condition no_such_condition (of_decide_eq_true no_such_condition)
    | have hd := R27.pl_okRA (ds := ds) h7w (by omega) (by omega) no_such_condition i2_0 (by omega) i2_1
    | have hd := R27.pl_okRB (ds := ds) h7w (by omega) i2_0 (by omega) i2_1
    | have hd := R27.pl_empR (ds := ds) h7w (by omega) i1_0 (by omega) i1_1
    | have hd := R27.pl_getR (ds := ds) h7w (by omega) (by omega) no_such_condition 
    | have hd := R27.pl_bad (ds := ds) h7w 
   refine JX_rets [Value.slice none 0 0, vI 1] (Value.tuple #[Value.slice none 0 0, vI 1]) Try.results11 (fun w h => ⟨rfl, rfl, trivial⟩) rfl [Ent.row (.slice none ([] : List Change).length 0) 27 5 ([] : List Change).length (([] : List Change).flatMap Change.enc)] (fun _ h => (h.nilrow 27 5).keep [true, false, false, false] rfl) ⟨none, 0, ?_, ?_⟩
   ·have e_x0 : (0 : Nat) = ((R27.plan ds base alts c).1.length) := by first | (rw [hd]; done) | (rw [hd]; rfl) | exact hd.elim
    have e_x1 : (1 : Int) = ((R27.plan ds base alts c).2) := by first | (rw [hd]; done) | (rw [hd]; rfl) | exact hd.elim
    have e_all := (congr (congrArg (fun (x0 : Nat) (x1 : Int) => Value.tuple #[Value.slice none x0 0, vI x1]) e_x0) e_x1)
    exact e_all
   ·have e_y0 : (([] : List Change) : List Change) = (R27.plan ds base alts c).1 := by
     first | (rw [hd]; done) | (rw [hd]; rfl) | exact hd.elim
    have e_all := (congrArg (fun (y0 : List Change) => [Ent.row (.slice none y0.length 0) 27 5 y0.length (y0.flatMap Change.enc)]) e_y0)
    exact e_all
  ·have h7w := h7
   have ⟨h7, h8⟩ := bor_false h7
   have h7 : (R27.isSphere base alts) = true := bnot_false h7
   have hi9 := R27.isSphere_valid h7
   have h8 : (R27.isChange base c) = true := bnot_false h8
   refine J_skip (JX_then (J_seq (J_region ?_)))
   refine JO_read (Value.agg ((Change.enc c)).toArray) rfl trivial (x_loadN 0 (Change.enc c) rfl rfl Ty.ag27 Ty.sz27 rfl) ?_
   refine JO_op rfl trivial (O_alloc Ty.ze27 rfl fun b10 => ?_)
   refine JO_op rfl trivial (O_storeS (vs := (Change.enc c)) 0 (Change.enc c) [Ent.blk b10 27 (Change.enc c), Ent.blk b3 27 (Change.enc c), Ent.blk b2 24 (DataSet.enc base), Ent.blk b1 34 [Value.slice dsA ds.length dsC, Value.pointer none]] rfl rfl rfl Ty.sz27 rfl (Nat.le_of_ble_eq_true rfl) rfl (st_all rfl) rfl ?_)
   refine JO_nil (JX_then (J_seq (J_seq (J_region ?_))))
   refine js_ (Value.pointer (some ⟨b3, 0, none⟩)) (x_fieldAddr Ty.fi27_0 rfl rfl) ?_
   refine JO_read (vI c.Kind) rfl trivial (x_load 1 rfl rfl Ty.sc3 rfl) ?_
   refine js_ (vB (decide (c.Kind = 2))) (x_eql_i rfl rfl) ?_
   refine JO_nil (JX_then ?_)
   refine J_cond (decide (c.Kind = 2)) rfl rfl (fun h11 => ?_) (fun h11 => ?_)
   ·have h11w := h11
    have h11 := of_decide_eq_true h11
    omega
   ·have h11w := h11
    have h11 := of_decide_eq_false h11
    refine J_skip (JX_then (J_seq (J_region ?_)))
    refine JO_read (Value.agg ((Change.enc c)).toArray) rfl trivial (x_loadN 0 (Change.enc c) rfl rfl Ty.ag27 Ty.sz27 rfl) ?_
    refine JO_op rfl trivial (O_buildSlice (cs := (Change.enc c)) Try.underlying31 Ty.sz27 Ty.ze27 (by decide) (by decide) (by kernel_rfl) fun b12 => ?_)
    refine jr_ (Value.slice (some ⟨b12, 0, none⟩) 1 1) ?_
    refine JO_nil (JX_then (J_seq (J_seq (J_region ?_))))
    refine js_ (Value.pointer (some ⟨b3, 0, none⟩)) (x_fieldAddr Ty.fi27_0 rfl rfl) ?_
    refine JO_read (vI c.Kind) rfl trivial (x_load 2 rfl rfl Ty.sc3 rfl) ?_
    refine js_ (vB (decide (c.Kind = 3))) (x_eql_i rfl rfl) ?_
    refine JO_nil (JX_then ?_)
    refine J_cond (decide (c.Kind = 3)) rfl rfl (fun h13 => ?_) (fun h13 => ?_)
    ·have h13w := h13
     have h13 := of_decide_eq_true h13
     refine J_seq (J_seq (J_region ?_))
     refine jr_ (vI 0) ?_
     refine JO_nil (JX_then (J_block ?_))
     refine J_loop (X := Nat × (List Change) × (Option Addr) × Nat) (fun (⟨i, xs, xsA, xsC⟩ : Nat × (List Change) × (Option Addr) × Nat) => (i ≤ alts.length) ∧ (xs = [c] ++ ((alts.take i).map fun a => Change.mk 3 a.Id [] [] [])) ∧ (xs.length ≤ 1 + i)) (fun (⟨i, xs, xsA, xsC⟩ : Nat × (List Change) × (Option Addr) × Nat) => [(2, Value.slice altsA alts.length altsC), (4, Value.pointer (some ⟨b1, 0, none⟩)), (5, Value.pointer (some ⟨b2, 0, none⟩)), (7, Value.pointer (some ⟨b3, 0, none⟩)), (8, Value.slice none 0 0), (9, vI 0), (11, Value.slice xsA xs.length xsC), (12, vI ((i : Nat) : Int))]) (fun (⟨i, xs, xsA, xsC⟩ : Nat × (List Change) × (Option Addr) × Nat) => [Ent.blk b3 27 (Change.enc c), Ent.blk b2 24 (DataSet.enc base), Ent.blk b1 34 [Value.slice dsA ds.length dsC, Value.pointer none], Ent.row (.slice xsA xs.length xsC) 27 5 xs.length (xs.flatMap Change.enc)]) (fun (⟨i, xs, xsA, xsC⟩ : Nat × (List Change) × (Option Addr) × Nat) => alts.length - i) ((0, [c], (some ⟨b12, 0, none⟩), 1) : Nat × (List Change) × (Option Addr) × Nat) ?_ ⟨rfl, rfl, rfl, rfl, rfl, rfl, rfl, rfl, trivial⟩ (fun _ h => ((((St.torow (cs := [vI c.Kind, vI c.Id, vS c.Key, vS c.Record, vS c.Volume]) h 5 1 rfl (by decide)).front 4 _ rfl).front 4 _ rfl).front 4 _ rfl).keep [true, true, true, true, false] rfl) ?_
     ·show (0 ≤ alts.length) ∧ ([c] = [c] ++ ((alts.take 0).map fun a => Change.mk 3 a.Id [] [] [])) ∧ ([c].length ≤ 1 + 0)
      refine ⟨?_, ?_, ?_⟩
      ·first | rfl | omega | (simp_all; done) | (simp_all; omega)
      ·rfl
      ·exact Nat.le_refl _
     rintro ⟨i, xs, xsA, xsC⟩ hI1
     obtain ⟨i1_0, i1_1, i1_2⟩ : (i ≤ alts.length) ∧ (xs = [c] ++ ((alts.take i).map fun a => Change.mk 3 a.Id [] [] [])) ∧ (xs.length ≤ 1 + i) := hI1
     refine J_weaken (E' := [(2, Value.slice altsA alts.length altsC), (4, Value.pointer (some ⟨b1, 0, none⟩)), (5, Value.pointer (some ⟨b2, 0, none⟩)), (7, Value.pointer (some ⟨b3, 0, none⟩)), (8, Value.slice none 0 0), (9, vI 0), (11, Value.slice xsA xs.length xsC), (12, vI ((i : Nat) : Int))]) (L' := [Ent.blk b3 27 (Change.enc c), Ent.blk b2 24 (DataSet.enc base), Ent.blk b1 34 [Value.slice dsA ds.length dsC, Value.pointer none], Ent.row (.slice xsA xs.length xsC) 27 5 xs.length (xs.flatMap Change.enc)]) ⟨rfl, rfl, rfl, rfl, rfl, rfl, rfl, rfl, trivial⟩ (fun _ h => h) ?_
     refine J_seq (J_seq (J_region ?_))
     refine jr_ (vI ((i : Nat) : Int)) ?_
     refine jr_ (Value.slice altsA alts.length altsC) ?_
     refine js_ (vI ((alts.length : Nat) : Int)) (x_len_sl Try.underlying25 rfl) ?_
     refine js_ (vB (decide (((i : Nat) : Int) < ((alts.length : Nat) : Int)))) (x_lss_i rfl rfl) ?_
     refine JO_nil (JX_then ?_)
     refine J_cond (decide (((i : Nat) : Int) < ((alts.length : Nat) : Int))) rfl rfl (fun h14 => ?_) (fun h14 => ?_)
     ·have h14w := h14
      have h14 := of_decide_eq_true h14
      refine J_skip (JX_then (J_seq (J_block (J_region ?_))))
      refine jr_ (Value.slice xsA xs.length xsC) ?_
      refine jr_ (Value.slice altsA alts.length altsC) ?_
      refine jr_ (vI ((i : Nat) : Int)) ?_
      refine JO_read (Value.pointer (some (adr altsA (i * 21)))) rfl trivial (x_indexAddr_at (k := i) (off := i * 21) (cells_ro altsR) Try.underlying25 Ty.sz24 rfl rfl lt_ (by rw [flat_length DataSet.enc 21 DataSet.enc_len]; first | omega | (simp; omega) | (simp_all; omega) | (simp_all; done)) rfl) ?_
      refine js_ (Value.pointer (some (adr altsA (i * 21)))) (x_fieldAddr Ty.fi24_0 rfl rfl) ?_
      refine JO_read (vI ((alts.getD i default).Id)) rfl trivial (x_load_at (cells_ro altsR) rfl Ty.sc3 (flat_at DataSet.enc 21 DataSet.enc_len alts default i 0 lt_ (by decide))) ?_
      refine js_ (Value.agg #[vI 3, vI ((alts.getD i default).Id), vS [], vS [], vS []]) (x_build (by kernel_rfl)) ?_
      refine JO_op rfl trivial (O_buildSlice (cs := [vI 3, vI ((alts.getD i default).Id), vS [], vS [], vS []]) Try.underlying31 Ty.sz27 Ty.ze27 (by decide) (by decide) (by kernel_rfl) fun b15 => ?_)
      refine JO_op rfl trivial (O_append_f 4 Change.enc 5 xs [(Change.mk 3 ((alts.getD i default).Id) [] [] [])] Try.underlying31 Ty.sz27 Ty.by27 Ty.ze27 rfl (by decide) rfl rfl rfl rfl Change.enc_len Change.enc_one (cells_blk 0 (off := 0) (m := 5) rfl rfl) lt_ lt_ fun A16 c17 => ?_)
      refine jr_ (Value.slice A16 ((xs ++ [(Change.mk 3 ((alts.getD i default).Id) [] [] [])]).length) c17) ?_
      refine JO_nil (JX_block (JX_then (J_region ?_)))
      refine jr_ (vI ((i : Nat) : Int)) ?_
      refine js_ (vI ((i + 1 : Nat) : Int)) (x_add_n (a := i) (b := 1) rfl rfl (by omega)) ?_
      refine jr_ (vI ((i + 1 : Nat) : Int)) ?_
      refine JO_nil ?_
      refine JX_round ((i + 1, xs ++ [(Change.mk 3 ((alts.getD i default).Id) [] [] [])], A16, c17) : Nat × (List Change) × (Option Addr) × Nat) ?_ ?_ ⟨rfl, rfl, rfl, rfl, rfl, rfl, rfl, rfl, trivial⟩ (fun _ h => h.keep [false, true, true, true, true] rfl)
      ·show ((i + 1) ≤ alts.length) ∧ ((xs ++ [(Change.mk 3 ((alts.getD i default).Id) [] [] [])]) = [c] ++ ((alts.take (i + 1)).map fun a => Change.mk 3 a.Id [] [] [])) ∧ ((xs ++ [(Change.mk 3 ((alts.getD i default).Id) [] [] [])]).length ≤ 1 + (i + 1))
       refine ⟨?_, ?_, ?_⟩
       ·first | rfl | omega | (simp_all; done) | (simp_all; omega)
       ·rw [i1_1]; exact R27.emp_step (by omega)
       ·rw [List.length_append]; simp only [List.length_cons, List.length_nil]; omega
      ·show alts.length - (i + 1) < alts.length - i
       first | omega | (simp; omega) | (simp_all; omega)
     ·have h14w := h14
      have h14 := of_decide_eq_false h14
      refine J_exit (JX_then_exit (JX_round_exit (JX_block_hit (JX_then (J_seq ?_)))))
      refine J_region ?_
      refine jr_ (Value.slice xsA xs.length xsC) ?_
      refine jr_ (Value.slice xsA xs.length xsC) ?_
      refine jr_ (vI 0) ?_
      refine JO_nil (JX_then (J_ret (JX_then_ret ?_)))
      first
       | have hd : False := by omega
       | have hd := R27.pl_errRA (ds := ds) h7w (by omega) (by omega) no_such_condition (by omega) i2_1 no_such_condition no_such_condition no_such_condition (of_decide_eq_true no_such_condition)
       | have hd := R27.pl_errRB (ds := ds) h7w (by omega) (by omega) i2_1 no_such_condition no_such_condition no_such_condition (of_decide_eq_true no_such_condition)
       | have hd := R27.pl_okRA (ds := ds) h7w (by omega) (by omega) no_such_condition i2_0 (by omega) i2_1
       | have hd := R27.pl_okRB (ds := ds) h7w (by omega) i2_0 (by omega) i2_1
       | have hd := R27.pl_empR (ds := ds) h7w (by omega) i1_0 (by omega) i1_1
       | have hd := R27.pl_getR (ds := ds) h7w (by omega) (by omega) no_such_condition 
       | have hd := R27.pl_bad (ds := ds) h7w 
      refine JX_rets [Value.slice xsA xs.length xsC, vI 0] (Value.tuple #[Value.slice xsA xs.length xsC, vI 0]) Try.results11 (fun w h => ⟨rfl, rfl, trivial⟩) rfl [Ent.row (.slice xsA xs.length xsC) 27 5 xs.length (xs.flatMap Change.enc)] (fun _ h => h.keep [false, false, false, true] rfl) ⟨xsA, xsC, ?_, ?_⟩
      ·have e_x0 : (xs.length : Nat) = ((R27.plan ds base alts c).1.length) := by first | (rw [hd]; done) | (rw [hd]; rfl) | exact hd.elim
       have e_x1 : (0 : Int) = ((R27.plan ds base alts c).2) := by first | (rw [hd]; done) | (rw [hd]; rfl) | exact hd.elim
       have e_all := (congr (congrArg (fun (x0 : Nat) (x1 : Int) => Value.tuple #[Value.slice xsA x0 xsC, vI x1]) e_x0) e_x1)
       exact e_all
      ·have e_y0 : (xs : List Change) = (R27.plan ds base alts c).1 := by
        first | (rw [hd]; done) | (rw [hd]; rfl) | exact hd.elim
       have e_all := (congrArg (fun (y0 : List Change) => [Ent.row (.slice xsA y0.length xsC) 27 5 y0.length (y0.flatMap Change.enc)]) e_y0)
       exact e_all
    ·have h13w := h13
     have h13 := of_decide_eq_false h13
     omega
 ·refine J_seq (J_region ?_)
  refine JO_op rfl trivial (O_box rfl rfl fun b18 => ?_)
  refine JO_op rfl trivial (O_box rfl rfl fun b19 => ?_)
  refine JO_op rfl trivial (O_box rfl rfl fun b20 => ?_)
  refine jr_ (Value.slice none 0 0) ?_
  refine jr_ (vI 0) ?_
  refine JO_nil (JX_then (J_seq (J_seq (J_region ?_))))
  refine JO_read (Value.agg ((DataSet.enc base)).toArray) rfl trivial (x_loadN 1 (DataSet.enc base) rfl rfl Ty.ag24 Ty.sz24 rfl) ?_
  refine jr_ (Value.slice altsA alts.length altsC) ?_
  refine JO_call [] [] [Ent.blk b20 27 (Change.enc c), Ent.blk b19 24 (DataSet.enc base), Ent.blk b18 34 [Value.slice dsA ds.length dsC, Value.pointer none]] rfl trivial (fun _ => x_call Ty.ca30 rfl) (fun _ h => h) (fun _ h => by cases h) (fun w hS => f30_ok base alts altsA altsC w (altsR.on hS (fun _ h => by cases h)) hy_) ?_
  rintro _ _ ⟨rfl, rfl⟩
  refine js_ (vB (!(R27.isSphere base alts))) (x_not rfl) ?_
  refine jr_ (vB (!(R27.isSphere base alts))) ?_
  refine JO_cut 5 (fun z => z = ((!(R27.isSphere base alts)) || (!(R27.isChange base c)))) (fun z => [(2, Value.slice altsA alts.length altsC), (4, Value.pointer (some ⟨b18, 0, none⟩)), (5, Value.pointer (some ⟨b19, 0, none⟩)), (7, Value.pointer (some ⟨b20, 0, none⟩)), (8, Value.slice none 0 0), (9, vI 0), (33, vB z)]) (fun _ => [Ent.blk b20 27 (Change.enc c), Ent.blk b19 24 (DataSet.enc base), Ent.blk b18 34 [Value.slice dsA ds.length dsC, Value.pointer none]]) ?_ ?_
  ·rcases Bool.eq_false_or_eq_true (!(R27.isSphere base alts)) with g22 | g22
   ·have g22r := g22
    have g22r : (R27.isSphere base alts) = false := bnot_true g22r
    refine sh_ g22 ?_
    refine sh_ g22 ?_
    refine sh_ g22 ?_
    refine sh_ g22 ?_
    refine js_ (vB true) (x_pick_t rfl g22 rfl) ?_
    refine JO_nil (JX_cut (true) (by rw [g22]; simp) ⟨rfl, rfl, rfl, rfl, rfl, rfl, rfl, trivial⟩ (fun _ h => h))
   ·have g22r := g22
    have g22r : (R27.isSphere base alts) = true := bnot_false g22r
    have hi23 := R27.isSphere_valid g22r
    refine JO_read (Value.agg ((DataSet.enc base)).toArray) rfl ⟨_, rfl, g22⟩ (x_loadN 1 (DataSet.enc base) rfl rfl Ty.ag24 Ty.sz24 rfl) ?_
    refine JO_read (Value.agg ((Change.enc c)).toArray) rfl ⟨_, rfl, g22⟩ (x_loadN 0 (Change.enc c) rfl rfl Ty.ag27 Ty.sz27 rfl) ?_
    refine JO_call [] [] [Ent.blk b20 27 (Change.enc c), Ent.blk b19 24 (DataSet.enc base), Ent.blk b18 34 [Value.slice dsA ds.length dsC, Value.pointer none]] rfl ⟨_, rfl, g22⟩ (fun _ => x_call Ty.ca31 rfl) (fun _ h => h) (fun _ h => by cases h) (fun w hS => f31_ok base c w hy_ hy_ hy_) ?_
    rintro _ _ ⟨rfl, rfl⟩
    refine jg_ g22 (vB (!(R27.isChange base c))) (x_not rfl) ?_
    refine js_ (vB (!(R27.isChange base c))) (x_pick_f rfl g22 rfl) ?_
    refine JO_nil (JX_cut (!(R27.isChange base c)) (by rw [g22]; simp) ⟨rfl, rfl, rfl, rfl, rfl, rfl, rfl, trivial⟩ (fun _ h => h))
  rintro z21 rfl
  refine JO_nil (JX_then ?_)
  refine J_cond ((!(R27.isSphere base alts)) || (!(R27.isChange base c))) rfl rfl (fun h24 => ?_) (fun h24 => ?_)
  ·have h24w := h24
   simp only [Bool.and_eq_true, Bool.or_eq_true, Bool.and_eq_false_iff, Bool.or_eq_false_iff, Bool.not_eq_true', Bool.not_eq_false', decide_eq_true_eq, decide_eq_false_iff_not] at h24
   refine J_seq (J_region ?_)
   refine jr_ (Value.slice none 0 0) ?_
   refine jr_ (vI 1) ?_
   refine JO_nil (JX_then (J_ret (JX_then_ret ?_)))
   first
    | have hd : False := by omega
    | have hd := R27.pl_errRA (ds := ds) h24w (by omega) (by omega) no_such_condition (by omega) i2_1 no_such_condition no_such_condition no_such_condition (of_decide_eq_true no_such_condition)
    | have hd := R27.pl_errRB (ds := ds) h24w (by omega) (by omega) i2_1 no_such_condition no_such_condition no_such_condition (of_decide_eq_true no_such_condition)
    | have hd := R27.pl_okRA (ds := ds) h24w (by omega) (by omega) no_such_condition i2_0 (by omega) i2_1
    | have hd := R27.pl_okRB (ds := ds) h24w (by omega) i2_0 (by omega) i2_1
    | have hd := R27.pl_empR (ds := ds) h24w (by omega) i1_0 (by omega) i1_1
    | have hd := R27.pl_getR (ds := ds) h24w (by omega) (by omega) no_such_condition 
    | have hd := R27.pl_bad (ds := ds) h24w 
   refine JX_rets [Value.slice none 0 0, vI 1] (Value.tuple #[Value.slice none 0 0, vI 1]) Try.results11 (fun w h => ⟨rfl, rfl, trivial⟩) rfl [Ent.row (.slice none ([] : List Change).length 0) 27 5 ([] : List Change).length (([] : List Change).flatMap Change.enc)] (fun _ h => (h.nilrow 27 5).keep [true, false, false, false] rfl) ⟨none, 0, ?_, ?_⟩
   ·have e_x0 : (0 : Nat) = ((R27.plan ds base alts c).1.length) := by first | (rw [hd]; done) | (rw [hd]; rfl) | exact hd.elim
    have e_x1 : (1 : Int) = ((R27.plan ds base alts c).2) := by first | (rw [hd]; done) | (rw [hd]; rfl) | exact hd.elim
    have e_all := (congr (congrArg (fun (x0 : Nat) (x1 : Int) => Value.tuple #[Value.slice none x0 0, vI x1]) e_x0) e_x1)
    exact e_all
   ·have e_y0 : (([] : List Change) : List Change) = (R27.plan ds base alts c).1 := by
     first | (rw [hd]; done) | (rw [hd]; rfl) | exact hd.elim
    have e_all := (congrArg (fun (y0 : List Change) => [Ent.row (.slice none y0.length 0) 27 5 y0.length (y0.flatMap Change.enc)]) e_y0)
    exact e_all
  ·have h24w := h24
   have ⟨h24, h25⟩ := bor_false h24
   have h24 : (R27.isSphere base alts) = true := bnot_false h24
   have hi26 := R27.isSphere_valid h24
   have h25 : (R27.isChange base c) = true := bnot_false h25
   refine J_skip (JX_then (J_seq (J_region ?_)))
   refine JO_read (Value.agg ((Change.enc c)).toArray) rfl trivial (x_loadN 0 (Change.enc c) rfl rfl Ty.ag27 Ty.sz27 rfl) ?_
   refine JO_op rfl trivial (O_alloc Ty.ze27 rfl fun b27 => ?_)
   refine JO_op rfl trivial (O_storeS (vs := (Change.enc c)) 0 (Change.enc c) [Ent.blk b27 27 (Change.enc c), Ent.blk b20 27 (Change.enc c), Ent.blk b19 24 (DataSet.enc base), Ent.blk b18 34 [Value.slice dsA ds.length dsC, Value.pointer none]] rfl rfl rfl Ty.sz27 rfl (Nat.le_of_ble_eq_true rfl) rfl (st_all rfl) rfl ?_)
   refine JO_nil (JX_then (J_seq (J_seq (J_region ?_))))
   refine js_ (Value.pointer (some ⟨b20, 0, none⟩)) (x_fieldAddr Ty.fi27_0 rfl rfl) ?_
   refine JO_read (vI c.Kind) rfl trivial (x_load 1 rfl rfl Ty.sc3 rfl) ?_
   refine js_ (vB (decide (c.Kind = 2))) (x_eql_i rfl rfl) ?_
   refine JO_nil (JX_then ?_)
   refine J_cond (decide (c.Kind = 2)) rfl rfl (fun h28 => ?_) (fun h28 => ?_)
   ·have h28w := h28
    have h28 := of_decide_eq_true h28
    refine J_region ?_
    refine js_ (Value.pointer (some ⟨b27, 2, none⟩)) (x_fieldAddr Ty.fi27_2 rfl rfl) ?_
    refine JO_op rfl trivial (O_store 0 [vI c.Kind, vI c.Id, vS [], vS c.Record, vS c.Volume] [Ent.blk b27 27 [vI c.Kind, vI c.Id, vS [], vS c.Record, vS c.Volume], Ent.blk b20 27 (Change.enc c), Ent.blk b19 24 (DataSet.enc base), Ent.blk b18 34 [Value.slice dsA ds.length dsC, Value.pointer none]] rfl rfl rfl Ty.sz9 rfl (Nat.le_of_ble_eq_true rfl) rfl rfl rfl ?_)
    refine JO_nil (JX_then (J_seq (J_region ?_)))
    refine JO_read (Value.agg #[vI c.Kind, vI c.Id, vS [], vS c.Record, vS c.Volume]) rfl trivial (x_loadN 0 [vI c.Kind, vI c.Id, vS [], vS c.Record, vS c.Volume] rfl rfl Ty.ag27 Ty.sz27 rfl) ?_
    refine JO_op rfl trivial (O_buildSlice (cs := [vI c.Kind, vI c.Id, vS [], vS c.Record, vS c.Volume]) Try.underlying31 Ty.sz27 Ty.ze27 (by decide) (by decide) (by kernel_rfl) fun b29 => ?_)
    refine jr_ (Value.slice (some ⟨b29, 0, none⟩) 1 1) ?_
    refine JO_nil (JX_then (J_seq (J_seq (J_region ?_))))
    refine js_ (Value.pointer (some ⟨b20, 0, none⟩)) (x_fieldAddr Ty.fi27_0 rfl rfl) ?_
    refine JO_read (vI c.Kind) rfl trivial (x_load 2 rfl rfl Ty.sc3 rfl) ?_
    refine js_ (vB (decide (c.Kind = 3))) (x_eql_i rfl rfl) ?_
    refine JO_nil (JX_then ?_)
    refine J_cond (decide (c.Kind = 3)) rfl rfl (fun h30 => ?_) (fun h30 => ?_)
    ·have h30w := h30
     have h30 := of_decide_eq_true h30
     omega
    ·have h30w := h30
     have h30 := of_decide_eq_false h30
     refine J_skip (JX_then (J_seq (J_region ?_)))
     refine jr_ (vS []) ?_
     refine jr_ (vB false) ?_
     refine JO_nil (JX_then (J_seq (J_seq (J_region ?_))))
     refine js_ (Value.pointer (some ⟨b20, 0, none⟩)) (x_fieldAddr Ty.fi27_0 rfl rfl) ?_
     refine JO_read (vI c.Kind) rfl trivial (x_load 2 rfl rfl Ty.sc3 rfl) ?_
     refine js_ (vB (decide (c.Kind ≠ 2))) (x_neq_i rfl rfl) ?_
     refine JO_nil (JX_then ?_)
     refine J_cond (decide (c.Kind ≠ 2)) rfl rfl (fun h31 => ?_) (fun h31 => ?_)
     ·have h31w := h31
      have h31 := of_decide_eq_true h31
      omega
     ·have h31w := h31
      have h31 := of_decide_eq_false h31
      refine J_skip (JX_then (J_seq (J_region ?_)))
      refine JO_op rfl trivial (O_buildSlice0 Try.underlying31 Ty.sz27 fun b32 => ?_)
      refine jr_ (Value.slice (some ⟨b32, 0, none⟩) 0 0) ?_
      refine JO_nil (JX_then (J_seq (J_seq (J_region ?_))))
      refine jr_ (vI 0) ?_
      refine JO_nil (JX_then (J_block ?_))
      refine J_loop (X := Nat × (List Change) × (Option Addr) × Nat × (List Change) × (Option Addr) × Nat) (fun (⟨k, xs, xsA, xsC, ys, ysA, ysC⟩ : Nat × (List Change) × (Option Addr) × Nat × (List Change) × (Option Addr) × Nat) => (k ≤ alts.length) ∧ ((xs, ys, (0 : Int)) = (R27.stepsA ds c [] false (alts.take k) ([(Change.mk c.Kind c.Id [] c.Record c.Volume)], [], 0))) ∧ (xs.length ≤ 1 + k) ∧ (ys.length ≤ k)) (fun (⟨k, xs, xsA, xsC, ys, ysA, ysC⟩ : Nat × (List Change) × (Option Addr) × Nat × (List Change) × (Option Addr) × Nat) => [(2, Value.slice altsA alts.length altsC), (4, Value.pointer (some ⟨b18, 0, none⟩)), (7, Value.pointer (some ⟨b20, 0, none⟩)), (11, Value.slice xsA xs.length xsC), (13, vS []), (14, vB false), (17, Value.slice ysA ys.length ysC), (18, vI ((k : Nat) : Int))]) (fun (⟨k, xs, xsA, xsC, ys, ysA, ysC⟩ : Nat × (List Change) × (Option Addr) × Nat × (List Change) × (Option Addr) × Nat) => [Ent.blk b20 27 (Change.enc c), Ent.blk b18 34 [Value.slice dsA ds.length dsC, Value.pointer none], Ent.row (.slice xsA xs.length xsC) 27 5 xs.length (xs.flatMap Change.enc), Ent.row (.slice ysA ys.length ysC) 27 5 ys.length (ys.flatMap Change.enc)]) (fun (⟨k, xs, xsA, xsC, ys, ysA, ysC⟩ : Nat × (List Change) × (Option Addr) × Nat × (List Change) × (Option Addr) × Nat) => alts.length - k) ((0, [(Change.mk c.Kind c.Id [] c.Record c.Volume)], (some ⟨b29, 0, none⟩), 1, ([] : List Change), (some ⟨b32, 0, none⟩), 0) : Nat × (List Change) × (Option Addr) × Nat × (List Change) × (Option Addr) × Nat) ?_ ⟨rfl, rfl, rfl, rfl, rfl, rfl, rfl, rfl, trivial⟩ (fun _ h => (((St.torow (cs := [vI c.Kind, vI c.Id, vS [], vS c.Record, vS c.Volume]) ((St.torow (cs := []) h 5 0 rfl (by decide)).front 1 _ rfl) 5 1 rfl (by decide)).front 5 _ rfl).front 4 _ rfl).keep [true, true, true, true, false, false] rfl) ?_
      ·show (0 ≤ alts.length) ∧ (([(Change.mk c.Kind c.Id [] c.Record c.Volume)], ([] : List Change), (0 : Int)) = (R27.stepsA ds c [] false (alts.take 0) ([(Change.mk c.Kind c.Id [] c.Record c.Volume)], [], 0))) ∧ ([(Change.mk c.Kind c.Id [] c.Record c.Volume)].length ≤ 1 + 0) ∧ (([] : List Change).length ≤ 0)
       refine ⟨?_, ?_, ?_, ?_⟩
       ·first | rfl | omega | (simp_all; done) | (simp_all; omega)
       ·rfl
       ·exact Nat.le_refl _
       ·exact Nat.le_refl _
      rintro ⟨k, xs, xsA, xsC, ys, ysA, ysC⟩ hI2
      obtain ⟨i2_0, i2_1, i2_2, i2_3⟩ : (k ≤ alts.length) ∧ ((xs, ys, (0 : Int)) = (R27.stepsA ds c [] false (alts.take k) ([(Change.mk c.Kind c.Id [] c.Record c.Volume)], [], 0))) ∧ (xs.length ≤ 1 + k) ∧ (ys.length ≤ k) := hI2
      have hl1 := R27.key_len (alts.getD k default) c.Record
      have hl2 := R27.key_len (alts.getD k default) []
      refine J_weaken (E' := [(2, Value.slice altsA alts.length altsC), (4, Value.pointer (some ⟨b18, 0, none⟩)), (7, Value.pointer (some ⟨b20, 0, none⟩)), (11, Value.slice xsA xs.length xsC), (13, vS []), (14, vB false), (17, Value.slice ysA ys.length ysC), (18, vI ((k : Nat) : Int))]) (L' := [Ent.blk b20 27 (Change.enc c), Ent.blk b18 34 [Value.slice dsA ds.length dsC, Value.pointer none], Ent.row (.slice xsA xs.length xsC) 27 5 xs.length (xs.flatMap Change.enc), Ent.row (.slice ysA ys.length ysC) 27 5 ys.length (ys.flatMap Change.enc)]) ⟨rfl, rfl, rfl, rfl, rfl, rfl, rfl, rfl, trivial⟩ (fun _ h => h) ?_
      refine J_seq (J_seq (J_region ?_))
      refine jr_ (vI ((k : Nat) : Int)) ?_
      refine jr_ (Value.slice altsA alts.length altsC) ?_
      refine js_ (vI ((alts.length : Nat) : Int)) (x_len_sl Try.underlying25 rfl) ?_
      refine js_ (vB (decide (((k : Nat) : Int) < ((alts.length : Nat) : Int)))) (x_lss_i rfl rfl) ?_
      refine JO_nil (JX_then ?_)
      refine J_cond (decide (((k : Nat) : Int) < ((alts.length : Nat) : Int))) rfl rfl (fun h33 => ?_) (fun h33 => ?_)
      ·have h33w := h33
       have h33 := of_decide_eq_true h33
       refine J_skip (JX_then (J_seq (J_block (J_seq (J_region ?_)))))
       refine jr_ (Value.slice altsA alts.length altsC) ?_
       refine jr_ (vI ((k : Nat) : Int)) ?_
       refine JO_read (Value.pointer (some (adr altsA (k * 21)))) rfl trivial (x_indexAddr_at (k := k) (off := k * 21) (cells_ro altsR) Try.underlying25 Ty.sz24 rfl rfl lt_ (by rw [flat_length DataSet.enc 21 DataSet.enc_len]; first | omega | (simp; omega) | (simp_all; omega) | (simp_all; done)) rfl) ?_
       refine JO_read (Value.agg ((DataSet.enc (alts.getD k default))).toArray) rfl trivial (x_loadN_at (DataSet.enc (alts.getD k default)) (cells_ro altsR) rfl Ty.ag24 Ty.sz24 (flat_drop DataSet.enc 21 DataSet.enc_len alts default k lt_)) ?_
       refine jr_ (vS []) ?_
       refine JO_call [] [] [Ent.blk b20 27 (Change.enc c), Ent.blk b18 34 [Value.slice dsA ds.length dsC, Value.pointer none], Ent.row (.slice xsA xs.length xsC) 27 5 xs.length (xs.flatMap Change.enc), Ent.row (.slice ysA ys.length ysC) 27 5 ys.length (ys.flatMap Change.enc)] rfl trivial (fun _ => x_call Ty.ca17 rfl) (fun _ h => h) (fun _ h => by cases h) (fun w hS => f17_ok (alts.getD k default) [] w) ?_
       rintro _ _ ⟨rfl, rfl⟩
       refine jr_ (Value.tuple #[vS ((R26.key (alts.getD k default) []).1), vB ((R26.key (alts.getD k default) []).2)]) ?_
       refine jr_ (vS ((R26.key (alts.getD k default) []).1)) ?_
       refine jr_ (vB ((R26.key (alts.getD k default) []).2)) ?_
       refine jr_ (vS ((R26.key (alts.getD k default) []).1)) ?_
       refine jr_ (vB ((R26.key (alts.getD k default) []).2)) ?_
       refine JO_nil (JX_then (J_seq (J_region ?_)))
       refine jr_ (vB ((R26.key (alts.getD k default) []).2)) ?_
       refine jr_ (vB ((R26.key (alts.getD k default) []).2)) ?_
       refine JO_cut 2 (fun z => z = (((R26.key (alts.getD k default) []).2) && false)) (fun z => [(2, Value.slice altsA alts.length altsC), (4, Value.pointer (some ⟨b18, 0, none⟩)), (7, Value.pointer (some ⟨b20, 0, none⟩)), (11, Value.slice xsA xs.length xsC), (13, vS []), (14, vB false), (17, Value.slice ysA ys.length ysC), (18, vI ((k : Nat) : Int)), (19, vS ((R26.key (alts.getD k default) []).1)), (20, vB ((R26.key (alts.getD k default) []).2)), (110, vB z)]) (fun _ => [Ent.blk b20 27 (Change.enc c), Ent.blk b18 34 [Value.slice dsA ds.length dsC, Value.pointer none], Ent.row (.slice xsA xs.length xsC) 27 5 xs.length (xs.flatMap Change.enc), Ent.row (.slice ysA ys.length ysC) 27 5 ys.length (ys.flatMap Change.enc)]) ?_ ?_
       ·rcases Bool.eq_false_or_eq_true ((R26.key (alts.getD k default) []).2) with g35 | g35
        ·have g35r := g35
         have hi36 := R26.key_facts g35r
         refine jg_ g35 (vB false) (rfl) ?_
         refine js_ (vB false) (x_pick_t rfl g35 rfl) ?_
         refine JO_nil (JX_cut (false) (by rw [g35]; simp) ⟨rfl, rfl, rfl, rfl, rfl, rfl, rfl, rfl, rfl, rfl, rfl, trivial⟩ (fun _ h => h))
        ·have g35r := g35
         refine sh_ g35 ?_
         refine js_ (vB false) (x_pick_f rfl g35 rfl) ?_
         refine JO_nil (JX_cut (false) (by rw [g35]; simp) ⟨rfl, rfl, rfl, rfl, rfl, rfl, rfl, rfl, rfl, rfl, rfl, trivial⟩ (fun _ h => h))
       rintro z34 rfl
       refine jr_ (vB (((R26.key (alts.getD k default) []).2) && false)) ?_
       refine JO_nil (JX_then (J_seq ?_))
       refine J_draw [Ent.blk b20 27 (Change.enc c), Ent.blk b18 34 [Value.slice dsA ds.length dsC, Value.pointer none], Ent.row (.slice xsA xs.length xsC) 27 5 xs.length (xs.flatMap Change.enc), Ent.row (.slice ysA ys.length ysC) 27 5 ys.length (ys.flatMap Change.enc)] [] [Ent.blk b20 27 (Change.enc c), Ent.blk b18 34 [Value.slice dsA ds.length dsC, Value.pointer none], Ent.row (.slice xsA xs.length xsC) 27 5 xs.length (xs.flatMap Change.enc), Ent.row (.slice ysA ys.length ysC) 27 5 ys.length (ys.flatMap Change.enc)] 12 Ty.mixed rfl ?_
       refine jt_ 0 (Value.slice altsA alts.length altsC) rfl (fun _ _ => rfl) ?_
       refine jt_ 1 (vI ((k : Nat) : Int)) rfl (fun _ _ => rfl) ?_
       refine jt_ 2 (Value.pointer (some (adr altsA (k * 21)))) rfl (x_indexAddr_at (k := k) (off := k * 21) (cells_ro altsR) Try.underlying25 Ty.sz24 rfl rfl lt_ (by rw [flat_length DataSet.enc 21 DataSet.enc_len]; first | omega | (simp; omega) | (simp_all; omega) | (simp_all; done)) rfl) ?_
       refine jt_ 3 (Value.agg ((DataSet.enc (alts.getD k default))).toArray) rfl (x_loadN_at (DataSet.enc (alts.getD k default)) (cells_ro altsR) rfl Ty.ag24 Ty.sz24 (flat_drop DataSet.enc 21 DataSet.enc_len alts default k lt_)) ?_
       refine jt_ 4 (Value.pointer (some ⟨b20, 3, none⟩)) rfl (fun _ _ => x_fieldAddr Ty.fi27_3 rfl rfl) ?_
       refine jt_ 5 (vS c.Record) rfl (x_load 0 rfl rfl Ty.sc9 rfl) ?_
       refine JA_one 6 (by kernel_rfl) (fun _ h => ⟨h, fun _ => h⟩) ?_
       refine JI_call [] [] [Ent.blk b20 27 (Change.enc c), Ent.blk b18 34 [Value.slice dsA ds.length dsC, Value.pointer none], Ent.row (.slice xsA xs.length xsC) 27 5 xs.length (xs.flatMap Change.enc), Ent.row (.slice ysA ys.length ysC) 27 5 ys.length (ys.flatMap Change.enc)] rfl rfl trivial (fun _ => x_call Ty.ca17 rfl) (fun _ h => h) (fun _ h => by cases h) (fun w hS => f17_ok (alts.getD k default) c.Record w) ?_
       rintro _ _ ⟨rfl, rfl⟩
       refine jt_ 7 (Value.tuple #[vS ((R26.key (alts.getD k default) c.Record).1), vB ((R26.key (alts.getD k default) c.Record).2)]) rfl (fun _ _ => rfl) ?_
       refine jt_ 8 (vS ((R26.key (alts.getD k default) c.Record).1)) rfl (fun _ _ => rfl) ?_
       refine jt_ 9 (vB ((R26.key (alts.getD k default) c.Record).2)) rfl (fun _ _ => rfl) ?_
       refine jt_ 10 (vS ((R26.key (alts.getD k default) c.Record).1)) rfl (fun _ _ => rfl) ?_
       refine jt_ 11 (vB ((R26.key (alts.getD k default) c.Record).2)) rfl (fun _ _ => rfl) ?_
       refine JA_done (by kernel_rfl) (fun _ h => ⟨h, fun _ => h⟩) ?_
       refine JX_then (J_seq (J_region ?_))
       refine jr_ (vB ((R26.key (alts.getD k default) c.Record).2)) ?_
       refine jr_ (vB ((R26.key (alts.getD k default) c.Record).2)) ?_
       refine JO_cut 4 (fun z => z = (((R26.key (alts.getD k default) c.Record).2) && (decide (c.Kind ≠ 1)))) (fun z => [(2, Value.slice altsA alts.length altsC), (4, Value.pointer (some ⟨b18, 0, none⟩)), (7, Value.pointer (some ⟨b20, 0, none⟩)), (11, Value.slice xsA xs.length xsC), (13, vS []), (14, vB false), (17, Value.slice ysA ys.length ysC), (18, vI ((k : Nat) : Int)), (19, vS ((R26.key (alts.getD k default) []).1)), (20, vB (((R26.key (alts.getD k default) []).2) && false)), (21, vS ((R26.key (alts.getD k default) c.Record).1)), (22, vB ((R26.key (alts.getD k default) c.Record).2)), (126, vB z)]) (fun _ => [Ent.blk b20 27 (Change.enc c), Ent.blk b18 34 [Value.slice dsA ds.length dsC, Value.pointer none], Ent.row (.slice xsA xs.length xsC) 27 5 xs.length (xs.flatMap Change.enc), Ent.row (.slice ysA ys.length ysC) 27 5 ys.length (ys.flatMap Change.enc)]) ?_ ?_
       ·rcases Bool.eq_false_or_eq_true ((R26.key (alts.getD k default) c.Record).2) with g38 | g38
        ·have g38r := g38
         have hi39 := R26.key_facts g38r
         refine jg_ g38 (Value.pointer (some ⟨b20, 0, none⟩)) (x_fieldAddr Ty.fi27_0 rfl rfl) ?_
         refine JO_read (vI c.Kind) rfl ⟨_, rfl, g38⟩ (x_load 0 rfl rfl Ty.sc3 rfl) ?_
         refine jg_ g38 (vB (decide (c.Kind ≠ 1))) (x_neq_i rfl rfl) ?_
         refine js_ (vB (decide (c.Kind ≠ 1))) (x_pick_t rfl g38 rfl) ?_
         refine JO_nil (JX_cut (decide (c.Kind ≠ 1)) (by rw [g38]; simp) ⟨rfl, rfl, rfl, rfl, rfl, rfl, rfl, rfl, rfl, rfl, rfl, rfl, rfl, trivial⟩ (fun _ h => h))
        ·have g38r := g38
         refine sh_ g38 ?_
         refine sh_ g38 ?_
         refine sh_ g38 ?_
         refine js_ (vB false) (x_pick_f rfl g38 rfl) ?_
         refine JO_nil (JX_cut (false) (by rw [g38]; simp) ⟨rfl, rfl, rfl, rfl, rfl, rfl, rfl, rfl, rfl, rfl, rfl, rfl, rfl, trivial⟩ (fun _ h => h))
       rintro z37 rfl
       refine jr_ (vB (((R26.key (alts.getD k default) c.Record).2) && (decide (c.Kind ≠ 1)))) ?_
       refine JO_nil (JX_then (J_seq (J_seq (J_region ?_))))
       refine jr_ (vB (((R26.key (alts.getD k default) []).2) && false)) ?_
       refine jr_ (vB (((R26.key (alts.getD k default) []).2) && false)) ?_
       refine JO_cut 8 (fun z => z = ((((R26.key (alts.getD k default) []).2) && false) && ((!(((R26.key (alts.getD k default) c.Record).2) && (decide (c.Kind ≠ 1)))) || (decide ((R26.key (alts.getD k default) []).1 ≠ (R26.key (alts.getD k default) c.Record).1))))) (fun z => [(2, Value.slice altsA alts.length altsC), (4, Value.pointer (some ⟨b18, 0, none⟩)), (7, Value.pointer (some ⟨b20, 0, none⟩)), (11, Value.slice xsA xs.length xsC), (13, vS []), (14, vB false), (17, Value.slice ysA ys.length ysC), (18, vI ((k : Nat) : Int)), (19, vS ((R26.key (alts.getD k default) []).1)), (20, vB (((R26.key (alts.getD k default) []).2) && false)), (21, vS ((R26.key (alts.getD k default) c.Record).1)), (22, vB (((R26.key (alts.getD k default) c.Record).2) && (decide (c.Kind ≠ 1)))), (136, vB z)]) (fun _ => [Ent.blk b20 27 (Change.enc c), Ent.blk b18 34 [Value.slice dsA ds.length dsC, Value.pointer none], Ent.row (.slice xsA xs.length xsC) 27 5 xs.length (xs.flatMap Change.enc), Ent.row (.slice ysA ys.length ysC) 27 5 ys.length (ys.flatMap Change.enc)]) ?_ ?_
       ·rcases Bool.eq_false_or_eq_true (((R26.key (alts.getD k default) []).2) && false) with g41 | g41
        ·have g41r := g41
         have ⟨g41r, h42⟩ := band_true g41r
         have hi43 := R26.key_facts g41r
         refine jg_ g41 (vB (((R26.key (alts.getD k default) c.Record).2) && (decide (c.Kind ≠ 1)))) (rfl) ?_
         refine jg_ g41 (vB (!(((R26.key (alts.getD k default) c.Record).2) && (decide (c.Kind ≠ 1))))) (x_not rfl) ?_
         refine jg_ g41 (vB (!(((R26.key (alts.getD k default) c.Record).2) && (decide (c.Kind ≠ 1))))) (rfl) ?_
         refine JO_cut 4 (fun z => z = ((!(((R26.key (alts.getD k default) c.Record).2) && (decide (c.Kind ≠ 1)))) || (decide ((R26.key (alts.getD k default) []).1 ≠ (R26.key (alts.getD k default) c.Record).1)))) (fun z => [(2, Value.slice altsA alts.length altsC), (4, Value.pointer (some ⟨b18, 0, none⟩)), (7, Value.pointer (some ⟨b20, 0, none⟩)), (11, Value.slice xsA xs.length xsC), (13, vS []), (14, vB false), (17, Value.slice ysA ys.length ysC), (18, vI ((k : Nat) : Int)), (19, vS ((R26.key (alts.getD k default) []).1)), (20, vB (((R26.key (alts.getD k default) []).2) && false)), (21, vS ((R26.key (alts.getD k default) c.Record).1)), (22, vB (((R26.key (alts.getD k default) c.Record).2) && (decide (c.Kind ≠ 1)))), (128, vB (((R26.key (alts.getD k default) []).2) && false)), (135, vB z)]) (fun _ => [Ent.blk b20 27 (Change.enc c), Ent.blk b18 34 [Value.slice dsA ds.length dsC, Value.pointer none], Ent.row (.slice xsA xs.length xsC) 27 5 xs.length (xs.flatMap Change.enc), Ent.row (.slice ysA ys.length ysC) 27 5 ys.length (ys.flatMap Change.enc)]) ?_ ?_
         ·rcases Bool.eq_false_or_eq_true (!(((R26.key (alts.getD k default) c.Record).2) && (decide (c.Kind ≠ 1)))) with g45 | g45
          ·have g45r := g45
           have g45r : (((R26.key (alts.getD k default) c.Record).2) && (decide (c.Kind ≠ 1))) = false := bnot_true g45r
           simp only [Bool.and_eq_true, Bool.or_eq_true, Bool.and_eq_false_iff, Bool.or_eq_false_iff, Bool.not_eq_true', Bool.not_eq_false', decide_eq_true_eq, decide_eq_false_iff_not] at g45r
           refine sh_ g45 ?_
           refine sh_ g45 ?_
           refine sh_ g45 ?_
           refine jg_ g41 (vB true) (x_pick_t rfl g45 rfl) ?_
           refine JO_nil (JX_cut (true) (by rw [g45]; simp) ⟨rfl, rfl, rfl, rfl, rfl, rfl, rfl, rfl, rfl, rfl, rfl, rfl, rfl, rfl, trivial⟩ (fun _ h => h))
          ·have g45r := g45
           have g45r : (((R26.key (alts.getD k default) c.Record).2) && (decide (c.Kind ≠ 1))) = true := bnot_false g45r
           have ⟨g45r, h46⟩ := band_true g45r
           have hi47 := R26.key_facts g45r
           have h46 := of_decide_eq_true h46
           refine jg_ g45 (vS ((R26.key (alts.getD k default) []).1)) (rfl) ?_
           refine jg_ g45 (vS ((R26.key (alts.getD k default) c.Record).1)) (rfl) ?_
           refine jg_ g45 (vB (decide ((R26.key (alts.getD k default) []).1 ≠ (R26.key (alts.getD k default) c.Record).1))) (x_neq_s rfl rfl) ?_
           refine jg_ g41 (vB (decide ((R26.key (alts.getD k default) []).1 ≠ (R26.key (alts.getD k default) c.Record).1))) (x_pick_f rfl g45 rfl) ?_
           refine JO_nil (JX_cut (decide ((R26.key (alts.getD k default) []).1 ≠ (R26.key (alts.getD k default) c.Record).1)) (by rw [g45]; simp) ⟨rfl, rfl, rfl, rfl, rfl, rfl, rfl, rfl, rfl, rfl, rfl, rfl, rfl, rfl, trivial⟩ (fun _ h => h))
         rintro z44 rfl
         refine js_ (vB ((!(((R26.key (alts.getD k default) c.Record).2) && (decide (c.Kind ≠ 1)))) || (decide ((R26.key (alts.getD k default) []).1 ≠ (R26.key (alts.getD k default) c.Record).1)))) (x_pick_t rfl g41 rfl) ?_
         refine JO_nil (JX_cut ((!(((R26.key (alts.getD k default) c.Record).2) && (decide (c.Kind ≠ 1)))) || (decide ((R26.key (alts.getD k default) []).1 ≠ (R26.key (alts.getD k default) c.Record).1))) (by rw [g41]; simp) ⟨rfl, rfl, rfl, rfl, rfl, rfl, rfl, rfl, rfl, rfl, rfl, rfl, rfl, trivial⟩ (fun _ h => h))
        ·have g41r := g41
         simp only [Bool.and_eq_true, Bool.or_eq_true, Bool.and_eq_false_iff, Bool.or_eq_false_iff, Bool.not_eq_true', Bool.not_eq_false', decide_eq_true_eq, decide_eq_false_iff_not] at g41r
         refine sh_ g41 ?_
         refine sh_ g41 ?_
         refine sh_ g41 ?_
         refine JO_shunU rfl ⟨_, rfl, rfl⟩ ?_
         refine JO_shunU rfl ⟨_, rfl, rfl⟩ ?_
         refine JO_shunU rfl ⟨_, rfl, rfl⟩ ?_
         refine sh_ g41 ?_
         refine js_ (vB false) (x_pick_f rfl g41 rfl) ?_
         refine JO_nil (JX_cut (false) (by rw [g41]; simp) ⟨rfl, rfl, rfl, rfl, rfl, rfl, rfl, rfl, rfl, rfl, rfl, rfl, rfl, trivial⟩ (fun _ h => h))
       rintro z40 rfl
       refine JO_nil (JX_then ?_)
       refine J_cond ((((R26.key (alts.getD k default) []).2) && false) && ((!(((R26.key (alts.getD k default) c.Record).2) && (decide (c.Kind ≠ 1)))) || (decide ((R26.key (alts.getD k default) []).1 ≠ (R26.key (alts.getD k default) c.Record).1)))) rfl rfl (fun h48 => ?_) (fun h48 => ?_)
       ·have h48w := h48
        have ⟨h48, h49⟩ := band_true h48
        have ⟨h48, h50⟩ := band_true h48
        have hi51 := R26.key_facts h48
        simp only [Bool.and_eq_true, Bool.or_eq_true, Bool.and_eq_false_iff, Bool.or_eq_false_iff, Bool.not_eq_true', Bool.not_eq_false', decide_eq_true_eq, decide_eq_false_iff_not] at h49
        refine J_draw [Ent.blk b20 27 (Change.enc c), Ent.blk b18 34 [Value.slice dsA ds.length dsC, Value.pointer none], Ent.row (.slice ysA ys.length ysC) 27 5 ys.length (ys.flatMap Change.enc)] [12] [Ent.blk b20 27 (Change.enc c), Ent.blk b18 34 [Value.slice dsA ds.length dsC, Value.pointer none], Ent.row (.slice xsA xs.length xsC) 27 5 xs.length (xs.flatMap Change.enc), Ent.row (.slice ysA ys.length ysC) 27 5 ys.length (ys.flatMap Change.enc)] 14 Ty.mixed rfl ?_
        refine jt_ 0 (Value.slice xsA xs.length xsC) rfl (fun _ _ => rfl) ?_
        refine jt_ 1 (Value.slice altsA alts.length altsC) rfl (fun _ _ => rfl) ?_
        refine jt_ 2 (vI ((k : Nat) : Int)) rfl (fun _ _ => rfl) ?_
        refine jt_ 3 (Value.pointer (some (adr altsA (k * 21)))) rfl (x_indexAddr_at (k := k) (off := k * 21) (cells_ro altsR) Try.underlying25 Ty.sz24 rfl rfl lt_ (by rw [flat_length DataSet.enc 21 DataSet.enc_len]; first | omega | (simp; omega) | (simp_all; omega) | (simp_all; done)) rfl) ?_
        refine jt_ 4 (Value.pointer (some (adr altsA (k * 21)))) rfl (fun _ _ => x_fieldAddr Ty.fi24_0 rfl rfl) ?_
        refine jt_ 5 (vI ((alts.getD k default).Id)) rfl (x_load_at (cells_ro altsR) rfl Ty.sc3 (flat_at DataSet.enc 21 DataSet.enc_len alts default k 0 lt_ (by decide))) ?_
        refine jt_ 6 (vS ((R26.key (alts.getD k default) []).1)) rfl (fun _ _ => rfl) ?_
        refine jt_ 7 (Value.pointer (some ⟨b20, 2, none⟩)) rfl (fun _ _ => x_fieldAddr Ty.fi27_2 rfl rfl) ?_
        refine jt_ 8 (vS c.Key) rfl (x_load 0 rfl rfl Ty.sc9 rfl) ?_
        refine jt_ 9 (vS (((R26.key (alts.getD k default) []).1) ++ c.Key)) rfl (fun _ _ => x_cat_s rfl rfl (by first | omega | (simp only [List.length_append, List.length_cons, List.length_nil]; omega) | (simp; omega) | (simp_all; omega))) ?_
        refine jt_ 10 (Value.agg ([vI 1, vI ((alts.getD k default).Id), vS (((R26.key (alts.getD k default) []).1) ++ c.Key), vS [], vS []]).toArray) rfl (fun _ _ => x_build (by kernel_rfl)) ?_
        refine JA_one 11 (by kernel_rfl) (fun _ h => ⟨h.keep [true, true, false, true] rfl, fun _ => h⟩) ?_
        refine JI_op rfl rfl trivial (O_buildSlice (cs := [vI 1, vI ((alts.getD k default).Id), vS (((R26.key (alts.getD k default) []).1) ++ c.Key), vS [], vS []]) Try.underlying31 Ty.sz27 Ty.ze27 (by decide) (by decide) (by kernel_rfl) fun b53 => ?_)
        refine JA_one 12 (by kernel_rfl) (fun _ h => ⟨h.keep [false, true, true, false, true] rfl, fun _ => h.keep [false, true, true, true, true] rfl⟩) ?_
        refine JI_op rfl rfl trivial (O_append_f 3 Change.enc 5 xs [(Change.mk 1 ((alts.getD k default).Id) (((R26.key (alts.getD k default) []).1) ++ c.Key) [] [])] Try.underlying31 Ty.sz27 Ty.by27 Ty.ze27 rfl (by decide) rfl rfl rfl rfl Change.enc_len Change.enc_one (cells_blk 0 (off := 0) (m := 5) rfl rfl) lt_ lt_ fun A56 c57 => ?_)
        refine jt_ 13 (Value.slice A56 ((xs ++ [(Change.mk 1 ((alts.getD k default).Id) (((R26.key (alts.getD k default) []).1) ++ c.Key) [] [])]).length) c57) rfl (fun _ _ => rfl) ?_
        refine JA_done (by kernel_rfl) (fun _ h => ⟨h.keep [false, true, true, false, true] rfl, fun hh => Bool.noConfusion (show false = true from hh)⟩) ?_
        refine JX_then (J_seq (J_region ?_))
        refine jr_ (vB (((R26.key (alts.getD k default) c.Record).2) && (decide (c.Kind ≠ 1)))) ?_
        refine jr_ (vB (((R26.key (alts.getD k default) c.Record).2) && (decide (c.Kind ≠ 1)))) ?_
        refine JO_cut 8 (fun z => z = ((((R26.key (alts.getD k default) c.Record).2) && (decide (c.Kind ≠ 1))) && ((!(((R26.key (alts.getD k default) []).2) && false)) || (decide ((R26.key (alts.getD k default) []).1 ≠ (R26.key (alts.getD k default) c.Record).1))))) (fun z => [(2, Value.slice altsA alts.length altsC), (4, Value.pointer (some ⟨b18, 0, none⟩)), (7, Value.pointer (some ⟨b20, 0, none⟩)), (11, Value.slice A56 ((xs ++ [(Change.mk 1 ((alts.getD k default).Id) (((R26.key (alts.getD k default) []).1) ++ c.Key) [] [])]).length) c57), (13, vS []), (14, vB false), (17, Value.slice ysA ys.length ysC), (18, vI ((k : Nat) : Int)), (21, vS ((R26.key (alts.getD k default) c.Record).1)), (159, vB z)]) (fun _ => [Ent.blk b53 27 [vI 1, vI ((alts.getD k default).Id), vS (((R26.key (alts.getD k default) []).1) ++ c.Key), vS [], vS []], Ent.blk b20 27 (Change.enc c), Ent.blk b18 34 [Value.slice dsA ds.length dsC, Value.pointer none], Ent.row (.slice A56 (xs ++ [(Change.mk 1 ((alts.getD k default).Id) (((R26.key (alts.getD k default) []).1) ++ c.Key) [] [])]).length c57) 27 5 (xs ++ [(Change.mk 1 ((alts.getD k default).Id) (((R26.key (alts.getD k default) []).1) ++ c.Key) [] [])]).length ((xs ++ [(Change.mk 1 ((alts.getD k default).Id) (((R26.key (alts.getD k default) []).1) ++ c.Key) [] [])]).flatMap Change.enc), Ent.row (.slice ysA ys.length ysC) 27 5 ys.length (ys.flatMap Change.enc)]) ?_ ?_
        ·rcases Bool.eq_false_or_eq_true (((R26.key (alts.getD k default) c.Record).2) && (decide (c.Kind ≠ 1))) with g59 | g59
         ·have g59r := g59
          have ⟨g59r, h60⟩ := band_true g59r
          have hi61 := R26.key_facts g59r
          have h60 := of_decide_eq_true h60
          refine jg_ g59 (vB (((R26.key (alts.getD k default) []).2) && false)) (rfl) ?_
          refine jg_ g59 (vB (!(((R26.key (alts.getD k default) []).2) && false))) (x_not rfl) ?_
          refine jg_ g59 (vB (!(((R26.key (alts.getD k default) []).2) && false))) (rfl) ?_
          refine JO_cut 4 (fun z => z = ((!(((R26.key (alts.getD k default) []).2) && false)) || (decide ((R26.key (alts.getD k default) []).1 ≠ (R26.key (alts.getD k default) c.Record).1)))) (fun z => [(2, Value.slice altsA alts.length altsC), (4, Value.pointer (some ⟨b18, 0, none⟩)), (7, Value.pointer (some ⟨b20, 0, none⟩)), (11, Value.slice A56 ((xs ++ [(Change.mk 1 ((alts.getD k default).Id) (((R26.key (alts.getD k default) []).1) ++ c.Key) [] [])]).length) c57), (13, vS []), (14, vB false), (17, Value.slice ysA ys.length ysC), (18, vI ((k : Nat) : Int)), (21, vS ((R26.key (alts.getD k default) c.Record).1)), (151, vB (((R26.key (alts.getD k default) c.Record).2) && (decide (c.Kind ≠ 1)))), (158, vB z)]) (fun _ => [Ent.blk b53 27 [vI 1, vI ((alts.getD k default).Id), vS (((R26.key (alts.getD k default) []).1) ++ c.Key), vS [], vS []], Ent.blk b20 27 (Change.enc c), Ent.blk b18 34 [Value.slice dsA ds.length dsC, Value.pointer none], Ent.row (.slice A56 (xs ++ [(Change.mk 1 ((alts.getD k default).Id) (((R26.key (alts.getD k default) []).1) ++ c.Key) [] [])]).length c57) 27 5 (xs ++ [(Change.mk 1 ((alts.getD k default).Id) (((R26.key (alts.getD k default) []).1) ++ c.Key) [] [])]).length ((xs ++ [(Change.mk 1 ((alts.getD k default).Id) (((R26.key (alts.getD k default) []).1) ++ c.Key) [] [])]).flatMap Change.enc), Ent.row (.slice ysA ys.length ysC) 27 5 ys.length (ys.flatMap Change.enc)]) ?_ ?_
          ·rcases Bool.eq_false_or_eq_true (!(((R26.key (alts.getD k default) []).2) && false)) with g63 | g63
           ·have g63r := g63
            have g63r : (((R26.key (alts.getD k default) []).2) && false) = false := bnot_true g63r
            simp only [Bool.and_eq_true, Bool.or_eq_true, Bool.and_eq_false_iff, Bool.or_eq_false_iff, Bool.not_eq_true', Bool.not_eq_false', decide_eq_true_eq, decide_eq_false_iff_not] at g63r
            refine sh_ g63 ?_
            refine sh_ g63 ?_
            refine sh_ g63 ?_
            refine jg_ g59 (vB true) (x_pick_t rfl g63 rfl) ?_
            refine JO_nil (JX_cut (true) (by rw [g63]; simp) ⟨rfl, rfl, rfl, rfl, rfl, rfl, rfl, rfl, rfl, rfl, rfl, trivial⟩ (fun _ h => h))
           ·have g63r := g63
            have g63r : (((R26.key (alts.getD k default) []).2) && false) = true := bnot_false g63r
            have ⟨g63r, h64⟩ := band_true g63r
            have hi65 := R26.key_facts g63r
            refine jg_ g63 (vS ((R26.key (alts.getD k default) []).1)) (rfl) ?_
            refine jg_ g63 (vS ((R26.key (alts.getD k default) c.Record).1)) (rfl) ?_
            refine jg_ g63 (vB (decide ((R26.key (alts.getD k default) []).1 ≠ (R26.key (alts.getD k default) c.Record).1))) (x_neq_s rfl rfl) ?_
            refine jg_ g59 (vB (decide ((R26.key (alts.getD k default) []).1 ≠ (R26.key (alts.getD k default) c.Record).1))) (x_pick_f rfl g63 rfl) ?_
            refine JO_nil (JX_cut (decide ((R26.key (alts.getD k default) []).1 ≠ (R26.key (alts.getD k default) c.Record).1)) (by rw [g63]; simp) ⟨rfl, rfl, rfl, rfl, rfl, rfl, rfl, rfl, rfl, rfl, rfl, trivial⟩ (fun _ h => h))
          rintro z62 rfl
          refine js_ (vB ((!(((R26.key (alts.getD k default) []).2) && false)) || (decide ((R26.key (alts.getD k default) []).1 ≠ (R26.key (alts.getD k default) c.Record).1)))) (x_pick_t rfl g59 rfl) ?_
          refine JO_nil (JX_cut ((!(((R26.key (alts.getD k default) []).2) && false)) || (decide ((R26.key (alts.getD k default) []).1 ≠ (R26.key (alts.getD k default) c.Record).1))) (by rw [g59]; simp) ⟨rfl, rfl, rfl, rfl, rfl, rfl, rfl, rfl, rfl, rfl, trivial⟩ (fun _ h => h))
         ·have g59r := g59
          simp only [Bool.and_eq_true, Bool.or_eq_true, Bool.and_eq_false_iff, Bool.or_eq_false_iff, Bool.not_eq_true', Bool.not_eq_false', decide_eq_true_eq, decide_eq_false_iff_not] at g59r
          refine sh_ g59 ?_
          refine sh_ g59 ?_
          refine sh_ g59 ?_
          refine JO_shunU rfl ⟨_, rfl, rfl⟩ ?_
          refine JO_shunU rfl ⟨_, rfl, rfl⟩ ?_
          refine JO_shunU rfl ⟨_, rfl, rfl⟩ ?_
          refine sh_ g59 ?_
          refine js_ (vB false) (x_pick_f rfl g59 rfl) ?_
          refine JO_nil (JX_cut (false) (by rw [g59]; simp) ⟨rfl, rfl, rfl, rfl, rfl, rfl, rfl, rfl, rfl, rfl, trivial⟩ (fun _ h => h))
        rintro z58 rfl
        refine JO_nil (JX_then ?_)
        refine J_cond ((((R26.key (alts.getD k default) c.Record).2) && (decide (c.Kind ≠ 1))) && ((!(((R26.key (alts.getD k default) []).2) && false)) || (decide ((R26.key (alts.getD k default) []).1 ≠ (R26.key (alts.getD k default) c.Record).1)))) rfl rfl (fun h66 => ?_) (fun h66 => ?_)
        ·have h66w := h66
         have ⟨h66, h67⟩ := band_true h66
         have ⟨h66, h68⟩ := band_true h66
         have hi69 := R26.key_facts h66
         have h68 := of_decide_eq_true h68
         simp only [Bool.and_eq_true, Bool.or_eq_true, Bool.and_eq_false_iff, Bool.or_eq_false_iff, Bool.not_eq_true', Bool.not_eq_false', decide_eq_true_eq, decide_eq_false_iff_not] at h67
         refine J_seq (J_seq (J_region ?_))
         refine jr_ (Value.slice altsA alts.length altsC) ?_
         refine jr_ (vI ((k : Nat) : Int)) ?_
         refine JO_read (Value.pointer (some (adr altsA (k * 21)))) rfl trivial (x_indexAddr_at (k := k) (off := k * 21) (cells_ro altsR) Try.underlying25 Ty.sz24 rfl rfl lt_ (by rw [flat_length DataSet.enc 21 DataSet.enc_len]; first | omega | (simp; omega) | (simp_all; omega) | (simp_all; done)) rfl) ?_
         refine js_ (Value.pointer (some (adr altsA (k * 21 + 14)))) (x_fieldAddr Ty.fi24_14 rfl (adr_add _ _ _)) ?_
         refine JO_read (vB ((alts.getD k default).Unique)) rfl trivial (x_load_at (cells_ro altsR) rfl Ty.sc4 (flat_at DataSet.enc 21 DataSet.enc_len alts default k 14 lt_ (by decide))) ?_
         refine JO_nil (JX_then ?_)
         refine J_cond ((alts.getD k default).Unique) rfl rfl (fun h70 => ?_) (fun h70 => ?_)
         ·have h70w := h70
          refine J_seq ?_
          refine J_draw [Ent.blk b53 27 [vI 1, vI ((alts.getD k default).Id), vS (((R26.key (alts.getD k default) []).1) ++ c.Key), vS [], vS []], Ent.blk b20 27 (Change.enc c), Ent.blk b18 34 [Value.slice dsA ds.length dsC, Value.pointer none], Ent.row (.slice A56 (xs ++ [(Change.mk 1 ((alts.getD k default).Id) (((R26.key (alts.getD k default) []).1) ++ c.Key) [] [])]).length c57) 27 5 (xs ++ [(Change.mk 1 ((alts.getD k default).Id) (((R26.key (alts.getD k default) []).1) ++ c.Key) [] [])]).length ((xs ++ [(Change.mk 1 ((alts.getD k default).Id) (((R26.key (alts.getD k default) []).1) ++ c.Key) [] [])]).flatMap Change.enc), Ent.row (.slice ysA ys.length ysC) 27 5 ys.length (ys.flatMap Change.enc)] [] [Ent.blk b53 27 [vI 1, vI ((alts.getD k default).Id), vS (((R26.key (alts.getD k default) []).1) ++ c.Key), vS [], vS []], Ent.blk b20 27 (Change.enc c), Ent.blk b18 34 [Value.slice dsA ds.length dsC, Value.pointer none], Ent.row (.slice A56 (xs ++ [(Change.mk 1 ((alts.getD k default).Id) (((R26.key (alts.getD k default) []).1) ++ c.Key) [] [])]).length c57) 27 5 (xs ++ [(Change.mk 1 ((alts.getD k default).Id) (((R26.key (alts.getD k default) []).1) ++ c.Key) [] [])]).length ((xs ++ [(Change.mk 1 ((alts.getD k default).Id) (((R26.key (alts.getD k default) []).1) ++ c.Key) [] [])]).flatMap Change.enc), Ent.row (.slice ysA ys.length ysC) 27 5 ys.length (ys.flatMap Change.enc)] 10 Ty.mixed rfl ?_
          refine jt_ 0 (Value.agg #[Value.slice dsA ds.length dsC, Value.pointer none]) rfl (x_loadN 2 [Value.slice dsA ds.length dsC, Value.pointer none] rfl rfl Ty.ag34 Ty.sz34 rfl) ?_
          refine jt_ 1 (Value.slice altsA alts.length altsC) rfl (fun _ _ => rfl) ?_
          refine jt_ 2 (vI ((k : Nat) : Int)) rfl (fun _ _ => rfl) ?_
          refine jt_ 3 (Value.pointer (some (adr altsA (k * 21)))) rfl (x_indexAddr_at (k := k) (off := k * 21) (cells_ro altsR) Try.underlying25 Ty.sz24 rfl rfl lt_ (by rw [flat_length DataSet.enc 21 DataSet.enc_len]; first | omega | (simp; omega) | (simp_all; omega) | (simp_all; done)) rfl) ?_
          refine jt_ 4 (Value.agg ((DataSet.enc (alts.getD k default))).toArray) rfl (x_loadN_at (DataSet.enc (alts.getD k default)) (cells_ro altsR) rfl Ty.ag24 Ty.sz24 (flat_drop DataSet.enc 21 DataSet.enc_len alts default k lt_)) ?_
          refine jt_ 5 (vS ((R26.key (alts.getD k default) c.Record).1)) rfl (fun _ _ => rfl) ?_
          refine jt_ 6 (Value.pointer (some ⟨b20, 2, none⟩)) rfl (fun _ _ => x_fieldAddr Ty.fi27_2 rfl rfl) ?_
          refine jt_ 7 (vS c.Key) rfl (x_load 1 rfl rfl Ty.sc9 rfl) ?_
          refine JA_one 8 (by kernel_rfl) (fun _ h => ⟨h, fun _ => h⟩) ?_
          refine JI_call [] [] [Ent.blk b53 27 [vI 1, vI ((alts.getD k default).Id), vS (((R26.key (alts.getD k default) []).1) ++ c.Key), vS [], vS []], Ent.blk b20 27 (Change.enc c), Ent.blk b18 34 [Value.slice dsA ds.length dsC, Value.pointer none], Ent.row (.slice A56 (xs ++ [(Change.mk 1 ((alts.getD k default).Id) (((R26.key (alts.getD k default) []).1) ++ c.Key) [] [])]).length c57) 27 5 (xs ++ [(Change.mk 1 ((alts.getD k default).Id) (((R26.key (alts.getD k default) []).1) ++ c.Key) [] [])]).length ((xs ++ [(Change.mk 1 ((alts.getD k default).Id) (((R26.key (alts.getD k default) []).1) ++ c.Key) [] [])]).flatMap Change.enc), Ent.row (.slice ysA ys.length ysC) 27 5 ys.length (ys.flatMap Change.enc)] rfl rfl trivial (fun _ => x_call Ty.ca33 rfl) (fun _ h => h) (fun _ h => by cases h) (fun w hS => f33_ok ds dsA dsC (alts.getD k default) ((R26.key (alts.getD k default) c.Record).1) c.Key w (dsR.on hS (fun _ h => by cases h)) (fun i => (dsN i).on hS (fun _ h => by cases h)) hy_ hy_ hy_ hy_) ?_
          rintro _ _ ⟨rfl, rfl⟩
          refine jt_ 9 (vI (R27.dup (R27.ofD ds (alts.getD k default).Id).Pairs ((R26.key (alts.getD k default) c.Record).1) c.Key)) rfl (fun _ _ => rfl) ?_
          refine JA_done (by kernel_rfl) (fun _ h => ⟨h, fun _ => h⟩) ?_
          refine JX_then (J_seq (J_region ?_))
          refine jr_ (vI (R27.dup (R27.ofD ds (alts.getD k default).Id).Pairs ((R26.key (alts.getD k default) c.Record).1) c.Key)) ?_
          refine js_ (vB (decide (R27.dup (R27.ofD ds (alts.getD k default).Id).Pairs ((R26.key (alts.getD k default) c.Record).1) c.Key ≠ 0))) (x_neq_i rfl rfl) ?_
          refine JO_nil (JX_then ?_)
          refine J_cond (decide (R27.dup (R27.ofD ds (alts.getD k default).Id).Pairs ((R26.key (alts.getD k default) c.Record).1) c.Key ≠ 0)) rfl rfl (fun h71 => ?_) (fun h71 => ?_)
          ·have h71w := h71
           have h71 := of_decide_eq_true h71
           refine J_seq (J_region ?_)
           refine jr_ (vI (R27.dup (R27.ofD ds (alts.getD k default).Id).Pairs ((R26.key (alts.getD k default) c.Record).1) c.Key)) ?_
           refine jr_ (Value.slice none 0 0) ?_
           refine jr_ (vI (R27.dup (R27.ofD ds (alts.getD k default).Id).Pairs ((R26.key (alts.getD k default) c.Record).1) c.Key)) ?_
           refine JO_nil (JX_then (J_ret (JX_then_ret (JX_block_ret (JX_then_ret ?_)))))
           refine JX_round_ret (JX_block_ret (JX_then_ret ?_))
           first
            | have hd : False := by omega
            | have hd := R27.pl_errRA (ds := ds) h24w (by omega) (by omega) no_such_condition (by omega) i2_1 h48w h66w h70w (of_decide_eq_true h71w)
            | have hd := R27.pl_errRB (ds := ds) h24w (by omega) (by omega) i2_1 h48w h66w h70w (of_decide_eq_true h71w)
            | have hd := R27.pl_okRA (ds := ds) h24w (by omega) (by omega) no_such_condition i2_0 (by omega) i2_1
            | have hd := R27.pl_okRB (ds := ds) h24w (by omega) i2_0 (by omega) i2_1
            | have hd := R27.pl_empR (ds := ds) h24w (by omega) i1_0 (by omega) i1_1
            | have hd := R27.pl_getR (ds := ds) h24w (by omega) (by omega) no_such_condition 
            | have hd := R27.pl_bad (ds := ds) h24w 
           refine JX_rets [Value.slice none 0 0, vI (R27.dup (R27.ofD ds (alts.getD k default).Id).Pairs ((R26.key (alts.getD k default) c.Record).1) c.Key)] (Value.tuple #[Value.slice none 0 0, vI (R27.dup (R27.ofD ds (alts.getD k default).Id).Pairs ((R26.key (alts.getD k default) c.Record).1) c.Key)]) Try.results11 (fun w h => ⟨rfl, rfl, trivial⟩) rfl [Ent.row (.slice none ([] : List Change).length 0) 27 5 ([] : List Change).length (([] : List Change).flatMap Change.enc)] (fun _ h => (h.nilrow 27 5).keep [true, false, false, false, false, false] rfl) ⟨none, 0, ?_, ?_⟩
           ·have e_x0 : (0 : Nat) = ((R27.plan ds base alts c).1.length) := by first | (rw [hd]; done) | (rw [hd]; rfl) | exact hd.elim
            have e_x1 : (R27.dup (R27.ofD ds (alts.getD k default).Id).Pairs ((R26.key (alts.getD k default) c.Record).1) c.Key : Int) = ((R27.plan ds base alts c).2) := by first | (rw [hd]; done) | (rw [hd]; rfl) | exact hd.elim
            have e_all := (congr (congrArg (fun (x0 : Nat) (x1 : Int) => Value.tuple #[Value.slice none x0 0, vI x1]) e_x0) e_x1)
            exact e_all
           ·have e_y0 : (([] : List Change) : List Change) = (R27.plan ds base alts c).1 := by
             first | (rw [hd]; done) | (rw [hd]; rfl) | exact hd.elim
            have e_all := (congrArg (fun (y0 : List Change) => [Ent.row (.slice none y0.length 0) 27 5 y0.length (y0.flatMap Change.enc)]) e_y0)
            exact e_all
          ·have h71w := h71
           have h71 := of_decide_eq_false h71
           refine J_skip (JX_then ?_)
           refine J_draw [Ent.blk b53 27 [vI 1, vI ((alts.getD k default).Id), vS (((R26.key (alts.getD k default) []).1) ++ c.Key), vS [], vS []], Ent.blk b20 27 (Change.enc c), Ent.blk b18 34 [Value.slice dsA ds.length dsC, Value.pointer none], Ent.row (.slice A56 (xs ++ [(Change.mk 1 ((alts.getD k default).Id) (((R26.key (alts.getD k default) []).1) ++ c.Key) [] [])]).length c57) 27 5 (xs ++ [(Change.mk 1 ((alts.getD k default).Id) (((R26.key (alts.getD k default) []).1) ++ c.Key) [] [])]).length ((xs ++ [(Change.mk 1 ((alts.getD k default).Id) (((R26.key (alts.getD k default) []).1) ++ c.Key) [] [])]).flatMap Change.enc)] [16] [Ent.blk b53 27 [vI 1, vI ((alts.getD k default).Id), vS (((R26.key (alts.getD k default) []).1) ++ c.Key), vS [], vS []], Ent.blk b20 27 (Change.enc c), Ent.blk b18 34 [Value.slice dsA ds.length dsC, Value.pointer none], Ent.row (.slice A56 (xs ++ [(Change.mk 1 ((alts.getD k default).Id) (((R26.key (alts.getD k default) []).1) ++ c.Key) [] [])]).length c57) 27 5 (xs ++ [(Change.mk 1 ((alts.getD k default).Id) (((R26.key (alts.getD k default) []).1) ++ c.Key) [] [])]).length ((xs ++ [(Change.mk 1 ((alts.getD k default).Id) (((R26.key (alts.getD k default) []).1) ++ c.Key) [] [])]).flatMap Change.enc), Ent.row (.slice ysA ys.length ysC) 27 5 ys.length (ys.flatMap Change.enc)] 18 Ty.mixed rfl ?_
           refine jt_ 0 (Value.slice ysA ys.length ysC) rfl (fun _ _ => rfl) ?_
           refine jt_ 1 (Value.slice altsA alts.length altsC) rfl (fun _ _ => rfl) ?_
           refine jt_ 2 (vI ((k : Nat) : Int)) rfl (fun _ _ => rfl) ?_
           refine jt_ 3 (Value.pointer (some (adr altsA (k * 21)))) rfl (x_indexAddr_at (k := k) (off := k * 21) (cells_ro altsR) Try.underlying25 Ty.sz24 rfl rfl lt_ (by rw [flat_length DataSet.enc 21 DataSet.enc_len]; first | omega | (simp; omega) | (simp_all; omega) | (simp_all; done)) rfl) ?_
           refine jt_ 4 (Value.pointer (some (adr altsA (k * 21)))) rfl (fun _ _ => x_fieldAddr Ty.fi24_0 rfl rfl) ?_
           refine jt_ 5 (vI ((alts.getD k default).Id)) rfl (x_load_at (cells_ro altsR) rfl Ty.sc3 (flat_at DataSet.enc 21 DataSet.enc_len alts default k 0 lt_ (by decide))) ?_
           refine jt_ 6 (vS ((R26.key (alts.getD k default) c.Record).1)) rfl (fun _ _ => rfl) ?_
           refine jt_ 7 (Value.pointer (some ⟨b20, 2, none⟩)) rfl (fun _ _ => x_fieldAddr Ty.fi27_2 rfl rfl) ?_
           refine jt_ 8 (vS c.Key) rfl (x_load 1 rfl rfl Ty.sc9 rfl) ?_
           refine jt_ 9 (vS (((R26.key (alts.getD k default) c.Record).1) ++ c.Key)) rfl (fun _ _ => x_cat_s rfl rfl (by first | omega | (simp only [List.length_append, List.length_cons, List.length_nil]; omega) | (simp; omega) | (simp_all; omega))) ?_
           refine jt_ 10 (vS ((R26.key (alts.getD k default) c.Record).1)) rfl (fun _ _ => rfl) ?_
           refine jt_ 11 (Value.pointer (some ⟨b20, 2, none⟩)) rfl (fun _ _ => x_fieldAddr Ty.fi27_2 rfl rfl) ?_
           refine jt_ 12 (vS c.Key) rfl (x_load 1 rfl rfl Ty.sc9 rfl) ?_
           refine jt_ 13 (vS (((R26.key (alts.getD k default) c.Record).1) ++ c.Key)) rfl (fun _ _ => x_cat_s rfl rfl (by first | omega | (simp only [List.length_append, List.length_cons, List.length_nil]; omega) | (simp; omega) | (simp_all; omega))) ?_
           refine jt_ 14 (Value.agg ([vI 0, vI ((alts.getD k default).Id), vS (((R26.key (alts.getD k default) c.Record).1) ++ c.Key), vS (((R26.key (alts.getD k default) c.Record).1) ++ c.Key), vS []]).toArray) rfl (fun _ _ => x_build (by kernel_rfl)) ?_
           refine JA_one 15 (by kernel_rfl) (fun _ h => ⟨h.keep [true, true, true, true, false] rfl, fun _ => h⟩) ?_
           refine JI_op rfl rfl trivial (O_buildSlice (cs := [vI 0, vI ((alts.getD k default).Id), vS (((R26.key (alts.getD k default) c.Record).1) ++ c.Key), vS (((R26.key (alts.getD k default) c.Record).1) ++ c.Key), vS []]) Try.underlying31 Ty.sz27 Ty.ze27 (by decide) (by decide) (by kernel_rfl) fun b73 => ?_)
           refine JA_one 16 (by kernel_rfl) (fun _ h => ⟨h.keep [false, true, true, true, true, false] rfl, fun _ => h.keep [false, true, true, true, true, true] rfl⟩) ?_
           refine JI_op rfl rfl trivial (O_append_f 5 Change.enc 5 ys [(Change.mk 0 ((alts.getD k default).Id) (((R26.key (alts.getD k default) c.Record).1) ++ c.Key) (((R26.key (alts.getD k default) c.Record).1) ++ c.Key) [])] Try.underlying31 Ty.sz27 Ty.by27 Ty.ze27 rfl (by decide) rfl rfl rfl rfl Change.enc_len Change.enc_one (cells_blk 0 (off := 0) (m := 5) rfl rfl) lt_ lt_ fun A76 c77 => ?_)
           refine jt_ 17 (Value.slice A76 ((ys ++ [(Change.mk 0 ((alts.getD k default).Id) (((R26.key (alts.getD k default) c.Record).1) ++ c.Key) (((R26.key (alts.getD k default) c.Record).1) ++ c.Key) [])]).length) c77) rfl (fun _ _ => rfl) ?_
           refine JA_done (by kernel_rfl) (fun _ h => ⟨h.keep [false, true, true, true, true, false] rfl, fun hh => Bool.noConfusion (show false = true from hh)⟩) ?_
           refine JX_block (JX_then (J_region ?_))
           refine jr_ (vI ((k : Nat) : Int)) ?_
           refine js_ (vI ((k + 1 : Nat) : Int)) (x_add_n (a := k) (b := 1) rfl rfl (by omega)) ?_
           refine jr_ (vI ((k + 1 : Nat) : Int)) ?_
           refine JO_nil ?_
           refine JX_round ((k + 1, xs ++ [(Change.mk 1 ((alts.getD k default).Id) (((R26.key (alts.getD k default) []).1) ++ c.Key) [] [])], A56, c57, ys ++ [(Change.mk 0 ((alts.getD k default).Id) (((R26.key (alts.getD k default) c.Record).1) ++ c.Key) (((R26.key (alts.getD k default) c.Record).1) ++ c.Key) [])], A76, c77) : Nat × (List Change) × (Option Addr) × Nat × (List Change) × (Option Addr) × Nat) ?_ ?_ ⟨rfl, rfl, rfl, rfl, rfl, rfl, rfl, rfl, trivial⟩ (fun _ h => h.keep [false, false, true, true, true, true] rfl)
           ·show ((k + 1) ≤ alts.length) ∧ (((xs ++ [(Change.mk 1 ((alts.getD k default).Id) (((R26.key (alts.getD k default) []).1) ++ c.Key) [] [])]), (ys ++ [(Change.mk 0 ((alts.getD k default).Id) (((R26.key (alts.getD k default) c.Record).1) ++ c.Key) (((R26.key (alts.getD k default) c.Record).1) ++ c.Key) [])]), (0 : Int)) = (R27.stepsA ds c [] false (alts.take (k + 1)) ([(Change.mk c.Kind c.Id [] c.Record c.Volume)], [], 0))) ∧ ((xs ++ [(Change.mk 1 ((alts.getD k default).Id) (((R26.key (alts.getD k default) []).1) ++ c.Key) [] [])]).length ≤ 1 + (k + 1)) ∧ ((ys ++ [(Change.mk 0 ((alts.getD k default).Id) (((R26.key (alts.getD k default) c.Record).1) ++ c.Key) (((R26.key (alts.getD k default) c.Record).1) ++ c.Key) [])]).length ≤ (k + 1))
            refine ⟨?_, ?_, ?_, ?_⟩
            ·first | rfl | omega | (simp_all; done) | (simp_all; omega)
            ·first
              | exact R27.rp_step (by omega) i2_1 (R27.rp_ff h48w h66w )
              | exact R27.rp_step (by omega) i2_1 (R27.rp_tf h48w h66w )
              | exact R27.rp_step (by omega) i2_1 (R27.rp_ftn h48w h66w h70w )
              | exact R27.rp_step (by omega) i2_1 (R27.rp_ttn h48w h66w h70w )
              | exact R27.rp_step (by omega) i2_1 (R27.rp_ftu h48w h66w h70w (of_decide_eq_false h71w))
              | exact R27.rp_step (by omega) i2_1 (R27.rp_ttu h48w h66w h70w (of_decide_eq_false h71w))
            ·first | omega | (rw [List.length_append]; simp only [List.length_cons, List.length_nil]; omega)
            ·first | omega | (rw [List.length_append]; simp only [List.length_cons, List.length_nil]; omega)
           ·show alts.length - (k + 1) < alts.length - k
            first | omega | (simp; omega) | (simp_all; omega)
         ·have h70w := h70
          refine J_skip (JX_then ?_)
          refine J_draw [Ent.blk b53 27 [vI 1, vI ((alts.getD k default).Id), vS (((R26.key (alts.getD k default) []).1) ++ c.Key), vS [], vS []], Ent.blk b20 27 (Change.enc c), Ent.blk b18 34 [Value.slice dsA ds.length dsC, Value.pointer none], Ent.row (.slice A56 (xs ++ [(Change.mk 1 ((alts.getD k default).Id) (((R26.key (alts.getD k default) []).1) ++ c.Key) [] [])]).length c57) 27 5 (xs ++ [(Change.mk 1 ((alts.getD k default).Id) (((R26.key (alts.getD k default) []).1) ++ c.Key) [] [])]).length ((xs ++ [(Change.mk 1 ((alts.getD k default).Id) (((R26.key (alts.getD k default) []).1) ++ c.Key) [] [])]).flatMap Change.enc)] [16] [Ent.blk b53 27 [vI 1, vI ((alts.getD k default).Id), vS (((R26.key (alts.getD k default) []).1) ++ c.Key), vS [], vS []], Ent.blk b20 27 (Change.enc c), Ent.blk b18 34 [Value.slice dsA ds.length dsC, Value.pointer none], Ent.row (.slice A56 (xs ++ [(Change.mk 1 ((alts.getD k default).Id) (((R26.key (alts.getD k default) []).1) ++ c.Key) [] [])]).length c57) 27 5 (xs ++ [(Change.mk 1 ((alts.getD k default).Id) (((R26.key (alts.getD k default) []).1) ++ c.Key) [] [])]).length ((xs ++ [(Change.mk 1 ((alts.getD k default).Id) (((R26.key (alts.getD k default) []).1) ++ c.Key) [] [])]).flatMap Change.enc), Ent.row (.slice ysA ys.length ysC) 27 5 ys.length (ys.flatMap Change.enc)] 18 Ty.mixed rfl ?_
          refine jt_ 0 (Value.slice ysA ys.length ysC) rfl (fun _ _ => rfl) ?_
          refine jt_ 1 (Value.slice altsA alts.length altsC) rfl (fun _ _ => rfl) ?_
          refine jt_ 2 (vI ((k : Nat) : Int)) rfl (fun _ _ => rfl) ?_
          refine jt_ 3 (Value.pointer (some (adr altsA (k * 21)))) rfl (x_indexAddr_at (k := k) (off := k * 21) (cells_ro altsR) Try.underlying25 Ty.sz24 rfl rfl lt_ (by rw [flat_length DataSet.enc 21 DataSet.enc_len]; first | omega | (simp; omega) | (simp_all; omega) | (simp_all; done)) rfl) ?_
          refine jt_ 4 (Value.pointer (some (adr altsA (k * 21)))) rfl (fun _ _ => x_fieldAddr Ty.fi24_0 rfl rfl) ?_
          refine jt_ 5 (vI ((alts.getD k default).Id)) rfl (x_load_at (cells_ro altsR) rfl Ty.sc3 (flat_at DataSet.enc 21 DataSet.enc_len alts default k 0 lt_ (by decide))) ?_
          refine jt_ 6 (vS ((R26.key (alts.getD k default) c.Record).1)) rfl (fun _ _ => rfl) ?_
          refine jt_ 7 (Value.pointer (some ⟨b20, 2, none⟩)) rfl (fun _ _ => x_fieldAddr Ty.fi27_2 rfl rfl) ?_
          refine jt_ 8 (vS c.Key) rfl (x_load 1 rfl rfl Ty.sc9 rfl) ?_
          refine jt_ 9 (vS (((R26.key (alts.getD k default) c.Record).1) ++ c.Key)) rfl (fun _ _ => x_cat_s rfl rfl (by first | omega | (simp only [List.length_append, List.length_cons, List.length_nil]; omega) | (simp; omega) | (simp_all; omega))) ?_
          refine jt_ 10 (vS ((R26.key (alts.getD k default) c.Record).1)) rfl (fun _ _ => rfl) ?_
          refine jt_ 11 (Value.pointer (some ⟨b20, 2, none⟩)) rfl (fun _ _ => x_fieldAddr Ty.fi27_2 rfl rfl) ?_
          refine jt_ 12 (vS c.Key) rfl (x_load 1 rfl rfl Ty.sc9 rfl) ?_
          refine jt_ 13 (vS (((R26.key (alts.getD k default) c.Record).1) ++ c.Key)) rfl (fun _ _ => x_cat_s rfl rfl (by first | omega | (simp only [List.length_append, List.length_cons, List.length_nil]; omega) | (simp; omega) | (simp_all; omega))) ?_
          refine jt_ 14 (Value.agg ([vI 0, vI ((alts.getD k default).Id), vS (((R26.key (alts.getD k default) c.Record).1) ++ c.Key), vS (((R26.key (alts.getD k default) c.Record).1) ++ c.Key), vS []]).toArray) rfl (fun _ _ => x_build (by kernel_rfl)) ?_
          refine JA_one 15 (by kernel_rfl) (fun _ h => ⟨h.keep [true, true, true, true, false] rfl, fun _ => h⟩) ?_
          refine JI_op rfl rfl trivial (O_buildSlice (cs := [vI 0, vI ((alts.getD k default).Id), vS (((R26.key (alts.getD k default) c.Record).1) ++ c.Key), vS (((R26.key (alts.getD k default) c.Record).1) ++ c.Key), vS []]) Try.underlying31 Ty.sz27 Ty.ze27 (by decide) (by decide) (by kernel_rfl) fun b79 => ?_)
          refine JA_one 16 (by kernel_rfl) (fun _ h => ⟨h.keep [false, true, true, true, true, false] rfl, fun _ => h.keep [false, true, true, true, true, true] rfl⟩) ?_
          refine JI_op rfl rfl trivial (O_append_f 5 Change.enc 5 ys [(Change.mk 0 ((alts.getD k default).Id) (((R26.key (alts.getD k default) c.Record).1) ++ c.Key) (((R26.key (alts.getD k default) c.Record).1) ++ c.Key) [])] Try.underlying31 Ty.sz27 Ty.by27 Ty.ze27 rfl (by decide) rfl rfl rfl rfl Change.enc_len Change.enc_one (cells_blk 0 (off := 0) (m := 5) rfl rfl) lt_ lt_ fun A82 c83 => ?_)
          refine jt_ 17 (Value.slice A82 ((ys ++ [(Change.mk 0 ((alts.getD k default).Id) (((R26.key (alts.getD k default) c.Record).1) ++ c.Key) (((R26.key (alts.getD k default) c.Record).1) ++ c.Key) [])]).length) c83) rfl (fun _ _ => rfl) ?_
          refine JA_done (by kernel_rfl) (fun _ h => ⟨h.keep [false, true, true, true, true, false] rfl, fun hh => Bool.noConfusion (show false = true from hh)⟩) ?_
          refine JX_block (JX_then (J_region ?_))
          refine jr_ (vI ((k : Nat) : Int)) ?_
          refine js_ (vI ((k + 1 : Nat) : Int)) (x_add_n (a := k) (b := 1) rfl rfl (by omega)) ?_
          refine jr_ (vI ((k + 1 : Nat) : Int)) ?_
          refine JO_nil ?_
          refine JX_round ((k + 1, xs ++ [(Change.mk 1 ((alts.getD k default).Id) (((R26.key (alts.getD k default) []).1) ++ c.Key) [] [])], A56, c57, ys ++ [(Change.mk 0 ((alts.getD k default).Id) (((R26.key (alts.getD k default) c.Record).1) ++ c.Key) (((R26.key (alts.getD k default) c.Record).1) ++ c.Key) [])], A82, c83) : Nat × (List Change) × (Option Addr) × Nat × (List Change) × (Option Addr) × Nat) ?_ ?_ ⟨rfl, rfl, rfl, rfl, rfl, rfl, rfl, rfl, trivial⟩ (fun _ h => h.keep [false, false, true, true, true, true] rfl)
          ·show ((k + 1) ≤ alts.length) ∧ (((xs ++ [(Change.mk 1 ((alts.getD k default).Id) (((R26.key (alts.getD k default) []).1) ++ c.Key) [] [])]), (ys ++ [(Change.mk 0 ((alts.getD k default).Id) (((R26.key (alts.getD k default) c.Record).1) ++ c.Key) (((R26.key (alts.getD k default) c.Record).1) ++ c.Key) [])]), (0 : Int)) = (R27.stepsA ds c [] false (alts.take (k + 1)) ([(Change.mk c.Kind c.Id [] c.Record c.Volume)], [], 0))) ∧ ((xs ++ [(Change.mk 1 ((alts.getD k default).Id) (((R26.key (alts.getD k default) []).1) ++ c.Key) [] [])]).length ≤ 1 + (k + 1)) ∧ ((ys ++ [(Change.mk 0 ((alts.getD k default).Id) (((R26.key (alts.getD k default) c.Record).1) ++ c.Key) (((R26.key (alts.getD k default) c.Record).1) ++ c.Key) [])]).length ≤ (k + 1))
           refine ⟨?_, ?_, ?_, ?_⟩
           ·first | rfl | omega | (simp_all; done) | (simp_all; omega)
           ·first
             | exact R27.rp_step (by omega) i2_1 (R27.rp_ff h48w h66w )
             | exact R27.rp_step (by omega) i2_1 (R27.rp_tf h48w h66w )
             | exact R27.rp_step (by omega) i2_1 (R27.rp_ftn h48w h66w h70w )
             | exact R27.rp_step (by omega) i2_1 (R27.rp_ttn h48w h66w h70w )
             | exact R27.rp_step (by omega) i2_1 (R27.rp_ftu h48w h66w h70w (of_decide_eq_false no_such_condition))
             | exact R27.rp_step (by omega) i2_1 (R27.rp_ttu h48w h66w h70w (of_decide_eq_false no_such_condition))
           ·first | omega | (rw [List.length_append]; simp only [List.length_cons, List.length_nil]; omega)
           ·first | omega | (rw [List.length_append]; simp only [List.length_cons, List.length_nil]; omega)
          ·show alts.length - (k + 1) < alts.length - k
           first | omega | (simp; omega) | (simp_all; omega)
        ·have h66w := h66
         simp only [Bool.and_eq_true, Bool.or_eq_true, Bool.and_eq_false_iff, Bool.or_eq_false_iff, Bool.not_eq_true', Bool.not_eq_false', decide_eq_true_eq, decide_eq_false_iff_not] at h66
         refine J_skip (JX_block (JX_then (J_region ?_)))
         refine jr_ (vI ((k : Nat) : Int)) ?_
         refine js_ (vI ((k + 1 : Nat) : Int)) (x_add_n (a := k) (b := 1) rfl rfl (by omega)) ?_
         refine jr_ (vI ((k + 1 : Nat) : Int)) ?_
         refine JO_nil ?_
         refine JX_round ((k + 1, xs ++ [(Change.mk 1 ((alts.getD k default).Id) (((R26.key (alts.getD k default) []).1) ++ c.Key) [] [])], A56, c57, ys, ysA, ysC) : Nat × (List Change) × (Option Addr) × Nat × (List Change) × (Option Addr) × Nat) ?_ ?_ ⟨rfl, rfl, rfl, rfl, rfl, rfl, rfl, rfl, trivial⟩ (fun _ h => h.keep [false, true, true, true, true] rfl)
         ·show ((k + 1) ≤ alts.length) ∧ (((xs ++ [(Change.mk 1 ((alts.getD k default).Id) (((R26.key (alts.getD k default) []).1) ++ c.Key) [] [])]), ys, (0 : Int)) = (R27.stepsA ds c [] false (alts.take (k + 1)) ([(Change.mk c.Kind c.Id [] c.Record c.Volume)], [], 0))) ∧ ((xs ++ [(Change.mk 1 ((alts.getD k default).Id) (((R26.key (alts.getD k default) []).1) ++ c.Key) [] [])]).length ≤ 1 + (k + 1)) ∧ (ys.length ≤ (k + 1))
          refine ⟨?_, ?_, ?_, ?_⟩
          ·first | rfl | omega | (simp_all; done) | (simp_all; omega)
          ·first
            | exact R27.rp_step (by omega) i2_1 (R27.rp_ff h48w h66w )
            | exact R27.rp_step (by omega) i2_1 (R27.rp_tf h48w h66w )
            | exact R27.rp_step (by omega) i2_1 (R27.rp_ftn h48w h66w no_such_condition )
            | exact R27.rp_step (by omega) i2_1 (R27.rp_ttn h48w h66w no_such_condition )
            | exact R27.rp_step (by omega) i2_1 (R27.rp_ftu h48w h66w no_such_condition (of_decide_eq_false no_such_condition))
            | exact R27.rp_step (by omega) i2_1 (R27.rp_ttu h48w h66w no_such_condition (of_decide_eq_false no_such_condition))
          ·first | omega | (rw [List.length_append]; simp only [List.length_cons, List.length_nil]; omega)
          ·first | omega | (rw [List.length_append]; simp only [List.length_cons, List.length_nil]; omega)
         ·show alts.length - (k + 1) < alts.length - k
          first | omega | (simp; omega) | (simp_all; omega)
       ·have h48w := h48
        simp only [Bool.and_eq_true, Bool.or_eq_true, Bool.and_eq_false_iff, Bool.or_eq_false_iff, Bool.not_eq_true', Bool.not_eq_false', decide_eq_true_eq, decide_eq_false_iff_not] at h48
        refine J_skip (JX_then (J_seq (J_region ?_)))
        refine jr_ (vB (((R26.key (alts.getD k default) c.Record).2) && (decide (c.Kind ≠ 1)))) ?_
        refine jr_ (vB (((R26.key (alts.getD k default) c.Record).2) && (decide (c.Kind ≠ 1)))) ?_
        refine JO_cut 8 (fun z => z = ((((R26.key (alts.getD k default) c.Record).2) && (decide (c.Kind ≠ 1))) && ((!(((R26.key (alts.getD k default) []).2) && false)) || (decide ((R26.key (alts.getD k default) []).1 ≠ (R26.key (alts.getD k default) c.Record).1))))) (fun z => [(2, Value.slice altsA alts.length altsC), (4, Value.pointer (some ⟨b18, 0, none⟩)), (7, Value.pointer (some ⟨b20, 0, none⟩)), (11, Value.slice xsA xs.length xsC), (13, vS []), (14, vB false), (17, Value.slice ysA ys.length ysC), (18, vI ((k : Nat) : Int)), (21, vS ((R26.key (alts.getD k default) c.Record).1)), (159, vB z)]) (fun _ => [Ent.blk b20 27 (Change.enc c), Ent.blk b18 34 [Value.slice dsA ds.length dsC, Value.pointer none], Ent.row (.slice xsA xs.length xsC) 27 5 xs.length (xs.flatMap Change.enc), Ent.row (.slice ysA ys.length ysC) 27 5 ys.length (ys.flatMap Change.enc)]) ?_ ?_
        ·rcases Bool.eq_false_or_eq_true (((R26.key (alts.getD k default) c.Record).2) && (decide (c.Kind ≠ 1))) with g85 | g85
         ·have g85r := g85
          have ⟨g85r, h86⟩ := band_true g85r
          have hi87 := R26.key_facts g85r
          have h86 := of_decide_eq_true h86
          refine jg_ g85 (vB (((R26.key (alts.getD k default) []).2) && false)) (rfl) ?_
          refine jg_ g85 (vB (!(((R26.key (alts.getD k default) []).2) && false))) (x_not rfl) ?_
          refine jg_ g85 (vB (!(((R26.key (alts.getD k default) []).2) && false))) (rfl) ?_
          refine JO_cut 4 (fun z => z = ((!(((R26.key (alts.getD k default) []).2) && false)) || (decide ((R26.key (alts.getD k default) []).1 ≠ (R26.key (alts.getD k default) c.Record).1)))) (fun z => [(2, Value.slice altsA alts.length altsC), (4, Value.pointer (some ⟨b18, 0, none⟩)), (7, Value.pointer (some ⟨b20, 0, none⟩)), (11, Value.slice xsA xs.length xsC), (13, vS []), (14, vB false), (17, Value.slice ysA ys.length ysC), (18, vI ((k : Nat) : Int)), (21, vS ((R26.key (alts.getD k default) c.Record).1)), (151, vB (((R26.key (alts.getD k default) c.Record).2) && (decide (c.Kind ≠ 1)))), (158, vB z)]) (fun _ => [Ent.blk b20 27 (Change.enc c), Ent.blk b18 34 [Value.slice dsA ds.length dsC, Value.pointer none], Ent.row (.slice xsA xs.length xsC) 27 5 xs.length (xs.flatMap Change.enc), Ent.row (.slice ysA ys.length ysC) 27 5 ys.length (ys.flatMap Change.enc)]) ?_ ?_
          ·rcases Bool.eq_false_or_eq_true (!(((R26.key (alts.getD k default) []).2) && false)) with g89 | g89
           ·have g89r := g89
            have g89r : (((R26.key (alts.getD k default) []).2) && false) = false := bnot_true g89r
            simp only [Bool.and_eq_true, Bool.or_eq_true, Bool.and_eq_false_iff, Bool.or_eq_false_iff, Bool.not_eq_true', Bool.not_eq_false', decide_eq_true_eq, decide_eq_false_iff_not] at g89r
            refine sh_ g89 ?_
            refine sh_ g89 ?_
            refine sh_ g89 ?_
            refine jg_ g85 (vB true) (x_pick_t rfl g89 rfl) ?_
            refine JO_nil (JX_cut (true) (by rw [g89]; simp) ⟨rfl, rfl, rfl, rfl, rfl, rfl, rfl, rfl, rfl, rfl, rfl, trivial⟩ (fun _ h => h))
           ·have g89r := g89
            have g89r : (((R26.key (alts.getD k default) []).2) && false) = true := bnot_false g89r
            have ⟨g89r, h90⟩ := band_true g89r
            have hi91 := R26.key_facts g89r
            refine jg_ g89 (vS ((R26.key (alts.getD k default) []).1)) (rfl) ?_
            refine jg_ g89 (vS ((R26.key (alts.getD k default) c.Record).1)) (rfl) ?_
            refine jg_ g89 (vB (decide ((R26.key (alts.getD k default) []).1 ≠ (R26.key (alts.getD k default) c.Record).1))) (x_neq_s rfl rfl) ?_
            refine jg_ g85 (vB (decide ((R26.key (alts.getD k default) []).1 ≠ (R26.key (alts.getD k default) c.Record).1))) (x_pick_f rfl g89 rfl) ?_
            refine JO_nil (JX_cut (decide ((R26.key (alts.getD k default) []).1 ≠ (R26.key (alts.getD k default) c.Record).1)) (by rw [g89]; simp) ⟨rfl, rfl, rfl, rfl, rfl, rfl, rfl, rfl, rfl, rfl, rfl, trivial⟩ (fun _ h => h))
          rintro z88 rfl
          refine js_ (vB ((!(((R26.key (alts.getD k default) []).2) && false)) || (decide ((R26.key (alts.getD k default) []).1 ≠ (R26.key (alts.getD k default) c.Record).1)))) (x_pick_t rfl g85 rfl) ?_
          refine JO_nil (JX_cut ((!(((R26.key (alts.getD k default) []).2) && false)) || (decide ((R26.key (alts.getD k default) []).1 ≠ (R26.key (alts.getD k default) c.Record).1))) (by rw [g85]; simp) ⟨rfl, rfl, rfl, rfl, rfl, rfl, rfl, rfl, rfl, rfl, trivial⟩ (fun _ h => h))
         ·have g85r := g85
          simp only [Bool.and_eq_true, Bool.or_eq_true, Bool.and_eq_false_iff, Bool.or_eq_false_iff, Bool.not_eq_true', Bool.not_eq_false', decide_eq_true_eq, decide_eq_false_iff_not] at g85r
          refine sh_ g85 ?_
          refine sh_ g85 ?_
          refine sh_ g85 ?_
          refine JO_shunU rfl ⟨_, rfl, rfl⟩ ?_
          refine JO_shunU rfl ⟨_, rfl, rfl⟩ ?_
          refine JO_shunU rfl ⟨_, rfl, rfl⟩ ?_
          refine sh_ g85 ?_
          refine js_ (vB false) (x_pick_f rfl g85 rfl) ?_
          refine JO_nil (JX_cut (false) (by rw [g85]; simp) ⟨rfl, rfl, rfl, rfl, rfl, rfl, rfl, rfl, rfl, rfl, trivial⟩ (fun _ h => h))
        rintro z84 rfl
        refine JO_nil (JX_then ?_)
        refine J_cond ((((R26.key (alts.getD k default) c.Record).2) && (decide (c.Kind ≠ 1))) && ((!(((R26.key (alts.getD k default) []).2) && false)) || (decide ((R26.key (alts.getD k default) []).1 ≠ (R26.key (alts.getD k default) c.Record).1)))) rfl rfl (fun h92 => ?_) (fun h92 => ?_)
        ·have h92w := h92
         have ⟨h92, h93⟩ := band_true h92
         have ⟨h92, h94⟩ := band_true h92
         have hi95 := R26.key_facts h92
         have h94 := of_decide_eq_true h94
         simp only [Bool.and_eq_true, Bool.or_eq_true, Bool.and_eq_false_iff, Bool.or_eq_false_iff, Bool.not_eq_true', Bool.not_eq_false', decide_eq_true_eq, decide_eq_false_iff_not] at h93
         refine J_seq (J_seq (J_region ?_))
         refine jr_ (Value.slice altsA alts.length altsC) ?_
         refine jr_ (vI ((k : Nat) : Int)) ?_
         refine JO_read (Value.pointer (some (adr altsA (k * 21)))) rfl trivial (x_indexAddr_at (k := k) (off := k * 21) (cells_ro altsR) Try.underlying25 Ty.sz24 rfl rfl lt_ (by rw [flat_length DataSet.enc 21 DataSet.enc_len]; first | omega | (simp; omega) | (simp_all; omega) | (simp_all; done)) rfl) ?_
         refine js_ (Value.pointer (some (adr altsA (k * 21 + 14)))) (x_fieldAddr Ty.fi24_14 rfl (adr_add _ _ _)) ?_
         refine JO_read (vB ((alts.getD k default).Unique)) rfl trivial (x_load_at (cells_ro altsR) rfl Ty.sc4 (flat_at DataSet.enc 21 DataSet.enc_len alts default k 14 lt_ (by decide))) ?_
         refine JO_nil (JX_then ?_)
         refine J_cond ((alts.getD k default).Unique) rfl rfl (fun h96 => ?_) (fun h96 => ?_)
         ·have h96w := h96
          refine J_seq ?_
          refine J_draw [Ent.blk b20 27 (Change.enc c), Ent.blk b18 34 [Value.slice dsA ds.length dsC, Value.pointer none], Ent.row (.slice xsA xs.length xsC) 27 5 xs.length (xs.flatMap Change.enc), Ent.row (.slice ysA ys.length ysC) 27 5 ys.length (ys.flatMap Change.enc)] [] [Ent.blk b20 27 (Change.enc c), Ent.blk b18 34 [Value.slice dsA ds.length dsC, Value.pointer none], Ent.row (.slice xsA xs.length xsC) 27 5 xs.length (xs.flatMap Change.enc), Ent.row (.slice ysA ys.length ysC) 27 5 ys.length (ys.flatMap Change.enc)] 10 Ty.mixed rfl ?_
          refine jt_ 0 (Value.agg #[Value.slice dsA ds.length dsC, Value.pointer none]) rfl (x_loadN 1 [Value.slice dsA ds.length dsC, Value.pointer none] rfl rfl Ty.ag34 Ty.sz34 rfl) ?_
          refine jt_ 1 (Value.slice altsA alts.length altsC) rfl (fun _ _ => rfl) ?_
          refine jt_ 2 (vI ((k : Nat) : Int)) rfl (fun _ _ => rfl) ?_
          refine jt_ 3 (Value.pointer (some (adr altsA (k * 21)))) rfl (x_indexAddr_at (k := k) (off := k * 21) (cells_ro altsR) Try.underlying25 Ty.sz24 rfl rfl lt_ (by rw [flat_length DataSet.enc 21 DataSet.enc_len]; first | omega | (simp; omega) | (simp_all; omega) | (simp_all; done)) rfl) ?_
          refine jt_ 4 (Value.agg ((DataSet.enc (alts.getD k default))).toArray) rfl (x_loadN_at (DataSet.enc (alts.getD k default)) (cells_ro altsR) rfl Ty.ag24 Ty.sz24 (flat_drop DataSet.enc 21 DataSet.enc_len alts default k lt_)) ?_
          refine jt_ 5 (vS ((R26.key (alts.getD k default) c.Record).1)) rfl (fun _ _ => rfl) ?_
          refine jt_ 6 (Value.pointer (some ⟨b20, 2, none⟩)) rfl (fun _ _ => x_fieldAddr Ty.fi27_2 rfl rfl) ?_
          refine jt_ 7 (vS c.Key) rfl (x_load 0 rfl rfl Ty.sc9 rfl) ?_
          refine JA_one 8 (by kernel_rfl) (fun _ h => ⟨h, fun _ => h⟩) ?_
          refine JI_call [] [] [Ent.blk b20 27 (Change.enc c), Ent.blk b18 34 [Value.slice dsA ds.length dsC, Value.pointer none], Ent.row (.slice xsA xs.length xsC) 27 5 xs.length (xs.flatMap Change.enc), Ent.row (.slice ysA ys.length ysC) 27 5 ys.length (ys.flatMap Change.enc)] rfl rfl trivial (fun _ => x_call Ty.ca33 rfl) (fun _ h => h) (fun _ h => by cases h) (fun w hS => f33_ok ds dsA dsC (alts.getD k default) ((R26.key (alts.getD k default) c.Record).1) c.Key w (dsR.on hS (fun _ h => by cases h)) (fun i => (dsN i).on hS (fun _ h => by cases h)) hy_ hy_ hy_ hy_) ?_
          rintro _ _ ⟨rfl, rfl⟩
          refine jt_ 9 (vI (R27.dup (R27.ofD ds (alts.getD k default).Id).Pairs ((R26.key (alts.getD k default) c.Record).1) c.Key)) rfl (fun _ _ => rfl) ?_
          refine JA_done (by kernel_rfl) (fun _ h => ⟨h, fun _ => h⟩) ?_
          refine JX_then (J_seq (J_region ?_))
          refine jr_ (vI (R27.dup (R27.ofD ds (alts.getD k default).Id).Pairs ((R26.key (alts.getD k default) c.Record).1) c.Key)) ?_
          refine js_ (vB (decide (R27.dup (R27.ofD ds (alts.getD k default).Id).Pairs ((R26.key (alts.getD k default) c.Record).1) c.Key ≠ 0))) (x_neq_i rfl rfl) ?_
          refine JO_nil (JX_then ?_)
          refine J_cond (decide (R27.dup (R27.ofD ds (alts.getD k default).Id).Pairs ((R26.key (alts.getD k default) c.Record).1) c.Key ≠ 0)) rfl rfl (fun h97 => ?_) (fun h97 => ?_)
          ·have h97w := h97
           have h97 := of_decide_eq_true h97
           refine J_seq (J_region ?_)
           refine jr_ (vI (R27.dup (R27.ofD ds (alts.getD k default).Id).Pairs ((R26.key (alts.getD k default) c.Record).1) c.Key)) ?_
           refine jr_ (Value.slice none 0 0) ?_
           refine jr_ (vI (R27.dup (R27.ofD ds (alts.getD k default).Id).Pairs ((R26.key (alts.getD k default) c.Record).1) c.Key)) ?_
           refine JO_nil (JX_then (J_ret (JX_then_ret (JX_block_ret (JX_then_ret ?_)))))
           refine JX_round_ret (JX_block_ret (JX_then_ret ?_))
           first
            | have hd : False := by omega
            | have hd := R27.pl_errRA (ds := ds) h24w (by omega) (by omega) no_such_condition (by omega) i2_1 h48w h92w h96w (of_decide_eq_true h97w)
            | have hd := R27.pl_errRB (ds := ds) h24w (by omega) (by omega) i2_1 h48w h92w h96w (of_decide_eq_true h97w)
            | have hd := R27.pl_okRA (ds := ds) h24w (by omega) (by omega) no_such_condition i2_0 (by omega) i2_1
            | have hd := R27.pl_okRB (ds := ds) h24w (by omega) i2_0 (by omega) i2_1
            | have hd := R27.pl_empR (ds := ds) h24w (by omega) i1_0 (by omega) i1_1
            | have hd := R27.pl_getR (ds := ds) h24w (by omega) (by omega) no_such_condition 
            | have hd := R27.pl_bad (ds := ds) h24w 
           refine JX_rets [Value.slice none 0 0, vI (R27.dup (R27.ofD ds (alts.getD k default).Id).Pairs ((R26.key (alts.getD k default) c.Record).1) c.Key)] (Value.tuple #[Value.slice none 0 0, vI (R27.dup (R27.ofD ds (alts.getD k default).Id).Pairs ((R26.key (alts.getD k default) c.Record).1) c.Key)]) Try.results11 (fun w h => ⟨rfl, rfl, trivial⟩) rfl [Ent.row (.slice none ([] : List Change).length 0) 27 5 ([] : List Change).length (([] : List Change).flatMap Change.enc)] (fun _ h => (h.nilrow 27 5).keep [true, false, false, false, false] rfl) ⟨none, 0, ?_, ?_⟩
           ·have e_x0 : (0 : Nat) = ((R27.plan ds base alts c).1.length) := by first | (rw [hd]; done) | (rw [hd]; rfl) | exact hd.elim
            have e_x1 : (R27.dup (R27.ofD ds (alts.getD k default).Id).Pairs ((R26.key (alts.getD k default) c.Record).1) c.Key : Int) = ((R27.plan ds base alts c).2) := by first | (rw [hd]; done) | (rw [hd]; rfl) | exact hd.elim
            have e_all := (congr (congrArg (fun (x0 : Nat) (x1 : Int) => Value.tuple #[Value.slice none x0 0, vI x1]) e_x0) e_x1)
            exact e_all
           ·have e_y0 : (([] : List Change) : List Change) = (R27.plan ds base alts c).1 := by
             first | (rw [hd]; done) | (rw [hd]; rfl) | exact hd.elim
            have e_all := (congrArg (fun (y0 : List Change) => [Ent.row (.slice none y0.length 0) 27 5 y0.length (y0.flatMap Change.enc)]) e_y0)
            exact e_all
          ·have h97w := h97
           have h97 := of_decide_eq_false h97
           refine J_skip (JX_then ?_)
           refine J_draw [Ent.blk b20 27 (Change.enc c), Ent.blk b18 34 [Value.slice dsA ds.length dsC, Value.pointer none], Ent.row (.slice xsA xs.length xsC) 27 5 xs.length (xs.flatMap Change.enc)] [16] [Ent.blk b20 27 (Change.enc c), Ent.blk b18 34 [Value.slice dsA ds.length dsC, Value.pointer none], Ent.row (.slice xsA xs.length xsC) 27 5 xs.length (xs.flatMap Change.enc), Ent.row (.slice ysA ys.length ysC) 27 5 ys.length (ys.flatMap Change.enc)] 18 Ty.mixed rfl ?_
           refine jt_ 0 (Value.slice ysA ys.length ysC) rfl (fun _ _ => rfl) ?_
           refine jt_ 1 (Value.slice altsA alts.length altsC) rfl (fun _ _ => rfl) ?_
           refine jt_ 2 (vI ((k : Nat) : Int)) rfl (fun _ _ => rfl) ?_
           refine jt_ 3 (Value.pointer (some (adr altsA (k * 21)))) rfl (x_indexAddr_at (k := k) (off := k * 21) (cells_ro altsR) Try.underlying25 Ty.sz24 rfl rfl lt_ (by rw [flat_length DataSet.enc 21 DataSet.enc_len]; first | omega | (simp; omega) | (simp_all; omega) | (simp_all; done)) rfl) ?_
           refine jt_ 4 (Value.pointer (some (adr altsA (k * 21)))) rfl (fun _ _ => x_fieldAddr Ty.fi24_0 rfl rfl) ?_
           refine jt_ 5 (vI ((alts.getD k default).Id)) rfl (x_load_at (cells_ro altsR) rfl Ty.sc3 (flat_at DataSet.enc 21 DataSet.enc_len alts default k 0 lt_ (by decide))) ?_
           refine jt_ 6 (vS ((R26.key (alts.getD k default) c.Record).1)) rfl (fun _ _ => rfl) ?_
           refine jt_ 7 (Value.pointer (some ⟨b20, 2, none⟩)) rfl (fun _ _ => x_fieldAddr Ty.fi27_2 rfl rfl) ?_
           refine jt_ 8 (vS c.Key) rfl (x_load 0 rfl rfl Ty.sc9 rfl) ?_
           refine jt_ 9 (vS (((R26.key (alts.getD k default) c.Record).1) ++ c.Key)) rfl (fun _ _ => x_cat_s rfl rfl (by first | omega | (simp only [List.length_append, List.length_cons, List.length_nil]; omega) | (simp; omega) | (simp_all; omega))) ?_
           refine jt_ 10 (vS ((R26.key (alts.getD k default) c.Record).1)) rfl (fun _ _ => rfl) ?_
           refine jt_ 11 (Value.pointer (some ⟨b20, 2, none⟩)) rfl (fun _ _ => x_fieldAddr Ty.fi27_2 rfl rfl) ?_
           refine jt_ 12 (vS c.Key) rfl (x_load 0 rfl rfl Ty.sc9 rfl) ?_
           refine jt_ 13 (vS (((R26.key (alts.getD k default) c.Record).1) ++ c.Key)) rfl (fun _ _ => x_cat_s rfl rfl (by first | omega | (simp only [List.length_append, List.length_cons, List.length_nil]; omega) | (simp; omega) | (simp_all; omega))) ?_
           refine jt_ 14 (Value.agg ([vI 0, vI ((alts.getD k default).Id), vS (((R26.key (alts.getD k default) c.Record).1) ++ c.Key), vS (((R26.key (alts.getD k default) c.Record).1) ++ c.Key), vS []]).toArray) rfl (fun _ _ => x_build (by kernel_rfl)) ?_
           refine JA_one 15 (by kernel_rfl) (fun _ h => ⟨h.keep [true, true, true, false] rfl, fun _ => h⟩) ?_
           refine JI_op rfl rfl trivial (O_buildSlice (cs := [vI 0, vI ((alts.getD k default).Id), vS (((R26.key (alts.getD k default) c.Record).1) ++ c.Key), vS (((R26.key (alts.getD k default) c.Record).1) ++ c.Key), vS []]) Try.underlying31 Ty.sz27 Ty.ze27 (by decide) (by decide) (by kernel_rfl) fun b99 => ?_)
           refine JA_one 16 (by kernel_rfl) (fun _ h => ⟨h.keep [false, true, true, true, false] rfl, fun _ => h.keep [false, true, true, true, true] rfl⟩) ?_
           refine JI_op rfl rfl trivial (O_append_f 4 Change.enc 5 ys [(Change.mk 0 ((alts.getD k default).Id) (((R26.key (alts.getD k default) c.Record).1) ++ c.Key) (((R26.key (alts.getD k default) c.Record).1) ++ c.Key) [])] Try.underlying31 Ty.sz27 Ty.by27 Ty.ze27 rfl (by decide) rfl rfl rfl rfl Change.enc_len Change.enc_one (cells_blk 0 (off := 0) (m := 5) rfl rfl) lt_ lt_ fun A102 c103 => ?_)
           refine jt_ 17 (Value.slice A102 ((ys ++ [(Change.mk 0 ((alts.getD k default).Id) (((R26.key (alts.getD k default) c.Record).1) ++ c.Key) (((R26.key (alts.getD k default) c.Record).1) ++ c.Key) [])]).length) c103) rfl (fun _ _ => rfl) ?_
           refine JA_done (by kernel_rfl) (fun _ h => ⟨h.keep [false, true, true, true, false] rfl, fun hh => Bool.noConfusion (show false = true from hh)⟩) ?_
           refine JX_block (JX_then (J_region ?_))
           refine jr_ (vI ((k : Nat) : Int)) ?_
           refine js_ (vI ((k + 1 : Nat) : Int)) (x_add_n (a := k) (b := 1) rfl rfl (by omega)) ?_
           refine jr_ (vI ((k + 1 : Nat) : Int)) ?_
           refine JO_nil ?_
           refine JX_round ((k + 1, xs, xsA, xsC, ys ++ [(Change.mk 0 ((alts.getD k default).Id) (((R26.key (alts.getD k default) c.Record).1) ++ c.Key) (((R26.key (alts.getD k default) c.Record).1) ++ c.Key) [])], A102, c103) : Nat × (List Change) × (Option Addr) × Nat × (List Change) × (Option Addr) × Nat) ?_ ?_ ⟨rfl, rfl, rfl, rfl, rfl, rfl, rfl, rfl, trivial⟩ (fun _ h => h.keep [false, true, true, true, true] rfl)
           ·show ((k + 1) ≤ alts.length) ∧ ((xs, (ys ++ [(Change.mk 0 ((alts.getD k default).Id) (((R26.key (alts.getD k default) c.Record).1) ++ c.Key) (((R26.key (alts.getD k default) c.Record).1) ++ c.Key) [])]), (0 : Int)) = (R27.stepsA ds c [] false (alts.take (k + 1)) ([(Change.mk c.Kind c.Id [] c.Record c.Volume)], [], 0))) ∧ (xs.length ≤ 1 + (k + 1)) ∧ ((ys ++ [(Change.mk 0 ((alts.getD k default).Id) (((R26.key (alts.getD k default) c.Record).1) ++ c.Key) (((R26.key (alts.getD k default) c.Record).1) ++ c.Key) [])]).length ≤ (k + 1))
            refine ⟨?_, ?_, ?_, ?_⟩
            ·first | rfl | omega | (simp_all; done) | (simp_all; omega)
            ·first
              | exact R27.rp_step (by omega) i2_1 (R27.rp_ff h48w h92w )
              | exact R27.rp_step (by omega) i2_1 (R27.rp_tf h48w h92w )
              | exact R27.rp_step (by omega) i2_1 (R27.rp_ftn h48w h92w h96w )
              | exact R27.rp_step (by omega) i2_1 (R27.rp_ttn h48w h92w h96w )
              | exact R27.rp_step (by omega) i2_1 (R27.rp_ftu h48w h92w h96w (of_decide_eq_false h97w))
              | exact R27.rp_step (by omega) i2_1 (R27.rp_ttu h48w h92w h96w (of_decide_eq_false h97w))
            ·first | omega | (rw [List.length_append]; simp only [List.length_cons, List.length_nil]; omega)
            ·first | omega | (rw [List.length_append]; simp only [List.length_cons, List.length_nil]; omega)
           ·show alts.length - (k + 1) < alts.length - k
            first | omega | (simp; omega) | (simp_all; omega)
         ·have h96w := h96
          refine J_skip (JX_then ?_)
          refine J_draw [Ent.blk b20 27 (Change.enc c), Ent.blk b18 34 [Value.slice dsA ds.length dsC, Value.pointer none], Ent.row (.slice xsA xs.length xsC) 27 5 xs.length (xs.flatMap Change.enc)] [16] [Ent.blk b20 27 (Change.enc c), Ent.blk b18 34 [Value.slice dsA ds.length dsC, Value.pointer none], Ent.row (.slice xsA xs.length xsC) 27 5 xs.length (xs.flatMap Change.enc), Ent.row (.slice ysA ys.length ysC) 27 5 ys.length (ys.flatMap Change.enc)] 18 Ty.mixed rfl ?_
          refine jt_ 0 (Value.slice ysA ys.length ysC) rfl (fun _ _ => rfl) ?_
          refine jt_ 1 (Value.slice altsA alts.length altsC) rfl (fun _ _ => rfl) ?_
          refine jt_ 2 (vI ((k : Nat) : Int)) rfl (fun _ _ => rfl) ?_
          refine jt_ 3 (Value.pointer (some (adr altsA (k * 21)))) rfl (x_indexAddr_at (k := k) (off := k * 21) (cells_ro altsR) Try.underlying25 Ty.sz24 rfl rfl lt_ (by rw [flat_length DataSet.enc 21 DataSet.enc_len]; first | omega | (simp; omega) | (simp_all; omega) | (simp_all; done)) rfl) ?_
          refine jt_ 4 (Value.pointer (some (adr altsA (k * 21)))) rfl (fun _ _ => x_fieldAddr Ty.fi24_0 rfl rfl) ?_
          refine jt_ 5 (vI ((alts.getD k default).Id)) rfl (x_load_at (cells_ro altsR) rfl Ty.sc3 (flat_at DataSet.enc 21 DataSet.enc_len alts default k 0 lt_ (by decide))) ?_
          refine jt_ 6 (vS ((R26.key (alts.getD k default) c.Record).1)) rfl (fun _ _ => rfl) ?_
          refine jt_ 7 (Value.pointer (some ⟨b20, 2, none⟩)) rfl (fun _ _ => x_fieldAddr Ty.fi27_2 rfl rfl) ?_
          refine jt_ 8 (vS c.Key) rfl (x_load 0 rfl rfl Ty.sc9 rfl) ?_
          refine jt_ 9 (vS (((R26.key (alts.getD k default) c.Record).1) ++ c.Key)) rfl (fun _ _ => x_cat_s rfl rfl (by first | omega | (simp only [List.length_append, List.length_cons, List.length_nil]; omega) | (simp; omega) | (simp_all; omega))) ?_
          refine jt_ 10 (vS ((R26.key (alts.getD k default) c.Record).1)) rfl (fun _ _ => rfl) ?_
          refine jt_ 11 (Value.pointer (some ⟨b20, 2, none⟩)) rfl (fun _ _ => x_fieldAddr Ty.fi27_2 rfl rfl) ?_
          refine jt_ 12 (vS c.Key) rfl (x_load 0 rfl rfl Ty.sc9 rfl) ?_
          refine jt_ 13 (vS (((R26.key (alts.getD k default) c.Record).1) ++ c.Key)) rfl (fun _ _ => x_cat_s rfl rfl (by first | omega | (simp only [List.length_append, List.length_cons, List.length_nil]; omega) | (simp; omega) | (simp_all; omega))) ?_
          refine jt_ 14 (Value.agg ([vI 0, vI ((alts.getD k default).Id), vS (((R26.key (alts.getD k default) c.Record).1) ++ c.Key), vS (((R26.key (alts.getD k default) c.Record).1) ++ c.Key), vS []]).toArray) rfl (fun _ _ => x_build (by kernel_rfl)) ?_
          refine JA_one 15 (by kernel_rfl) (fun _ h => ⟨h.keep [true, true, true, false] rfl, fun _ => h⟩) ?_
          refine JI_op rfl rfl trivial (O_buildSlice (cs := [vI 0, vI ((alts.getD k default).Id), vS (((R26.key (alts.getD k default) c.Record).1) ++ c.Key), vS (((R26.key (alts.getD k default) c.Record).1) ++ c.Key), vS []]) Try.underlying31 Ty.sz27 Ty.ze27 (by decide) (by decide) (by kernel_rfl) fun b105 => ?_)
          refine JA_one 16 (by kernel_rfl) (fun _ h => ⟨h.keep [false, true, true, true, false] rfl, fun _ => h.keep [false, true, true, true, true] rfl⟩) ?_
          refine JI_op rfl rfl trivial (O_append_f 4 Change.enc 5 ys [(Change.mk 0 ((alts.getD k default).Id) (((R26.key (alts.getD k default) c.Record).1) ++ c.Key) (((R26.key (alts.getD k default) c.Record).1) ++ c.Key) [])] Try.underlying31 Ty.sz27 Ty.by27 Ty.ze27 rfl (by decide) rfl rfl rfl rfl Change.enc_len Change.enc_one (cells_blk 0 (off := 0) (m := 5) rfl rfl) lt_ lt_ fun A108 c109 => ?_)
          refine jt_ 17 (Value.slice A108 ((ys ++ [(Change.mk 0 ((alts.getD k default).Id) (((R26.key (alts.getD k default) c.Record).1) ++ c.Key) (((R26.key (alts.getD k default) c.Record).1) ++ c.Key) [])]).length) c109) rfl (fun _ _ => rfl) ?_
          refine JA_done (by kernel_rfl) (fun _ h => ⟨h.keep [false, true, true, true, false] rfl, fun hh => Bool.noConfusion (show false = true from hh)⟩) ?_
          refine JX_block (JX_then (J_region ?_))
          refine jr_ (vI ((k : Nat) : Int)) ?_
          refine js_ (vI ((k + 1 : Nat) : Int)) (x_add_n (a := k) (b := 1) rfl rfl (by omega)) ?_
          refine jr_ (vI ((k + 1 : Nat) : Int)) ?_
          refine JO_nil ?_
          refine JX_round ((k + 1, xs, xsA, xsC, ys ++ [(Change.mk 0 ((alts.getD k default).Id) (((R26.key (alts.getD k default) c.Record).1) ++ c.Key) (((R26.key (alts.getD k default) c.Record).1) ++ c.Key) [])], A108, c109) : Nat × (List Change) × (Option Addr) × Nat × (List Change) × (Option Addr) × Nat) ?_ ?_ ⟨rfl, rfl, rfl, rfl, rfl, rfl, rfl, rfl, trivial⟩ (fun _ h => h.keep [false, true, true, true, true] rfl)
          ·show ((k + 1) ≤ alts.length) ∧ ((xs, (ys ++ [(Change.mk 0 ((alts.getD k default).Id) (((R26.key (alts.getD k default) c.Record).1) ++ c.Key) (((R26.key (alts.getD k default) c.Record).1) ++ c.Key) [])]), (0 : Int)) = (R27.stepsA ds c [] false (alts.take (k + 1)) ([(Change.mk c.Kind c.Id [] c.Record c.Volume)], [], 0))) ∧ (xs.length ≤ 1 + (k + 1)) ∧ ((ys ++ [(Change.mk 0 ((alts.getD k default).Id) (((R26.key (alts.getD k default) c.Record).1) ++ c.Key) (((R26.key (alts.getD k default) c.Record).1) ++ c.Key) [])]).length ≤ (k + 1))
           refine ⟨?_, ?_, ?_, ?_⟩
           ·first | rfl | omega | (simp_all; done) | (simp_all; omega)
           ·first
             | exact R27.rp_step (by omega) i2_1 (R27.rp_ff h48w h92w )
             | exact R27.rp_step (by omega) i2_1 (R27.rp_tf h48w h92w )
             | exact R27.rp_step (by omega) i2_1 (R27.rp_ftn h48w h92w h96w )
             | exact R27.rp_step (by omega) i2_1 (R27.rp_ttn h48w h92w h96w )
             | exact R27.rp_step (by omega) i2_1 (R27.rp_ftu h48w h92w h96w (of_decide_eq_false no_such_condition))
             | exact R27.rp_step (by omega) i2_1 (R27.rp_ttu h48w h92w h96w (of_decide_eq_false no_such_condition))
           ·first | omega | (rw [List.length_append]; simp only [List.length_cons, List.length_nil]; omega)
           ·first | omega | (rw [List.length_append]; simp only [List.length_cons, List.length_nil]; omega)
          ·show alts.length - (k + 1) < alts.length - k
           first | omega | (simp; omega) | (simp_all; omega)
        ·have h92w := h92
         simp only [Bool.and_eq_true, Bool.or_eq_true, Bool.and_eq_false_iff, Bool.or_eq_false_iff, Bool.not_eq_true', Bool.not_eq_false', decide_eq_true_eq, decide_eq_false_iff_not] at h92
         refine J_skip (JX_block (JX_then (J_region ?_)))
         refine jr_ (vI ((k : Nat) : Int)) ?_
         refine js_ (vI ((k + 1 : Nat) : Int)) (x_add_n (a := k) (b := 1) rfl rfl (by omega)) ?_
         refine jr_ (vI ((k + 1 : Nat) : Int)) ?_
         refine JO_nil ?_
         refine JX_round ((k + 1, xs, xsA, xsC, ys, ysA, ysC) : Nat × (List Change) × (Option Addr) × Nat × (List Change) × (Option Addr) × Nat) ?_ ?_ ⟨rfl, rfl, rfl, rfl, rfl, rfl, rfl, rfl, trivial⟩ (fun _ h => h)
         ·show ((k + 1) ≤ alts.length) ∧ ((xs, ys, (0 : Int)) = (R27.stepsA ds c [] false (alts.take (k + 1)) ([(Change.mk c.Kind c.Id [] c.Record c.Volume)], [], 0))) ∧ (xs.length ≤ 1 + (k + 1)) ∧ (ys.length ≤ (k + 1))
          refine ⟨?_, ?_, ?_, ?_⟩
          ·first | rfl | omega | (simp_all; done) | (simp_all; omega)
          ·first
            | exact R27.rp_step (by omega) i2_1 (R27.rp_ff h48w h92w )
            | exact R27.rp_step (by omega) i2_1 (R27.rp_tf h48w h92w )
            | exact R27.rp_step (by omega) i2_1 (R27.rp_ftn h48w h92w no_such_condition )
            | exact R27.rp_step (by omega) i2_1 (R27.rp_ttn h48w h92w no_such_condition )
            | exact R27.rp_step (by omega) i2_1 (R27.rp_ftu h48w h92w no_such_condition (of_decide_eq_false no_such_condition))
            | exact R27.rp_step (by omega) i2_1 (R27.rp_ttu h48w h92w no_such_condition (of_decide_eq_false no_such_condition))
          ·first | omega | (rw [List.length_append]; simp only [List.length_cons, List.length_nil]; omega)
          ·first | omega | (rw [List.length_append]; simp only [List.length_cons, List.length_nil]; omega)
         ·show alts.length - (k + 1) < alts.length - k
          first | omega | (simp; omega) | (simp_all; omega)
      ·have h33w := h33
       have h33 := of_decide_eq_false h33
       refine J_exit (JX_then_exit (JX_round_exit (JX_block_hit (JX_then (J_seq ?_)))))
       refine J_region ?_
       refine jr_ (Value.slice xsA xs.length xsC) ?_
       refine jr_ (Value.slice ysA ys.length ysC) ?_
       refine JO_op rfl trivial (O_append_f 2 Change.enc 5 xs ys Try.underlying31 Ty.sz27 Ty.by27 Ty.ze27 rfl (by decide) rfl rfl rfl rfl Change.enc_len Change.enc_one (cells_row 3 rfl) lt_ lt_ fun A110 c111 => ?_)
       refine jr_ (Value.slice A110 ((xs ++ ys).length) c111) ?_
       refine jr_ (vI 0) ?_
       refine JO_nil (JX_then (J_ret ?_))
       first
        | have hd : False := by omega
        | have hd := R27.pl_errRA (ds := ds) h24w (by omega) (by omega) no_such_condition (by omega) i2_1 no_such_condition no_such_condition no_such_condition (of_decide_eq_true no_such_condition)
        | have hd := R27.pl_errRB (ds := ds) h24w (by omega) (by omega) i2_1 no_such_condition no_such_condition no_such_condition (of_decide_eq_true no_such_condition)
        | have hd := R27.pl_okRA (ds := ds) h24w (by omega) (by omega) no_such_condition i2_0 (by omega) i2_1
        | have hd := R27.pl_okRB (ds := ds) h24w (by omega) i2_0 (by omega) i2_1
        | have hd := R27.pl_empR (ds := ds) h24w (by omega) i1_0 (by omega) i1_1
        | have hd := R27.pl_getR (ds := ds) h24w (by omega) (by omega) no_such_condition 
        | have hd := R27.pl_bad (ds := ds) h24w 
       refine JX_rets [Value.slice A110 ((xs ++ ys).length) c111, vI 0] (Value.tuple #[Value.slice A110 ((xs ++ ys).length) c111, vI 0]) Try.results11 (fun w h => ⟨rfl, rfl, trivial⟩) rfl [Ent.row (.slice A110 (xs ++ ys).length c111) 27 5 (xs ++ ys).length ((xs ++ ys).flatMap Change.enc)] (fun _ h => h.keep [false, false, true, false] rfl) ⟨A110, c111, ?_, ?_⟩
       ·have e_x0 : ((xs ++ ys).length : Nat) = ((R27.plan ds base alts c).1.length) := by first | (rw [hd]; done) | (rw [hd]; rfl) | exact hd.elim
        have e_x1 : (0 : Int) = ((R27.plan ds base alts c).2) := by first | (rw [hd]; done) | (rw [hd]; rfl) | exact hd.elim
        have e_all := (congr (congrArg (fun (x0 : Nat) (x1 : Int) => Value.tuple #[Value.slice A110 x0 c111, vI x1]) e_x0) e_x1)
        exact e_all
       ·have e_y0 : (xs ++ ys : List Change) = (R27.plan ds base alts c).1 := by
         first | (rw [hd]; done) | (rw [hd]; rfl) | exact hd.elim
        have e_all := (congrArg (fun (y0 : List Change) => [Ent.row (.slice A110 y0.length c111) 27 5 y0.length (y0.flatMap Change.enc)]) e_y0)
        exact e_all
   ·have h28w := h28
    have h28 := of_decide_eq_false h28
    omega
 ·refine J_seq (J_region ?_)
  refine JO_op rfl trivial (O_box rfl rfl fun b112 => ?_)
  refine JO_op rfl trivial (O_box rfl rfl fun b113 => ?_)
  refine JO_op rfl trivial (O_box rfl rfl fun b114 => ?_)
  refine jr_ (Value.slice none 0 0) ?_
  refine jr_ (vI 0) ?_
  refine JO_nil (JX_then (J_seq (J_seq (J_region ?_))))
  refine JO_read (Value.agg ((DataSet.enc base)).toArray) rfl trivial (x_loadN 1 (DataSet.enc base) rfl rfl Ty.ag24 Ty.sz24 rfl) ?_
  refine jr_ (Value.slice altsA alts.length altsC) ?_
  refine JO_call [] [] [Ent.blk b114 27 (Change.enc c), Ent.blk b113 24 (DataSet.enc base), Ent.blk b112 34 [Value.slice dsA ds.length dsC, Value.pointer none]] rfl trivial (fun _ => x_call Ty.ca30 rfl) (fun _ h => h) (fun _ h => by cases h) (fun w hS => f30_ok base alts altsA altsC w (altsR.on hS (fun _ h => by cases h)) hy_) ?_
  rintro _ _ ⟨rfl, rfl⟩
  refine js_ (vB (!(R27.isSphere base alts))) (x_not rfl) ?_
  refine jr_ (vB (!(R27.isSphere base alts))) ?_
  refine JO_cut 5 (fun z => z = ((!(R27.isSphere base alts)) || (!(R27.isChange base c)))) (fun z => [(2, Value.slice altsA alts.length altsC), (4, Value.pointer (some ⟨b112, 0, none⟩)), (5, Value.pointer (some ⟨b113, 0, none⟩)), (7, Value.pointer (some ⟨b114, 0, none⟩)), (8, Value.slice none 0 0), (9, vI 0), (33, vB z)]) (fun _ => [Ent.blk b114 27 (Change.enc c), Ent.blk b113 24 (DataSet.enc base), Ent.blk b112 34 [Value.slice dsA ds.length dsC, Value.pointer none]]) ?_ ?_
  ·rcases Bool.eq_false_or_eq_true (!(R27.isSphere base alts)) with g116 | g116
   ·have g116r := g116
    have g116r : (R27.isSphere base alts) = false := bnot_true g116r
    refine sh_ g116 ?_
    refine sh_ g116 ?_
    refine sh_ g116 ?_
    refine sh_ g116 ?_
    refine js_ (vB true) (x_pick_t rfl g116 rfl) ?_
    refine JO_nil (JX_cut (true) (by rw [g116]; simp) ⟨rfl, rfl, rfl, rfl, rfl, rfl, rfl, trivial⟩ (fun _ h => h))
   ·have g116r := g116
    have g116r : (R27.isSphere base alts) = true := bnot_false g116r
    have hi117 := R27.isSphere_valid g116r
    refine JO_read (Value.agg ((DataSet.enc base)).toArray) rfl ⟨_, rfl, g116⟩ (x_loadN 1 (DataSet.enc base) rfl rfl Ty.ag24 Ty.sz24 rfl) ?_
    refine JO_read (Value.agg ((Change.enc c)).toArray) rfl ⟨_, rfl, g116⟩ (x_loadN 0 (Change.enc c) rfl rfl Ty.ag27 Ty.sz27 rfl) ?_
    refine JO_call [] [] [Ent.blk b114 27 (Change.enc c), Ent.blk b113 24 (DataSet.enc base), Ent.blk b112 34 [Value.slice dsA ds.length dsC, Value.pointer none]] rfl ⟨_, rfl, g116⟩ (fun _ => x_call Ty.ca31 rfl) (fun _ h => h) (fun _ h => by cases h) (fun w hS => f31_ok base c w hy_ hy_ hy_) ?_
    rintro _ _ ⟨rfl, rfl⟩
    refine jg_ g116 (vB (!(R27.isChange base c))) (x_not rfl) ?_
    refine js_ (vB (!(R27.isChange base c))) (x_pick_f rfl g116 rfl) ?_
    refine JO_nil (JX_cut (!(R27.isChange base c)) (by rw [g116]; simp) ⟨rfl, rfl, rfl, rfl, rfl, rfl, rfl, trivial⟩ (fun _ h => h))
  rintro z115 rfl
  refine JO_nil (JX_then ?_)
  refine J_cond ((!(R27.isSphere base alts)) || (!(R27.isChange base c))) rfl rfl (fun h118 => ?_) (fun h118 => ?_)
  ·have h118w := h118
   simp only [Bool.and_eq_true, Bool.or_eq_true, Bool.and_eq_false_iff, Bool.or_eq_false_iff, Bool.not_eq_true', Bool.not_eq_false', decide_eq_true_eq, decide_eq_false_iff_not] at h118
   refine J_seq (J_region ?_)
   refine jr_ (Value.slice none 0 0) ?_
   refine jr_ (vI 1) ?_
   refine JO_nil (JX_then (J_ret (JX_then_ret ?_)))
   first
    | have hd : False := by omega
    | have hd := R27.pl_errRA (ds := ds) h118w (by omega) (by omega) no_such_condition (by omega) i2_1 no_such_condition no_such_condition no_such_condition (of_decide_eq_true no_such_condition)
    | have hd := R27.pl_errRB (ds := ds) h118w (by omega) (by omega) i2_1 no_such_condition no_such_condition no_such_condition (of_decide_eq_true no_such_condition)
    | have hd := R27.pl_okRA (ds := ds) h118w (by omega) (by omega) no_such_condition i2_0 (by omega) i2_1
    | have hd := R27.pl_okRB (ds := ds) h118w (by omega) i2_0 (by omega) i2_1
    | have hd := R27.pl_empR (ds := ds) h118w (by omega) i1_0 (by omega) i1_1
    | have hd := R27.pl_getR (ds := ds) h118w (by omega) (by omega) no_such_condition 
    | have hd := R27.pl_bad (ds := ds) h118w 
   refine JX_rets [Value.slice none 0 0, vI 1] (Value.tuple #[Value.slice none 0 0, vI 1]) Try.results11 (fun w h => ⟨rfl, rfl, trivial⟩) rfl [Ent.row (.slice none ([] : List Change).length 0) 27 5 ([] : List Change).length (([] : List Change).flatMap Change.enc)] (fun _ h => (h.nilrow 27 5).keep [true, false, false, false] rfl) ⟨none, 0, ?_, ?_⟩
   ·have e_x0 : (0 : Nat) = ((R27.plan ds base alts c).1.length) := by first | (rw [hd]; done) | (rw [hd]; rfl) | exact hd.elim
    have e_x1 : (1 : Int) = ((R27.plan ds base alts c).2) := by first | (rw [hd]; done) | (rw [hd]; rfl) | exact hd.elim
    have e_all := (congr (congrArg (fun (x0 : Nat) (x1 : Int) => Value.tuple #[Value.slice none x0 0, vI x1]) e_x0) e_x1)
    exact e_all
   ·have e_y0 : (([] : List Change) : List Change) = (R27.plan ds base alts c).1 := by
     first | (rw [hd]; done) | (rw [hd]; rfl) | exact hd.elim
    have e_all := (congrArg (fun (y0 : List Change) => [Ent.row (.slice none y0.length 0) 27 5 y0.length (y0.flatMap Change.enc)]) e_y0)
    exact e_all
  ·have h118w := h118
   have ⟨h118, h119⟩ := bor_false h118
   have h118 : (R27.isSphere base alts) = true := bnot_false h118
   have hi120 := R27.isSphere_valid h118
   have h119 : (R27.isChange base c) = true := bnot_false h119
   refine J_skip (JX_then (J_seq (J_region ?_)))
   refine JO_read (Value.agg ((Change.enc c)).toArray) rfl trivial (x_loadN 0 (Change.enc c) rfl rfl Ty.ag27 Ty.sz27 rfl) ?_
   refine JO_op rfl trivial (O_alloc Ty.ze27 rfl fun b121 => ?_)
   refine JO_op rfl trivial (O_storeS (vs := (Change.enc c)) 0 (Change.enc c) [Ent.blk b121 27 (Change.enc c), Ent.blk b114 27 (Change.enc c), Ent.blk b113 24 (DataSet.enc base), Ent.blk b112 34 [Value.slice dsA ds.length dsC, Value.pointer none]] rfl rfl rfl Ty.sz27 rfl (Nat.le_of_ble_eq_true rfl) rfl (st_all rfl) rfl ?_)
   refine JO_nil (JX_then (J_seq (J_seq (J_region ?_))))
   refine js_ (Value.pointer (some ⟨b114, 0, none⟩)) (x_fieldAddr Ty.fi27_0 rfl rfl) ?_
   refine JO_read (vI c.Kind) rfl trivial (x_load 1 rfl rfl Ty.sc3 rfl) ?_
   refine js_ (vB (decide (c.Kind = 2))) (x_eql_i rfl rfl) ?_
   refine JO_nil (JX_then ?_)
   refine J_cond (decide (c.Kind = 2)) rfl rfl (fun h122 => ?_) (fun h122 => ?_)
   ·have h122w := h122
    have h122 := of_decide_eq_true h122
    omega
   ·have h122w := h122
    have h122 := of_decide_eq_false h122
    refine J_skip (JX_then (J_seq (J_region ?_)))
    refine JO_read (Value.agg ((Change.enc c)).toArray) rfl trivial (x_loadN 0 (Change.enc c) rfl rfl Ty.ag27 Ty.sz27 rfl) ?_
    refine JO_op rfl trivial (O_buildSlice (cs := (Change.enc c)) Try.underlying31 Ty.sz27 Ty.ze27 (by decide) (by decide) (by kernel_rfl) fun b123 => ?_)
    refine jr_ (Value.slice (some ⟨b123, 0, none⟩) 1 1) ?_
    refine JO_nil (JX_then (J_seq (J_seq (J_region ?_))))
    refine js_ (Value.pointer (some ⟨b114, 0, none⟩)) (x_fieldAddr Ty.fi27_0 rfl rfl) ?_
    refine JO_read (vI c.Kind) rfl trivial (x_load 2 rfl rfl Ty.sc3 rfl) ?_
    refine js_ (vB (decide (c.Kind = 3))) (x_eql_i rfl rfl) ?_
    refine JO_nil (JX_then ?_)
    refine J_cond (decide (c.Kind = 3)) rfl rfl (fun h124 => ?_) (fun h124 => ?_)
    ·have h124w := h124
     have h124 := of_decide_eq_true h124
     omega
    ·have h124w := h124
     have h124 := of_decide_eq_false h124
     refine J_skip (JX_then (J_seq (J_region ?_)))
     refine jr_ (vS []) ?_
     refine jr_ (vB false) ?_
     refine JO_nil (JX_then (J_seq (J_seq (J_region ?_))))
     refine js_ (Value.pointer (some ⟨b114, 0, none⟩)) (x_fieldAddr Ty.fi27_0 rfl rfl) ?_
     refine JO_read (vI c.Kind) rfl trivial (x_load 2 rfl rfl Ty.sc3 rfl) ?_
     refine js_ (vB (decide (c.Kind ≠ 2))) (x_neq_i rfl rfl) ?_
     refine JO_nil (JX_then ?_)
     refine J_cond (decide (c.Kind ≠ 2)) rfl rfl (fun h125 => ?_) (fun h125 => ?_)
     ·have h125w := h125
      have h125 := of_decide_eq_true h125
      refine J_seq (J_region ?_)
      refine JO_read (Value.agg #[Value.slice dsA ds.length dsC, Value.pointer none]) rfl trivial (x_loadN 4 [Value.slice dsA ds.length dsC, Value.pointer none] rfl rfl Ty.ag34 Ty.sz34 rfl) ?_
      refine js_ (Value.pointer (some ⟨b113, 0, none⟩)) (x_fieldAddr Ty.fi24_0 rfl rfl) ?_
      refine JO_read (vI base.Id) rfl trivial (x_load 3 rfl rfl Ty.sc3 rfl) ?_
      refine js_ (Value.pointer (some ⟨b114, 2, none⟩)) (x_fieldAddr Ty.fi27_2 rfl rfl) ?_
      refine JO_read (vS c.Key) rfl trivial (x_load 2 rfl rfl Ty.sc9 rfl) ?_
      refine JO_call [] [] [Ent.blk b123 27 (Change.enc c), Ent.blk b121 27 (Change.enc c), Ent.blk b114 27 (Change.enc c), Ent.blk b113 24 (DataSet.enc base), Ent.blk b112 34 [Value.slice dsA ds.length dsC, Value.pointer none]] rfl trivial (fun _ => x_call Ty.ca32 rfl) (fun _ h => h) (fun _ h => by cases h) (fun w hS => f32_ok ds dsA dsC base.Id c.Key w (dsR.on hS (fun _ h => by cases h)) (fun i => (dsN i).on hS (fun _ h => by cases h)) hy_ hy_) ?_
      rintro _ _ ⟨rfl, rfl⟩
      have ha126 := R27.getR_err (R27.ofD ds base.Id).Pairs c.Key
      have ha127 := R27.getR_len (by assumption) base.Id c.Key
      refine jr_ (Value.tuple #[vS ((R27.getR (R27.ofD ds base.Id).Pairs c.Key).1), vI ((R27.getR (R27.ofD ds base.Id).Pairs c.Key).2)]) ?_
      refine jr_ (vS ((R27.getR (R27.ofD ds base.Id).Pairs c.Key).1)) ?_
      refine jr_ (vI ((R27.getR (R27.ofD ds base.Id).Pairs c.Key).2)) ?_
      refine jr_ (vS ((R27.getR (R27.ofD ds base.Id).Pairs c.Key).1)) ?_
      refine jr_ (vI ((R27.getR (R27.ofD ds base.Id).Pairs c.Key).2)) ?_
      refine JO_nil (JX_then (J_seq (J_seq (J_region ?_))))
      refine jr_ (vI ((R27.getR (R27.ofD ds base.Id).Pairs c.Key).2)) ?_
      refine js_ (vB (decide ((R27.getR (R27.ofD ds base.Id).Pairs c.Key).2 ≠ 0))) (x_neq_i rfl rfl) ?_
      refine jr_ (vB (decide ((R27.getR (R27.ofD ds base.Id).Pairs c.Key).2 ≠ 0))) ?_
      refine JO_cut 3 (fun z => z = ((decide ((R27.getR (R27.ofD ds base.Id).Pairs c.Key).2 ≠ 0)) && (decide ((R27.getR (R27.ofD ds base.Id).Pairs c.Key).2 ≠ 6)))) (fun z => [(2, Value.slice altsA alts.length altsC), (4, Value.pointer (some ⟨b112, 0, none⟩)), (7, Value.pointer (some ⟨b114, 0, none⟩)), (8, Value.slice none 0 0), (9, vI 0), (11, Value.slice (some ⟨b123, 0, none⟩) 1 1), (13, vS []), (14, vB false), (15, vS ((R27.getR (R27.ofD ds base.Id).Pairs c.Key).1)), (16, vI ((R27.getR (R27.ofD ds base.Id).Pairs c.Key).2)), (77, vB z)]) (fun _ => [Ent.blk b123 27 (Change.enc c), Ent.blk b121 27 (Change.enc c), Ent.blk b114 27 (Change.enc c), Ent.blk b113 24 (DataSet.enc base), Ent.blk b112 34 [Value.slice dsA ds.length dsC, Value.pointer none]]) ?_ ?_
      ·rcases Bool.eq_false_or_eq_true (decide ((R27.getR (R27.ofD ds base.Id).Pairs c.Key).2 ≠ 0)) with g129 | g129
       ·have g129r := g129
        have g129r := of_decide_eq_true g129r
        refine jg_ g129 (vI ((R27.getR (R27.ofD ds base.Id).Pairs c.Key).2)) (rfl) ?_
        refine jg_ g129 (vB (decide ((R27.getR (R27.ofD ds base.Id).Pairs c.Key).2 ≠ 6))) (x_neq_i rfl rfl) ?_
        refine js_ (vB (decide ((R27.getR (R27.ofD ds base.Id).Pairs c.Key).2 ≠ 6))) (x_pick_t rfl g129 rfl) ?_
        refine JO_nil (JX_cut (decide ((R27.getR (R27.ofD ds base.Id).Pairs c.Key).2 ≠ 6)) (by rw [g129]; simp) ⟨rfl, rfl, rfl, rfl, rfl, rfl, rfl, rfl, rfl, rfl, rfl, trivial⟩ (fun _ h => h))
       ·have g129r := g129
        have g129r := of_decide_eq_false g129r
        refine sh_ g129 ?_
        refine sh_ g129 ?_
        refine js_ (vB false) (x_pick_f rfl g129 rfl) ?_
        refine JO_nil (JX_cut (false) (by rw [g129]; simp) ⟨rfl, rfl, rfl, rfl, rfl, rfl, rfl, rfl, rfl, rfl, rfl, trivial⟩ (fun _ h => h))
      rintro z128 rfl
      refine jr_ (vB ((decide ((R27.getR (R27.ofD ds base.Id).Pairs c.Key).2 ≠ 0)) && (decide ((R27.getR (R27.ofD ds base.Id).Pairs c.Key).2 ≠ 6)))) ?_
      refine JO_cut 8 (fun z => z = (((decide ((R27.getR (R27.ofD ds base.Id).Pairs c.Key).2 ≠ 0)) && (decide ((R27.getR (R27.ofD ds base.Id).Pairs c.Key).2 ≠ 6))) || ((decide ((R27.getR (R27.ofD ds base.Id).Pairs c.Key).2 = 6)) && (decide (c.Kind = 1))))) (fun z => [(2, Value.slice altsA alts.length altsC), (4, Value.pointer (some ⟨b112, 0, none⟩)), (7, Value.pointer (some ⟨b114, 0, none⟩)), (8, Value.slice none 0 0), (9, vI 0), (11, Value.slice (some ⟨b123, 0, none⟩) 1 1), (13, vS []), (14, vB false), (15, vS ((R27.getR (R27.ofD ds base.Id).Pairs c.Key).1)), (16, vI ((R27.getR (R27.ofD ds base.Id).Pairs c.Key).2)), (86, vB z)]) (fun _ => [Ent.blk b123 27 (Change.enc c), Ent.blk b121 27 (Change.enc c), Ent.blk b114 27 (Change.enc c), Ent.blk b113 24 (DataSet.enc base), Ent.blk b112 34 [Value.slice dsA ds.length dsC, Value.pointer none]]) ?_ ?_
      ·rcases Bool.eq_false_or_eq_true ((decide ((R27.getR (R27.ofD ds base.Id).Pairs c.Key).2 ≠ 0)) && (decide ((R27.getR (R27.ofD ds base.Id).Pairs c.Key).2 ≠ 6))) with g131 | g131
       ·have g131r := g131
        have ⟨g131r, h132⟩ := band_true g131r
        have g131r := of_decide_eq_true g131r
        have h132 := of_decide_eq_true h132
        refine sh_ g131 ?_
        refine sh_ g131 ?_
        refine sh_ g131 ?_
        refine JO_shunU rfl ⟨_, rfl, rfl⟩ ?_
        refine JO_shunU rfl ⟨_, rfl, rfl⟩ ?_
        refine JO_shunU rfl ⟨_, rfl, rfl⟩ ?_
        refine sh_ g131 ?_
        refine js_ (vB true) (x_pick_t rfl g131 rfl) ?_
        refine JO_nil (JX_cut (true) (by rw [g131]; simp) ⟨rfl, rfl, rfl, rfl, rfl, rfl, rfl, rfl, rfl, rfl, rfl, trivial⟩ (fun _ h => h))
       ·have g131r := g131
        simp only [Bool.and_eq_true, Bool.or_eq_true, Bool.and_eq_false_iff, Bool.or_eq_false_iff, Bool.not_eq_true', Bool.not_eq_false', decide_eq_true_eq, decide_eq_false_iff_not] at g131r
        refine jg_ g131 (vI ((R27.getR (R27.ofD ds base.Id).Pairs c.Key).2)) (rfl) ?_
        refine jg_ g131 (vB (decide ((R27.getR (R27.ofD ds base.Id).Pairs c.Key).2 = 6))) (x_eql_i rfl rfl) ?_
        refine jg_ g131 (vB (decide ((R27.getR (R27.ofD ds base.Id).Pairs c.Key).2 = 6))) (rfl) ?_
        refine JO_cut 4 (fun z => z = ((decide ((R27.getR (R27.ofD ds base.Id).Pairs c.Key).2 = 6)) && (decide (c.Kind = 1)))) (fun z => [(2, Value.slice altsA alts.length altsC), (4, Value.pointer (some ⟨b112, 0, none⟩)), (7, Value.pointer (some ⟨b114, 0, none⟩)), (8, Value.slice none 0 0), (9, vI 0), (11, Value.slice (some ⟨b123, 0, none⟩) 1 1), (13, vS []), (14, vB false), (15, vS ((R27.getR (R27.ofD ds base.Id).Pairs c.Key).1)), (16, vI ((R27.getR (R27.ofD ds base.Id).Pairs c.Key).2)), (78, vB ((decide ((R27.getR (R27.ofD ds base.Id).Pairs c.Key).2 ≠ 0)) && (decide ((R27.getR (R27.ofD ds base.Id).Pairs c.Key).2 ≠ 6)))), (85, vB z)]) (fun _ => [Ent.blk b123 27 (Change.enc c), Ent.blk b121 27 (Change.enc c), Ent.blk b114 27 (Change.enc c), Ent.blk b113 24 (DataSet.enc base), Ent.blk b112 34 [Value.slice dsA ds.length dsC, Value.pointer none]]) ?_ ?_
        ·rcases Bool.eq_false_or_eq_true (decide ((R27.getR (R27.ofD ds base.Id).Pairs c.Key).2 = 6)) with g134 | g134
         ·have g134r := g134
          have g134r := of_decide_eq_true g134r
          refine jg_ g134 (Value.pointer (some ⟨b114, 0, none⟩)) (x_fieldAddr Ty.fi27_0 rfl rfl) ?_
          refine JO_read (vI c.Kind) rfl ⟨_, rfl, g134⟩ (x_load 2 rfl rfl Ty.sc3 rfl) ?_
          refine jg_ g134 (vB (decide (c.Kind = 1))) (x_eql_i rfl rfl) ?_
          refine jg_ g131 (vB (decide (c.Kind = 1))) (x_pick_t rfl g134 rfl) ?_
          refine JO_nil (JX_cut (decide (c.Kind = 1)) (by rw [g134]; simp) ⟨rfl, rfl, rfl, rfl, rfl, rfl, rfl, rfl, rfl, rfl, rfl, rfl, trivial⟩ (fun _ h => h))
         ·have g134r := g134
          have g134r := of_decide_eq_false g134r
          refine sh_ g134 ?_
          refine sh_ g134 ?_
          refine sh_ g134 ?_
          refine jg_ g131 (vB false) (x_pick_f rfl g134 rfl) ?_
          refine JO_nil (JX_cut (false) (by rw [g134]; simp) ⟨rfl, rfl, rfl, rfl, rfl, rfl, rfl, rfl, rfl, rfl, rfl, rfl, trivial⟩ (fun _ h => h))
        rintro z133 rfl
        refine js_ (vB ((decide ((R27.getR (R27.ofD ds base.Id).Pairs c.Key).2 = 6)) && (decide (c.Kind = 1)))) (x_pick_f rfl g131 rfl) ?_
        refine JO_nil (JX_cut ((decide ((R27.getR (R27.ofD ds base.Id).Pairs c.Key).2 = 6)) && (decide (c.Kind = 1))) (by rw [g131]; simp) ⟨rfl, rfl, rfl, rfl, rfl, rfl, rfl, rfl, rfl, rfl, rfl, trivial⟩ (fun _ h => h))
      rintro z130 rfl
      refine JO_nil (JX_then ?_)
      refine J_cond (((decide ((R27.getR (R27.ofD ds base.Id).Pairs c.Key).2 ≠ 0)) && (decide ((R27.getR (R27.ofD ds base.Id).Pairs c.Key).2 ≠ 6))) || ((decide ((R27.getR (R27.ofD ds base.Id).Pairs c.Key).2 = 6)) && (decide (c.Kind = 1)))) rfl rfl (fun h135 => ?_) (fun h135 => ?_)
      ·have h135w := h135
       simp only [Bool.and_eq_true, Bool.or_eq_true, Bool.and_eq_false_iff, Bool.or_eq_false_iff, Bool.not_eq_true', Bool.not_eq_false', decide_eq_true_eq, decide_eq_false_iff_not] at h135
       refine J_seq (J_region ?_)
       refine jr_ (vI ((R27.getR (R27.ofD ds base.Id).Pairs c.Key).2)) ?_
       refine jr_ (Value.slice none 0 0) ?_
       refine jr_ (vI ((R27.getR (R27.ofD ds base.Id).Pairs c.Key).2)) ?_
       refine JO_nil (JX_then (J_ret (JX_then_ret (JX_then_ret ?_))))
       first
        | have hd : False := by omega
        | have hd := R27.pl_errRA (ds := ds) h118w (by omega) (by omega) h135w (by omega) i2_1 no_such_condition no_such_condition no_such_condition (of_decide_eq_true no_such_condition)
        | have hd := R27.pl_errRB (ds := ds) h118w (by omega) (by omega) i2_1 no_such_condition no_such_condition no_such_condition (of_decide_eq_true no_such_condition)
        | have hd := R27.pl_okRA (ds := ds) h118w (by omega) (by omega) h135w i2_0 (by omega) i2_1
        | have hd := R27.pl_okRB (ds := ds) h118w (by omega) i2_0 (by omega) i2_1
        | have hd := R27.pl_empR (ds := ds) h118w (by omega) i1_0 (by omega) i1_1
        | have hd := R27.pl_getR (ds := ds) h118w (by omega) (by omega) h135w 
        | have hd := R27.pl_bad (ds := ds) h118w 
       refine JX_rets [Value.slice none 0 0, vI ((R27.getR (R27.ofD ds base.Id).Pairs c.Key).2)] (Value.tuple #[Value.slice none 0 0, vI ((R27.getR (R27.ofD ds base.Id).Pairs c.Key).2)]) Try.results11 (fun w h => ⟨rfl, rfl, trivial⟩) rfl [Ent.row (.slice none ([] : List Change).length 0) 27 5 ([] : List Change).length (([] : List Change).flatMap Change.enc)] (fun _ h => (h.nilrow 27 5).keep [true, false, false, false, false, false] rfl) ⟨none, 0, ?_, ?_⟩
       ·have e_x0 : (0 : Nat) = ((R27.plan ds base alts c).1.length) := by first | (rw [hd]; done) | (rw [hd]; rfl) | exact hd.elim
        have e_x1 : ((R27.getR (R27.ofD ds base.Id).Pairs c.Key).2 : Int) = ((R27.plan ds base alts c).2) := by first | (rw [hd]; done) | (rw [hd]; rfl) | exact hd.elim
        have e_all := (congr (congrArg (fun (x0 : Nat) (x1 : Int) => Value.tuple #[Value.slice none x0 0, vI x1]) e_x0) e_x1)
        exact e_all
       ·have e_y0 : (([] : List Change) : List Change) = (R27.plan ds base alts c).1 := by
         first | (rw [hd]; done) | (rw [hd]; rfl) | exact hd.elim
        have e_all := (congrArg (fun (y0 : List Change) => [Ent.row (.slice none y0.length 0) 27 5 y0.length (y0.flatMap Change.enc)]) e_y0)
        exact e_all
      ·have h135w := h135
       have ⟨h135, h136⟩ := bor_false h135
       simp only [Bool.and_eq_true, Bool.or_eq_true, Bool.and_eq_false_iff, Bool.or_eq_false_iff, Bool.not_eq_true', Bool.not_eq_false', decide_eq_true_eq, decide_eq_false_iff_not] at h135
       simp only [Bool.and_eq_true, Bool.or_eq_true, Bool.and_eq_false_iff, Bool.or_eq_false_iff, Bool.not_eq_true', Bool.not_eq_false', decide_eq_true_eq, decide_eq_false_iff_not] at h136
       refine J_skip (JX_then (J_region ?_))
       refine jr_ (vS ((R27.getR (R27.ofD ds base.Id).Pairs c.Key).1)) ?_
       refine jr_ (vI ((R27.getR (R27.ofD ds base.Id).Pairs c.Key).2)) ?_
       refine js_ (vB (decide ((R27.getR (R27.ofD ds base.Id).Pairs c.Key).2 = 0))) (x_eql_i rfl rfl) ?_
       refine jr_ (vS ((R27.getR (R27.ofD ds base.Id).Pairs c.Key).1)) ?_
       refine jr_ (vB (decide ((R27.getR (R27.ofD ds base.Id).Pairs c.Key).2 = 0))) ?_
       refine JO_nil (JX_then (J_seq (J_region ?_)))
       refine JO_op rfl trivial (O_buildSlice0 Try.underlying31 Ty.sz27 fun b137 => ?_)
       refine jr_ (Value.slice (some ⟨b137, 0, none⟩) 0 0) ?_
       refine JO_nil (JX_then (J_seq (J_seq (J_region ?_))))
       refine jr_ (vI 0) ?_
       refine JO_nil (JX_then (J_block ?_))
       refine J_loop (X := Nat × (List Change) × (Option Addr) × Nat × (List Change) × (Option Addr) × Nat) (fun (⟨k, xs, xsA, xsC, ys, ysA, ysC⟩ : Nat × (List Change) × (Option Addr) × Nat × (List Change) × (Option Addr) × Nat) => (k ≤ alts.length) ∧ ((xs, ys, (0 : Int)) = (R27.stepsA ds c (R27.getR (R27.ofD ds base.Id).Pairs c.Key).1 (decide ((R27.getR (R27.ofD ds base.Id).Pairs c.Key).2 = 0)) (alts.take k) ([c], [], 0))) ∧ (xs.length ≤ 1 + k) ∧ (ys.length ≤ k)) (fun (⟨k, xs, xsA, xsC, ys, ysA, ysC⟩ : Nat × (List Change) × (Option Addr) × Nat × (List Change) × (Option Addr) × Nat) => [(2, Value.slice altsA alts.length altsC), (4, Value.pointer (some ⟨b112, 0, none⟩)), (7, Value.pointer (some ⟨b114, 0, none⟩)), (11, Value.slice xsA xs.length xsC), (13, vS ((R27.getR (R27.ofD ds base.Id).Pairs c.Key).1)), (14, vB (decide ((R27.getR (R27.ofD ds base.Id).Pairs c.Key).2 = 0))), (17, Value.slice ysA ys.length ysC), (18, vI ((k : Nat) : Int))]) (fun (⟨k, xs, xsA, xsC, ys, ysA, ysC⟩ : Nat × (List Change) × (Option Addr) × Nat × (List Change) × (Option Addr) × Nat) => [Ent.blk b114 27 (Change.enc c), Ent.blk b112 34 [Value.slice dsA ds.length dsC, Value.pointer none], Ent.row (.slice xsA xs.length xsC) 27 5 xs.length (xs.flatMap Change.enc), Ent.row (.slice ysA ys.length ysC) 27 5 ys.length (ys.flatMap Change.enc)]) (fun (⟨k, xs, xsA, xsC, ys, ysA, ysC⟩ : Nat × (List Change) × (Option Addr) × Nat × (List Change) × (Option Addr) × Nat) => alts.length - k) ((0, [c], (some ⟨b123, 0, none⟩), 1, ([] : List Change), (some ⟨b137, 0, none⟩), 0) : Nat × (List Change) × (Option Addr) × Nat × (List Change) × (Option Addr) × Nat) ?_ ⟨rfl, rfl, rfl, rfl, rfl, rfl, rfl, rfl, trivial⟩ (fun _ h => (((St.torow (cs := [vI c.Kind, vI c.Id, vS c.Key, vS c.Record, vS c.Volume]) ((St.torow (cs := []) h 5 0 rfl (by decide)).front 1 _ rfl) 5 1 rfl (by decide)).front 5 _ rfl).front 4 _ rfl).keep [true, true, true, true, false, false] rfl) ?_
       ·show (0 ≤ alts.length) ∧ (([c], ([] : List Change), (0 : Int)) = (R27.stepsA ds c (R27.getR (R27.ofD ds base.Id).Pairs c.Key).1 (decide ((R27.getR (R27.ofD ds base.Id).Pairs c.Key).2 = 0)) (alts.take 0) ([c], [], 0))) ∧ ([c].length ≤ 1 + 0) ∧ (([] : List Change).length ≤ 0)
        refine ⟨?_, ?_, ?_, ?_⟩
        ·first | rfl | omega | (simp_all; done) | (simp_all; omega)
        ·rfl
        ·exact Nat.le_refl _
        ·exact Nat.le_refl _
       rintro ⟨k, xs, xsA, xsC, ys, ysA, ysC⟩ hI2
       obtain ⟨i2_0, i2_1, i2_2, i2_3⟩ : (k ≤ alts.length) ∧ ((xs, ys, (0 : Int)) = (R27.stepsA ds c (R27.getR (R27.ofD ds base.Id).Pairs c.Key).1 (decide ((R27.getR (R27.ofD ds base.Id).Pairs c.Key).2 = 0)) (alts.take k) ([c], [], 0))) ∧ (xs.length ≤ 1 + k) ∧ (ys.length ≤ k) := hI2
       have hl1 := R27.key_len (alts.getD k default) c.Record
       have hl2 := R27.key_len (alts.getD k default) (R27.getR (R27.ofD ds base.Id).Pairs c.Key).1
       refine J_weaken (E' := [(2, Value.slice altsA alts.length altsC), (4, Value.pointer (some ⟨b112, 0, none⟩)), (7, Value.pointer (some ⟨b114, 0, none⟩)), (11, Value.slice xsA xs.length xsC), (13, vS ((R27.getR (R27.ofD ds base.Id).Pairs c.Key).1)), (14, vB (decide ((R27.getR (R27.ofD ds base.Id).Pairs c.Key).2 = 0))), (17, Value.slice ysA ys.length ysC), (18, vI ((k : Nat) : Int))]) (L' := [Ent.blk b114 27 (Change.enc c), Ent.blk b112 34 [Value.slice dsA ds.length dsC, Value.pointer none], Ent.row (.slice xsA xs.length xsC) 27 5 xs.length (xs.flatMap Change.enc), Ent.row (.slice ysA ys.length ysC) 27 5 ys.length (ys.flatMap Change.enc)]) ⟨rfl, rfl, rfl, rfl, rfl, rfl, rfl, rfl, trivial⟩ (fun _ h => h) ?_
       refine J_seq (J_seq (J_region ?_))
       refine jr_ (vI ((k : Nat) : Int)) ?_
       refine jr_ (Value.slice altsA alts.length altsC) ?_
       refine js_ (vI ((alts.length : Nat) : Int)) (x_len_sl Try.underlying25 rfl) ?_
       refine js_ (vB (decide (((k : Nat) : Int) < ((alts.length : Nat) : Int)))) (x_lss_i rfl rfl) ?_
       refine JO_nil (JX_then ?_)
       refine J_cond (decide (((k : Nat) : Int) < ((alts.length : Nat) : Int))) rfl rfl (fun h138 => ?_) (fun h138 => ?_)
       ·have h138w := h138
        have h138 := of_decide_eq_true h138
        refine J_skip (JX_then (J_seq (J_block (J_seq (J_region ?_)))))
        refine jr_ (Value.slice altsA alts.length altsC) ?_
        refine jr_ (vI ((k : Nat) : Int)) ?_
        refine JO_read (Value.pointer (some (adr altsA (k * 21)))) rfl trivial (x_indexAddr_at (k := k) (off := k * 21) (cells_ro altsR) Try.underlying25 Ty.sz24 rfl rfl lt_ (by rw [flat_length DataSet.enc 21 DataSet.enc_len]; first | omega | (simp; omega) | (simp_all; omega) | (simp_all; done)) rfl) ?_
        refine JO_read (Value.agg ((DataSet.enc (alts.getD k default))).toArray) rfl trivial (x_loadN_at (DataSet.enc (alts.getD k default)) (cells_ro altsR) rfl Ty.ag24 Ty.sz24 (flat_drop DataSet.enc 21 DataSet.enc_len alts default k lt_)) ?_
        refine jr_ (vS ((R27.getR (R27.ofD ds base.Id).Pairs c.Key).1)) ?_
        refine JO_call [] [] [Ent.blk b114 27 (Change.enc c), Ent.blk b112 34 [Value.slice dsA ds.length dsC, Value.pointer none], Ent.row (.slice xsA xs.length xsC) 27 5 xs.length (xs.flatMap Change.enc), Ent.row (.slice ysA ys.length ysC) 27 5 ys.length (ys.flatMap Change.enc)] rfl trivial (fun _ => x_call Ty.ca17 rfl) (fun _ h => h) (fun _ h => by cases h) (fun w hS => f17_ok (alts.getD k default) ((R27.getR (R27.ofD ds base.Id).Pairs c.Key).1) w) ?_
        rintro _ _ ⟨rfl, rfl⟩
        refine jr_ (Value.tuple #[vS ((R26.key (alts.getD k default) ((R27.getR (R27.ofD ds base.Id).Pairs c.Key).1)).1), vB ((R26.key (alts.getD k default) ((R27.getR (R27.ofD ds base.Id).Pairs c.Key).1)).2)]) ?_
        refine jr_ (vS ((R26.key (alts.getD k default) ((R27.getR (R27.ofD ds base.Id).Pairs c.Key).1)).1)) ?_
        refine jr_ (vB ((R26.key (alts.getD k default) ((R27.getR (R27.ofD ds base.Id).Pairs c.Key).1)).2)) ?_
        refine jr_ (vS ((R26.key (alts.getD k default) ((R27.getR (R27.ofD ds base.Id).Pairs c.Key).1)).1)) ?_
        refine jr_ (vB ((R26.key (alts.getD k default) ((R27.getR (R27.ofD ds base.Id).Pairs c.Key).1)).2)) ?_
        refine JO_nil (JX_then (J_seq (J_region ?_)))
        refine jr_ (vB ((R26.key (alts.getD k default) ((R27.getR (R27.ofD ds base.Id).Pairs c.Key).1)).2)) ?_
        refine jr_ (vB ((R26.key (alts.getD k default) ((R27.getR (R27.ofD ds base.Id).Pairs c.Key).1)).2)) ?_
        refine JO_cut 2 (fun z => z = (((R26.key (alts.getD k default) ((R27.getR (R27.ofD ds base.Id).Pairs c.Key).1)).2) && (decide ((R27.getR (R27.ofD ds base.Id).Pairs c.Key).2 = 0)))) (fun z => [(2, Value.slice altsA alts.length altsC), (4, Value.pointer (some ⟨b112, 0, none⟩)), (7, Value.pointer (some ⟨b114, 0, none⟩)), (11, Value.slice xsA xs.length xsC), (13, vS ((R27.getR (R27.ofD ds base.Id).Pairs c.Key).1)), (14, vB (decide ((R27.getR (R27.ofD ds base.Id).Pairs c.Key).2 = 0))), (17, Value.slice ysA ys.length ysC), (18, vI ((k : Nat) : Int)), (19, vS ((R26.key (alts.getD k default) ((R27.getR (R27.ofD ds base.Id).Pairs c.Key).1)).1)), (20, vB ((R26.key (alts.getD k default) ((R27.getR (R27.ofD ds base.Id).Pairs c.Key).1)).2)), (110, vB z)]) (fun _ => [Ent.blk b114 27 (Change.enc c), Ent.blk b112 34 [Value.slice dsA ds.length dsC, Value.pointer none], Ent.row (.slice xsA xs.length xsC) 27 5 xs.length (xs.flatMap Change.enc), Ent.row (.slice ysA ys.length ysC) 27 5 ys.length (ys.flatMap Change.enc)]) ?_ ?_
        ·rcases Bool.eq_false_or_eq_true ((R26.key (alts.getD k default) ((R27.getR (R27.ofD ds base.Id).Pairs c.Key).1)).2) with g140 | g140
         ·have g140r := g140
          have hi141 := R26.key_facts g140r
          refine jg_ g140 (vB (decide ((R27.getR (R27.ofD ds base.Id).Pairs c.Key).2 = 0))) (rfl) ?_
          refine js_ (vB (decide ((R27.getR (R27.ofD ds base.Id).Pairs c.Key).2 = 0))) (x_pick_t rfl g140 rfl) ?_
          refine JO_nil (JX_cut (decide ((R27.getR (R27.ofD ds base.Id).Pairs c.Key).2 = 0)) (by rw [g140]; simp) ⟨rfl, rfl, rfl, rfl, rfl, rfl, rfl, rfl, rfl, rfl, rfl, trivial⟩ (fun _ h => h))
         ·have g140r := g140
          refine sh_ g140 ?_
          refine js_ (vB false) (x_pick_f rfl g140 rfl) ?_
          refine JO_nil (JX_cut (false) (by rw [g140]; simp) ⟨rfl, rfl, rfl, rfl, rfl, rfl, rfl, rfl, rfl, rfl, rfl, trivial⟩ (fun _ h => h))
        rintro z139 rfl
        refine jr_ (vB (((R26.key (alts.getD k default) ((R27.getR (R27.ofD ds base.Id).Pairs c.Key).1)).2) && (decide ((R27.getR (R27.ofD ds base.Id).Pairs c.Key).2 = 0)))) ?_
        refine JO_nil (JX_then (J_seq ?_))
        refine J_draw [Ent.blk b114 27 (Change.enc c), Ent.blk b112 34 [Value.slice dsA ds.length dsC, Value.pointer none], Ent.row (.slice xsA xs.length xsC) 27 5 xs.length (xs.flatMap Change.enc), Ent.row (.slice ysA ys.length ysC) 27 5 ys.length (ys.flatMap Change.enc)] [] [Ent.blk b114 27 (Change.enc c), Ent.blk b112 34 [Value.slice dsA ds.length dsC, Value.pointer none], Ent.row (.slice xsA xs.length xsC) 27 5 xs.length (xs.flatMap Change.enc), Ent.row (.slice ysA ys.length ysC) 27 5 ys.length (ys.flatMap Change.enc)] 12 Ty.mixed rfl ?_
        refine jt_ 0 (Value.slice altsA alts.length altsC) rfl (fun _ _ => rfl) ?_
        refine jt_ 1 (vI ((k : Nat) : Int)) rfl (fun _ _ => rfl) ?_
        refine jt_ 2 (Value.pointer (some (adr altsA (k * 21)))) rfl (x_indexAddr_at (k := k) (off := k * 21) (cells_ro altsR) Try.underlying25 Ty.sz24 rfl rfl lt_ (by rw [flat_length DataSet.enc 21 DataSet.enc_len]; first | omega | (simp; omega) | (simp_all; omega) | (simp_all; done)) rfl) ?_
        refine jt_ 3 (Value.agg ((DataSet.enc (alts.getD k default))).toArray) rfl (x_loadN_at (DataSet.enc (alts.getD k default)) (cells_ro altsR) rfl Ty.ag24 Ty.sz24 (flat_drop DataSet.enc 21 DataSet.enc_len alts default k lt_)) ?_
        refine jt_ 4 (Value.pointer (some ⟨b114, 3, none⟩)) rfl (fun _ _ => x_fieldAddr Ty.fi27_3 rfl rfl) ?_
        refine jt_ 5 (vS c.Record) rfl (x_load 0 rfl rfl Ty.sc9 rfl) ?_
        refine JA_one 6 (by kernel_rfl) (fun _ h => ⟨h, fun _ => h⟩) ?_
        refine JI_call [] [] [Ent.blk b114 27 (Change.enc c), Ent.blk b112 34 [Value.slice dsA ds.length dsC, Value.pointer none], Ent.row (.slice xsA xs.length xsC) 27 5 xs.length (xs.flatMap Change.enc), Ent.row (.slice ysA ys.length ysC) 27 5 ys.length (ys.flatMap Change.enc)] rfl rfl trivial (fun _ => x_call Ty.ca17 rfl) (fun _ h => h) (fun _ h => by cases h) (fun w hS => f17_ok (alts.getD k default) c.Record w) ?_
        rintro _ _ ⟨rfl, rfl⟩
        refine jt_ 7 (Value.tuple #[vS ((R26.key (alts.getD k default) c.Record).1), vB ((R26.key (alts.getD k default) c.Record).2)]) rfl (fun _ _ => rfl) ?_
        refine jt_ 8 (vS ((R26.key (alts.getD k default) c.Record).1)) rfl (fun _ _ => rfl) ?_
        refine jt_ 9 (vB ((R26.key (alts.getD k default) c.Record).2)) rfl (fun _ _ => rfl) ?_
        refine jt_ 10 (vS ((R26.key (alts.getD k default) c.Record).1)) rfl (fun _ _ => rfl) ?_
        refine jt_ 11 (vB ((R26.key (alts.getD k default) c.Record).2)) rfl (fun _ _ => rfl) ?_
        refine JA_done (by kernel_rfl) (fun _ h => ⟨h, fun _ => h⟩) ?_
        refine JX_then (J_seq (J_region ?_))
        refine jr_ (vB ((R26.key (alts.getD k default) c.Record).2)) ?_
        refine jr_ (vB ((R26.key (alts.getD k default) c.Record).2)) ?_
        refine JO_cut 4 (fun z => z = (((R26.key (alts.getD k default) c.Record).2) && (decide (c.Kind ≠ 1)))) (fun z => [(2, Value.slice altsA alts.length altsC), (4, Value.pointer (some ⟨b112, 0, none⟩)), (7, Value.pointer (some ⟨b114, 0, none⟩)), (11, Value.slice xsA xs.length xsC), (13, vS ((R27.getR (R27.ofD ds base.Id).Pairs c.Key).1)), (14, vB (decide ((R27.getR (R27.ofD ds base.Id).Pairs c.Key).2 = 0))), (17, Value.slice ysA ys.length ysC), (18, vI ((k : Nat) : Int)), (19, vS ((R26.key (alts.getD k default) ((R27.getR (R27.ofD ds base.Id).Pairs c.Key).1)).1)), (20, vB (((R26.key (alts.getD k default) ((R27.getR (R27.ofD ds base.Id).Pairs c.Key).1)).2) && (decide ((R27.getR (R27.ofD ds base.Id).Pairs c.Key).2 = 0)))), (21, vS ((R26.key (alts.getD k default) c.Record).1)), (22, vB ((R26.key (alts.getD k default) c.Record).2)), (126, vB z)]) (fun _ => [Ent.blk b114 27 (Change.enc c), Ent.blk b112 34 [Value.slice dsA ds.length dsC, Value.pointer none], Ent.row (.slice xsA xs.length xsC) 27 5 xs.length (xs.flatMap Change.enc), Ent.row (.slice ysA ys.length ysC) 27 5 ys.length (ys.flatMap Change.enc)]) ?_ ?_
        ·rcases Bool.eq_false_or_eq_true ((R26.key (alts.getD k default) c.Record).2) with g143 | g143
         ·have g143r := g143
          have hi144 := R26.key_facts g143r
          refine jg_ g143 (Value.pointer (some ⟨b114, 0, none⟩)) (x_fieldAddr Ty.fi27_0 rfl rfl) ?_
          refine JO_read (vI c.Kind) rfl ⟨_, rfl, g143⟩ (x_load 0 rfl rfl Ty.sc3 rfl) ?_
          refine jg_ g143 (vB (decide (c.Kind ≠ 1))) (x_neq_i rfl rfl) ?_
          refine js_ (vB (decide (c.Kind ≠ 1))) (x_pick_t rfl g143 rfl) ?_
          refine JO_nil (JX_cut (decide (c.Kind ≠ 1)) (by rw [g143]; simp) ⟨rfl, rfl, rfl, rfl, rfl, rfl, rfl, rfl, rfl, rfl, rfl, rfl, rfl, trivial⟩ (fun _ h => h))
         ·have g143r := g143
          refine sh_ g143 ?_
          refine sh_ g143 ?_
          refine sh_ g143 ?_
          refine js_ (vB false) (x_pick_f rfl g143 rfl) ?_
          refine JO_nil (JX_cut (false) (by rw [g143]; simp) ⟨rfl, rfl, rfl, rfl, rfl, rfl, rfl, rfl, rfl, rfl, rfl, rfl, rfl, trivial⟩ (fun _ h => h))
        rintro z142 rfl
        refine jr_ (vB (((R26.key (alts.getD k default) c.Record).2) && (decide (c.Kind ≠ 1)))) ?_
        refine JO_nil (JX_then (J_seq (J_seq (J_region ?_))))
        refine jr_ (vB (((R26.key (alts.getD k default) ((R27.getR (R27.ofD ds base.Id).Pairs c.Key).1)).2) && (decide ((R27.getR (R27.ofD ds base.Id).Pairs c.Key).2 = 0)))) ?_
        refine jr_ (vB (((R26.key (alts.getD k default) ((R27.getR (R27.ofD ds base.Id).Pairs c.Key).1)).2) && (decide ((R27.getR (R27.ofD ds base.Id).Pairs c.Key).2 = 0)))) ?_
        refine JO_cut 8 (fun z => z = ((((R26.key (alts.getD k default) ((R27.getR (R27.ofD ds base.Id).Pairs c.Key).1)).2) && (decide ((R27.getR (R27.ofD ds base.Id).Pairs c.Key).2 = 0))) && ((!(((R26.key (alts.getD k default) c.Record).2) && (decide (c.Kind ≠ 1)))) || (decide ((R26.key (alts.getD k default) ((R27.getR (R27.ofD ds base.Id).Pairs c.Key).1)).1 ≠ (R26.key (alts.getD k default) c.Record).1))))) (fun z => [(2, Value.slice altsA alts.length altsC), (4, Value.pointer (some ⟨b112, 0, none⟩)), (7, Value.pointer (some ⟨b114, 0, none⟩)), (11, Value.slice xsA xs.length xsC), (13, vS ((R27.getR (R27.ofD ds base.Id).Pairs c.Key).1)), (14, vB (decide ((R27.getR (R27.ofD ds base.Id).Pairs c.Key).2 = 0))), (17, Value.slice ysA ys.length ysC), (18, vI ((k : Nat) : Int)), (19, vS ((R26.key (alts.getD k default) ((R27.getR (R27.ofD ds base.Id).Pairs c.Key).1)).1)), (20, vB (((R26.key (alts.getD k default) ((R27.getR (R27.ofD ds base.Id).Pairs c.Key).1)).2) && (decide ((R27.getR (R27.ofD ds base.Id).Pairs c.Key).2 = 0)))), (21, vS ((R26.key (alts.getD k default) c.Record).1)), (22, vB (((R26.key (alts.getD k default) c.Record).2) && (decide (c.Kind ≠ 1)))), (136, vB z)]) (fun _ => [Ent.blk b114 27 (Change.enc c), Ent.blk b112 34 [Value.slice dsA ds.length dsC, Value.pointer none], Ent.row (.slice xsA xs.length xsC) 27 5 xs.length (xs.flatMap Change.enc), Ent.row (.slice ysA ys.length ysC) 27 5 ys.length (ys.flatMap Change.enc)]) ?_ ?_
        ·rcases Bool.eq_false_or_eq_true (((R26.key (alts.getD k default) ((R27.getR (R27.ofD ds base.Id).Pairs c.Key).1)).2) && (decide ((R27.getR (R27.ofD ds base.Id).Pairs c.Key).2 = 0))) with g146 | g146
         ·have g146r := g146
          have ⟨g146r, h147⟩ := band_true g146r
          have hi148 := R26.key_facts g146r
          have h147 := of_decide_eq_true h147
          refine jg_ g146 (vB (((R26.key (alts.getD k default) c.Record).2) && (decide (c.Kind ≠ 1)))) (rfl) ?_
          refine jg_ g146 (vB (!(((R26.key (alts.getD k default) c.Record).2) && (decide (c.Kind ≠ 1))))) (x_not rfl) ?_
          refine jg_ g146 (vB (!(((R26.key (alts.getD k default) c.Record).2) && (decide (c.Kind ≠ 1))))) (rfl) ?_
          refine JO_cut 4 (fun z => z = ((!(((R26.key (alts.getD k default) c.Record).2) && (decide (c.Kind ≠ 1)))) || (decide ((R26.key (alts.getD k default) ((R27.getR (R27.ofD ds base.Id).Pairs c.Key).1)).1 ≠ (R26.key (alts.getD k default) c.Record).1)))) (fun z => [(2, Value.slice altsA alts.length altsC), (4, Value.pointer (some ⟨b112, 0, none⟩)), (7, Value.pointer (some ⟨b114, 0, none⟩)), (11, Value.slice xsA xs.length xsC), (13, vS ((R27.getR (R27.ofD ds base.Id).Pairs c.Key).1)), (14, vB (decide ((R27.getR (R27.ofD ds base.Id).Pairs c.Key).2 = 0))), (17, Value.slice ysA ys.length ysC), (18, vI ((k : Nat) : Int)), (19, vS ((R26.key (alts.getD k default) ((R27.getR (R27.ofD ds base.Id).Pairs c.Key).1)).1)), (20, vB (((R26.key (alts.getD k default) ((R27.getR (R27.ofD ds base.Id).Pairs c.Key).1)).2) && (decide ((R27.getR (R27.ofD ds base.Id).Pairs c.Key).2 = 0)))), (21, vS ((R26.key (alts.getD k default) c.Record).1)), (22, vB (((R26.key (alts.getD k default) c.Record).2) && (decide (c.Kind ≠ 1)))), (128, vB (((R26.key (alts.getD k default) ((R27.getR (R27.ofD ds base.Id).Pairs c.Key).1)).2) && (decide ((R27.getR (R27.ofD ds base.Id).Pairs c.Key).2 = 0)))), (135, vB z)]) (fun _ => [Ent.blk b114 27 (Change.enc c), Ent.blk b112 34 [Value.slice dsA ds.length dsC, Value.pointer none], Ent.row (.slice xsA xs.length xsC) 27 5 xs.length (xs.flatMap Change.enc), Ent.row (.slice ysA ys.length ysC) 27 5 ys.length (ys.flatMap Change.enc)]) ?_ ?_
          ·rcases Bool.eq_false_or_eq_true (!(((R26.key (alts.getD k default) c.Record).2) && (decide (c.Kind ≠ 1)))) with g150 | g150
           ·have g150r := g150
            have g150r : (((R26.key (alts.getD k default) c.Record).2) && (decide (c.Kind ≠ 1))) = false := bnot_true g150r
            simp only [Bool.and_eq_true, Bool.or_eq_true, Bool.and_eq_false_iff, Bool.or_eq_false_iff, Bool.not_eq_true', Bool.not_eq_false', decide_eq_true_eq, decide_eq_false_iff_not] at g150r
            refine sh_ g150 ?_
            refine sh_ g150 ?_
            refine sh_ g150 ?_
            refine jg_ g146 (vB true) (x_pick_t rfl g150 rfl) ?_
            refine JO_nil (JX_cut (true) (by rw [g150]; simp) ⟨rfl, rfl, rfl, rfl, rfl, rfl, rfl, rfl, rfl, rfl, rfl, rfl, rfl, rfl, trivial⟩ (fun _ h => h))
           ·have g150r := g150
            have g150r : (((R26.key (alts.getD k default) c.Record).2) && (decide (c.Kind ≠ 1))) = true := bnot_false g150r
            have ⟨g150r, h151⟩ := band_true g150r
            have hi152 := R26.key_facts g150r
            have h151 := of_decide_eq_true h151
            refine jg_ g150 (vS ((R26.key (alts.getD k default) ((R27.getR (R27.ofD ds base.Id).Pairs c.Key).1)).1)) (rfl) ?_
            refine jg_ g150 (vS ((R26.key (alts.getD k default) c.Record).1)) (rfl) ?_
            refine jg_ g150 (vB (decide ((R26.key (alts.getD k default) ((R27.getR (R27.ofD ds base.Id).Pairs c.Key).1)).1 ≠ (R26.key (alts.getD k default) c.Record).1))) (x_neq_s rfl rfl) ?_
            refine jg_ g146 (vB (decide ((R26.key (alts.getD k default) ((R27.getR (R27.ofD ds base.Id).Pairs c.Key).1)).1 ≠ (R26.key (alts.getD k default) c.Record).1))) (x_pick_f rfl g150 rfl) ?_
            refine JO_nil (JX_cut (decide ((R26.key (alts.getD k default) ((R27.getR (R27.ofD ds base.Id).Pairs c.Key).1)).1 ≠ (R26.key (alts.getD k default) c.Record).1)) (by rw [g150]; simp) ⟨rfl, rfl, rfl, rfl, rfl, rfl, rfl, rfl, rfl, rfl, rfl, rfl, rfl, rfl, trivial⟩ (fun _ h => h))
          rintro z149 rfl
          refine js_ (vB ((!(((R26.key (alts.getD k default) c.Record).2) && (decide (c.Kind ≠ 1)))) || (decide ((R26.key (alts.getD k default) ((R27.getR (R27.ofD ds base.Id).Pairs c.Key).1)).1 ≠ (R26.key (alts.getD k default) c.Record).1)))) (x_pick_t rfl g146 rfl) ?_
          refine JO_nil (JX_cut ((!(((R26.key (alts.getD k default) c.Record).2) && (decide (c.Kind ≠ 1)))) || (decide ((R26.key (alts.getD k default) ((R27.getR (R27.ofD ds base.Id).Pairs c.Key).1)).1 ≠ (R26.key (alts.getD k default) c.Record).1))) (by rw [g146]; simp) ⟨rfl, rfl, rfl, rfl, rfl, rfl, rfl, rfl, rfl, rfl, rfl, rfl, rfl, trivial⟩ (fun _ h => h))
         ·have g146r := g146
          simp only [Bool.and_eq_true, Bool.or_eq_true, Bool.and_eq_false_iff, Bool.or_eq_false_iff, Bool.not_eq_true', Bool.not_eq_false', decide_eq_true_eq, decide_eq_false_iff_not] at g146r
          refine sh_ g146 ?_
          refine sh_ g146 ?_
          refine sh_ g146 ?_
          refine JO_shunU rfl ⟨_, rfl, rfl⟩ ?_
          refine JO_shunU rfl ⟨_, rfl, rfl⟩ ?_
          refine JO_shunU rfl ⟨_, rfl, rfl⟩ ?_
          refine sh_ g146 ?_
          refine js_ (vB false) (x_pick_f rfl g146 rfl) ?_
          refine JO_nil (JX_cut (false) (by rw [g146]; simp) ⟨rfl, rfl, rfl, rfl, rfl, rfl, rfl, rfl, rfl, rfl, rfl, rfl, rfl, trivial⟩ (fun _ h => h))
        rintro z145 rfl
        refine JO_nil (JX_then ?_)
        refine J_cond ((((R26.key (alts.getD k default) ((R27.getR (R27.ofD ds base.Id).Pairs c.Key).1)).2) && (decide ((R27.getR (R27.ofD ds base.Id).Pairs c.Key).2 = 0))) && ((!(((R26.key (alts.getD k default) c.Record).2) && (decide (c.Kind ≠ 1)))) || (decide ((R26.key (alts.getD k default) ((R27.getR (R27.ofD ds base.Id).Pairs c.Key).1)).1 ≠ (R26.key (alts.getD k default) c.Record).1)))) rfl rfl (fun h153 => ?_) (fun h153 => ?_)
        ·have h153w := h153
         have ⟨h153, h154⟩ := band_true h153
         have ⟨h153, h155⟩ := band_true h153
         have hi156 := R26.key_facts h153
         have h155 := of_decide_eq_true h155
         simp only [Bool.and_eq_true, Bool.or_eq_true, Bool.and_eq_false_iff, Bool.or_eq_false_iff, Bool.not_eq_true', Bool.not_eq_false', decide_eq_true_eq, decide_eq_false_iff_not] at h154
         refine J_draw [Ent.blk b114 27 (Change.enc c), Ent.blk b112 34 [Value.slice dsA ds.length dsC, Value.pointer none], Ent.row (.slice ysA ys.length ysC) 27 5 ys.length (ys.flatMap Change.enc)] [12] [Ent.blk b114 27 (Change.enc c), Ent.blk b112 34 [Value.slice dsA ds.length dsC, Value.pointer none], Ent.row (.slice xsA xs.length xsC) 27 5 xs.length (xs.flatMap Change.enc), Ent.row (.slice ysA ys.length ysC) 27 5 ys.length (ys.flatMap Change.enc)] 14 Ty.mixed rfl ?_
         refine jt_ 0 (Value.slice xsA xs.length xsC) rfl (fun _ _ => rfl) ?_
         refine jt_ 1 (Value.slice altsA alts.length altsC) rfl (fun _ _ => rfl) ?_
         refine jt_ 2 (vI ((k : Nat) : Int)) rfl (fun _ _ => rfl) ?_
         refine jt_ 3 (Value.pointer (some (adr altsA (k * 21)))) rfl (x_indexAddr_at (k := k) (off := k * 21) (cells_ro altsR) Try.underlying25 Ty.sz24 rfl rfl lt_ (by rw [flat_length DataSet.enc 21 DataSet.enc_len]; first | omega | (simp; omega) | (simp_all; omega) | (simp_all; done)) rfl) ?_
         refine jt_ 4 (Value.pointer (some (adr altsA (k * 21)))) rfl (fun _ _ => x_fieldAddr Ty.fi24_0 rfl rfl) ?_
         refine jt_ 5 (vI ((alts.getD k default).Id)) rfl (x_load_at (cells_ro altsR) rfl Ty.sc3 (flat_at DataSet.enc 21 DataSet.enc_len alts default k 0 lt_ (by decide))) ?_
         refine jt_ 6 (vS ((R26.key (alts.getD k default) ((R27.getR (R27.ofD ds base.Id).Pairs c.Key).1)).1)) rfl (fun _ _ => rfl) ?_
         refine jt_ 7 (Value.pointer (some ⟨b114, 2, none⟩)) rfl (fun _ _ => x_fieldAddr Ty.fi27_2 rfl rfl) ?_
         refine jt_ 8 (vS c.Key) rfl (x_load 0 rfl rfl Ty.sc9 rfl) ?_
         refine jt_ 9 (vS (((R26.key (alts.getD k default) ((R27.getR (R27.ofD ds base.Id).Pairs c.Key).1)).1) ++ c.Key)) rfl (fun _ _ => x_cat_s rfl rfl (by first | omega | (simp only [List.length_append, List.length_cons, List.length_nil]; omega) | (simp; omega) | (simp_all; omega))) ?_
         refine jt_ 10 (Value.agg ([vI 1, vI ((alts.getD k default).Id), vS (((R26.key (alts.getD k default) ((R27.getR (R27.ofD ds base.Id).Pairs c.Key).1)).1) ++ c.Key), vS [], vS []]).toArray) rfl (fun _ _ => x_build (by kernel_rfl)) ?_
         refine JA_one 11 (by kernel_rfl) (fun _ h => ⟨h.keep [true, true, false, true] rfl, fun _ => h⟩) ?_
         refine JI_op rfl rfl trivial (O_buildSlice (cs := [vI 1, vI ((alts.getD k default).Id), vS (((R26.key (alts.getD k default) ((R27.getR (R27.ofD ds base.Id).Pairs c.Key).1)).1) ++ c.Key), vS [], vS []]) Try.underlying31 Ty.sz27 Ty.ze27 (by decide) (by decide) (by kernel_rfl) fun b158 => ?_)
         refine JA_one 12 (by kernel_rfl) (fun _ h => ⟨h.keep [false, true, true, false, true] rfl, fun _ => h.keep [false, true, true, true, true] rfl⟩) ?_
         refine JI_op rfl rfl trivial (O_append_f 3 Change.enc 5 xs [(Change.mk 1 ((alts.getD k default).Id) (((R26.key (alts.getD k default) ((R27.getR (R27.ofD ds base.Id).Pairs c.Key).1)).1) ++ c.Key) [] [])] Try.underlying31 Ty.sz27 Ty.by27 Ty.ze27 rfl (by decide) rfl rfl rfl rfl Change.enc_len Change.enc_one (cells_blk 0 (off := 0) (m := 5) rfl rfl) lt_ lt_ fun A161 c162 => ?_)
         refine jt_ 13 (Value.slice A161 ((xs ++ [(Change.mk 1 ((alts.getD k default).Id) (((R26.key (alts.getD k default) ((R27.getR (R27.ofD ds base.Id).Pairs c.Key).1)).1) ++ c.Key) [] [])]).length) c162) rfl (fun _ _ => rfl) ?_
         refine JA_done (by kernel_rfl) (fun _ h => ⟨h.keep [false, true, true, false, true] rfl, fun hh => Bool.noConfusion (show false = true from hh)⟩) ?_
         refine JX_then (J_seq (J_region ?_))
         refine jr_ (vB (((R26.key (alts.getD k default) c.Record).2) && (decide (c.Kind ≠ 1)))) ?_
         refine jr_ (vB (((R26.key (alts.getD k default) c.Record).2) && (decide (c.Kind ≠ 1)))) ?_
         refine JO_cut 8 (fun z => z = ((((R26.key (alts.getD k default) c.Record).2) && (decide (c.Kind ≠ 1))) && ((!(((R26.key (alts.getD k default) ((R27.getR (R27.ofD ds base.Id).Pairs c.Key).1)).2) && (decide ((R27.getR (R27.ofD ds base.Id).Pairs c.Key).2 = 0)))) || (decide ((R26.key (alts.getD k default) ((R27.getR (R27.ofD ds base.Id).Pairs c.Key).1)).1 ≠ (R26.key (alts.getD k default) c.Record).1))))) (fun z => [(2, Value.slice altsA alts.length altsC), (4, Value.pointer (some ⟨b112, 0, none⟩)), (7, Value.pointer (some ⟨b114, 0, none⟩)), (11, Value.slice A161 ((xs ++ [(Change.mk 1 ((alts.getD k default).Id) (((R26.key (alts.getD k default) ((R27.getR (R27.ofD ds base.Id).Pairs c.Key).1)).1) ++ c.Key) [] [])]).length) c162), (13, vS ((R27.getR (R27.ofD ds base.Id).Pairs c.Key).1)), (14, vB (decide ((R27.getR (R27.ofD ds base.Id).Pairs c.Key).2 = 0))), (17, Value.slice ysA ys.length ysC), (18, vI ((k : Nat) : Int)), (21, vS ((R26.key (alts.getD k default) c.Record).1)), (159, vB z)]) (fun _ => [Ent.blk b158 27 [vI 1, vI ((alts.getD k default).Id), vS (((R26.key (alts.getD k default) ((R27.getR (R27.ofD ds base.Id).Pairs c.Key).1)).1) ++ c.Key), vS [], vS []], Ent.blk b114 27 (Change.enc c), Ent.blk b112 34 [Value.slice dsA ds.length dsC, Value.pointer none], Ent.row (.slice A161 (xs ++ [(Change.mk 1 ((alts.getD k default).Id) (((R26.key (alts.getD k default) ((R27.getR (R27.ofD ds base.Id).Pairs c.Key).1)).1) ++ c.Key) [] [])]).length c162) 27 5 (xs ++ [(Change.mk 1 ((alts.getD k default).Id) (((R26.key (alts.getD k default) ((R27.getR (R27.ofD ds base.Id).Pairs c.Key).1)).1) ++ c.Key) [] [])]).length ((xs ++ [(Change.mk 1 ((alts.getD k default).Id) (((R26.key (alts.getD k default) ((R27.getR (R27.ofD ds base.Id).Pairs c.Key).1)).1) ++ c.Key) [] [])]).flatMap Change.enc), Ent.row (.slice ysA ys.length ysC) 27 5 ys.length (ys.flatMap Change.enc)]) ?_ ?_
         ·rcases Bool.eq_false_or_eq_true (((R26.key (alts.getD k default) c.Record).2) && (decide (c.Kind ≠ 1))) with g164 | g164
          ·have g164r := g164
           have ⟨g164r, h165⟩ := band_true g164r
           have hi166 := R26.key_facts g164r
           have h165 := of_decide_eq_true h165
           refine jg_ g164 (vB (((R26.key (alts.getD k default) ((R27.getR (R27.ofD ds base.Id).Pairs c.Key).1)).2) && (decide ((R27.getR (R27.ofD ds base.Id).Pairs c.Key).2 = 0)))) (rfl) ?_
           refine jg_ g164 (vB (!(((R26.key (alts.getD k default) ((R27.getR (R27.ofD ds base.Id).Pairs c.Key).1)).2) && (decide ((R27.getR (R27.ofD ds base.Id).Pairs c.Key).2 = 0))))) (x_not rfl) ?_
           refine jg_ g164 (vB (!(((R26.key (alts.getD k default) ((R27.getR (R27.ofD ds base.Id).Pairs c.Key).1)).2) && (decide ((R27.getR (R27.ofD ds base.Id).Pairs c.Key).2 = 0))))) (rfl) ?_
           refine JO_cut 4 (fun z => z = ((!(((R26.key (alts.getD k default) ((R27.getR (R27.ofD ds base.Id).Pairs c.Key).1)).2) && (decide ((R27.getR (R27.ofD ds base.Id).Pairs c.Key).2 = 0)))) || (decide ((R26.key (alts.getD k default) ((R27.getR (R27.ofD ds base.Id).Pairs c.Key).1)).1 ≠ (R26.key (alts.getD k default) c.Record).1)))) (fun z => [(2, Value.slice altsA alts.length altsC), (4, Value.pointer (some ⟨b112, 0, none⟩)), (7, Value.pointer (some ⟨b114, 0, none⟩)), (11, Value.slice A161 ((xs ++ [(Change.mk 1 ((alts.getD k default).Id) (((R26.key (alts.getD k default) ((R27.getR (R27.ofD ds base.Id).Pairs c.Key).1)).1) ++ c.Key) [] [])]).length) c162), (13, vS ((R27.getR (R27.ofD ds base.Id).Pairs c.Key).1)), (14, vB (decide ((R27.getR (R27.ofD ds base.Id).Pairs c.Key).2 = 0))), (17, Value.slice ysA ys.length ysC), (18, vI ((k : Nat) : Int)), (21, vS ((R26.key (alts.getD k default) c.Record).1)), (151, vB (((R26.key (alts.getD k default) c.Record).2) && (decide (c.Kind ≠ 1)))), (158, vB z)]) (fun _ => [Ent.blk b158 27 [vI 1, vI ((alts.getD k default).Id), vS (((R26.key (alts.getD k default) ((R27.getR (R27.ofD ds base.Id).Pairs c.Key).1)).1) ++ c.Key), vS [], vS []], Ent.blk b114 27 (Change.enc c), Ent.blk b112 34 [Value.slice dsA ds.length dsC, Value.pointer none], Ent.row (.slice A161 (xs ++ [(Change.mk 1 ((alts.getD k default).Id) (((R26.key (alts.getD k default) ((R27.getR (R27.ofD ds base.Id).Pairs c.Key).1)).1) ++ c.Key) [] [])]).length c162) 27 5 (xs ++ [(Change.mk 1 ((alts.getD k default).Id) (((R26.key (alts.getD k default) ((R27.getR (R27.ofD ds base.Id).Pairs c.Key).1)).1) ++ c.Key) [] [])]).length ((xs ++ [(Change.mk 1 ((alts.getD k default).Id) (((R26.key (alts.getD k default) ((R27.getR (R27.ofD ds base.Id).Pairs c.Key).1)).1) ++ c.Key) [] [])]).flatMap Change.enc), Ent.row (.slice ysA ys.length ysC) 27 5 ys.length (ys.flatMap Change.enc)]) ?_ ?_
           ·rcases Bool.eq_false_or_eq_true (!(((R26.key (alts.getD k default) ((R27.getR (R27.ofD ds base.Id).Pairs c.Key).1)).2) && (decide ((R27.getR (R27.ofD ds base.Id).Pairs c.Key).2 = 0)))) with g168 | g168
            ·have g168r := g168
             have g168r : (((R26.key (alts.getD k default) ((R27.getR (R27.ofD ds base.Id).Pairs c.Key).1)).2) && (decide ((R27.getR (R27.ofD ds base.Id).Pairs c.Key).2 = 0))) = false := bnot_true g168r
             simp only [Bool.and_eq_true, Bool.or_eq_true, Bool.and_eq_false_iff, Bool.or_eq_false_iff, Bool.not_eq_true', Bool.not_eq_false', decide_eq_true_eq, decide_eq_false_iff_not] at g168r
             refine sh_ g168 ?_
             refine sh_ g168 ?_
             refine sh_ g168 ?_
             refine jg_ g164 (vB true) (x_pick_t rfl g168 rfl) ?_
             refine JO_nil (JX_cut (true) (by rw [g168]; simp) ⟨rfl, rfl, rfl, rfl, rfl, rfl, rfl, rfl, rfl, rfl, rfl, trivial⟩ (fun _ h => h))
            ·have g168r := g168
             have g168r : (((R26.key (alts.getD k default) ((R27.getR (R27.ofD ds base.Id).Pairs c.Key).1)).2) && (decide ((R27.getR (R27.ofD ds base.Id).Pairs c.Key).2 = 0))) = true := bnot_false g168r
             have ⟨g168r, h169⟩ := band_true g168r
             have hi170 := R26.key_facts g168r
             have h169 := of_decide_eq_true h169
             refine jg_ g168 (vS ((R26.key (alts.getD k default) ((R27.getR (R27.ofD ds base.Id).Pairs c.Key).1)).1)) (rfl) ?_
             refine jg_ g168 (vS ((R26.key (alts.getD k default) c.Record).1)) (rfl) ?_
             refine jg_ g168 (vB (decide ((R26.key (alts.getD k default) ((R27.getR (R27.ofD ds base.Id).Pairs c.Key).1)).1 ≠ (R26.key (alts.getD k default) c.Record).1))) (x_neq_s rfl rfl) ?_
             refine jg_ g164 (vB (decide ((R26.key (alts.getD k default) ((R27.getR (R27.ofD ds base.Id).Pairs c.Key).1)).1 ≠ (R26.key (alts.getD k default) c.Record).1))) (x_pick_f rfl g168 rfl) ?_
             refine JO_nil (JX_cut (decide ((R26.key (alts.getD k default) ((R27.getR (R27.ofD ds base.Id).Pairs c.Key).1)).1 ≠ (R26.key (alts.getD k default) c.Record).1)) (by rw [g168]; simp) ⟨rfl, rfl, rfl, rfl, rfl, rfl, rfl, rfl, rfl, rfl, rfl, trivial⟩ (fun _ h => h))
           rintro z167 rfl
           refine js_ (vB ((!(((R26.key (alts.getD k default) ((R27.getR (R27.ofD ds base.Id).Pairs c.Key).1)).2) && (decide ((R27.getR (R27.ofD ds base.Id).Pairs c.Key).2 = 0)))) || (decide ((R26.key (alts.getD k default) ((R27.getR (R27.ofD ds base.Id).Pairs c.Key).1)).1 ≠ (R26.key (alts.getD k default) c.Record).1)))) (x_pick_t rfl g164 rfl) ?_
           refine JO_nil (JX_cut ((!(((R26.key (alts.getD k default) ((R27.getR (R27.ofD ds base.Id).Pairs c.Key).1)).2) && (decide ((R27.getR (R27.ofD ds base.Id).Pairs c.Key).2 = 0)))) || (decide ((R26.key (alts.getD k default) ((R27.getR (R27.ofD ds base.Id).Pairs c.Key).1)).1 ≠ (R26.key (alts.getD k default) c.Record).1))) (by rw [g164]; simp) ⟨rfl, rfl, rfl, rfl, rfl, rfl, rfl, rfl, rfl, rfl, trivial⟩ (fun _ h => h))
          ·have g164r := g164
           simp only [Bool.and_eq_true, Bool.or_eq_true, Bool.and_eq_false_iff, Bool.or_eq_false_iff, Bool.not_eq_true', Bool.not_eq_false', decide_eq_true_eq, decide_eq_false_iff_not] at g164r
           refine sh_ g164 ?_
           refine sh_ g164 ?_
           refine sh_ g164 ?_
           refine JO_shunU rfl ⟨_, rfl, rfl⟩ ?_
           refine JO_shunU rfl ⟨_, rfl, rfl⟩ ?_
           refine JO_shunU rfl ⟨_, rfl, rfl⟩ ?_
           refine sh_ g164 ?_
           refine js_ (vB false) (x_pick_f rfl g164 rfl) ?_
           refine JO_nil (JX_cut (false) (by rw [g164]; simp) ⟨rfl, rfl, rfl, rfl, rfl, rfl, rfl, rfl, rfl, rfl, trivial⟩ (fun _ h => h))
         rintro z163 rfl
         refine JO_nil (JX_then ?_)
         refine J_cond ((((R26.key (alts.getD k default) c.Record).2) && (decide (c.Kind ≠ 1))) && ((!(((R26.key (alts.getD k default) ((R27.getR (R27.ofD ds base.Id).Pairs c.Key).1)).2) && (decide ((R27.getR (R27.ofD ds base.Id).Pairs c.Key).2 = 0)))) || (decide ((R26.key (alts.getD k default) ((R27.getR (R27.ofD ds base.Id).Pairs c.Key).1)).1 ≠ (R26.key (alts.getD k default) c.Record).1)))) rfl rfl (fun h171 => ?_) (fun h171 => ?_)
         ·have h171w := h171
          have ⟨h171, h172⟩ := band_true h171
          have ⟨h171, h173⟩ := band_true h171
          have hi174 := R26.key_facts h171
          have h173 := of_decide_eq_true h173
          simp only [Bool.and_eq_true, Bool.or_eq_true, Bool.and_eq_false_iff, Bool.or_eq_false_iff, Bool.not_eq_true', Bool.not_eq_false', decide_eq_true_eq, decide_eq_false_iff_not] at h172
          refine J_seq (J_seq (J_region ?_))
          refine jr_ (Value.slice altsA alts.length altsC) ?_
          refine jr_ (vI ((k : Nat) : Int)) ?_
          refine JO_read (Value.pointer (some (adr altsA (k * 21)))) rfl trivial (x_indexAddr_at (k := k) (off := k * 21) (cells_ro altsR) Try.underlying25 Ty.sz24 rfl rfl lt_ (by rw [flat_length DataSet.enc 21 DataSet.enc_len]; first | omega | (simp; omega) | (simp_all; omega) | (simp_all; done)) rfl) ?_
          refine js_ (Value.pointer (some (adr altsA (k * 21 + 14)))) (x_fieldAddr Ty.fi24_14 rfl (adr_add _ _ _)) ?_
          refine JO_read (vB ((alts.getD k default).Unique)) rfl trivial (x_load_at (cells_ro altsR) rfl Ty.sc4 (flat_at DataSet.enc 21 DataSet.enc_len alts default k 14 lt_ (by decide))) ?_
          refine JO_nil (JX_then ?_)
          refine J_cond ((alts.getD k default).Unique) rfl rfl (fun h175 => ?_) (fun h175 => ?_)
          ·have h175w := h175
           refine J_seq ?_
           refine J_draw [Ent.blk b158 27 [vI 1, vI ((alts.getD k default).Id), vS (((R26.key (alts.getD k default) ((R27.getR (R27.ofD ds base.Id).Pairs c.Key).1)).1) ++ c.Key), vS [], vS []], Ent.blk b114 27 (Change.enc c), Ent.blk b112 34 [Value.slice dsA ds.length dsC, Value.pointer none], Ent.row (.slice A161 (xs ++ [(Change.mk 1 ((alts.getD k default).Id) (((R26.key (alts.getD k default) ((R27.getR (R27.ofD ds base.Id).Pairs c.Key).1)).1) ++ c.Key) [] [])]).length c162) 27 5 (xs ++ [(Change.mk 1 ((alts.getD k default).Id) (((R26.key (alts.getD k default) ((R27.getR (R27.ofD ds base.Id).Pairs c.Key).1)).1) ++ c.Key) [] [])]).length ((xs ++ [(Change.mk 1 ((alts.getD k default).Id) (((R26.key (alts.getD k default) ((R27.getR (R27.ofD ds base.Id).Pairs c.Key).1)).1) ++ c.Key) [] [])]).flatMap Change.enc), Ent.row (.slice ysA ys.length ysC) 27 5 ys.length (ys.flatMap Change.enc)] [] [Ent.blk b158 27 [vI 1, vI ((alts.getD k default).Id), vS (((R26.key (alts.getD k default) ((R27.getR (R27.ofD ds base.Id).Pairs c.Key).1)).1) ++ c.Key), vS [], vS []], Ent.blk b114 27 (Change.enc c), Ent.blk b112 34 [Value.slice dsA ds.length dsC, Value.pointer none], Ent.row (.slice A161 (xs ++ [(Change.mk 1 ((alts.getD k default).Id) (((R26.key (alts.getD k default) ((R27.getR (R27.ofD ds base.Id).Pairs c.Key).1)).1) ++ c.Key) [] [])]).length c162) 27 5 (xs ++ [(Change.mk 1 ((alts.getD k default).Id) (((R26.key (alts.getD k default) ((R27.getR (R27.ofD ds base.Id).Pairs c.Key).1)).1) ++ c.Key) [] [])]).length ((xs ++ [(Change.mk 1 ((alts.getD k default).Id) (((R26.key (alts.getD k default) ((R27.getR (R27.ofD ds base.Id).Pairs c.Key).1)).1) ++ c.Key) [] [])]).flatMap Change.enc), Ent.row (.slice ysA ys.length ysC) 27 5 ys.length (ys.flatMap Change.enc)] 10 Ty.mixed rfl ?_
           refine jt_ 0 (Value.agg #[Value.slice dsA ds.length dsC, Value.pointer none]) rfl (x_loadN 2 [Value.slice dsA ds.length dsC, Value.pointer none] rfl rfl Ty.ag34 Ty.sz34 rfl) ?_
           refine jt_ 1 (Value.slice altsA alts.length altsC) rfl (fun _ _ => rfl) ?_
           refine jt_ 2 (vI ((k : Nat) : Int)) rfl (fun _ _ => rfl) ?_
           refine jt_ 3 (Value.pointer (some (adr altsA (k * 21)))) rfl (x_indexAddr_at (k := k) (off := k * 21) (cells_ro altsR) Try.underlying25 Ty.sz24 rfl rfl lt_ (by rw [flat_length DataSet.enc 21 DataSet.enc_len]; first | omega | (simp; omega) | (simp_all; omega) | (simp_all; done)) rfl) ?_
           refine jt_ 4 (Value.agg ((DataSet.enc (alts.getD k default))).toArray) rfl (x_loadN_at (DataSet.enc (alts.getD k default)) (cells_ro altsR) rfl Ty.ag24 Ty.sz24 (flat_drop DataSet.enc 21 DataSet.enc_len alts default k lt_)) ?_
           refine jt_ 5 (vS ((R26.key (alts.getD k default) c.Record).1)) rfl (fun _ _ => rfl) ?_
           refine jt_ 6 (Value.pointer (some ⟨b114, 2, none⟩)) rfl (fun _ _ => x_fieldAddr Ty.fi27_2 rfl rfl) ?_
           refine jt_ 7 (vS c.Key) rfl (x_load 1 rfl rfl Ty.sc9 rfl) ?_
           refine JA_one 8 (by kernel_rfl) (fun _ h => ⟨h, fun _ => h⟩) ?_
           refine JI_call [] [] [Ent.blk b158 27 [vI 1, vI ((alts.getD k default).Id), vS (((R26.key (alts.getD k default) ((R27.getR (R27.ofD ds base.Id).Pairs c.Key).1)).1) ++ c.Key), vS [], vS []], Ent.blk b114 27 (Change.enc c), Ent.blk b112 34 [Value.slice dsA ds.length dsC, Value.pointer none], Ent.row (.slice A161 (xs ++ [(Change.mk 1 ((alts.getD k default).Id) (((R26.key (alts.getD k default) ((R27.getR (R27.ofD ds base.Id).Pairs c.Key).1)).1) ++ c.Key) [] [])]).length c162) 27 5 (xs ++ [(Change.mk 1 ((alts.getD k default).Id) (((R26.key (alts.getD k default) ((R27.getR (R27.ofD ds base.Id).Pairs c.Key).1)).1) ++ c.Key) [] [])]).length ((xs ++ [(Change.mk 1 ((alts.getD k default).Id) (((R26.key (alts.getD k default) ((R27.getR (R27.ofD ds base.Id).Pairs c.Key).1)).1) ++ c.Key) [] [])]).flatMap Change.enc), Ent.row (.slice ysA ys.length ysC) 27 5 ys.length (ys.flatMap Change.enc)] rfl rfl trivial (fun _ => x_call Ty.ca33 rfl) (fun _ h => h) (fun _ h => by cases h) (fun w hS => f33_ok ds dsA dsC (alts.getD k default) ((R26.key (alts.getD k default) c.Record).1) c.Key w (dsR.on hS (fun _ h => by cases h)) (fun i => (dsN i).on hS (fun _ h => by cases h)) hy_ hy_ hy_ hy_) ?_
           rintro _ _ ⟨rfl, rfl⟩
           refine jt_ 9 (vI (R27.dup (R27.ofD ds (alts.getD k default).Id).Pairs ((R26.key (alts.getD k default) c.Record).1) c.Key)) rfl (fun _ _ => rfl) ?_
           refine JA_done (by kernel_rfl) (fun _ h => ⟨h, fun _ => h⟩) ?_
           refine JX_then (J_seq (J_region ?_))
           refine jr_ (vI (R27.dup (R27.ofD ds (alts.getD k default).Id).Pairs ((R26.key (alts.getD k default) c.Record).1) c.Key)) ?_
           refine js_ (vB (decide (R27.dup (R27.ofD ds (alts.getD k default).Id).Pairs ((R26.key (alts.getD k default) c.Record).1) c.Key ≠ 0))) (x_neq_i rfl rfl) ?_
           refine JO_nil (JX_then ?_)
           refine J_cond (decide (R27.dup (R27.ofD ds (alts.getD k default).Id).Pairs ((R26.key (alts.getD k default) c.Record).1) c.Key ≠ 0)) rfl rfl (fun h176 => ?_) (fun h176 => ?_)
           ·have h176w := h176
            have h176 := of_decide_eq_true h176
            refine J_seq (J_region ?_)
            refine jr_ (vI (R27.dup (R27.ofD ds (alts.getD k default).Id).Pairs ((R26.key (alts.getD k default) c.Record).1) c.Key)) ?_
            refine jr_ (Value.slice none 0 0) ?_
            refine jr_ (vI (R27.dup (R27.ofD ds (alts.getD k default).Id).Pairs ((R26.key (alts.getD k default) c.Record).1) c.Key)) ?_
            refine JO_nil (JX_then (J_ret (JX_then_ret (JX_block_ret (JX_then_ret ?_)))))
            refine JX_round_ret (JX_block_ret (JX_then_ret ?_))
            first
             | have hd : False := by omega
             | have hd := R27.pl_errRA (ds := ds) h118w (by omega) (by omega) h135w (by omega) i2_1 h153w h171w h175w (of_decide_eq_true h176w)
             | have hd := R27.pl_errRB (ds := ds) h118w (by omega) (by omega) i2_1 h153w h171w h175w (of_decide_eq_true h176w)
             | have hd := R27.pl_okRA (ds := ds) h118w (by omega) (by omega) h135w i2_0 (by omega) i2_1
             | have hd := R27.pl_okRB (ds := ds) h118w (by omega) i2_0 (by omega) i2_1
             | have hd := R27.pl_empR (ds := ds) h118w (by omega) i1_0 (by omega) i1_1
             | have hd := R27.pl_getR (ds := ds) h118w (by omega) (by omega) h135w 
             | have hd := R27.pl_bad (ds := ds) h118w 
            refine JX_rets [Value.slice none 0 0, vI (R27.dup (R27.ofD ds (alts.getD k default).Id).Pairs ((R26.key (alts.getD k default) c.Record).1) c.Key)] (Value.tuple #[Value.slice none 0 0, vI (R27.dup (R27.ofD ds (alts.getD k default).Id).Pairs ((R26.key (alts.getD k default) c.Record).1) c.Key)]) Try.results11 (fun w h => ⟨rfl, rfl, trivial⟩) rfl [Ent.row (.slice none ([] : List Change).length 0) 27 5 ([] : List Change).length (([] : List Change).flatMap Change.enc)] (fun _ h => (h.nilrow 27 5).keep [true, false, false, false, false, false] rfl) ⟨none, 0, ?_, ?_⟩
            ·have e_x0 : (0 : Nat) = ((R27.plan ds base alts c).1.length) := by first | (rw [hd]; done) | (rw [hd]; rfl) | exact hd.elim
             have e_x1 : (R27.dup (R27.ofD ds (alts.getD k default).Id).Pairs ((R26.key (alts.getD k default) c.Record).1) c.Key : Int) = ((R27.plan ds base alts c).2) := by first | (rw [hd]; done) | (rw [hd]; rfl) | exact hd.elim
             have e_all := (congr (congrArg (fun (x0 : Nat) (x1 : Int) => Value.tuple #[Value.slice none x0 0, vI x1]) e_x0) e_x1)
             exact e_all
            ·have e_y0 : (([] : List Change) : List Change) = (R27.plan ds base alts c).1 := by
              first | (rw [hd]; done) | (rw [hd]; rfl) | exact hd.elim
             have e_all := (congrArg (fun (y0 : List Change) => [Ent.row (.slice none y0.length 0) 27 5 y0.length (y0.flatMap Change.enc)]) e_y0)
             exact e_all
           ·have h176w := h176
            have h176 := of_decide_eq_false h176
            refine J_skip (JX_then ?_)
            refine J_draw [Ent.blk b158 27 [vI 1, vI ((alts.getD k default).Id), vS (((R26.key (alts.getD k default) ((R27.getR (R27.ofD ds base.Id).Pairs c.Key).1)).1) ++ c.Key), vS [], vS []], Ent.blk b114 27 (Change.enc c), Ent.blk b112 34 [Value.slice dsA ds.length dsC, Value.pointer none], Ent.row (.slice A161 (xs ++ [(Change.mk 1 ((alts.getD k default).Id) (((R26.key (alts.getD k default) ((R27.getR (R27.ofD ds base.Id).Pairs c.Key).1)).1) ++ c.Key) [] [])]).length c162) 27 5 (xs ++ [(Change.mk 1 ((alts.getD k default).Id) (((R26.key (alts.getD k default) ((R27.getR (R27.ofD ds base.Id).Pairs c.Key).1)).1) ++ c.Key) [] [])]).length ((xs ++ [(Change.mk 1 ((alts.getD k default).Id) (((R26.key (alts.getD k default) ((R27.getR (R27.ofD ds base.Id).Pairs c.Key).1)).1) ++ c.Key) [] [])]).flatMap Change.enc)] [16] [Ent.blk b158 27 [vI 1, vI ((alts.getD k default).Id), vS (((R26.key (alts.getD k default) ((R27.getR (R27.ofD ds base.Id).Pairs c.Key).1)).1) ++ c.Key), vS [], vS []], Ent.blk b114 27 (Change.enc c), Ent.blk b112 34 [Value.slice dsA ds.length dsC, Value.pointer none], Ent.row (.slice A161 (xs ++ [(Change.mk 1 ((alts.getD k default).Id) (((R26.key (alts.getD k default) ((R27.getR (R27.ofD ds base.Id).Pairs c.Key).1)).1) ++ c.Key) [] [])]).length c162) 27 5 (xs ++ [(Change.mk 1 ((alts.getD k default).Id) (((R26.key (alts.getD k default) ((R27.getR (R27.ofD ds base.Id).Pairs c.Key).1)).1) ++ c.Key) [] [])]).length ((xs ++ [(Change.mk 1 ((alts.getD k default).Id) (((R26.key (alts.getD k default) ((R27.getR (R27.ofD ds base.Id).Pairs c.Key).1)).1) ++ c.Key) [] [])]).flatMap Change.enc), Ent.row (.slice ysA ys.length ysC) 27 5 ys.length (ys.flatMap Change.enc)] 18 Ty.mixed rfl ?_
            refine jt_ 0 (Value.slice ysA ys.length ysC) rfl (fun _ _ => rfl) ?_
            refine jt_ 1 (Value.slice altsA alts.length altsC) rfl (fun _ _ => rfl) ?_
            refine jt_ 2 (vI ((k : Nat) : Int)) rfl (fun _ _ => rfl) ?_
            refine jt_ 3 (Value.pointer (some (adr altsA (k * 21)))) rfl (x_indexAddr_at (k := k) (off := k * 21) (cells_ro altsR) Try.underlying25 Ty.sz24 rfl rfl lt_ (by rw [flat_length DataSet.enc 21 DataSet.enc_len]; first | omega | (simp; omega) | (simp_all; omega) | (simp_all; done)) rfl) ?_
            refine jt_ 4 (Value.pointer (some (adr altsA (k * 21)))) rfl (fun _ _ => x_fieldAddr Ty.fi24_0 rfl rfl) ?_
            refine jt_ 5 (vI ((alts.getD k default).Id)) rfl (x_load_at (cells_ro altsR) rfl Ty.sc3 (flat_at DataSet.enc 21 DataSet.enc_len alts default k 0 lt_ (by decide))) ?_
            refine jt_ 6 (vS ((R26.key (alts.getD k default) c.Record).1)) rfl (fun _ _ => rfl) ?_
            refine jt_ 7 (Value.pointer (some ⟨b114, 2, none⟩)) rfl (fun _ _ => x_fieldAddr Ty.fi27_2 rfl rfl) ?_
            refine jt_ 8 (vS c.Key) rfl (x_load 1 rfl rfl Ty.sc9 rfl) ?_
            refine jt_ 9 (vS (((R26.key (alts.getD k default) c.Record).1) ++ c.Key)) rfl (fun _ _ => x_cat_s rfl rfl (by first | omega | (simp only [List.length_append, List.length_cons, List.length_nil]; omega) | (simp; omega) | (simp_all; omega))) ?_
            refine jt_ 10 (vS ((R26.key (alts.getD k default) c.Record).1)) rfl (fun _ _ => rfl) ?_
            refine jt_ 11 (Value.pointer (some ⟨b114, 2, none⟩)) rfl (fun _ _ => x_fieldAddr Ty.fi27_2 rfl rfl) ?_
            refine jt_ 12 (vS c.Key) rfl (x_load 1 rfl rfl Ty.sc9 rfl) ?_
            refine jt_ 13 (vS (((R26.key (alts.getD k default) c.Record).1) ++ c.Key)) rfl (fun _ _ => x_cat_s rfl rfl (by first | omega | (simp only [List.length_append, List.length_cons, List.length_nil]; omega) | (simp; omega) | (simp_all; omega))) ?_
            refine jt_ 14 (Value.agg ([vI 0, vI ((alts.getD k default).Id), vS (((R26.key (alts.getD k default) c.Record).1) ++ c.Key), vS (((R26.key (alts.getD k default) c.Record).1) ++ c.Key), vS []]).toArray) rfl (fun _ _ => x_build (by kernel_rfl)) ?_
            refine JA_one 15 (by kernel_rfl) (fun _ h => ⟨h.keep [true, true, true, true, false] rfl, fun _ => h⟩) ?_
            refine JI_op rfl rfl trivial (O_buildSlice (cs := [vI 0, vI ((alts.getD k default).Id), vS (((R26.key (alts.getD k default) c.Record).1) ++ c.Key), vS (((R26.key (alts.getD k default) c.Record).1) ++ c.Key), vS []]) Try.underlying31 Ty.sz27 Ty.ze27 (by decide) (by decide) (by kernel_rfl) fun b178 => ?_)
            refine JA_one 16 (by kernel_rfl) (fun _ h => ⟨h.keep [false, true, true, true, true, false] rfl, fun _ => h.keep [false, true, true, true, true, true] rfl⟩) ?_
            refine JI_op rfl rfl trivial (O_append_f 5 Change.enc 5 ys [(Change.mk 0 ((alts.getD k default).Id) (((R26.key (alts.getD k default) c.Record).1) ++ c.Key) (((R26.key (alts.getD k default) c.Record).1) ++ c.Key) [])] Try.underlying31 Ty.sz27 Ty.by27 Ty.ze27 rfl (by decide) rfl rfl rfl rfl Change.enc_len Change.enc_one (cells_blk 0 (off := 0) (m := 5) rfl rfl) lt_ lt_ fun A181 c182 => ?_)
            refine jt_ 17 (Value.slice A181 ((ys ++ [(Change.mk 0 ((alts.getD k default).Id) (((R26.key (alts.getD k default) c.Record).1) ++ c.Key) (((R26.key (alts.getD k default) c.Record).1) ++ c.Key) [])]).length) c182) rfl (fun _ _ => rfl) ?_
            refine JA_done (by kernel_rfl) (fun _ h => ⟨h.keep [false, true, true, true, true, false] rfl, fun hh => Bool.noConfusion (show false = true from hh)⟩) ?_
            refine JX_block (JX_then (J_region ?_))
            refine jr_ (vI ((k : Nat) : Int)) ?_
            refine js_ (vI ((k + 1 : Nat) : Int)) (x_add_n (a := k) (b := 1) rfl rfl (by omega)) ?_
            refine jr_ (vI ((k + 1 : Nat) : Int)) ?_
            refine JO_nil ?_
            refine JX_round ((k + 1, xs ++ [(Change.mk 1 ((alts.getD k default).Id) (((R26.key (alts.getD k default) ((R27.getR (R27.ofD ds base.Id).Pairs c.Key).1)).1) ++ c.Key) [] [])], A161, c162, ys ++ [(Change.mk 0 ((alts.getD k default).Id) (((R26.key (alts.getD k default) c.Record).1) ++ c.Key) (((R26.key (alts.getD k default) c.Record).1) ++ c.Key) [])], A181, c182) : Nat × (List Change) × (Option Addr) × Nat × (List Change) × (Option Addr) × Nat) ?_ ?_ ⟨rfl, rfl, rfl, rfl, rfl, rfl, rfl, rfl, trivial⟩ (fun _ h => h.keep [false, false, true, true, true, true] rfl)
            ·show ((k + 1) ≤ alts.length) ∧ (((xs ++ [(Change.mk 1 ((alts.getD k default).Id) (((R26.key (alts.getD k default) ((R27.getR (R27.ofD ds base.Id).Pairs c.Key).1)).1) ++ c.Key) [] [])]), (ys ++ [(Change.mk 0 ((alts.getD k default).Id) (((R26.key (alts.getD k default) c.Record).1) ++ c.Key) (((R26.key (alts.getD k default) c.Record).1) ++ c.Key) [])]), (0 : Int)) = (R27.stepsA ds c (R27.getR (R27.ofD ds base.Id).Pairs c.Key).1 (decide ((R27.getR (R27.ofD ds base.Id).Pairs c.Key).2 = 0)) (alts.take (k + 1)) ([c], [], 0))) ∧ ((xs ++ [(Change.mk 1 ((alts.getD k default).Id) (((R26.key (alts.getD k default) ((R27.getR (R27.ofD ds base.Id).Pairs c.Key).1)).1) ++ c.Key) [] [])]).length ≤ 1 + (k + 1)) ∧ ((ys ++ [(Change.mk 0 ((alts.getD k default).Id) (((R26.key (alts.getD k default) c.Record).1) ++ c.Key) (((R26.key (alts.getD k default) c.Record).1) ++ c.Key) [])]).length ≤ (k + 1))
             refine ⟨?_, ?_, ?_, ?_⟩
             ·first | rfl | omega | (simp_all; done) | (simp_all; omega)
             ·first
               | exact R27.rp_step (by omega) i2_1 (R27.rp_ff h153w h171w )
               | exact R27.rp_step (by omega) i2_1 (R27.rp_tf h153w h171w )
               | exact R27.rp_step (by omega) i2_1 (R27.rp_ftn h153w h171w h175w )
               | exact R27.rp_step (by omega) i2_1 (R27.rp_ttn h153w h171w h175w )
               | exact R27.rp_step (by omega) i2_1 (R27.rp_ftu h153w h171w h175w (of_decide_eq_false h176w))
               | exact R27.rp_step (by omega) i2_1 (R27.rp_ttu h153w h171w h175w (of_decide_eq_false h176w))
             ·first | omega | (rw [List.length_append]; simp only [List.length_cons, List.length_nil]; omega)
             ·first | omega | (rw [List.length_append]; simp only [List.length_cons, List.length_nil]; omega)
            ·show alts.length - (k + 1) < alts.length - k
             first | omega | (simp; omega) | (simp_all; omega)
          ·have h175w := h175
           refine J_skip (JX_then ?_)
           refine J_draw [Ent.blk b158 27 [vI 1, vI ((alts.getD k default).Id), vS (((R26.key (alts.getD k default) ((R27.getR (R27.ofD ds base.Id).Pairs c.Key).1)).1) ++ c.Key), vS [], vS []], Ent.blk b114 27 (Change.enc c), Ent.blk b112 34 [Value.slice dsA ds.length dsC, Value.pointer none], Ent.row (.slice A161 (xs ++ [(Change.mk 1 ((alts.getD k default).Id) (((R26.key (alts.getD k default) ((R27.getR (R27.ofD ds base.Id).Pairs c.Key).1)).1) ++ c.Key) [] [])]).length c162) 27 5 (xs ++ [(Change.mk 1 ((alts.getD k default).Id) (((R26.key (alts.getD k default) ((R27.getR (R27.ofD ds base.Id).Pairs c.Key).1)).1) ++ c.Key) [] [])]).length ((xs ++ [(Change.mk 1 ((alts.getD k default).Id) (((R26.key (alts.getD k default) ((R27.getR (R27.ofD ds base.Id).Pairs c.Key).1)).1) ++ c.Key) [] [])]).flatMap Change.enc)] [16] [Ent.blk b158 27 [vI 1, vI ((alts.getD k default).Id), vS (((R26.key (alts.getD k default) ((R27.getR (R27.ofD ds base.Id).Pairs c.Key).1)).1) ++ c.Key), vS [], vS []], Ent.blk b114 27 (Change.enc c), Ent.blk b112 34 [Value.slice dsA ds.length dsC, Value.pointer none], Ent.row (.slice A161 (xs ++ [(Change.mk 1 ((alts.getD k default).Id) (((R26.key (alts.getD k default) ((R27.getR (R27.ofD ds base.Id).Pairs c.Key).1)).1) ++ c.Key) [] [])]).length c162) 27 5 (xs ++ [(Change.mk 1 ((alts.getD k default).Id) (((R26.key (alts.getD k default) ((R27.getR (R27.ofD ds base.Id).Pairs c.Key).1)).1) ++ c.Key) [] [])]).length ((xs ++ [(Change.mk 1 ((alts.getD k default).Id) (((R26.key (alts.getD k default) ((R27.getR (R27.ofD ds base.Id).Pairs c.Key).1)).1) ++ c.Key) [] [])]).flatMap Change.enc), Ent.row (.slice ysA ys.length ysC) 27 5 ys.length (ys.flatMap Change.enc)] 18 Ty.mixed rfl ?_
           refine jt_ 0 (Value.slice ysA ys.length ysC) rfl (fun _ _ => rfl) ?_
           refine jt_ 1 (Value.slice altsA alts.length altsC) rfl (fun _ _ => rfl) ?_
           refine jt_ 2 (vI ((k : Nat) : Int)) rfl (fun _ _ => rfl) ?_
           refine jt_ 3 (Value.pointer (some (adr altsA (k * 21)))) rfl (x_indexAddr_at (k := k) (off := k * 21) (cells_ro altsR) Try.underlying25 Ty.sz24 rfl rfl lt_ (by rw [flat_length DataSet.enc 21 DataSet.enc_len]; first | omega | (simp; omega) | (simp_all; omega) | (simp_all; done)) rfl) ?_
           refine jt_ 4 (Value.pointer (some (adr altsA (k * 21)))) rfl (fun _ _ => x_fieldAddr Ty.fi24_0 rfl rfl) ?_
           refine jt_ 5 (vI ((alts.getD k default).Id)) rfl (x_load_at (cells_ro altsR) rfl Ty.sc3 (flat_at DataSet.enc 21 DataSet.enc_len alts default k 0 lt_ (by decide))) ?_
           refine jt_ 6 (vS ((R26.key (alts.getD k default) c.Record).1)) rfl (fun _ _ => rfl) ?_
           refine jt_ 7 (Value.pointer (some ⟨b114, 2, none⟩)) rfl (fun _ _ => x_fieldAddr Ty.fi27_2 rfl rfl) ?_
           refine jt_ 8 (vS c.Key) rfl (x_load 1 rfl rfl Ty.sc9 rfl) ?_
           refine jt_ 9 (vS (((R26.key (alts.getD k default) c.Record).1) ++ c.Key)) rfl (fun _ _ => x_cat_s rfl rfl (by first | omega | (simp only [List.length_append, List.length_cons, List.length_nil]; omega) | (simp; omega) | (simp_all; omega))) ?_
           refine jt_ 10 (vS ((R26.key (alts.getD k default) c.Record).1)) rfl (fun _ _ => rfl) ?_
           refine jt_ 11 (Value.pointer (some ⟨b114, 2, none⟩)) rfl (fun _ _ => x_fieldAddr Ty.fi27_2 rfl rfl) ?_
           refine jt_ 12 (vS c.Key) rfl (x_load 1 rfl rfl Ty.sc9 rfl) ?_
           refine jt_ 13 (vS (((R26.key (alts.getD k default) c.Record).1) ++ c.Key)) rfl (fun _ _ => x_cat_s rfl rfl (by first | omega | (simp only [List.length_append, List.length_cons, List.length_nil]; omega) | (simp; omega) | (simp_all; omega))) ?_
           refine jt_ 14 (Value.agg ([vI 0, vI ((alts.getD k default).Id), vS (((R26.key (alts.getD k default) c.Record).1) ++ c.Key), vS (((R26.key (alts.getD k default) c.Record).1) ++ c.Key), vS []]).toArray) rfl (fun _ _ => x_build (by kernel_rfl)) ?_
           refine JA_one 15 (by kernel_rfl) (fun _ h => ⟨h.keep [true, true, true, true, false] rfl, fun _ => h⟩) ?_
           refine JI_op rfl rfl trivial (O_buildSlice (cs := [vI 0, vI ((alts.getD k default).Id), vS (((R26.key (alts.getD k default) c.Record).1) ++ c.Key), vS (((R26.key (alts.getD k default) c.Record).1) ++ c.Key), vS []]) Try.underlying31 Ty.sz27 Ty.ze27 (by decide) (by decide) (by kernel_rfl) fun b184 => ?_)
           refine JA_one 16 (by kernel_rfl) (fun _ h => ⟨h.keep [false, true, true, true, true, false] rfl, fun _ => h.keep [false, true, true, true, true, true] rfl⟩) ?_
           refine JI_op rfl rfl trivial (O_append_f 5 Change.enc 5 ys [(Change.mk 0 ((alts.getD k default).Id) (((R26.key (alts.getD k default) c.Record).1) ++ c.Key) (((R26.key (alts.getD k default) c.Record).1) ++ c.Key) [])] Try.underlying31 Ty.sz27 Ty.by27 Ty.ze27 rfl (by decide) rfl rfl rfl rfl Change.enc_len Change.enc_one (cells_blk 0 (off := 0) (m := 5) rfl rfl) lt_ lt_ fun A187 c188 => ?_)
           refine jt_ 17 (Value.slice A187 ((ys ++ [(Change.mk 0 ((alts.getD k default).Id) (((R26.key (alts.getD k default) c.Record).1) ++ c.Key) (((R26.key (alts.getD k default) c.Record).1) ++ c.Key) [])]).length) c188) rfl (fun _ _ => rfl) ?_
           refine JA_done (by kernel_rfl) (fun _ h => ⟨h.keep [false, true, true, true, true, false] rfl, fun hh => Bool.noConfusion (show false = true from hh)⟩) ?_
           refine JX_block (JX_then (J_region ?_))
           refine jr_ (vI ((k : Nat) : Int)) ?_
           refine js_ (vI ((k + 1 : Nat) : Int)) (x_add_n (a := k) (b := 1) rfl rfl (by omega)) ?_
           refine jr_ (vI ((k + 1 : Nat) : Int)) ?_
           refine JO_nil ?_
           refine JX_round ((k + 1, xs ++ [(Change.mk 1 ((alts.getD k default).Id) (((R26.key (alts.getD k default) ((R27.getR (R27.ofD ds base.Id).Pairs c.Key).1)).1) ++ c.Key) [] [])], A161, c162, ys ++ [(Change.mk 0 ((alts.getD k default).Id) (((R26.key (alts.getD k default) c.Record).1) ++ c.Key) (((R26.key (alts.getD k default) c.Record).1) ++ c.Key) [])], A187, c188) : Nat × (List Change) × (Option Addr) × Nat × (List Change) × (Option Addr) × Nat) ?_ ?_ ⟨rfl, rfl, rfl, rfl, rfl, rfl, rfl, rfl, trivial⟩ (fun _ h => h.keep [false, false, true, true, true, true] rfl)
           ·show ((k + 1) ≤ alts.length) ∧ (((xs ++ [(Change.mk 1 ((alts.getD k default).Id) (((R26.key (alts.getD k default) ((R27.getR (R27.ofD ds base.Id).Pairs c.Key).1)).1) ++ c.Key) [] [])]), (ys ++ [(Change.mk 0 ((alts.getD k default).Id) (((R26.key (alts.getD k default) c.Record).1) ++ c.Key) (((R26.key (alts.getD k default) c.Record).1) ++ c.Key) [])]), (0 : Int)) = (R27.stepsA ds c (R27.getR (R27.ofD ds base.Id).Pairs c.Key).1 (decide ((R27.getR (R27.ofD ds base.Id).Pairs c.Key).2 = 0)) (alts.take (k + 1)) ([c], [], 0))) ∧ ((xs ++ [(Change.mk 1 ((alts.getD k default).Id) (((R26.key (alts.getD k default) ((R27.getR (R27.ofD ds base.Id).Pairs c.Key).1)).1) ++ c.Key) [] [])]).length ≤ 1 + (k + 1)) ∧ ((ys ++ [(Change.mk 0 ((alts.getD k default).Id) (((R26.key (alts.getD k default) c.Record).1) ++ c.Key) (((R26.key (alts.getD k default) c.Record).1) ++ c.Key) [])]).length ≤ (k + 1))
            refine ⟨?_, ?_, ?_, ?_⟩
            ·first | rfl | omega | (simp_all; done) | (simp_all; omega)
            ·first
              | exact R27.rp_step (by omega) i2_1 (R27.rp_ff h153w h171w )
              | exact R27.rp_step (by omega) i2_1 (R27.rp_tf h153w h171w )
              | exact R27.rp_step (by omega) i2_1 (R27.rp_ftn h153w h171w h175w )
              | exact R27.rp_step (by omega) i2_1 (R27.rp_ttn h153w h171w h175w )
              | exact R27.rp_step (by omega) i2_1 (R27.rp_ftu h153w h171w h175w (of_decide_eq_false no_such_condition))
              | exact R27.rp_step (by omega) i2_1 (R27.rp_ttu h153w h171w h175w (of_decide_eq_false no_such_condition))
            ·first | omega | (rw [List.length_append]; simp only [List.length_cons, List.length_nil]; omega)
            ·first | omega | (rw [List.length_append]; simp only [List.length_cons, List.length_nil]; omega)
           ·show alts.length - (k + 1) < alts.length - k
            first | omega | (simp; omega) | (simp_all; omega)
         ·have h171w := h171
          simp only [Bool.and_eq_true, Bool.or_eq_true, Bool.and_eq_false_iff, Bool.or_eq_false_iff, Bool.not_eq_true', Bool.not_eq_false', decide_eq_true_eq, decide_eq_false_iff_not] at h171
          refine J_skip (JX_block (JX_then (J_region ?_)))
          refine jr_ (vI ((k : Nat) : Int)) ?_
          refine js_ (vI ((k + 1 : Nat) : Int)) (x_add_n (a := k) (b := 1) rfl rfl (by omega)) ?_
          refine jr_ (vI ((k + 1 : Nat) : Int)) ?_
          refine JO_nil ?_
          refine JX_round ((k + 1, xs ++ [(Change.mk 1 ((alts.getD k default).Id) (((R26.key (alts.getD k default) ((R27.getR (R27.ofD ds base.Id).Pairs c.Key).1)).1) ++ c.Key) [] [])], A161, c162, ys, ysA, ysC) : Nat × (List Change) × (Option Addr) × Nat × (List Change) × (Option Addr) × Nat) ?_ ?_ ⟨rfl, rfl, rfl, rfl, rfl, rfl, rfl, rfl, trivial⟩ (fun _ h => h.keep [false, true, true, true, true] rfl)
          ·show ((k + 1) ≤ alts.length) ∧ (((xs ++ [(Change.mk 1 ((alts.getD k default).Id) (((R26.key (alts.getD k default) ((R27.getR (R27.ofD ds base.Id).Pairs c.Key).1)).1) ++ c.Key) [] [])]), ys, (0 : Int)) = (R27.stepsA ds c (R27.getR (R27.ofD ds base.Id).Pairs c.Key).1 (decide ((R27.getR (R27.ofD ds base.Id).Pairs c.Key).2 = 0)) (alts.take (k + 1)) ([c], [], 0))) ∧ ((xs ++ [(Change.mk 1 ((alts.getD k default).Id) (((R26.key (alts.getD k default) ((R27.getR (R27.ofD ds base.Id).Pairs c.Key).1)).1) ++ c.Key) [] [])]).length ≤ 1 + (k + 1)) ∧ (ys.length ≤ (k + 1))
           refine ⟨?_, ?_, ?_, ?_⟩
           ·first | rfl | omega | (simp_all; done) | (simp_all; omega)
           ·first
             | exact R27.rp_step (by omega) i2_1 (R27.rp_ff h153w h171w )
             | exact R27.rp_step (by omega) i2_1 (R27.rp_tf h153w h171w )
             | exact R27.rp_step (by omega) i2_1 (R27.rp_ftn h153w h171w no_such_condition )
             | exact R27.rp_step (by omega) i2_1 (R27.rp_ttn h153w h171w no_such_condition )
             | exact R27.rp_step (by omega) i2_1 (R27.rp_ftu h153w h171w no_such_condition (of_decide_eq_false no_such_condition))
             | exact R27.rp_step (by omega) i2_1 (R27.rp_ttu h153w h171w no_such_condition (of_decide_eq_false no_such_condition))
           ·first | omega | (rw [List.length_append]; simp only [List.length_cons, List.length_nil]; omega)
           ·first | omega | (rw [List.length_append]; simp only [List.length_cons, List.length_nil]; omega)
          ·show alts.length - (k + 1) < alts.length - k
           first | omega | (simp; omega) | (simp_all; omega)
        ·have h153w := h153
         simp only [Bool.and_eq_true, Bool.or_eq_true, Bool.and_eq_false_iff, Bool.or_eq_false_iff, Bool.not_eq_true', Bool.not_eq_false', decide_eq_true_eq, decide_eq_false_iff_not] at h153
         refine J_skip (JX_then (J_seq (J_region ?_)))
         refine jr_ (vB (((R26.key (alts.getD k default) c.Record).2) && (decide (c.Kind ≠ 1)))) ?_
         refine jr_ (vB (((R26.key (alts.getD k default) c.Record).2) && (decide (c.Kind ≠ 1)))) ?_
         refine JO_cut 8 (fun z => z = ((((R26.key (alts.getD k default) c.Record).2) && (decide (c.Kind ≠ 1))) && ((!(((R26.key (alts.getD k default) ((R27.getR (R27.ofD ds base.Id).Pairs c.Key).1)).2) && (decide ((R27.getR (R27.ofD ds base.Id).Pairs c.Key).2 = 0)))) || (decide ((R26.key (alts.getD k default) ((R27.getR (R27.ofD ds base.Id).Pairs c.Key).1)).1 ≠ (R26.key (alts.getD k default) c.Record).1))))) (fun z => [(2, Value.slice altsA alts.length altsC), (4, Value.pointer (some ⟨b112, 0, none⟩)), (7, Value.pointer (some ⟨b114, 0, none⟩)), (11, Value.slice xsA xs.length xsC), (13, vS ((R27.getR (R27.ofD ds base.Id).Pairs c.Key).1)), (14, vB (decide ((R27.getR (R27.ofD ds base.Id).Pairs c.Key).2 = 0))), (17, Value.slice ysA ys.length ysC), (18, vI ((k : Nat) : Int)), (21, vS ((R26.key (alts.getD k default) c.Record).1)), (159, vB z)]) (fun _ => [Ent.blk b114 27 (Change.enc c), Ent.blk b112 34 [Value.slice dsA ds.length dsC, Value.pointer none], Ent.row (.slice xsA xs.length xsC) 27 5 xs.length (xs.flatMap Change.enc), Ent.row (.slice ysA ys.length ysC) 27 5 ys.length (ys.flatMap Change.enc)]) ?_ ?_
         ·rcases Bool.eq_false_or_eq_true (((R26.key (alts.getD k default) c.Record).2) && (decide (c.Kind ≠ 1))) with g190 | g190
          ·have g190r := g190
           have ⟨g190r, h191⟩ := band_true g190r
           have hi192 := R26.key_facts g190r
           have h191 := of_decide_eq_true h191
           refine jg_ g190 (vB (((R26.key (alts.getD k default) ((R27.getR (R27.ofD ds base.Id).Pairs c.Key).1)).2) && (decide ((R27.getR (R27.ofD ds base.Id).Pairs c.Key).2 = 0)))) (rfl) ?_
           refine jg_ g190 (vB (!(((R26.key (alts.getD k default) ((R27.getR (R27.ofD ds base.Id).Pairs c.Key).1)).2) && (decide ((R27.getR (R27.ofD ds base.Id).Pairs c.Key).2 = 0))))) (x_not rfl) ?_
           refine jg_ g190 (vB (!(((R26.key (alts.getD k default) ((R27.getR (R27.ofD ds base.Id).Pairs c.Key).1)).2) && (decide ((R27.getR (R27.ofD ds base.Id).Pairs c.Key).2 = 0))))) (rfl) ?_
           refine JO_cut 4 (fun z => z = ((!(((R26.key (alts.getD k default) ((R27.getR (R27.ofD ds base.Id).Pairs c.Key).1)).2) && (decide ((R27.getR (R27.ofD ds base.Id).Pairs c.Key).2 = 0)))) || (decide ((R26.key (alts.getD k default) ((R27.getR (R27.ofD ds base.Id).Pairs c.Key).1)).1 ≠ (R26.key (alts.getD k default) c.Record).1)))) (fun z => [(2, Value.slice altsA alts.length altsC), (4, Value.pointer (some ⟨b112, 0, none⟩)), (7, Value.pointer (some ⟨b114, 0, none⟩)), (11, Value.slice xsA xs.length xsC), (13, vS ((R27.getR (R27.ofD ds base.Id).Pairs c.Key).1)), (14, vB (decide ((R27.getR (R27.ofD ds base.Id).Pairs c.Key).2 = 0))), (17, Value.slice ysA ys.length ysC), (18, vI ((k : Nat) : Int)), (21, vS ((R26.key (alts.getD k default) c.Record).1)), (151, vB (((R26.key (alts.getD k default) c.Record).2) && (decide (c.Kind ≠ 1)))), (158, vB z)]) (fun _ => [Ent.blk b114 27 (Change.enc c), Ent.blk b112 34 [Value.slice dsA ds.length dsC, Value.pointer none], Ent.row (.slice xsA xs.length xsC) 27 5 xs.length (xs.flatMap Change.enc), Ent.row (.slice ysA ys.length ysC) 27 5 ys.length (ys.flatMap Change.enc)]) ?_ ?_
           ·rcases Bool.eq_false_or_eq_true (!(((R26.key (alts.getD k default) ((R27.getR (R27.ofD ds base.Id).Pairs c.Key).1)).2) && (decide ((R27.getR (R27.ofD ds base.Id).Pairs c.Key).2 = 0)))) with g194 | g194
            ·have g194r := g194
             have g194r : (((R26.key (alts.getD k default) ((R27.getR (R27.ofD ds base.Id).Pairs c.Key).1)).2) && (decide ((R27.getR (R27.ofD ds base.Id).Pairs c.Key).2 = 0))) = false := bnot_true g194r
             simp only [Bool.and_eq_true, Bool.or_eq_true, Bool.and_eq_false_iff, Bool.or_eq_false_iff, Bool.not_eq_true', Bool.not_eq_false', decide_eq_true_eq, decide_eq_false_iff_not] at g194r
             refine sh_ g194 ?_
             refine sh_ g194 ?_
             refine sh_ g194 ?_
             refine jg_ g190 (vB true) (x_pick_t rfl g194 rfl) ?_
             refine JO_nil (JX_cut (true) (by rw [g194]; simp) ⟨rfl, rfl, rfl, rfl, rfl, rfl, rfl, rfl, rfl, rfl, rfl, trivial⟩ (fun _ h => h))
            ·have g194r := g194
             have g194r : (((R26.key (alts.getD k default) ((R27.getR (R27.ofD ds base.Id).Pairs c.Key).1)).2) && (decide ((R27.getR (R27.ofD ds base.Id).Pairs c.Key).2 = 0))) = true := bnot_false g194r
             have ⟨g194r, h195⟩ := band_true g194r
             have hi196 := R26.key_facts g194r
             have h195 := of_decide_eq_true h195
             refine jg_ g194 (vS ((R26.key (alts.getD k default) ((R27.getR (R27.ofD ds base.Id).Pairs c.Key).1)).1)) (rfl) ?_
             refine jg_ g194 (vS ((R26.key (alts.getD k default) c.Record).1)) (rfl) ?_
             refine jg_ g194 (vB (decide ((R26.key (alts.getD k default) ((R27.getR (R27.ofD ds base.Id).Pairs c.Key).1)).1 ≠ (R26.key (alts.getD k default) c.Record).1))) (x_neq_s rfl rfl) ?_
             refine jg_ g190 (vB (decide ((R26.key (alts.getD k default) ((R27.getR (R27.ofD ds base.Id).Pairs c.Key).1)).1 ≠ (R26.key (alts.getD k default) c.Record).1))) (x_pick_f rfl g194 rfl) ?_
             refine JO_nil (JX_cut (decide ((R26.key (alts.getD k default) ((R27.getR (R27.ofD ds base.Id).Pairs c.Key).1)).1 ≠ (R26.key (alts.getD k default) c.Record).1)) (by rw [g194]; simp) ⟨rfl, rfl, rfl, rfl, rfl, rfl, rfl, rfl, rfl, rfl, rfl, trivial⟩ (fun _ h => h))
           rintro z193 rfl
           refine js_ (vB ((!(((R26.key (alts.getD k default) ((R27.getR (R27.ofD ds base.Id).Pairs c.Key).1)).2) && (decide ((R27.getR (R27.ofD ds base.Id).Pairs c.Key).2 = 0)))) || (decide ((R26.key (alts.getD k default) ((R27.getR (R27.ofD ds base.Id).Pairs c.Key).1)).1 ≠ (R26.key (alts.getD k default) c.Record).1)))) (x_pick_t rfl g190 rfl) ?_
           refine JO_nil (JX_cut ((!(((R26.key (alts.getD k default) ((R27.getR (R27.ofD ds base.Id).Pairs c.Key).1)).2) && (decide ((R27.getR (R27.ofD ds base.Id).Pairs c.Key).2 = 0)))) || (decide ((R26.key (alts.getD k default) ((R27.getR (R27.ofD ds base.Id).Pairs c.Key).1)).1 ≠ (R26.key (alts.getD k default) c.Record).1))) (by rw [g190]; simp) ⟨rfl, rfl, rfl, rfl, rfl, rfl, rfl, rfl, rfl, rfl, trivial⟩ (fun _ h => h))
          ·have g190r := g190
           simp only [Bool.and_eq_true, Bool.or_eq_true, Bool.and_eq_false_iff, Bool.or_eq_false_iff, Bool.not_eq_true', Bool.not_eq_false', decide_eq_true_eq, decide_eq_false_iff_not] at g190r
           refine sh_ g190 ?_
           refine sh_ g190 ?_
           refine sh_ g190 ?_
           refine JO_shunU rfl ⟨_, rfl, rfl⟩ ?_
           refine JO_shunU rfl ⟨_, rfl, rfl⟩ ?_
           refine JO_shunU rfl ⟨_, rfl, rfl⟩ ?_
           refine sh_ g190 ?_
           refine js_ (vB false) (x_pick_f rfl g190 rfl) ?_
           refine JO_nil (JX_cut (false) (by rw [g190]; simp) ⟨rfl, rfl, rfl, rfl, rfl, rfl, rfl, rfl, rfl, rfl, trivial⟩ (fun _ h => h))
         rintro z189 rfl
         refine JO_nil (JX_then ?_)
         refine J_cond ((((R26.key (alts.getD k default) c.Record).2) && (decide (c.Kind ≠ 1))) && ((!(((R26.key (alts.getD k default) ((R27.getR (R27.ofD ds base.Id).Pairs c.Key).1)).2) && (decide ((R27.getR (R27.ofD ds base.Id).Pairs c.Key).2 = 0)))) || (decide ((R26.key (alts.getD k default) ((R27.getR (R27.ofD ds base.Id).Pairs c.Key).1)).1 ≠ (R26.key (alts.getD k default) c.Record).1)))) rfl rfl (fun h197 => ?_) (fun h197 => ?_)
         ·have h197w := h197
          have ⟨h197, h198⟩ := band_true h197
          have ⟨h197, h199⟩ := band_true h197
          have hi200 := R26.key_facts h197
          have h199 := of_decide_eq_true h199
          simp only [Bool.and_eq_true, Bool.or_eq_true, Bool.and_eq_false_iff, Bool.or_eq_false_iff, Bool.not_eq_true', Bool.not_eq_false', decide_eq_true_eq, decide_eq_false_iff_not] at h198
          refine J_seq (J_seq (J_region ?_))
          refine jr_ (Value.slice altsA alts.length altsC) ?_
          refine jr_ (vI ((k : Nat) : Int)) ?_
          refine JO_read (Value.pointer (some (adr altsA (k * 21)))) rfl trivial (x_indexAddr_at (k := k) (off := k * 21) (cells_ro altsR) Try.underlying25 Ty.sz24 rfl rfl lt_ (by rw [flat_length DataSet.enc 21 DataSet.enc_len]; first | omega | (simp; omega) | (simp_all; omega) | (simp_all; done)) rfl) ?_
          refine js_ (Value.pointer (some (adr altsA (k * 21 + 14)))) (x_fieldAddr Ty.fi24_14 rfl (adr_add _ _ _)) ?_
          refine JO_read (vB ((alts.getD k default).Unique)) rfl trivial (x_load_at (cells_ro altsR) rfl Ty.sc4 (flat_at DataSet.enc 21 DataSet.enc_len alts default k 14 lt_ (by decide))) ?_
          refine JO_nil (JX_then ?_)
          refine J_cond ((alts.getD k default).Unique) rfl rfl (fun h201 => ?_) (fun h201 => ?_)
          ·have h201w := h201
           refine J_seq ?_
           refine J_draw [Ent.blk b114 27 (Change.enc c), Ent.blk b112 34 [Value.slice dsA ds.length dsC, Value.pointer none], Ent.row (.slice xsA xs.length xsC) 27 5 xs.length (xs.flatMap Change.enc), Ent.row (.slice ysA ys.length ysC) 27 5 ys.length (ys.flatMap Change.enc)] [] [Ent.blk b114 27 (Change.enc c), Ent.blk b112 34 [Value.slice dsA ds.length dsC, Value.pointer none], Ent.row (.slice xsA xs.length xsC) 27 5 xs.length (xs.flatMap Change.enc), Ent.row (.slice ysA ys.length ysC) 27 5 ys.length (ys.flatMap Change.enc)] 10 Ty.mixed rfl ?_
           refine jt_ 0 (Value.agg #[Value.slice dsA ds.length dsC, Value.pointer none]) rfl (x_loadN 1 [Value.slice dsA ds.length dsC, Value.pointer none] rfl rfl Ty.ag34 Ty.sz34 rfl) ?_
           refine jt_ 1 (Value.slice altsA alts.length altsC) rfl (fun _ _ => rfl) ?_
           refine jt_ 2 (vI ((k : Nat) : Int)) rfl (fun _ _ => rfl) ?_
           refine jt_ 3 (Value.pointer (some (adr altsA (k * 21)))) rfl (x_indexAddr_at (k := k) (off := k * 21) (cells_ro altsR) Try.underlying25 Ty.sz24 rfl rfl lt_ (by rw [flat_length DataSet.enc 21 DataSet.enc_len]; first | omega | (simp; omega) | (simp_all; omega) | (simp_all; done)) rfl) ?_
           refine jt_ 4 (Value.agg ((DataSet.enc (alts.getD k default))).toArray) rfl (x_loadN_at (DataSet.enc (alts.getD k default)) (cells_ro altsR) rfl Ty.ag24 Ty.sz24 (flat_drop DataSet.enc 21 DataSet.enc_len alts default k lt_)) ?_
           refine jt_ 5 (vS ((R26.key (alts.getD k default) c.Record).1)) rfl (fun _ _ => rfl) ?_
           refine jt_ 6 (Value.pointer (some ⟨b114, 2, none⟩)) rfl (fun _ _ => x_fieldAddr Ty.fi27_2 rfl rfl) ?_
           refine jt_ 7 (vS c.Key) rfl (x_load 0 rfl rfl Ty.sc9 rfl) ?_
           refine JA_one 8 (by kernel_rfl) (fun _ h => ⟨h, fun _ => h⟩) ?_
           refine JI_call [] [] [Ent.blk b114 27 (Change.enc c), Ent.blk b112 34 [Value.slice dsA ds.length dsC, Value.pointer none], Ent.row (.slice xsA xs.length xsC) 27 5 xs.length (xs.flatMap Change.enc), Ent.row (.slice ysA ys.length ysC) 27 5 ys.length (ys.flatMap Change.enc)] rfl rfl trivial (fun _ => x_call Ty.ca33 rfl) (fun _ h => h) (fun _ h => by cases h) (fun w hS => f33_ok ds dsA dsC (alts.getD k default) ((R26.key (alts.getD k default) c.Record).1) c.Key w (dsR.on hS (fun _ h => by cases h)) (fun i => (dsN i).on hS (fun _ h => by cases h)) hy_ hy_ hy_ hy_) ?_
           rintro _ _ ⟨rfl, rfl⟩
           refine jt_ 9 (vI (R27.dup (R27.ofD ds (alts.getD k default).Id).Pairs ((R26.key (alts.getD k default) c.Record).1) c.Key)) rfl (fun _ _ => rfl) ?_
           refine JA_done (by kernel_rfl) (fun _ h => ⟨h, fun _ => h⟩) ?_
           refine JX_then (J_seq (J_region ?_))
           refine jr_ (vI (R27.dup (R27.ofD ds (alts.getD k default).Id).Pairs ((R26.key (alts.getD k default) c.Record).1) c.Key)) ?_
           refine js_ (vB (decide (R27.dup (R27.ofD ds (alts.getD k default).Id).Pairs ((R26.key (alts.getD k default) c.Record).1) c.Key ≠ 0))) (x_neq_i rfl rfl) ?_
           refine JO_nil (JX_then ?_)
           refine J_cond (decide (R27.dup (R27.ofD ds (alts.getD k default).Id).Pairs ((R26.key (alts.getD k default) c.Record).1) c.Key ≠ 0)) rfl rfl (fun h202 => ?_) (fun h202 => ?_)
           ·have h202w := h202
            have h202 := of_decide_eq_true h202
            refine J_seq (J_region ?_)
            refine jr_ (vI (R27.dup (R27.ofD ds (alts.getD k default).Id).Pairs ((R26.key (alts.getD k default) c.Record).1) c.Key)) ?_
            refine jr_ (Value.slice none 0 0) ?_
            refine jr_ (vI (R27.dup (R27.ofD ds (alts.getD k default).Id).Pairs ((R26.key (alts.getD k default) c.Record).1) c.Key)) ?_
            refine JO_nil (JX_then (J_ret (JX_then_ret (JX_block_ret (JX_then_ret ?_)))))
            refine JX_round_ret (JX_block_ret (JX_then_ret ?_))
            first
             | have hd : False := by omega
             | have hd := R27.pl_errRA (ds := ds) h118w (by omega) (by omega) h135w (by omega) i2_1 h153w h197w h201w (of_decide_eq_true h202w)
             | have hd := R27.pl_errRB (ds := ds) h118w (by omega) (by omega) i2_1 h153w h197w h201w (of_decide_eq_true h202w)
             | have hd := R27.pl_okRA (ds := ds) h118w (by omega) (by omega) h135w i2_0 (by omega) i2_1
             | have hd := R27.pl_okRB (ds := ds) h118w (by omega) i2_0 (by omega) i2_1
             | have hd := R27.pl_empR (ds := ds) h118w (by omega) i1_0 (by omega) i1_1
             | have hd := R27.pl_getR (ds := ds) h118w (by omega) (by omega) h135w 
             | have hd := R27.pl_bad (ds := ds) h118w 
            refine JX_rets [Value.slice none 0 0, vI (R27.dup (R27.ofD ds (alts.getD k default).Id).Pairs ((R26.key (alts.getD k default) c.Record).1) c.Key)] (Value.tuple #[Value.slice none 0 0, vI (R27.dup (R27.ofD ds (alts.getD k default).Id).Pairs ((R26.key (alts.getD k default) c.Record).1) c.Key)]) Try.results11 (fun w h => ⟨rfl, rfl, trivial⟩) rfl [Ent.row (.slice none ([] : List Change).length 0) 27 5 ([] : List Change).length (([] : List Change).flatMap Change.enc)] (fun _ h => (h.nilrow 27 5).keep [true, false, false, false, false] rfl) ⟨none, 0, ?_, ?_⟩
            ·have e_x0 : (0 : Nat) = ((R27.plan ds base alts c).1.length) := by first | (rw [hd]; done) | (rw [hd]; rfl) | exact hd.elim
             have e_x1 : (R27.dup (R27.ofD ds (alts.getD k default).Id).Pairs ((R26.key (alts.getD k default) c.Record).1) c.Key : Int) = ((R27.plan ds base alts c).2) := by first | (rw [hd]; done) | (rw [hd]; rfl) | exact hd.elim
             have e_all := (congr (congrArg (fun (x0 : Nat) (x1 : Int) => Value.tuple #[Value.slice none x0 0, vI x1]) e_x0) e_x1)
             exact e_all
            ·have e_y0 : (([] : List Change) : List Change) = (R27.plan ds base alts c).1 := by
              first | (rw [hd]; done) | (rw [hd]; rfl) | exact hd.elim
             have e_all := (congrArg (fun (y0 : List Change) => [Ent.row (.slice none y0.length 0) 27 5 y0.length (y0.flatMap Change.enc)]) e_y0)
             exact e_all
           ·have h202w := h202
            have h202 := of_decide_eq_false h202
            refine J_skip (JX_then ?_)
            refine J_draw [Ent.blk b114 27 (Change.enc c), Ent.blk b112 34 [Value.slice dsA ds.length dsC, Value.pointer none], Ent.row (.slice xsA xs.length xsC) 27 5 xs.length (xs.flatMap Change.enc)] [16] [Ent.blk b114 27 (Change.enc c), Ent.blk b112 34 [Value.slice dsA ds.length dsC, Value.pointer none], Ent.row (.slice xsA xs.length xsC) 27 5 xs.length (xs.flatMap Change.enc), Ent.row (.slice ysA ys.length ysC) 27 5 ys.length (ys.flatMap Change.enc)] 18 Ty.mixed rfl ?_
            refine jt_ 0 (Value.slice ysA ys.length ysC) rfl (fun _ _ => rfl) ?_
            refine jt_ 1 (Value.slice altsA alts.length altsC) rfl (fun _ _ => rfl) ?_
            refine jt_ 2 (vI ((k : Nat) : Int)) rfl (fun _ _ => rfl) ?_
            refine jt_ 3 (Value.pointer (some (adr altsA (k * 21)))) rfl (x_indexAddr_at (k := k) (off := k * 21) (cells_ro altsR) Try.underlying25 Ty.sz24 rfl rfl lt_ (by rw [flat_length DataSet.enc 21 DataSet.enc_len]; first | omega | (simp; omega) | (simp_all; omega) | (simp_all; done)) rfl) ?_
            refine jt_ 4 (Value.pointer (some (adr altsA (k * 21)))) rfl (fun _ _ => x_fieldAddr Ty.fi24_0 rfl rfl) ?_
            refine jt_ 5 (vI ((alts.getD k default).Id)) rfl (x_load_at (cells_ro altsR) rfl Ty.sc3 (flat_at DataSet.enc 21 DataSet.enc_len alts default k 0 lt_ (by decide))) ?_
            refine jt_ 6 (vS ((R26.key (alts.getD k default) c.Record).1)) rfl (fun _ _ => rfl) ?_
            refine jt_ 7 (Value.pointer (some ⟨b114, 2, none⟩)) rfl (fun _ _ => x_fieldAddr Ty.fi27_2 rfl rfl) ?_
            refine jt_ 8 (vS c.Key) rfl (x_load 0 rfl rfl Ty.sc9 rfl) ?_
            refine jt_ 9 (vS (((R26.key (alts.getD k default) c.Record).1) ++ c.Key)) rfl (fun _ _ => x_cat_s rfl rfl (by first | omega | (simp only [List.length_append, List.length_cons, List.length_nil]; omega) | (simp; omega) | (simp_all; omega))) ?_
            refine jt_ 10 (vS ((R26.key (alts.getD k default) c.Record).1)) rfl (fun _ _ => rfl) ?_
            refine jt_ 11 (Value.pointer (some ⟨b114, 2, none⟩)) rfl (fun _ _ => x_fieldAddr Ty.fi27_2 rfl rfl) ?_
            refine jt_ 12 (vS c.Key) rfl (x_load 0 rfl rfl Ty.sc9 rfl) ?_
            refine jt_ 13 (vS (((R26.key (alts.getD k default) c.Record).1) ++ c.Key)) rfl (fun _ _ => x_cat_s rfl rfl (by first | omega | (simp only [List.length_append, List.length_cons, List.length_nil]; omega) | (simp; omega) | (simp_all; omega))) ?_
            refine jt_ 14 (Value.agg ([vI 0, vI ((alts.getD k default).Id), vS (((R26.key (alts.getD k default) c.Record).1) ++ c.Key), vS (((R26.key (alts.getD k default) c.Record).1) ++ c.Key), vS []]).toArray) rfl (fun _ _ => x_build (by kernel_rfl)) ?_
            refine JA_one 15 (by kernel_rfl) (fun _ h => ⟨h.keep [true, true, true, false] rfl, fun _ => h⟩) ?_
            refine JI_op rfl rfl trivial (O_buildSlice (cs := [vI 0, vI ((alts.getD k default).Id), vS (((R26.key (alts.getD k default) c.Record).1) ++ c.Key), vS (((R26.key (alts.getD k default) c.Record).1) ++ c.Key), vS []]) Try.underlying31 Ty.sz27 Ty.ze27 (by decide) (by decide) (by kernel_rfl) fun b204 => ?_)
            refine JA_one 16 (by kernel_rfl) (fun _ h => ⟨h.keep [false, true, true, true, false] rfl, fun _ => h.keep [false, true, true, true, true] rfl⟩) ?_
            refine JI_op rfl rfl trivial (O_append_f 4 Change.enc 5 ys [(Change.mk 0 ((alts.getD k default).Id) (((R26.key (alts.getD k default) c.Record).1) ++ c.Key) (((R26.key (alts.getD k default) c.Record).1) ++ c.Key) [])] Try.underlying31 Ty.sz27 Ty.by27 Ty.ze27 rfl (by decide) rfl rfl rfl rfl Change.enc_len Change.enc_one (cells_blk 0 (off := 0) (m := 5) rfl rfl) lt_ lt_ fun A207 c208 => ?_)
            refine jt_ 17 (Value.slice A207 ((ys ++ [(Change.mk 0 ((alts.getD k default).Id) (((R26.key (alts.getD k default) c.Record).1) ++ c.Key) (((R26.key (alts.getD k default) c.Record).1) ++ c.Key) [])]).length) c208) rfl (fun _ _ => rfl) ?_
            refine JA_done (by kernel_rfl) (fun _ h => ⟨h.keep [false, true, true, true, false] rfl, fun hh => Bool.noConfusion (show false = true from hh)⟩) ?_
            refine JX_block (JX_then (J_region ?_))
            refine jr_ (vI ((k : Nat) : Int)) ?_
            refine js_ (vI ((k + 1 : Nat) : Int)) (x_add_n (a := k) (b := 1) rfl rfl (by omega)) ?_
            refine jr_ (vI ((k + 1 : Nat) : Int)) ?_
            refine JO_nil ?_
            refine JX_round ((k + 1, xs, xsA, xsC, ys ++ [(Change.mk 0 ((alts.getD k default).Id) (((R26.key (alts.getD k default) c.Record).1) ++ c.Key) (((R26.key (alts.getD k default) c.Record).1) ++ c.Key) [])], A207, c208) : Nat × (List Change) × (Option Addr) × Nat × (List Change) × (Option Addr) × Nat) ?_ ?_ ⟨rfl, rfl, rfl, rfl, rfl, rfl, rfl, rfl, trivial⟩ (fun _ h => h.keep [false, true, true, true, true] rfl)
            ·show ((k + 1) ≤ alts.length) ∧ ((xs, (ys ++ [(Change.mk 0 ((alts.getD k default).Id) (((R26.key (alts.getD k default) c.Record).1) ++ c.Key) (((R26.key (alts.getD k default) c.Record).1) ++ c.Key) [])]), (0 : Int)) = (R27.stepsA ds c (R27.getR (R27.ofD ds base.Id).Pairs c.Key).1 (decide ((R27.getR (R27.ofD ds base.Id).Pairs c.Key).2 = 0)) (alts.take (k + 1)) ([c], [], 0))) ∧ (xs.length ≤ 1 + (k + 1)) ∧ ((ys ++ [(Change.mk 0 ((alts.getD k default).Id) (((R26.key (alts.getD k default) c.Record).1) ++ c.Key) (((R26.key (alts.getD k default) c.Record).1) ++ c.Key) [])]).length ≤ (k + 1))
             refine ⟨?_, ?_, ?_, ?_⟩
             ·first | rfl | omega | (simp_all; done) | (simp_all; omega)
             ·first
               | exact R27.rp_step (by omega) i2_1 (R27.rp_ff h153w h197w )
               | exact R27.rp_step (by omega) i2_1 (R27.rp_tf h153w h197w )
               | exact R27.rp_step (by omega) i2_1 (R27.rp_ftn h153w h197w h201w )
               | exact R27.rp_step (by omega) i2_1 (R27.rp_ttn h153w h197w h201w )
               | exact R27.rp_step (by omega) i2_1 (R27.rp_ftu h153w h197w h201w (of_decide_eq_false h202w))
               | exact R27.rp_step (by omega) i2_1 (R27.rp_ttu h153w h197w h201w (of_decide_eq_false h202w))
             ·first | omega | (rw [List.length_append]; simp only [List.length_cons, List.length_nil]; omega)
             ·first | omega | (rw [List.length_append]; simp only [List.length_cons, List.length_nil]; omega)
            ·show alts.length - (k + 1) < alts.length - k
             first | omega | (simp; omega) | (simp_all; omega)
          ·have h201w := h201
           refine J_skip (JX_then ?_)
           refine J_draw [Ent.blk b114 27 (Change.enc c), Ent.blk b112 34 [Value.slice dsA ds.length dsC, Value.pointer none], Ent.row (.slice xsA xs.length xsC) 27 5 xs.length (xs.flatMap Change.enc)] [16] [Ent.blk b114 27 (Change.enc c), Ent.blk b112 34 [Value.slice dsA ds.length dsC, Value.pointer none], Ent.row (.slice xsA xs.length xsC) 27 5 xs.length (xs.flatMap Change.enc), Ent.row (.slice ysA ys.length ysC) 27 5 ys.length (ys.flatMap Change.enc)] 18 Ty.mixed rfl ?_
           refine jt_ 0 (Value.slice ysA ys.length ysC) rfl (fun _ _ => rfl) ?_
           refine jt_ 1 (Value.slice altsA alts.length altsC) rfl (fun _ _ => rfl) ?_
           refine jt_ 2 (vI ((k : Nat) : Int)) rfl (fun _ _ => rfl) ?_
           refine jt_ 3 (Value.pointer (some (adr altsA (k * 21)))) rfl (x_indexAddr_at (k := k) (off := k * 21) (cells_ro altsR) Try.underlying25 Ty.sz24 rfl rfl lt_ (by rw [flat_length DataSet.enc 21 DataSet.enc_len]; first | omega | (simp; omega) | (simp_all; omega) | (simp_all; done)) rfl) ?_
           refine jt_ 4 (Value.pointer (some (adr altsA (k * 21)))) rfl (fun _ _ => x_fieldAddr Ty.fi24_0 rfl rfl) ?_
           refine jt_ 5 (vI ((alts.getD k default).Id)) rfl (x_load_at (cells_ro altsR) rfl Ty.sc3 (flat_at DataSet.enc 21 DataSet.enc_len alts default k 0 lt_ (by decide))) ?_
           refine jt_ 6 (vS ((R26.key (alts.getD k default) c.Record).1)) rfl (fun _ _ => rfl) ?_
           refine jt_ 7 (Value.pointer (some ⟨b114, 2, none⟩)) rfl (fun _ _ => x_fieldAddr Ty.fi27_2 rfl rfl) ?_
           refine jt_ 8 (vS c.Key) rfl (x_load 0 rfl rfl Ty.sc9 rfl) ?_
           refine jt_ 9 (vS (((R26.key (alts.getD k default) c.Record).1) ++ c.Key)) rfl (fun _ _ => x_cat_s rfl rfl (by first | omega | (simp only [List.length_append, List.length_cons, List.length_nil]; omega) | (simp; omega) | (simp_all; omega))) ?_
           refine jt_ 10 (vS ((R26.key (alts.getD k default) c.Record).1)) rfl (fun _ _ => rfl) ?_
           refine jt_ 11 (Value.pointer (some ⟨b114, 2, none⟩)) rfl (fun _ _ => x_fieldAddr Ty.fi27_2 rfl rfl) ?_
           refine jt_ 12 (vS c.Key) rfl (x_load 0 rfl rfl Ty.sc9 rfl) ?_
           refine jt_ 13 (vS (((R26.key (alts.getD k default) c.Record).1) ++ c.Key)) rfl (fun _ _ => x_cat_s rfl rfl (by first | omega | (simp only [List.length_append, List.length_cons, List.length_nil]; omega) | (simp; omega) | (simp_all; omega))) ?_
           refine jt_ 14 (Value.agg ([vI 0, vI ((alts.getD k default).Id), vS (((R26.key (alts.getD k default) c.Record).1) ++ c.Key), vS (((R26.key (alts.getD k default) c.Record).1) ++ c.Key), vS []]).toArray) rfl (fun _ _ => x_build (by kernel_rfl)) ?_
           refine JA_one 15 (by kernel_rfl) (fun _ h => ⟨h.keep [true, true, true, false] rfl, fun _ => h⟩) ?_
           refine JI_op rfl rfl trivial (O_buildSlice (cs := [vI 0, vI ((alts.getD k default).Id), vS (((R26.key (alts.getD k default) c.Record).1) ++ c.Key), vS (((R26.key (alts.getD k default) c.Record).1) ++ c.Key), vS []]) Try.underlying31 Ty.sz27 Ty.ze27 (by decide) (by decide) (by kernel_rfl) fun b210 => ?_)
           refine JA_one 16 (by kernel_rfl) (fun _ h => ⟨h.keep [false, true, true, true, false] rfl, fun _ => h.keep [false, true, true, true, true] rfl⟩) ?_
           refine JI_op rfl rfl trivial (O_append_f 4 Change.enc 5 ys [(Change.mk 0 ((alts.getD k default).Id) (((R26.key (alts.getD k default) c.Record).1) ++ c.Key) (((R26.key (alts.getD k default) c.Record).1) ++ c.Key) [])] Try.underlying31 Ty.sz27 Ty.by27 Ty.ze27 rfl (by decide) rfl rfl rfl rfl Change.enc_len Change.enc_one (cells_blk 0 (off := 0) (m := 5) rfl rfl) lt_ lt_ fun A213 c214 => ?_)
           refine jt_ 17 (Value.slice A213 ((ys ++ [(Change.mk 0 ((alts.getD k default).Id) (((R26.key (alts.getD k default) c.Record).1) ++ c.Key) (((R26.key (alts.getD k default) c.Record).1) ++ c.Key) [])]).length) c214) rfl (fun _ _ => rfl) ?_
           refine JA_done (by kernel_rfl) (fun _ h => ⟨h.keep [false, true, true, true, false] rfl, fun hh => Bool.noConfusion (show false = true from hh)⟩) ?_
           refine JX_block (JX_then (J_region ?_))
           refine jr_ (vI ((k : Nat) : Int)) ?_
           refine js_ (vI ((k + 1 : Nat) : Int)) (x_add_n (a := k) (b := 1) rfl rfl (by omega)) ?_
           refine jr_ (vI ((k + 1 : Nat) : Int)) ?_
           refine JO_nil ?_
           refine JX_round ((k + 1, xs, xsA, xsC, ys ++ [(Change.mk 0 ((alts.getD k default).Id) (((R26.key (alts.getD k default) c.Record).1) ++ c.Key) (((R26.key (alts.getD k default) c.Record).1) ++ c.Key) [])], A213, c214) : Nat × (List Change) × (Option Addr) × Nat × (List Change) × (Option Addr) × Nat) ?_ ?_ ⟨rfl, rfl, rfl, rfl, rfl, rfl, rfl, rfl, trivial⟩ (fun _ h => h.keep [false, true, true, true, true] rfl)
           ·show ((k + 1) ≤ alts.length) ∧ ((xs, (ys ++ [(Change.mk 0 ((alts.getD k default).Id) (((R26.key (alts.getD k default) c.Record).1) ++ c.Key) (((R26.key (alts.getD k default) c.Record).1) ++ c.Key) [])]), (0 : Int)) = (R27.stepsA ds c (R27.getR (R27.ofD ds base.Id).Pairs c.Key).1 (decide ((R27.getR (R27.ofD ds base.Id).Pairs c.Key).2 = 0)) (alts.take (k + 1)) ([c], [], 0))) ∧ (xs.length ≤ 1 + (k + 1)) ∧ ((ys ++ [(Change.mk 0 ((alts.getD k default).Id) (((R26.key (alts.getD k default) c.Record).1) ++ c.Key) (((R26.key (alts.getD k default) c.Record).1) ++ c.Key) [])]).length ≤ (k + 1))
            refine ⟨?_, ?_, ?_, ?_⟩
            ·first | rfl | omega | (simp_all; done) | (simp_all; omega)
            ·first
              | exact R27.rp_step (by omega) i2_1 (R27.rp_ff h153w h197w )
              | exact R27.rp_step (by omega) i2_1 (R27.rp_tf h153w h197w )
              | exact R27.rp_step (by omega) i2_1 (R27.rp_ftn h153w h197w h201w )
              | exact R27.rp_step (by omega) i2_1 (R27.rp_ttn h153w h197w h201w )
              | exact R27.rp_step (by omega) i2_1 (R27.rp_ftu h153w h197w h201w (of_decide_eq_false no_such_condition))
              | exact R27.rp_step (by omega) i2_1 (R27.rp_ttu h153w h197w h201w (of_decide_eq_false no_such_condition))
            ·first | omega | (rw [List.length_append]; simp only [List.length_cons, List.length_nil]; omega)
            ·first | omega | (rw [List.length_append]; simp only [List.length_cons, List.length_nil]; omega)
           ·show alts.length - (k + 1) < alts.length - k
            first | omega | (simp; omega) | (simp_all; omega)
         ·have h197w := h197
          simp only [Bool.and_eq_true, Bool.or_eq_true, Bool.and_eq_false_iff, Bool.or_eq_false_iff, Bool.not_eq_true', Bool.not_eq_false', decide_eq_true_eq, decide_eq_false_iff_not] at h197
          refine J_skip (JX_block (JX_then (J_region ?_)))
          refine jr_ (vI ((k : Nat) : Int)) ?_
          refine js_ (vI ((k + 1 : Nat) : Int)) (x_add_n (a := k) (b := 1) rfl rfl (by omega)) ?_
          refine jr_ (vI ((k + 1 : Nat) : Int)) ?_
          refine JO_nil ?_
          refine JX_round ((k + 1, xs, xsA, xsC, ys, ysA, ysC) : Nat × (List Change) × (Option Addr) × Nat × (List Change) × (Option Addr) × Nat) ?_ ?_ ⟨rfl, rfl, rfl, rfl, rfl, rfl, rfl, rfl, trivial⟩ (fun _ h => h)
          ·show ((k + 1) ≤ alts.length) ∧ ((xs, ys, (0 : Int)) = (R27.stepsA ds c (R27.getR (R27.ofD ds base.Id).Pairs c.Key).1 (decide ((R27.getR (R27.ofD ds base.Id).Pairs c.Key).2 = 0)) (alts.take (k + 1)) ([c], [], 0))) ∧ (xs.length ≤ 1 + (k + 1)) ∧ (ys.length ≤ (k + 1))
           refine ⟨?_, ?_, ?_, ?_⟩
           ·first | rfl | omega | (simp_all; done) | (simp_all; omega)
           ·first
             | exact R27.rp_step (by omega) i2_1 (R27.rp_ff h153w h197w )
             | exact R27.rp_step (by omega) i2_1 (R27.rp_tf h153w h197w )
             | exact R27.rp_step (by omega) i2_1 (R27.rp_ftn h153w h197w no_such_condition )
             | exact R27.rp_step (by omega) i2_1 (R27.rp_ttn h153w h197w no_such_condition )
             | exact R27.rp_step (by omega) i2_1 (R27.rp_ftu h153w h197w no_such_condition (of_decide_eq_false no_such_condition))
             | exact R27.rp_step (by omega) i2_1 (R27.rp_ttu h153w h197w no_such_condition (of_decide_eq_false no_such_condition))
           ·first | omega | (rw [List.length_append]; simp only [List.length_cons, List.length_nil]; omega)
           ·first | omega | (rw [List.length_append]; simp only [List.length_cons, List.length_nil]; omega)
          ·show alts.length - (k + 1) < alts.length - k
           first | omega | (simp; omega) | (simp_all; omega)
       ·have h138w := h138
        have h138 := of_decide_eq_false h138
        refine J_exit (JX_then_exit (JX_round_exit (JX_block_hit (JX_then (J_seq ?_)))))
        refine J_region ?_
        refine jr_ (Value.slice xsA xs.length xsC) ?_
        refine jr_ (Value.slice ysA ys.length ysC) ?_
        refine JO_op rfl trivial (O_append_f 2 Change.enc 5 xs ys Try.underlying31 Ty.sz27 Ty.by27 Ty.ze27 rfl (by decide) rfl rfl rfl rfl Change.enc_len Change.enc_one (cells_row 3 rfl) lt_ lt_ fun A215 c216 => ?_)
        refine jr_ (Value.slice A215 ((xs ++ ys).length) c216) ?_
        refine jr_ (vI 0) ?_
        refine JO_nil (JX_then (J_ret ?_))
        first
         | have hd : False := by omega
         | have hd := R27.pl_errRA (ds := ds) h118w (by omega) (by omega) h135w (by omega) i2_1 no_such_condition no_such_condition no_such_condition (of_decide_eq_true no_such_condition)
         | have hd := R27.pl_errRB (ds := ds) h118w (by omega) (by omega) i2_1 no_such_condition no_such_condition no_such_condition (of_decide_eq_true no_such_condition)
         | have hd := R27.pl_okRA (ds := ds) h118w (by omega) (by omega) h135w i2_0 (by omega) i2_1
         | have hd := R27.pl_okRB (ds := ds) h118w (by omega) i2_0 (by omega) i2_1
         | have hd := R27.pl_empR (ds := ds) h118w (by omega) i1_0 (by omega) i1_1
         | have hd := R27.pl_getR (ds := ds) h118w (by omega) (by omega) h135w 
         | have hd := R27.pl_bad (ds := ds) h118w 
        refine JX_rets [Value.slice A215 ((xs ++ ys).length) c216, vI 0] (Value.tuple #[Value.slice A215 ((xs ++ ys).length) c216, vI 0]) Try.results11 (fun w h => ⟨rfl, rfl, trivial⟩) rfl [Ent.row (.slice A215 (xs ++ ys).length c216) 27 5 (xs ++ ys).length ((xs ++ ys).flatMap Change.enc)] (fun _ h => h.keep [false, false, true, false] rfl) ⟨A215, c216, ?_, ?_⟩
        ·have e_x0 : ((xs ++ ys).length : Nat) = ((R27.plan ds base alts c).1.length) := by first | (rw [hd]; done) | (rw [hd]; rfl) | exact hd.elim
         have e_x1 : (0 : Int) = ((R27.plan ds base alts c).2) := by first | (rw [hd]; done) | (rw [hd]; rfl) | exact hd.elim
         have e_all := (congr (congrArg (fun (x0 : Nat) (x1 : Int) => Value.tuple #[Value.slice A215 x0 c216, vI x1]) e_x0) e_x1)
         exact e_all
        ·have e_y0 : (xs ++ ys : List Change) = (R27.plan ds base alts c).1 := by
          first | (rw [hd]; done) | (rw [hd]; rfl) | exact hd.elim
         have e_all := (congrArg (fun (y0 : List Change) => [Ent.row (.slice A215 y0.length c216) 27 5 y0.length (y0.flatMap Change.enc)]) e_y0)
         exact e_all
     ·have h125w := h125
      have h125 := of_decide_eq_false h125
      omega
end Go.Proofs.Ytmbinhhlfbgiaaa
