/- C40p, L40v in one text. -/
import Derived.Test.YtngjdmhpljmkpaaGreatDoorCards
import Derived.Test.YtngjdmhpljmkpaaGreatDoorTie
import Derived.Test.YtngjdmhpljmkpaaGreatDoorConditionValues18
import Derived.Test.YtngjdmhpljmkpaaGreatDoorConditionValues17
import Derived.Test.YtngjdmhpljmkpaaGreatDoorRows
import GoSem.ClaimSeven
import Derived.LaidByTextLater
import Derived.SevenTiedAt
import Derived.LaidSub
import Derived.LaidOnce
set_option linter.unusedVariables false
set_option linter.unusedSimpArgs false
namespace Go.Proofs.YtngjdmhpljmkpaaGreatDoor
open Go.GV
set_option linter.unusedVariables false
set_option linter.unusedSimpArgs false
theorem c40p0_ {p : Prop} (h : p := by simp only [List.length_take, List.length_drop]; omega) : p := h
theorem c40p1_ {p : Prop} (h : p := by first | exact i1_1.neg (by omega) (by assumption) (by assumption) | exact i1_1.and_t (by omega) (by assumption) (by assumption) (by assumption) | exact i1_1.and_f (by omega) (by assumption) (by assumption) (by assumption) | exact i1_1.or_t (by omega) (by assumption) (by assumption) (by assumption) | exact i1_1.or_f (by omega) (by assumption) (by assumption) (by assumption) | exact i1_1.leaf (by omega) (by assumption) (by assumption) (by assumption) (by assumption)) : p := h
theorem c40p2_ {p : Prop} (h : p := by simp only [List.length_set, List.length_append, List.length_take, List.length_cons, List.length_nil]; omega) : p := h
theorem c40p3_ {p : Prop} (h : p := by rw [List.length_map]; first | omega | (simp only [List.length_append, List.length_cons, List.length_nil]; omega) | (simp; omega) | (simp_all; omega) | (simp_all; done)) : p := h
theorem c40p4_ {p : Prop} (h : p := by first | exact R40.eval_none (by assumption) | exact R40.eval_nil (by omega) | exact (i1_1.done (by omega) (by omega) (by assumption)).2) : p := h
theorem c40p6_ {p : Prop} (h : p := by first | exact R40.rf_put (by omega) i1_1 i2_0 i2_1 (by assumption) (by assumption) | exact R40.rf_keep (by omega) i1_1 i2_0 i2_1 (by assumption) (by assumption)) : p := h
theorem c40p7_ {p : Prop} (h : p := by first | omega | (simp only [List.length_append, List.length_take, List.length_drop, List.length_cons, List.length_nil]; omega)) : p := h
set_option maxRecDepth 20000 in
theorem f17_ok (ts : List Test) (tsA : Option Addr) (tsC : Nat) (steps : List Bytes) (stepsA : Option Addr) (stepsC : Nat) (ends : List StepEnd) (endsA : Option Addr) (endsC : Nat) (w : World) (tsR : RO [] w tsA (ts.flatMap Test.enc)) (stepsR : RO [] w stepsA (steps.map vS)) (endsR : RO [] w endsA (ends.flatMap StepEnd.enc)) (q0 : steps.length ≤ 9223372036854775807) (q1 : ts.length ≤ 1000000) (q2 : ends.length ≤ 9223372036854775807) : Calls Tryz.prog 17 #[vL tsA ts.length tsC, vL stepsA steps.length stepsC, vL endsA ends.length endsC] w (Gives [] w fun v L => v = vB (R40.evalV ts steps ends) ∧ L = []) := by
 refine calls_J [] 101 Tryz.func17 rfl Tryz.ntmps17 [(0, _), (1, _), (2, _)] rfl rfl (Give.nil w) ?_
 refine q_ (g_ (s_ av_ (z_ (n_ (q_ (q_ (g_ (s_ mv_ (s_ mv_ (c0 (cl_ Ty.ca15) (fun w hS => f15_ok ts tsA tsC _ _ _ w (rno tsR hS) (rno stepsR hS) hy_ hy_) (s_ (x_not rfl) (z_ (n_ ?_)))))))))))))
 refine if_ (fun h1 => ?_) (fun h1 => ?_)
 ·have h1w := h1
  have h1 : ((R40.onV ts steps).isSome) = false := bnot_true h1
  refine q_ (g_ (s_ av_ (z_ (n_ (rt_ (nr_ ?_))))))
  exact p1 Tryz.results17 rfl ⟨(eB c40p4_), rfl⟩
 ·have h1w := h1
  have h1 : ((R40.onV ts steps).isSome) = true := bnot_false h1
  refine sk_ (n_ (q_ (q_ (g_ (s_ mv_ (s_ (lnS Tryz.underlying23) (s_ (x_eql_i rfl rfl) (z_ (n_ ?_)))))))))
  refine ifd (fun h2w h2 => ?_) (fun h2w h2 => ?_)
  ·refine q_ (g_ (js_ (vG [vI 3, vS [], vI 0, vI 0]) (x_build (by kernel_rfl)) (s_ mv_ (s_ mv_ (c0 (cl_ Ty.ca39) (fun w hS => f39_ok (Test.mk 3 [] 0 0) _ _ _ ends _ _ w (rno stepsR hS) (rno endsR hS) hy_ hy_ hy_) (s_ (x_not rfl) (s_ av_ (z_ (n_ (rt_ (nr_ ?_)))))))))))
   exact p1 Tryz.results17 rfl ⟨(eB c40p4_), rfl⟩
  ·refine sk_ (n_ (q_ (g_ (o_ (O_buildSlice0 Tryz.underlying71 Ty.sz4 fun b3 => ?_)))))
   refine s_ av_ (z_ (n_ (q_ (q_ (g_ (s_ av_ (z_ (n_ (k_ ?_)))))))))
   refine J_loop (X := Nat × (List Bool) × (Option Addr) × Nat) (fun (⟨k, bs, bsA, bsC⟩ : Nat × (List Bool) × (Option Addr) × Nat) => (k ≤ ts.length) ∧ (R40.EvJ steps (R40.cutE steps ends) ts k bs) ∧ (bs.length ≤ k)) (fun (⟨k, bs, bsA, bsC⟩ : Nat × (List Bool) × (Option Addr) × Nat) => [(0, vL tsA ts.length tsC), (1, vL stepsA steps.length stepsC), (2, vL endsA ends.length endsC), (6, vB false), (7, vL bsA bs.length bsC), (8, vI ((k : Nat) : Int))]) (fun (⟨k, bs, bsA, bsC⟩ : Nat × (List Bool) × (Option Addr) × Nat) => [Ent.row (.slice bsA bs.length bsC) 4 1 bs.length (bs.map vB)]) (fun (⟨k, bs, bsA, bsC⟩ : Nat × (List Bool) × (Option Addr) × Nat) => ts.length - k) ((0, ([] : List Bool), (some ⟨b3, 0, none⟩), 0) : Nat × (List Bool) × (Option Addr) × Nat) ?_ ⟨rfl, rfl, rfl, rfl, rfl, rfl, trivial⟩ (fun _ h => (St.torow (cs := []) h 1 0 rfl (by decide)).keep [true] rfl) ?_
   ·try dsimp only
    refine ⟨?_, ?_, ?_⟩
    ·first | rfl | omega | (simp_all; done) | (simp_all; omega)
    ·exact R40.EvJ.start
    ·exact Nat.le_refl _
   rintro ⟨k, bs, bsA, bsC⟩ hI1
   obtain ⟨i1_0, i1_1, i1_2⟩ := hI1
   try dsimp only at i1_0
   try dsimp only at i1_1
   try dsimp only at i1_2
   try dsimp only
   refine q_ (q_ (g_ (s_ mv_ (s_ mv_ (s_ (lnS Tryz.underlying23) (s_ (x_lss_i rfl rfl) (z_ (n_ ?_))))))))
   refine ifd (fun h4w h4 => ?_) (fun h4w h4 => ?_)
   ·have hf3 := i1_1.few (by omega) (by assumption)
    refine sk_ (n_ (q_ (k_ (q_ (g_ (s_ mv_ (s_ (lnS Tryz.underlying71) (s_ av_ (z_ (n_ (q_ (g_ (s_ mv_ (s_ mv_ (r_ (ixF Test.enc_len (cells_ro tsR) Tryz.underlying23 Ty.sz40) (s_ (fB0 Ty.fi40_0) (r_ (ldF0 Test.enc_len (cells_ro tsR) Ty.sc3) ?_)))))))))))))))))
    refine z_ (n_ (k_ (q_ (g_ (s_ (x_eql_i rfl rfl) (s_ av_ (z_ (n_ ?_))))))))
    refine ifd (fun h5w h5 => ?_) (fun h5w h5 => ?_)
    ·have hf1 := hf3.1 (by assumption)
     refine g_ (s_ mv_ (s_ mv_ (s_ (x_sub_i (a := ((bs.length : Nat) : Int)) (b := 1) rfl rfl (by omega) (by omega)) (s_ mv_ (s_ mv_ (s_ (x_sub_i (a := ((bs.length : Nat) : Int)) (b := 1) rfl rfl (by omega) (by omega)) (r_ (ixM (k := (bs.length - 1)) (hy := (ix_nat rfl (by omega))) (cells_row 0 rfl) Tryz.underlying71 Ty.sz4) (r_ (ldM vB false (cells_row 0 rfl) Ty.sc4) (s_ (x_not rfl) ?_)))))))))
     refine r_ (ixM (k := (bs.length - 1)) (hy := (ix_nat rfl (by omega))) (cells_row 0 rfl) Tryz.underlying71 Ty.sz4) (o_ (O_store_row_1 (a := !((bs.getD (bs.length - 1) false))) (xs := bs) (k := (bs.length - 1)) 0 vB [Ent.row (.slice bsA (bs.set (bs.length - 1) (!((bs.getD (bs.length - 1) false)))).length bsC) 4 1 (bs.set (bs.length - 1) (!((bs.getD (bs.length - 1) false)))).length ((bs.set (bs.length - 1) (!((bs.getD (bs.length - 1) false)))).map vB)] rfl rfl rfl Ty.sz4 rfl (fun _ => rfl) lt_ rfl ?_))
     refine JO_weaken (E' := [(0, vL tsA ts.length tsC), (1, vL stepsA steps.length stepsC), (2, vL endsA ends.length endsC), (6, vB false), (7, vL bsA ((bs.set (bs.length - 1) (!((bs.getD (bs.length - 1) false)))).length) bsC), (8, vI ((k : Nat) : Int)), (23, vI ((k : Nat) : Int)), (24, vL tsA ts.length tsC), (25, vI ((ts.length : Nat) : Int)), (26, vB (decide (((k : Nat) : Int) < ((ts.length : Nat) : Int)))), (29, vL bsA ((bs.set (bs.length - 1) (!((bs.getD (bs.length - 1) false)))).length) bsC), (30, vI ((bs.length : Nat) : Int)), (9, vI ((bs.length : Nat) : Int)), (31, vL tsA ts.length tsC), (32, vI ((k : Nat) : Int)), (33, pA tsA (k * 4)), (34, pA tsA (k * 4)), (35, vI ((ts.getD k default).Kind)), (47, vB (decide ((ts.getD k default).Kind = 4))), (46, vB (decide ((ts.getD k default).Kind = 4))), (48, vL bsA ((bs.set (bs.length - 1) (!((bs.getD (bs.length - 1) false)))).length) bsC), (49, vI ((bs.length : Nat) : Int)), (50, vI (((bs.length : Nat) : Int) - 1)), (51, vL bsA ((bs.set (bs.length - 1) (!((bs.getD (bs.length - 1) false)))).length) bsC), (52, vI ((bs.length : Nat) : Int)), (53, vI (((bs.length : Nat) : Int) - 1)), (54, pA bsA (bs.length - 1)), (55, vB (bs.getD (bs.length - 1) false)), (56, vB (!((bs.getD (bs.length - 1) false)))), (57, pA bsA (bs.length - 1))]) (L' := [Ent.row (.slice bsA (bs.set (bs.length - 1) (!((bs.getD (bs.length - 1) false)))).length bsC) 4 1 (bs.set (bs.length - 1) (!((bs.getD (bs.length - 1) false)))).length ((bs.set (bs.length - 1) (!((bs.getD (bs.length - 1) false)))).map vB)]) ⟨rfl, rfl, rfl, rfl, (congrArg (fun n : Nat => some (Value.slice bsA n bsC)) (set_len bs (bs.length - 1) (!((bs.getD (bs.length - 1) false)))).symm), rfl, rfl, rfl, rfl, rfl, (congrArg (fun n : Nat => some (Value.slice bsA n bsC)) (set_len bs (bs.length - 1) (!((bs.getD (bs.length - 1) false)))).symm), rfl, rfl, rfl, rfl, rfl, rfl, rfl, rfl, rfl, (congrArg (fun n : Nat => some (Value.slice bsA n bsC)) (set_len bs (bs.length - 1) (!((bs.getD (bs.length - 1) false)))).symm), rfl, rfl, (congrArg (fun n : Nat => some (Value.slice bsA n bsC)) (set_len bs (bs.length - 1) (!((bs.getD (bs.length - 1) false)))).symm), rfl, rfl, rfl, rfl, rfl, rfl, trivial⟩ (fun _ h => h) ?_
     refine z_ (kx_ (kx_ (n_ (g_ (s_ mv_ (s_ (x_add_n (a := k) (b := 1) rfl rfl (by omega)) (s_ av_ (z_ ?_))))))))
     refine JX_round ((k + 1, (bs.set (bs.length - 1) (!((bs.getD (bs.length - 1) false)))), bsA, bsC) : Nat × (List Bool) × (Option Addr) × Nat) ?_ ?_ ⟨rfl, rfl, rfl, rfl, rfl, rfl, trivial⟩ (fun _ h => h)
     ·try dsimp only
      refine ⟨?_, ?_, ?_⟩
      ·first | rfl | omega | (simp_all; done) | (simp_all; omega)
      ·exact c40p1_
      ·exact c40p2_
     ·try dsimp only
      first | omega | (simp; omega) | (simp_all; omega)
    ·refine q_ (g_ (s_ (x_eql_i rfl rfl) (s_ av_ (z_ (xk_ [0, 1, 2, 6, 7, 8, 9, 35, 58] ?_)))))
     refine n_ ?_
     refine ifd (fun h6w h6 => ?_) (fun h6w h6 => ?_)
     ·have hf1 := hf3.2.1 (.inl (by assumption))
      refine drU [] [17] 19 Ty.mixed ?_
      refine jp_ 0 rfl mv_ (jp_ 1 rfl mv_ (jp_ 2 rfl (x_sub_i (a := ((bs.length : Nat) : Int)) (b := 2) rfl rfl (by omega) (by omega)) ?_))
      refine JA_early 3 (vL bsA (bs.length - 2) bsC) rfl (by kernel_rfl) (by kernel_rfl) (by kernel_rfl) rfl (by kernel_rfl) (fun _ _ _ h => h) rfl trivial (x_head_row 0 rfl rfl Tryz.underlying71 Ty.sz4 (congrArg some (ix_nat rfl (by omega))) lt_) ?_
      refine jp_ 4 rfl mv_ (jp_ 5 rfl mv_ (jp_ 6 rfl (x_sub_i (a := ((bs.length : Nat) : Int)) (b := 2) rfl rfl (by omega) (by omega)) ?_))
      refine JA_earlyT 7 (pA bsA (bs.length - 2)) rfl (by kernel_rfl) (by kernel_rfl) (by kernel_rfl) rfl (by kernel_rfl) (fun _ _ _ h => h) rfl trivial (x_indexAddr_at (k := (bs.length - 2)) (off := (bs.length - 2)) (cells_row 0 rfl) Tryz.underlying71 Ty.sz4 rfl (ix_nat rfl (by omega)) lt_ c40p3_ (Nat.mul_one _)) ?_
      refine JA_earlyT 8 (vB (bs.getD (bs.length - 2) false)) rfl (by kernel_rfl) (by kernel_rfl) (by kernel_rfl) rfl (by kernel_rfl) (fun _ _ _ h => h) rfl trivial (x_load_at (cells_row 0 rfl) rfl Ty.sc4 (map_at vB bs false lt_)) ?_
      refine jp_ 9 rfl mv_ ?_
      refine jb_ 69 (fun h7 => ?_) (fun h7 => ?_)
      ·refine jp_ 10 rfl mv_ (jp_ 11 rfl mv_ (jp_ 12 rfl (x_sub_i (a := ((bs.length : Nat) : Int)) (b := 1) rfl rfl (by omega) (by omega)) ?_ (hw := ⟨_, rfl, rfl⟩)) (hw := ⟨_, rfl, rfl⟩)) (hw := ⟨_, rfl, rfl⟩)
       refine JA_earlyT 13 (pA bsA (bs.length - 1)) rfl (by kernel_rfl) (by kernel_rfl) (by kernel_rfl) rfl (by kernel_rfl) (fun _ _ _ h => h) rfl ⟨_, rfl, rfl⟩ (x_indexAddr_at (k := (bs.length - 1)) (off := (bs.length - 1)) (cells_row 0 rfl) Tryz.underlying71 Ty.sz4 rfl (ix_nat rfl (by omega)) lt_ c40p3_ (Nat.mul_one _)) ?_
       refine JA_earlyT 14 (vB (bs.getD (bs.length - 1) false)) rfl (by kernel_rfl) (by kernel_rfl) (by kernel_rfl) rfl (by kernel_rfl) (fun _ _ _ h => h) rfl ⟨_, rfl, rfl⟩ (x_load_at (cells_row 0 rfl) rfl Ty.sc4 (map_at vB bs false lt_)) ?_
       refine jt_ 15 (vB (bs.getD (bs.length - 1) false)) rfl (fun _ _ => rfl) ?_
       refine j1_ 16 (jio_ rfl (O_buildSlice (cs := [vB (bs.getD (bs.length - 1) false)]) Tryz.underlying71 Ty.sz4 Ty.ze4 (by decide) (by decide) (by kernel_rfl) fun b9 => ?_)) (fun _ h => ⟨h.keep [false] rfl, fun _ => h⟩)
       refine j1_ 17 (jio_ rfl (oL_ (L' := [Ent.blk b9 4 [vB (bs.getD (bs.length - 1) false)], Ent.row (.slice bsA (bs.take (bs.length - 2)).length bsC) 4 1 (bs.take (bs.length - 2)).length ((bs.take (bs.length - 2)).map vB)]) (fun _ h => truncL h 1 rfl rfl lt_ (by rw [Nat.mul_one, List.map_take]) (take_len lt_)) (O_append_m 1 vB (bs.take (bs.length - 2)) [(bs.getD (bs.length - 1) false)] Tryz.underlying71 Ty.sz4 Ty.by4 Ty.ze4 rfl (congrArg (fun n : Nat => Value.slice bsA n bsC) (take_len lt_)) rfl rfl rfl (fun _ => rfl) (cells_blk 0 (off := 0) (m := 1) rfl rfl) lt_ lt_ fun A12 c13 => ?_))) (fun _ h => ⟨h.keep [false, false] rfl, fun _ => h.keep [false, true] rfl⟩)
       refine jp_ 18 rfl av_ ?_
       refine JA_done (by kernel_rfl) (gl_ rfl (fun _ h => h.keep [false, false] rfl)) ?_
       refine kx_ (kx_ (n_ (g_ (s_ mv_ (s_ (x_add_n (a := k) (b := 1) rfl rfl (by omega)) (s_ av_ (z_ ?_)))))))
       refine JX_round ((k + 1, (bs.take (bs.length - 2)) ++ [(bs.getD (bs.length - 1) false)], A12, c13) : Nat × (List Bool) × (Option Addr) × Nat) ?_ ?_ ⟨rfl, rfl, rfl, rfl, rfl, rfl, trivial⟩ (fun _ h => h.keep [false, true] rfl)
       ·try dsimp only
        refine ⟨?_, ?_, ?_⟩
        ·first | rfl | omega | (simp_all; done) | (simp_all; omega)
        ·exact c40p1_
        ·exact c40p2_
       ·try dsimp only
        first | omega | (simp; omega) | (simp_all; omega)
      ·refine js2_ 10 rfl (js2_ 11 rfl (js2_ 12 rfl (js2_ 13 rfl (js2_ 14 rfl ?_))))
       refine jt_ 15 (vB false) rfl (fun _ _ => rfl) ?_
       refine j1_ 16 (jio_ rfl (O_buildSlice (cs := [vB false]) Tryz.underlying71 Ty.sz4 Ty.ze4 (by decide) (by decide) (by kernel_rfl) fun b15 => ?_)) (fun _ h => ⟨h.keep [false] rfl, fun _ => h⟩)
       refine j1_ 17 (jio_ rfl (oL_ (L' := [Ent.blk b15 4 [vB false], Ent.row (.slice bsA (bs.take (bs.length - 2)).length bsC) 4 1 (bs.take (bs.length - 2)).length ((bs.take (bs.length - 2)).map vB)]) (fun _ h => truncL h 1 rfl rfl lt_ (by rw [Nat.mul_one, List.map_take]) (take_len lt_)) (O_append_m 1 vB (bs.take (bs.length - 2)) [false] Tryz.underlying71 Ty.sz4 Ty.by4 Ty.ze4 rfl (congrArg (fun n : Nat => Value.slice bsA n bsC) (take_len lt_)) rfl rfl rfl (fun _ => rfl) (cells_blk 0 (off := 0) (m := 1) rfl rfl) lt_ lt_ fun A18 c19 => ?_))) (fun _ h => ⟨h.keep [false, false] rfl, fun _ => h.keep [false, true] rfl⟩)
       refine jp_ 18 rfl av_ ?_
       refine JA_done (by kernel_rfl) (gl_ rfl (fun _ h => h.keep [false, false] rfl)) ?_
       refine kx_ (kx_ (n_ (g_ (s_ mv_ (s_ (x_add_n (a := k) (b := 1) rfl rfl (by omega)) (s_ av_ (z_ ?_)))))))
       refine JX_round ((k + 1, (bs.take (bs.length - 2)) ++ [false], A18, c19) : Nat × (List Bool) × (Option Addr) × Nat) ?_ ?_ ⟨rfl, rfl, rfl, rfl, rfl, rfl, trivial⟩ (fun _ h => h.keep [false, true] rfl)
       ·try dsimp only
        refine ⟨?_, ?_, ?_⟩
        ·first | rfl | omega | (simp_all; done) | (simp_all; omega)
        ·exact c40p1_
        ·exact c40p2_
       ·try dsimp only
        first | omega | (simp; omega) | (simp_all; omega)
     ·refine q_ (g_ (s_ (x_eql_i rfl rfl) (s_ av_ (z_ (n_ ?_)))))
      refine ifd (fun h20w h20 => ?_) (fun h20w h20 => ?_)
      ·have hf1 := hf3.2.1 (.inr (by assumption))
       refine drU [] [17] 19 Ty.mixed ?_
       refine jp_ 0 rfl mv_ (jp_ 1 rfl mv_ (jp_ 2 rfl (x_sub_i (a := ((bs.length : Nat) : Int)) (b := 2) rfl rfl (by omega) (by omega)) ?_))
       refine JA_early 3 (vL bsA (bs.length - 2) bsC) rfl (by kernel_rfl) (by kernel_rfl) (by kernel_rfl) rfl (by kernel_rfl) (fun _ _ _ h => h) rfl trivial (x_head_row 0 rfl rfl Tryz.underlying71 Ty.sz4 (congrArg some (ix_nat rfl (by omega))) lt_) ?_
       refine jp_ 4 rfl mv_ (jp_ 5 rfl mv_ (jp_ 6 rfl (x_sub_i (a := ((bs.length : Nat) : Int)) (b := 2) rfl rfl (by omega) (by omega)) ?_))
       refine JA_earlyT 7 (pA bsA (bs.length - 2)) rfl (by kernel_rfl) (by kernel_rfl) (by kernel_rfl) rfl (by kernel_rfl) (fun _ _ _ h => h) rfl trivial (x_indexAddr_at (k := (bs.length - 2)) (off := (bs.length - 2)) (cells_row 0 rfl) Tryz.underlying71 Ty.sz4 rfl (ix_nat rfl (by omega)) lt_ c40p3_ (Nat.mul_one _)) ?_
       refine JA_earlyT 8 (vB (bs.getD (bs.length - 2) false)) rfl (by kernel_rfl) (by kernel_rfl) (by kernel_rfl) rfl (by kernel_rfl) (fun _ _ _ h => h) rfl trivial (x_load_at (cells_row 0 rfl) rfl Ty.sc4 (map_at vB bs false lt_)) ?_
       refine jp_ 9 rfl mv_ ?_
       refine jb_ 89 (fun h21 => ?_) (fun h21 => ?_)
       ·refine js2_ 10 rfl (js2_ 11 rfl (js2_ 12 rfl (js2_ 13 rfl (js2_ 14 rfl ?_))))
        refine jt_ 15 (vB true) rfl (fun _ _ => rfl) ?_
        refine j1_ 16 (jio_ rfl (O_buildSlice (cs := [vB true]) Tryz.underlying71 Ty.sz4 Ty.ze4 (by decide) (by decide) (by kernel_rfl) fun b23 => ?_)) (fun _ h => ⟨h.keep [false] rfl, fun _ => h⟩)
        refine j1_ 17 (jio_ rfl (oL_ (L' := [Ent.blk b23 4 [vB true], Ent.row (.slice bsA (bs.take (bs.length - 2)).length bsC) 4 1 (bs.take (bs.length - 2)).length ((bs.take (bs.length - 2)).map vB)]) (fun _ h => truncL h 1 rfl rfl lt_ (by rw [Nat.mul_one, List.map_take]) (take_len lt_)) (O_append_m 1 vB (bs.take (bs.length - 2)) [true] Tryz.underlying71 Ty.sz4 Ty.by4 Ty.ze4 rfl (congrArg (fun n : Nat => Value.slice bsA n bsC) (take_len lt_)) rfl rfl rfl (fun _ => rfl) (cells_blk 0 (off := 0) (m := 1) rfl rfl) lt_ lt_ fun A26 c27 => ?_))) (fun _ h => ⟨h.keep [false, false] rfl, fun _ => h.keep [false, true] rfl⟩)
        refine jp_ 18 rfl av_ ?_
        refine JA_done (by kernel_rfl) (gl_ rfl (fun _ h => h.keep [false, false] rfl)) ?_
        refine kx_ (kx_ (n_ (g_ (s_ mv_ (s_ (x_add_n (a := k) (b := 1) rfl rfl (by omega)) (s_ av_ (z_ ?_)))))))
        refine JX_round ((k + 1, (bs.take (bs.length - 2)) ++ [true], A26, c27) : Nat × (List Bool) × (Option Addr) × Nat) ?_ ?_ ⟨rfl, rfl, rfl, rfl, rfl, rfl, trivial⟩ (fun _ h => h.keep [false, true] rfl)
        ·try dsimp only
         refine ⟨?_, ?_, ?_⟩
         ·first | rfl | omega | (simp_all; done) | (simp_all; omega)
         ·exact c40p1_
         ·exact c40p2_
        ·try dsimp only
         first | omega | (simp; omega) | (simp_all; omega)
       ·refine jp_ 10 rfl mv_ (jp_ 11 rfl mv_ (jp_ 12 rfl (x_sub_i (a := ((bs.length : Nat) : Int)) (b := 1) rfl rfl (by omega) (by omega)) ?_ (hw := ⟨_, rfl, rfl⟩)) (hw := ⟨_, rfl, rfl⟩)) (hw := ⟨_, rfl, rfl⟩)
        refine JA_earlyT 13 (pA bsA (bs.length - 1)) rfl (by kernel_rfl) (by kernel_rfl) (by kernel_rfl) rfl (by kernel_rfl) (fun _ _ _ h => h) rfl ⟨_, rfl, rfl⟩ (x_indexAddr_at (k := (bs.length - 1)) (off := (bs.length - 1)) (cells_row 0 rfl) Tryz.underlying71 Ty.sz4 rfl (ix_nat rfl (by omega)) lt_ c40p3_ (Nat.mul_one _)) ?_
        refine JA_earlyT 14 (vB (bs.getD (bs.length - 1) false)) rfl (by kernel_rfl) (by kernel_rfl) (by kernel_rfl) rfl (by kernel_rfl) (fun _ _ _ h => h) rfl ⟨_, rfl, rfl⟩ (x_load_at (cells_row 0 rfl) rfl Ty.sc4 (map_at vB bs false lt_)) ?_
        refine jt_ 15 (vB (bs.getD (bs.length - 1) false)) rfl (fun _ _ => rfl) ?_
        refine j1_ 16 (jio_ rfl (O_buildSlice (cs := [vB (bs.getD (bs.length - 1) false)]) Tryz.underlying71 Ty.sz4 Ty.ze4 (by decide) (by decide) (by kernel_rfl) fun b29 => ?_)) (fun _ h => ⟨h.keep [false] rfl, fun _ => h⟩)
        refine j1_ 17 (jio_ rfl (oL_ (L' := [Ent.blk b29 4 [vB (bs.getD (bs.length - 1) false)], Ent.row (.slice bsA (bs.take (bs.length - 2)).length bsC) 4 1 (bs.take (bs.length - 2)).length ((bs.take (bs.length - 2)).map vB)]) (fun _ h => truncL h 1 rfl rfl lt_ (by rw [Nat.mul_one, List.map_take]) (take_len lt_)) (O_append_m 1 vB (bs.take (bs.length - 2)) [(bs.getD (bs.length - 1) false)] Tryz.underlying71 Ty.sz4 Ty.by4 Ty.ze4 rfl (congrArg (fun n : Nat => Value.slice bsA n bsC) (take_len lt_)) rfl rfl rfl (fun _ => rfl) (cells_blk 0 (off := 0) (m := 1) rfl rfl) lt_ lt_ fun A32 c33 => ?_))) (fun _ h => ⟨h.keep [false, false] rfl, fun _ => h.keep [false, true] rfl⟩)
        refine jp_ 18 rfl av_ ?_
        refine JA_done (by kernel_rfl) (gl_ rfl (fun _ h => h.keep [false, false] rfl)) ?_
        refine kx_ (kx_ (n_ (g_ (s_ mv_ (s_ (x_add_n (a := k) (b := 1) rfl rfl (by omega)) (s_ av_ (z_ ?_)))))))
        refine JX_round ((k + 1, (bs.take (bs.length - 2)) ++ [(bs.getD (bs.length - 1) false)], A32, c33) : Nat × (List Bool) × (Option Addr) × Nat) ?_ ?_ ⟨rfl, rfl, rfl, rfl, rfl, rfl, trivial⟩ (fun _ h => h.keep [false, true] rfl)
        ·try dsimp only
         refine ⟨?_, ?_, ?_⟩
         ·first | rfl | omega | (simp_all; done) | (simp_all; omega)
         ·exact c40p1_
         ·exact c40p2_
        ·try dsimp only
         first | omega | (simp; omega) | (simp_all; omega)
      ·have hf1 := R40.leaf_ix (hf3.2.2 (by assumption) (by assumption) (by assumption))
       refine g_ (s_ mv_ (s_ mv_ (s_ mv_ (r_ (ixF Test.enc_len (cells_ro tsR) Tryz.underlying23 Ty.sz40) (r_ (ldFN Test.enc_len (cells_ro tsR) Ty.ag40 Ty.sz40) (s_ mv_ (s_ mv_ (c0 (cl_ Ty.ca39) (fun w hS => f39_ok _ _ _ _ ends _ _ w (rno stepsR hS) (rno endsR hS) hy_ hy_ hy_) (o_ (O_buildSlice (cs := [vB (R40.leafV steps (R40.cutE steps ends) (ts.getD k default) 0)]) Tryz.underlying71 Ty.sz4 Ty.ze4 (by decide) (by decide) (by kernel_rfl) fun b34 => ?_))))))))))
       refine o_ (O_append_m 1 vB bs [R40.leafV steps (R40.cutE steps ends) (ts.getD k default) 0] Tryz.underlying71 Ty.sz4 Ty.by4 Ty.ze4 rfl rfl rfl rfl rfl (fun _ => rfl) (cells_blk 0 (off := 0) (m := 1) rfl rfl) lt_ lt_ fun A35 c36 => ?_)
       refine s_ av_ (z_ (kx_ (kx_ (n_ (g_ (s_ mv_ (s_ (x_add_n (a := k) (b := 1) rfl rfl (by omega)) (s_ av_ (z_ ?_)))))))))
       refine JX_round ((k + 1, bs ++ [R40.leafV steps (R40.cutE steps ends) (ts.getD k default) 0], A35, c36) : Nat × (List Bool) × (Option Addr) × Nat) ?_ ?_ ⟨rfl, rfl, rfl, rfl, rfl, rfl, trivial⟩ (fun _ h => h.keep [false, true] rfl)
       ·try dsimp only
        refine ⟨?_, ?_, ?_⟩
        ·first | rfl | omega | (simp_all; done) | (simp_all; omega)
        ·exact c40p1_
        ·exact c40p2_
       ·try dsimp only
        first | omega | (simp; omega) | (simp_all; omega)
   ·have hf1 := i1_1.done (by omega) (by omega) (by assumption)
    refine J_exit (ne_ (re_ (kh_ (n_ (q_ ?_)))))
    refine g_ (s_ mv_ (r_ (ixM (k := 0) (cells_row 0 rfl) Tryz.underlying71 Ty.sz4) (r_ (ldM vB false (cells_row 0 rfl) Ty.sc4) (s_ av_ (z_ (n_ (rt_ ?_)))))))
    exact p1 Tryz.results17 rfl ⟨(eB c40p4_), rfl⟩
set_option maxRecDepth 20000 in
theorem f19_ok (ts : List Test) (tsA : Option Addr) (tsC : Nat) (w : World) (tsR : RO [] w tsA (ts.flatMap Test.enc)) (q0 : ts.length ≤ 1000000) : Calls Tryz.prog 19 #[vL tsA ts.length tsC] w (Gives [] w fun v L => ∃ A2 : Option Addr, ∃ c2 : Nat, v = vL A2 ((R40.refersV ts).length) c2 ∧ L = [Ent.row (.slice A2 (R40.refersV ts).length c2) 9 1 (R40.refersV ts).length ((R40.refersV ts).map vS)]) := by
 refine calls_J [] 62 Tryz.func19 rfl Tryz.ntmps19 [(0, _)] rfl rfl (Give.nil w) ?_
 refine q_ (g_ (s_ av_ (z_ (n_ (q_ (g_ (o_ (O_buildSlice0 Tryz.underlying22 Ty.sz9 fun b1 => ?_))))))))
 refine s_ av_ (z_ (n_ (q_ (q_ (g_ (s_ av_ (z_ (n_ (k_ ?_)))))))))
 refine J_loop (X := Nat × (List Bytes) × (Option Addr) × Nat) (fun (⟨k, out, outA, outC⟩ : Nat × (List Bytes) × (Option Addr) × Nat) => (k ≤ ts.length) ∧ (out = R40.insV ts k) ∧ (out.length ≤ k)) (fun (⟨k, out, outA, outC⟩ : Nat × (List Bytes) × (Option Addr) × Nat) => [(0, vL tsA ts.length tsC), (2, vL none 0 0), (3, vL outA out.length outC), (4, vI ((k : Nat) : Int))]) (fun (⟨k, out, outA, outC⟩ : Nat × (List Bytes) × (Option Addr) × Nat) => [Ent.row (.slice outA out.length outC) 9 1 out.length (out.map vS)]) (fun (⟨k, out, outA, outC⟩ : Nat × (List Bytes) × (Option Addr) × Nat) => ts.length - k) ((0, ([] : List Bytes), (some ⟨b1, 0, none⟩), 0) : Nat × (List Bytes) × (Option Addr) × Nat) ?_ ⟨rfl, rfl, rfl, rfl, trivial⟩ (fun _ h => (St.torow (cs := []) h 1 0 rfl (by decide)).keep [true] rfl) ?_
 ·try dsimp only
  refine ⟨?_, ?_, ?_⟩
  ·first | rfl | omega | (simp_all; done) | (simp_all; omega)
  ·rfl
  ·exact Nat.le_refl _
 rintro ⟨k, out, outA, outC⟩ hI1
 obtain ⟨i1_0, i1_1, i1_2⟩ := hI1
 try dsimp only at i1_0
 try dsimp only at i1_1
 try dsimp only at i1_2
 try dsimp only
 refine q_ (q_ (g_ (s_ mv_ (s_ mv_ (s_ (lnS Tryz.underlying23) (s_ (x_lss_i rfl rfl) (z_ (n_ ?_))))))))
 refine ifd (fun h2w h2 => ?_) (fun h2w h2 => ?_)
 ·refine sk_ (n_ (q_ (k_ (q_ (g_ (s_ mv_ (s_ mv_ (r_ (ixF Test.enc_len (cells_ro tsR) Tryz.underlying23 Ty.sz40) (s_ (fB Ty.fi40_1) (r_ (ldF 1 Test.enc_len (cells_ro tsR) Ty.sc9) (s_ av_ (z_ (n_ (q_ (g_ (s_ av_ (z_ (n_ (q_ (k_ ?_))))))))))))))))))))
  refine J_loop (X := Nat) (fun (j : Nat) => (j ≤ out.length) ∧ (∀ i, i < j → Op.bytesLess (out.getD i []) (ts.getD k default).Step = true)) (fun (j : Nat) => [(0, vL tsA ts.length tsC), (2, vL none 0 0), (3, vL outA out.length outC), (4, vI ((k : Nat) : Int)), (5, vS ((ts.getD k default).Step)), (6, vI ((j : Nat) : Int))]) (fun (j : Nat) => [Ent.row (.slice outA out.length outC) 9 1 out.length (out.map vS)]) (fun (j : Nat) => out.length - j) (0 : Nat) ?_ ⟨rfl, rfl, rfl, rfl, rfl, rfl, trivial⟩ (fun _ h => h) ?_
  ·try dsimp only
   refine ⟨?_, ?_⟩
   ·first | rfl | omega | (simp_all; done) | (simp_all; omega)
   ·intro i hi; omega
  intro j hI2
  obtain ⟨i2_0, i2_1⟩ := hI2
  try dsimp only at i2_0
  try dsimp only at i2_1
  try dsimp only
  refine q_ (q_ (g_ (s_ mv_ (s_ mv_ (s_ (lnS Tryz.underlying22) (s_ (x_lss_i rfl rfl) (s_ mv_ ?_)))))))
  refine and_ 6 (Op.bytesLess (out.getD j []) ((ts.getD k default).Step)) (fun g3 => ?_) ?_
  ·have g3r := g3
   have g3r := of_decide_eq_true g3r
   refine sg_ g3 mv_ (sg_ g3 mv_ (rg_ g3 (ixM (cells_row 0 rfl) Tryz.underlying22 Ty.sz9) (rg_ g3 (ldM vS [] (cells_row 0 rfl) Ty.sc9) (sg_ g3 mv_ (sg_ g3 (x_lss_s rfl rfl) ?_)))))
   exact cr_
  refine z_ (n_ ?_)
  refine if_ (fun h4 => ?_) (fun h4 => ?_)
  ·have h4w := h4
   have ⟨h4, h5⟩ := band_true h4
   have h4 := of_decide_eq_true h4
   refine sk_ (n_ (k_ (g_ (s_ mv_ (s_ (x_add_n (a := j) (b := 1) rfl rfl (by omega)) (s_ av_ (z_ (kx_ ?_))))))))
   refine JX_round (j + 1 : Nat) ?_ ?_ ⟨rfl, rfl, rfl, rfl, rfl, rfl, trivial⟩ (fun _ h => h)
   ·try dsimp only
    refine ⟨?_, ?_⟩
    ·first | rfl | omega | (simp_all; done) | (simp_all; omega)
    ·exact R40.rf_less i2_1 (by assumption)
   ·try dsimp only
    first | omega | (simp; omega) | (simp_all; omega)
  ·have h4w := h4
   simp only [Bool.and_eq_true, Bool.or_eq_true, Bool.and_eq_false_iff, Bool.or_eq_false_iff, Bool.not_eq_true', Bool.not_eq_false', decide_eq_true_eq, decide_eq_false_iff_not] at h4
   refine J_exit (ne_ (re_ (kh_ (n_ (q_ ?_)))))
   refine g_ (s_ mv_ (js_ (vB (decide ((ts.getD k default).Step ≠ ([] : Bytes)))) (x_neq_s rfl rfl) (s_ mv_ ?_)))
   refine and_ 12 ((decide (((j : Nat) : Int) = ((out.length : Nat) : Int))) || (decide ((out.getD j []) ≠ (ts.getD k default).Step))) (fun g6 => ?_) ?_
   ·have g6r := g6
    have g6r := of_decide_eq_true g6r
    have g6rl := List.length_pos_iff.2 g6r
    refine sg_ g6 mv_ (sg_ g6 mv_ (sg_ g6 (lnS Tryz.underlying22) (sg_ g6 (x_eql_i rfl rfl) (sg_ g6 mv_ ?_))))
    refine or_ 6 (decide ((out.getD j []) ≠ (ts.getD k default).Step)) (fun g7 => ?_) ?_ (hw := by exact ⟨_, rfl, g6⟩)
    ·have g7r := g7
     have g7r := of_decide_eq_false g7r
     refine sg_ g7 mv_ (sg_ g7 mv_ (rg_ g7 (ixM (cells_row 0 rfl) Tryz.underlying22 Ty.sz9) (rg_ g7 (ldM vS [] (cells_row 0 rfl) Ty.sc9) (sg_ g7 mv_ (sg_ g7 (x_neq_s rfl rfl) ?_)))))
     exact cr_
    exact cr_
   refine z_ (n_ ?_)
   refine if_ (fun h8 => ?_) (fun h8 => ?_)
   ·have h8w := h8
    have ⟨h8, h9⟩ := band_true h8
    have h8 := of_decide_eq_true h8
    have h8l := List.length_pos_iff.2 h8
    simp only [Bool.and_eq_true, Bool.or_eq_true, Bool.and_eq_false_iff, Bool.or_eq_false_iff, Bool.not_eq_true', Bool.not_eq_false', decide_eq_true_eq, decide_eq_false_iff_not] at h9
    refine drB [4, 7, 11] 13 Ty.mixed ?_
    refine jp_ 1 rfl mv_ (jp_ 2 rfl mv_ (jq_ 3 rfl (x_subrow_row 0 (lo := 0) (hi := j) rfl rfl Tryz.underlying22 Ty.sz9 (.inr ⟨rfl, rfl⟩) (.inl rfl) lt_ lt_) (jp_ 5 rfl mv_ (jp_ 8 rfl mv_ (jp_ 9 rfl mv_ (jq_ 10 rfl (x_subrow_row 0 (lo := j) (hi := out.length) rfl rfl Tryz.underlying22 Ty.sz9 (.inl rfl) (.inr ⟨rfl, rfl⟩) lt_ lt_) ?_))))))
    refine JA_finX (X := (Option Addr) × Nat) (fun ⟨A21, c22⟩ => [(0, vL tsA ts.length tsC), (2, vL none 0 0), (3, vL A21 ((((([] : List Bytes) ++ ((out.drop 0).take (j - 0))) ++ [(ts.getD k default).Step]) ++ ((out.drop j).take (out.length - j))).length) c22), (4, vI ((k : Nat) : Int))]) (fun ⟨A21, c22⟩ => [Ent.row (.slice A21 (((([] : List Bytes) ++ ((out.drop 0).take (j - 0))) ++ [(ts.getD k default).Step]) ++ ((out.drop j).take (out.length - j))).length c22) 9 1 (((([] : List Bytes) ++ ((out.drop 0).take (j - 0))) ++ [(ts.getD k default).Step]) ++ ((out.drop j).take (out.length - j))).length ((((([] : List Bytes) ++ ((out.drop 0).take (j - 0))) ++ [(ts.getD k default).Step]) ++ ((out.drop j).take (out.length - j))).map vS)]) ?_ (fun key10 => ?_)
    ·rintro ⟨A21, c22⟩
     show JX _ _ _ _ _ [(0, vL tsA ts.length tsC), (2, vL none 0 0), (3, vL A21 ((((([] : List Bytes) ++ ((out.drop 0).take (j - 0))) ++ [(ts.getD k default).Step]) ++ ((out.drop j).take (out.length - j))).length) c22), (4, vI ((k : Nat) : Int))] [Ent.row (.slice A21 (((([] : List Bytes) ++ ((out.drop 0).take (j - 0))) ++ [(ts.getD k default).Step]) ++ ((out.drop j).take (out.length - j))).length c22) 9 1 (((([] : List Bytes) ++ ((out.drop 0).take (j - 0))) ++ [(ts.getD k default).Step]) ++ ((out.drop j).take (out.length - j))).length ((((([] : List Bytes) ++ ((out.drop 0).take (j - 0))) ++ [(ts.getD k default).Step]) ++ ((out.drop j).take (out.length - j))).map vS)]
     refine kx_ (n_ (g_ (s_ mv_ (s_ (x_add_n (a := k) (b := 1) rfl rfl (by omega)) (s_ av_ (z_ ?_))))))
     refine JX_round ((k + 1, ((([] : List Bytes) ++ ((out.drop 0).take (j - 0))) ++ [(ts.getD k default).Step]) ++ ((out.drop j).take (out.length - j)), A21, c22) : Nat × (List Bytes) × (Option Addr) × Nat) ?_ ?_ ⟨rfl, rfl, rfl, rfl, trivial⟩ (fun _ h => h)
     ·try dsimp only
      refine ⟨?_, ?_, ?_⟩
      ·first | rfl | omega | (simp_all; done) | (simp_all; omega)
      ·exact c40p6_
      ·exact c40p7_
     ·try dsimp only
      first | omega | (simp; omega) | (simp_all; omega)
    ·refine JA_ready (rs := [0, 6]) (by kernel_rfl) (by decide) gm_ (List.forall_mem_cons.2 ⟨?_, (List.forall_mem_cons.2 ⟨?_, all_nil⟩)⟩)
     ·refine jio_ rfl (O_buildSlice0 Tryz.underlying22 Ty.sz9 fun b23 => ?_)
      refine JA_weaken (E' := [(0, vL tsA ts.length tsC), (2, vL none 0 0), (3, vL outA out.length outC), (4, vI ((k : Nat) : Int)), (5, vS ((ts.getD k default).Step)), (6, vI ((j : Nat) : Int)), (19, vI ((j : Nat) : Int)), (20, vL outA out.length outC), (21, vI ((out.length : Nat) : Int)), (22, vB (decide (((j : Nat) : Int) < ((out.length : Nat) : Int)))), (23, vB (decide (((j : Nat) : Int) < ((out.length : Nat) : Int)))), (30, vB ((decide (((j : Nat) : Int) < ((out.length : Nat) : Int))) && (Op.bytesLess (out.getD j []) ((ts.getD k default).Step)))), (33, vS ((ts.getD k default).Step)), (34, vB (decide ((ts.getD k default).Step ≠ ([] : Bytes)))), (35, vB (decide ((ts.getD k default).Step ≠ ([] : Bytes)))), (48, vB ((decide ((ts.getD k default).Step ≠ ([] : Bytes))) && ((decide (((j : Nat) : Int) = ((out.length : Nat) : Int))) || (decide ((out.getD j []) ≠ (ts.getD k default).Step))))), (50, vL outA out.length outC), (51, vI ((j : Nat) : Int)), (52, vL (subA outA outC 0 1) j outC), (54, vS ((ts.getD k default).Step)), (57, vL outA out.length outC), (58, vI ((j : Nat) : Int)), (59, vL (subA outA outC j 1) (out.length - j) (outC - j)), (49, vL (some ⟨b23, 0, none⟩) ((([] : List Bytes)).length) 0)]) (L' := [Ent.row (.slice (some ⟨b23, 0, none⟩) ([] : List Bytes).length 0) 9 1 ([] : List Bytes).length (([] : List Bytes).map vS), Ent.row (.slice outA out.length outC) 9 1 out.length (out.map vS)]) ⟨rfl, rfl, rfl, rfl, rfl, rfl, rfl, rfl, rfl, rfl, rfl, rfl, rfl, rfl, rfl, rfl, rfl, rfl, rfl, rfl, rfl, rfl, rfl, rfl, trivial⟩ (fun _ h => (St.torow (cs := []) ((h.front 1 _ rfl).front 1 _ rfl) 1 0 rfl (by decide)).keep [true, true] rfl) ?_
      refine JA_ready (rs := [4, 6]) (by kernel_rfl) (by decide) (fun _ h => ⟨h.keep [false, true] rfl, fun _ => h.keep [false, true] rfl⟩) (List.forall_mem_cons.2 ⟨?_, (List.forall_mem_cons.2 ⟨?_, all_nil⟩)⟩)
      ·refine jio_ rfl (O_append_m 0 vS ([] : List Bytes) ((out.drop 0).take (j - 0)) Tryz.underlying22 Ty.sz9 Ty.by9 Ty.ze9 rfl rfl rfl rfl c40p0_ (fun _ => rfl) (cells_sub_row 1 vS 0 j rfl lt_ lt_) lt_ lt_ fun A24 c25 => ?_)
       refine j1_ 6 (jio_ rfl (O_buildSlice (cs := [vS ((ts.getD k default).Step)]) Tryz.underlying22 Ty.sz9 Ty.ze9 (by decide) (by decide) (by kernel_rfl) fun b27 => ?_)) (gl_ rfl (fun _ h => h.keep [false, true] rfl))
       refine j1_ 7 (jio_ rfl (O_append_m 1 vS (([] : List Bytes) ++ ((out.drop 0).take (j - 0))) [(ts.getD k default).Step] Tryz.underlying22 Ty.sz9 Ty.by9 Ty.ze9 rfl rfl rfl rfl rfl (fun _ => rfl) (cells_blk 0 (off := 0) (m := 1) rfl rfl) lt_ lt_ fun A30 c31 => ?_)) (gl_ rfl (fun _ h => h.keep [false, false, true] rfl))
       refine j1_ 11 (jio_ rfl (O_append_m 1 vS ((([] : List Bytes) ++ ((out.drop 0).take (j - 0))) ++ [(ts.getD k default).Step]) ((out.drop j).take (out.length - j)) Tryz.underlying22 Ty.sz9 Ty.by9 Ty.ze9 rfl rfl rfl rfl c40p0_ (fun _ => rfl) (cells_sub_row 2 vS j out.length rfl lt_ lt_) lt_ lt_ fun A34 c35 => ?_)) (gl_ rfl (fun _ h => h.keep [false, false, true] rfl))
       refine jp_ 12 rfl av_ ?_
       exact JA_done (by kernel_rfl) (gl_ rfl (fun _ h => h.keep [false, false, true] rfl)) (JX_weaken (E' := [(0, vL tsA ts.length tsC), (2, vL none 0 0), (3, vL A34 ((((([] : List Bytes) ++ ((out.drop 0).take (j - 0))) ++ [(ts.getD k default).Step]) ++ ((out.drop j).take (out.length - j))).length) c35), (4, vI ((k : Nat) : Int))]) (L' := [Ent.row (.slice A34 (((([] : List Bytes) ++ ((out.drop 0).take (j - 0))) ++ [(ts.getD k default).Step]) ++ ((out.drop j).take (out.length - j))).length c35) 9 1 (((([] : List Bytes) ++ ((out.drop 0).take (j - 0))) ++ [(ts.getD k default).Step]) ++ ((out.drop j).take (out.length - j))).length ((((([] : List Bytes) ++ ((out.drop 0).take (j - 0))) ++ [(ts.getD k default).Step]) ++ ((out.drop j).take (out.length - j))).map vS)]) ⟨rfl, rfl, rfl, rfl, trivial⟩ (fun _ h => h.keep [false, true, false] rfl) (key10 (A34, c35)))
      ·refine jio_ rfl (O_buildSlice (cs := [vS ((ts.getD k default).Step)]) Tryz.underlying22 Ty.sz9 Ty.ze9 (by decide) (by decide) (by kernel_rfl) fun b36 => ?_)
       refine j1_ 4 (jio_ rfl (O_append_m 1 vS ([] : List Bytes) ((out.drop 0).take (j - 0)) Tryz.underlying22 Ty.sz9 Ty.by9 Ty.ze9 rfl rfl rfl rfl c40p0_ (fun _ => rfl) (cells_sub_row 2 vS 0 j rfl lt_ lt_) lt_ lt_ fun A39 c40 => ?_)) (fun _ h => ⟨h.keep [false, false, true] rfl, fun _ => h.keep [false, false, true] rfl⟩)
       refine j1_ 7 (jio_ rfl (O_append_m 1 vS (([] : List Bytes) ++ ((out.drop 0).take (j - 0))) [(ts.getD k default).Step] Tryz.underlying22 Ty.sz9 Ty.by9 Ty.ze9 rfl rfl rfl rfl rfl (fun _ => rfl) (cells_blk 0 (off := 0) (m := 1) rfl rfl) lt_ lt_ fun A43 c44 => ?_)) (gl_ rfl (fun _ h => h.keep [false, false, true] rfl))
       refine j1_ 11 (jio_ rfl (O_append_m 1 vS ((([] : List Bytes) ++ ((out.drop 0).take (j - 0))) ++ [(ts.getD k default).Step]) ((out.drop j).take (out.length - j)) Tryz.underlying22 Ty.sz9 Ty.by9 Ty.ze9 rfl rfl rfl rfl c40p0_ (fun _ => rfl) (cells_sub_row 2 vS j out.length rfl lt_ lt_) lt_ lt_ fun A47 c48 => ?_)) (gl_ rfl (fun _ h => h.keep [false, false, true] rfl))
       refine jp_ 12 rfl av_ ?_
       exact JA_done (by kernel_rfl) (gl_ rfl (fun _ h => h.keep [false, false, true] rfl)) (JX_weaken (E' := [(0, vL tsA ts.length tsC), (2, vL none 0 0), (3, vL A47 ((((([] : List Bytes) ++ ((out.drop 0).take (j - 0))) ++ [(ts.getD k default).Step]) ++ ((out.drop j).take (out.length - j))).length) c48), (4, vI ((k : Nat) : Int))]) (L' := [Ent.row (.slice A47 (((([] : List Bytes) ++ ((out.drop 0).take (j - 0))) ++ [(ts.getD k default).Step]) ++ ((out.drop j).take (out.length - j))).length c48) 9 1 (((([] : List Bytes) ++ ((out.drop 0).take (j - 0))) ++ [(ts.getD k default).Step]) ++ ((out.drop j).take (out.length - j))).length ((((([] : List Bytes) ++ ((out.drop 0).take (j - 0))) ++ [(ts.getD k default).Step]) ++ ((out.drop j).take (out.length - j))).map vS)]) ⟨rfl, rfl, rfl, rfl, trivial⟩ (fun _ h => h.keep [false, true, false] rfl) (key10 (A47, c48)))
     ·refine jio_ rfl (O_buildSlice (cs := [vS ((ts.getD k default).Step)]) Tryz.underlying22 Ty.sz9 Ty.ze9 (by decide) (by decide) (by kernel_rfl) fun b49 => ?_)
      refine j1_ 0 (jio_ rfl (O_buildSlice0 Tryz.underlying22 Ty.sz9 fun b51 => ?_)) (fun _ h => ⟨h.keep [false, true] rfl, fun _ => h.keep [false, true] rfl⟩)
      refine JA_weaken (E' := [(0, vL tsA ts.length tsC), (2, vL none 0 0), (3, vL outA out.length outC), (4, vI ((k : Nat) : Int)), (5, vS ((ts.getD k default).Step)), (6, vI ((j : Nat) : Int)), (19, vI ((j : Nat) : Int)), (20, vL outA out.length outC), (21, vI ((out.length : Nat) : Int)), (22, vB (decide (((j : Nat) : Int) < ((out.length : Nat) : Int)))), (23, vB (decide (((j : Nat) : Int) < ((out.length : Nat) : Int)))), (30, vB ((decide (((j : Nat) : Int) < ((out.length : Nat) : Int))) && (Op.bytesLess (out.getD j []) ((ts.getD k default).Step)))), (33, vS ((ts.getD k default).Step)), (34, vB (decide ((ts.getD k default).Step ≠ ([] : Bytes)))), (35, vB (decide ((ts.getD k default).Step ≠ ([] : Bytes)))), (48, vB ((decide ((ts.getD k default).Step ≠ ([] : Bytes))) && ((decide (((j : Nat) : Int) = ((out.length : Nat) : Int))) || (decide ((out.getD j []) ≠ (ts.getD k default).Step))))), (50, vL outA out.length outC), (51, vI ((j : Nat) : Int)), (52, vL (subA outA outC 0 1) j outC), (54, vS ((ts.getD k default).Step)), (57, vL outA out.length outC), (58, vI ((j : Nat) : Int)), (59, vL (subA outA outC j 1) (out.length - j) (outC - j)), (55, vL (some ⟨b49, 0, none⟩) 1 1), (49, vL (some ⟨b51, 0, none⟩) ((([] : List Bytes)).length) 0)]) (L' := [Ent.row (.slice (some ⟨b51, 0, none⟩) ([] : List Bytes).length 0) 9 1 ([] : List Bytes).length (([] : List Bytes).map vS), Ent.blk b49 9 [vS ((ts.getD k default).Step)], Ent.row (.slice outA out.length outC) 9 1 out.length (out.map vS)]) ⟨rfl, rfl, rfl, rfl, rfl, rfl, rfl, rfl, rfl, rfl, rfl, rfl, rfl, rfl, rfl, rfl, rfl, rfl, rfl, rfl, rfl, rfl, rfl, rfl, rfl, trivial⟩ (fun _ h => (St.torow (cs := []) (((h.front 2 _ rfl).front 2 _ rfl).front 2 _ rfl) 1 0 rfl (by decide)).keep [true, true, true] rfl) ?_
      refine j1_ 4 (jio_ rfl (O_append_m 0 vS ([] : List Bytes) ((out.drop 0).take (j - 0)) Tryz.underlying22 Ty.sz9 Ty.by9 Ty.ze9 rfl rfl rfl rfl c40p0_ (fun _ => rfl) (cells_sub_row 2 vS 0 j rfl lt_ lt_) lt_ lt_ fun A54 c55 => ?_)) (fun _ h => ⟨h.keep [false, false, true] rfl, fun _ => h.keep [false, false, true] rfl⟩)
      refine j1_ 7 (jio_ rfl (O_append_m 0 vS (([] : List Bytes) ++ ((out.drop 0).take (j - 0))) [(ts.getD k default).Step] Tryz.underlying22 Ty.sz9 Ty.by9 Ty.ze9 rfl rfl rfl rfl rfl (fun _ => rfl) (cells_blk 1 (off := 0) (m := 1) rfl rfl) lt_ lt_ fun A58 c59 => ?_)) (gl_ rfl (fun _ h => h.keep [false, false, true] rfl))
      refine j1_ 11 (jio_ rfl (O_append_m 0 vS ((([] : List Bytes) ++ ((out.drop 0).take (j - 0))) ++ [(ts.getD k default).Step]) ((out.drop j).take (out.length - j)) Tryz.underlying22 Ty.sz9 Ty.by9 Ty.ze9 rfl rfl rfl rfl c40p0_ (fun _ => rfl) (cells_sub_row 2 vS j out.length rfl lt_ lt_) lt_ lt_ fun A62 c63 => ?_)) (gl_ rfl (fun _ h => h.keep [false, false, true] rfl))
      refine jp_ 12 rfl av_ ?_
      exact JA_done (by kernel_rfl) (gl_ rfl (fun _ h => h.keep [false, false, true] rfl)) (JX_weaken (E' := [(0, vL tsA ts.length tsC), (2, vL none 0 0), (3, vL A62 ((((([] : List Bytes) ++ ((out.drop 0).take (j - 0))) ++ [(ts.getD k default).Step]) ++ ((out.drop j).take (out.length - j))).length) c63), (4, vI ((k : Nat) : Int))]) (L' := [Ent.row (.slice A62 (((([] : List Bytes) ++ ((out.drop 0).take (j - 0))) ++ [(ts.getD k default).Step]) ++ ((out.drop j).take (out.length - j))).length c63) 9 1 (((([] : List Bytes) ++ ((out.drop 0).take (j - 0))) ++ [(ts.getD k default).Step]) ++ ((out.drop j).take (out.length - j))).length ((((([] : List Bytes) ++ ((out.drop 0).take (j - 0))) ++ [(ts.getD k default).Step]) ++ ((out.drop j).take (out.length - j))).map vS)]) ⟨rfl, rfl, rfl, rfl, trivial⟩ (fun _ h => h.keep [true, false, false] rfl) (key10 (A62, c63)))
   ·have h8w := h8
    simp only [Bool.and_eq_true, Bool.or_eq_true, Bool.and_eq_false_iff, Bool.or_eq_false_iff, Bool.not_eq_true', Bool.not_eq_false', decide_eq_true_eq, decide_eq_false_iff_not] at h8
    refine sk_ (kx_ (n_ (g_ (s_ mv_ (s_ (x_add_n (a := k) (b := 1) rfl rfl (by omega)) (s_ av_ (z_ ?_)))))))
    refine JX_round ((k + 1, out, outA, outC) : Nat × (List Bytes) × (Option Addr) × Nat) ?_ ?_ ⟨rfl, rfl, rfl, rfl, trivial⟩ (fun _ h => h)
    ·try dsimp only
     refine ⟨?_, ?_, ?_⟩
     ·first | rfl | omega | (simp_all; done) | (simp_all; omega)
     ·exact c40p6_
     ·exact c40p7_
    ·try dsimp only
     first | omega | (simp; omega) | (simp_all; omega)
 ·refine J_exit (ne_ (re_ (kh_ (n_ (q_ ?_)))))
  refine g_ (s_ mv_ (s_ av_ (z_ (n_ (rt_ ?_)))))
  refine JX_rets [_] _ Tryz.results19 (fun w h => ⟨rfl, trivial⟩) rfl _ (fun _ h => h) ⟨outA, outC, ?_, ?_⟩
  ·have e_x0 : (out.length : Nat) = ((R40.refersV ts).length) := by first | exact congrArg List.length (i1_1.trans (R40.ins_end (by omega))) | exact i1_1.trans (R40.ins_end (by omega))
   exact congrArg (fun (x0 : Nat) => vL outA x0 outC) e_x0
  ·have e_y0 : (out : List Bytes) = (R40.refersV ts) := by
    first | exact congrArg List.length (i1_1.trans (R40.ins_end (by omega))) | exact i1_1.trans (R40.ins_end (by omega))
   have e_all := (congrArg (fun (y0 : List Bytes) => [Ent.row (.slice outA y0.length outC) 9 1 y0.length (y0.map vS)]) e_y0)
   exact e_all
end Go.Proofs.YtngjdmhpljmkpaaGreatDoor

namespace Go.Proofs.YtngjdmhpljmkpaaGreatDoor
open Go.GV
set_option linter.unusedVariables false
set_option linter.unusedSimpArgs false
set_option maxRecDepth 20000 in
theorem f4_ok (ts : List Test) (tsA : Option Addr) (tsC : Nat) (steps : List Bytes) (stepsA : Option Addr) (stepsC : Nat) (ends : List StepEnd) (endsA : Option Addr) (endsC : Nat) (w : World) (tsR : RO [] w tsA (ts.flatMap Test.enc)) (stepsR : RO [] w stepsA (steps.map vS)) (endsR : RO [] w endsA (ends.flatMap StepEnd.enc)) (hT : Tab [] w) (q0 : ts.length ≤ 9223372036854775807) (q1 : steps.length ≤ 9223372036854775807) (q2 : ends.length ≤ endsC ∧ ends.length ≤ 9223372036854775807) : Calls Tryz.prog 4 #[vL tsA ts.length tsC, vL stepsA steps.length stepsC, vL endsA ends.length endsC] w (Gives [] w fun v L => v = vB true ∧ L = []) := by
 refine calls_J [] 39 Tryz.func4 rfl Tryz.ntmps4 [(0, _), (1, _), (2, _)] rfl rfl (Give.nil w) ?_
 refine q_ (g_ (s_ av_ (z_ (n_ (q_ (q_ (g_ (c0 (cl_ Ty.ca6) (fun w hS => f6_ok w (hT.on hS (fun _ h => by cases h))) (jr_ (vB false) (z_ (n_ (iff_ (sk_ (n_ (q_ (q_ (g_ (s_ mv_ (s_ mv_ (s_ mv_ ?_))))))))))))))))))))
 refine c0 (cl_ Ty.ca7) (fun w hS => f7_ok ts tsA tsC _ _ _ ends _ _ w (rno tsR hS) (rno stepsR hS) (rno endsR hS) hy_ hy_ hy_) (s_ (x_not rfl) (z_ (n_ ?_)))
 refine if_ (fun h1 => ?_) (fun h1 => ?_)
 ·have h1w := h1
  have h1 : (R40.fewV ts steps ends.length) = false := bnot_true h1
  refine q_ (g_ (s_ av_ (z_ (n_ (rt_ (nr_ ?_))))))
  exact p1 Tryz.results4 rfl ⟨rfl, rfl⟩
 ·have h1w := h1
  have h1 : (R40.fewV ts steps ends.length) = true := bnot_false h1
  have hi2 := R40.few_yes h1
  refine sk_ (n_ (q_ (g_ (s_ mv_ (s_ mv_ (c0 (cl_ Ty.ca14) (fun w hS => f14_ok ts tsA tsC _ _ _ w (rno tsR hS) (rno stepsR hS) hy_ hy_) (s_ mv_ (s_ mv_ (c0 (cl_ Ty.ca15) (fun w hS => f15_ok ts tsA tsC _ _ _ w (rno tsR hS) (rno stepsR hS) hy_ hy_) (s_ (x_eql_b Tryz.underlying4 rfl rfl) (s_ mv_ ?_)))))))))))
  refine and_ 9 (decide ((R40.evalV ts steps ends) = (R40.evalV ts steps ends))) (fun g3 => ?_) ?_
  ·have g3r := g3
   have g3r := of_decide_eq_true g3r
   refine sg_ g3 mv_ (sg_ g3 mv_ (sg_ g3 mv_ (c0g g3 (cl_ Ty.ca16) (fun w hS => f16_ok ts tsA tsC _ _ _ ends _ _ w (rno tsR hS) (rno stepsR hS) (rno endsR hS) hy_ hy_ hy_) (sg_ g3 mv_ (sg_ g3 mv_ (sg_ g3 mv_ (c0g g3 (cl_ Ty.ca17) (fun w hS => f17_ok ts tsA tsC _ _ _ ends _ _ w (rno tsR hS) (rno stepsR hS) (rno endsR hS) hy_ hy_ hy_) (sg_ g3 (x_eql_b Tryz.underlying4 rfl rfl) ?_))))))))
   exact cr_
  refine s_ mv_ ?_
  refine and_ 5 (decide ((R40.refersV ts) = (R40.refersV ts))) (fun g4 => ?_) ?_
  ·have g4r := g4
   have ⟨g4r, h5⟩ := band_true g4r
   have g4r := of_decide_eq_true g4r
   have h5 := of_decide_eq_true h5
   refine sg_ g4 mv_ ?_
   refine c1g g4 (cl_ Ty.ca18) (fun w hS => f18_ok ts tsA tsC w (rno tsR hS) hy_) ?_
   rintro _ _ ⟨e6, e7, rfl, rfl⟩
   have ha8 := R40.refers_len ts
   refine sg_ g4 mv_ ?_
   refine c1g g4 (cl_ Ty.ca19) (fun w hS => f19_ok ts tsA tsC w (rno tsR hS) hy_) ?_
   rintro _ _ ⟨e9, e10, rfl, rfl⟩
   have ha11 := R40.refers_len ts
   refine c0g g4 (cl_ Ty.ca11) (fun w hS => f11_ok _ e6 e7 _ e9 e10 w (RO.of_row hS 1 rfl) (RO.of_row hS 0 rfl) hy_ hy_) ?_
   exact cr_ (fun _ h => h.keep [false, false] rfl)
  refine s_ av_ (z_ (xk_ [6] ?_))
  refine n_ (rt_ ?_)
  exact p1 Tryz.results4 rfl ⟨(eB (by first | rfl | (simp; done))), rfl⟩
end Go.Proofs.YtngjdmhpljmkpaaGreatDoor


