/- contracts C40t -/
import Derived.Test.YtngjdmhpljmkpaaGreatDoorC40s
import Derived.Test.YtngjdmhpljmkpaaGreatDoorConditionWords13
set_option linter.unusedVariables false
set_option linter.unusedSimpArgs false
namespace Go.Proofs.YtngjdmhpljmkpaaGreatDoor
open Go.GV
set_option linter.unusedVariables false
set_option linter.unusedSimpArgs false
theorem c40t0_ {p : Prop} (h : p := by simp only [List.length_append, List.length_take, List.length_cons, List.length_nil]; omega) : p := h
theorem c40t1_ {p : Prop} (h : p := by first | rfl | (unfold R40.kindW; simp_all; done)) : p := h
theorem c40t3_ {p : Prop} (h : p := by first | exact i1_1.open_ (by omega) (by assumption) | exact i1_1.failed (by omega) (by assumption) | exact hz9.1 | exact i1_1.op_ (by omega) (by assumption) no_such_condition | exact (i1_1.close (by omega) (by assumption) no_such_condition).2 (by omega)) : p := h
theorem c40t4_ {p : Prop} (h : p := by first | exact i1_0.stop (by omega) (R40.stop_t (by assumption)) | exact i1_0.done (by omega)) : p := h
set_option maxRecDepth 20000 in
theorem f24_ok (out : List Test) (outA : Option Addr) (outC : Nat) (outN : Nat) (op : List Bytes) (opA : Option Addr) (opC : Nat) (opN : Nat) (all : Bool) (w : World) (outQ : outN = out.length) (opQ : opN = op.length) (q0 : out.length + op.length ≤ 1000000) (hg : Give (Lown [Ent.row (.slice outA outN outC) 40 4 outN (out.flatMap Test.enc), Ent.row (.slice opA opN opC) 9 1 opN (op.map vS)]) w [Ent.row (.slice outA outN outC) 40 4 outN (out.flatMap Test.enc), Ent.row (.slice opA opN opC) 9 1 opN (op.map vS)]) : Calls Tryz.prog 24 #[vL outA outN outC, vL opA opN opC, vB all] w (Gives (Lown [Ent.row (.slice outA outN outC) 40 4 outN (out.flatMap Test.enc), Ent.row (.slice opA opN opC) 9 1 opN (op.map vS)]) w fun v L => ∃ y : List Test, ∃ yA : Option Addr, ∃ yC : Nat, ∃ p : List Bytes, ∃ pA : Option Addr, ∃ pC : Nat, v = Value.tuple #[vL yA y.length yC, vL pA p.length pC] ∧ L = [Ent.row (.slice yA y.length yC) 40 4 y.length (y.flatMap Test.enc), Ent.row (.slice pA p.length pC) 9 1 p.length (p.map vS)] ∧ (R40.RdcE all out op y p)) := by
 subst outQ
 subst opQ
 refine calls_J (Lown [Ent.row (.slice outA out.length outC) 40 4 out.length (out.flatMap Test.enc), Ent.row (.slice opA op.length opC) 9 1 op.length (op.map vS)]) 47 Tryz.func24 rfl Tryz.ntmps24 [(0, _), (1, _), (2, _)] rfl rfl hg ?_
 refine q_ (g_ (s_ av_ (s_ av_ (z_ (n_ (q_ (k_ ?_)))))))
 refine J_loop (X := (List Test) × (Option Addr) × Nat × (List Bytes) × (Option Addr) × Nat) (fun (⟨o9, o9A, o9C, p9, p9A, p9C⟩ : (List Test) × (Option Addr) × Nat × (List Bytes) × (Option Addr) × Nat) => (R40.RdcJ all out op o9 p9)) (fun (⟨o9, o9A, o9C, p9, p9A, p9C⟩ : (List Test) × (Option Addr) × Nat × (List Bytes) × (Option Addr) × Nat) => [(0, vL o9A o9.length o9C), (1, vL p9A p9.length p9C), (2, vB all)]) (fun (⟨o9, o9A, o9C, p9, p9A, p9C⟩ : (List Test) × (Option Addr) × Nat × (List Bytes) × (Option Addr) × Nat) => [Ent.row (.slice o9A o9.length o9C) 40 4 o9.length (o9.flatMap Test.enc), Ent.row (.slice p9A p9.length p9C) 9 1 p9.length (p9.map vS)]) (fun (⟨o9, o9A, o9C, p9, p9A, p9C⟩ : (List Test) × (Option Addr) × Nat × (List Bytes) × (Option Addr) × Nat) => p9.length) ((out, outA, outC, op, opA, opC) : (List Test) × (Option Addr) × Nat × (List Bytes) × (Option Addr) × Nat) ?_ ⟨rfl, rfl, rfl, trivial⟩ (fun _ h => h) ?_
 ·try dsimp only
  exact R40.RdcJ.start
 rintro ⟨o9, o9A, o9C, p9, p9A, p9C⟩ hI1
 have i1_0 := hI1
 try dsimp only at i1_0
 have hrl := i1_0.2
 try dsimp only
 refine q_ (q_ (g_ (s_ mv_ (s_ (lnS Tryz.underlying22) (s_ (x_gtr_i rfl rfl) (z_ (n_ ?_)))))))
 refine ifd (fun h1w h1 => ?_) (fun h1w h1 => ?_)
 ·refine sk_ (n_ (k_ (q_ (g_ (s_ mv_ (s_ mv_ (s_ (lnS Tryz.underlying22) (s_ (x_sub_i (a := ((p9.length : Nat) : Int)) (b := 1) rfl rfl (by omega) (by omega)) (r_ (ixM (k := (p9.length - 1)) (hy := (ix_nat rfl (by omega))) (cells_row 1 rfl) Tryz.underlying22 Ty.sz9) (r_ (ldM vS [] (cells_row 1 rfl) Ty.sc9) (s_ av_ (z_ (n_ (q_ (q_ (g_ (s_ mv_ ?_)))))))))))))))))
  refine js_ (vB (decide ((p9.getD (p9.length - 1) []) = ([40] : Bytes)))) (x_eql_s rfl rfl) (s_ mv_ ?_)
  refine or_ 6 ((decide ((p9.getD (p9.length - 1) []) = ([111, 114] : Bytes))) && (!all)) (fun g2 => ?_) ?_
  ·have g2r := g2
   have g2r := of_decide_eq_false g2r
   refine sg_ g2 mv_ (jg_ g2 (vB (decide ((p9.getD (p9.length - 1) []) = ([111, 114] : Bytes)))) (x_eql_s rfl rfl) (sg_ g2 mv_ ?_))
   refine and_ 2 (!all) (fun g3 => ?_) ?_ (hw := by exact ⟨_, rfl, g2⟩)
   ·have g3r := g3
    have g3r := of_decide_eq_true g3r
    refine sg_ g3 mv_ (sg_ g3 (x_not rfl) ?_)
    exact cr_
   exact cr_
  refine z_ (n_ ?_)
  refine if_ (fun h4 => ?_) (fun h4 => ?_)
  ·have h4w := h4
   simp only [Bool.and_eq_true, Bool.or_eq_true, Bool.and_eq_false_iff, Bool.or_eq_false_iff, Bool.not_eq_true', Bool.not_eq_false', decide_eq_true_eq, decide_eq_false_iff_not] at h4
   refine q_ (g_ (s_ mv_ (s_ mv_ (s_ av_ (s_ av_ (z_ (xk_ [0, 1, 2, 8, 6, 7] ?_)))))))
   refine n_ (rt_ (nr_ (kq_ (rr_ (kq_ (nr_ ?_))))))
   refine JX_rets [_, _] (Value.tuple #[_, _]) Tryz.results24 (fun w h => ⟨rfl, rfl, trivial⟩) rfl _ (fun _ h => h) ⟨o9, o9A, o9C, p9, p9A, p9C, ?_, ?_, ?_⟩
   ·rfl
   ·rfl
   ·exact c40t4_
  ·have h4w := h4
   have ⟨h4, h5⟩ := bor_false h4
   have h4 := of_decide_eq_false h4
   simp only [Bool.and_eq_true, Bool.or_eq_true, Bool.and_eq_false_iff, Bool.or_eq_false_iff, Bool.not_eq_true', Bool.not_eq_false', decide_eq_true_eq, decide_eq_false_iff_not] at h5
   refine sk_ (n_ (q_ (g_ (s_ av_ (z_ (n_ (q_ (q_ (g_ (s_ mv_ (js_ (vB (decide ((p9.getD (p9.length - 1) []) = ([97, 110, 100] : Bytes)))) (x_eql_s rfl rfl) (z_ (n_ ?_)))))))))))))
   refine ifd (fun h6w h6 => ?_) (fun h6w h6 => ?_)
   ·refine g_ (s_ av_ (z_ (n_ (q_ (q_ (g_ (s_ mv_ (js_ (vB (decide ((p9.getD (p9.length - 1) []) = ([111, 114] : Bytes)))) (x_eql_s rfl rfl) (z_ (xk_ [0, 1, 2, 9, 34] ?_))))))))))
    refine n_ ?_
    refine ifd (fun h7w h7 => ?_) (fun h7w h7 => ?_)
    ·refine g_ (s_ av_ (z_ (n_ ?_)))
     refine drU [Ent.row (.slice p9A p9.length p9C) 9 1 p9.length (p9.map vS)] [4] 12 Ty.mixed ?_
     refine jp_ 0 rfl mv_ (jp_ 1 rfl mv_ ?_)
     refine jt_ 2 (vG [vI 6, vS [], vI 0, vI 0]) rfl (fun _ _ => x_build (by kernel_rfl)) ?_
     refine jp_ 5 rfl mv_ (jp_ 6 rfl mv_ (jp_ 7 rfl (lnS Tryz.underlying22) (jp_ 8 rfl (x_sub_i (a := ((p9.length : Nat) : Int)) (b := 1) rfl rfl (by omega) (by omega)) ?_)))
     refine jt_ 9 (vL p9A (p9.length - 1) p9C) rfl (x_head_row 0 rfl rfl Tryz.underlying22 Ty.sz9 (congrArg some (ix_nat rfl (by omega))) lt_) ?_
     refine j1_ 3 (jio_ rfl (O_buildSlice (cs := [vI 6, vS [], vI 0, vI 0]) Tryz.underlying23 Ty.sz40 Ty.ze40 (by decide) (by decide) (by kernel_rfl) fun b9 => ?_)) (fun _ h => ⟨h.keep [false, true] rfl, fun _ => h⟩)
     refine j1_ 4 (jio_ rfl (O_append_f 1 Test.enc 4 o9 [(Test.mk 6 [] 0 0)] Tryz.underlying23 Ty.sz40 Ty.by40 Ty.ze40 rfl (by decide) rfl rfl rfl rfl Test.enc_len Test.enc_one (cells_blk 0 (off := 0) (m := 4) rfl rfl) lt_ lt_ fun A12 c13 => ?_)) (fun _ h => ⟨h.keep [false, false, true] rfl, fun _ => h.keep [false, true, true] rfl⟩)
     refine jp_ 10 rfl av_ (jp_ 11 rfl av_ ?_)
     refine JA_done (by kernel_rfl) (gl_ rfl (fun _ h => h.keep [false, false, true] rfl)) ?_
     refine kx_ ?_
     refine JX_weaken (E' := [(0, vL A12 ((o9 ++ [(Test.mk 6 [] 0 0)]).length) c13), (1, vL p9A ((p9.take (p9.length - 1)).length) p9C), (2, vB all), (9, vI 6), (34, vB (decide ((p9.getD (p9.length - 1) []) = ([111, 114] : Bytes)))), (35, vL o9A o9.length o9C), (36, vI 6), (37, vG [vI 6, vS [], vI 0, vI 0]), (42, vI ((p9.length : Nat) : Int)), (43, vI (((p9.length : Nat) : Int) - 1)), (44, vL p9A ((p9.take (p9.length - 1)).length) p9C), (38, vL (some ⟨b9, 0, none⟩) 1 1), (39, vL A12 ((o9 ++ [(Test.mk 6 [] 0 0)]).length) c13)]) (L' := [Ent.blk b9 40 [vI 6, vS [], vI 0, vI 0], Ent.row (.slice A12 (o9 ++ [(Test.mk 6 [] 0 0)]).length c13) 40 4 (o9 ++ [(Test.mk 6 [] 0 0)]).length ((o9 ++ [(Test.mk 6 [] 0 0)]).flatMap Test.enc), Ent.row (.slice p9A (p9.take (p9.length - 1)).length p9C) 9 1 (p9.take (p9.length - 1)).length ((p9.take (p9.length - 1)).map vS)]) ⟨rfl, (congrArg (fun n : Nat => some (Value.slice p9A n p9C)) (take_len (xs := p9) (n := (p9.length - 1)) lt_)), rfl, rfl, rfl, rfl, rfl, rfl, rfl, rfl, (congrArg (fun n : Nat => some (Value.slice p9A n p9C)) (take_len (xs := p9) (n := (p9.length - 1)) lt_)), rfl, rfl, trivial⟩ (fun _ h => truncL h 2 (n := (p9.length - 1)) (len := p9.length) rfl rfl lt_ (by rw [Nat.mul_one, List.map_take]) (take_len (xs := p9) (n := (p9.length - 1)) lt_)) ?_
     refine JX_round ((o9 ++ [(Test.mk 6 [] 0 0)], A12, c13, (p9.take (p9.length - 1)), p9A, p9C) : (List Test) × (Option Addr) × Nat × (List Bytes) × (Option Addr) × Nat) ?_ ?_ ⟨rfl, rfl, rfl, trivial⟩ (fun _ h => h.keep [false, true, true] rfl)
     ·try dsimp only
      exact i1_0.step (by omega) (R40.stop_f (by assumption)) c40t1_
     ·try dsimp only
      (try simp only [List.length_take]); omega
    ·refine sk_ (n_ ?_)
     refine drU [Ent.row (.slice p9A p9.length p9C) 9 1 p9.length (p9.map vS)] [4] 12 Ty.mixed ?_
     refine jp_ 0 rfl mv_ (jp_ 1 rfl mv_ ?_)
     refine jt_ 2 (vG [vI 5, vS [], vI 0, vI 0]) rfl (fun _ _ => x_build (by kernel_rfl)) ?_
     refine jp_ 5 rfl mv_ (jp_ 6 rfl mv_ (jp_ 7 rfl (lnS Tryz.underlying22) (jp_ 8 rfl (x_sub_i (a := ((p9.length : Nat) : Int)) (b := 1) rfl rfl (by omega) (by omega)) ?_)))
     refine jt_ 9 (vL p9A (p9.length - 1) p9C) rfl (x_head_row 0 rfl rfl Tryz.underlying22 Ty.sz9 (congrArg some (ix_nat rfl (by omega))) lt_) ?_
     refine j1_ 3 (jio_ rfl (O_buildSlice (cs := [vI 5, vS [], vI 0, vI 0]) Tryz.underlying23 Ty.sz40 Ty.ze40 (by decide) (by decide) (by kernel_rfl) fun b15 => ?_)) (fun _ h => ⟨h.keep [false, true] rfl, fun _ => h⟩)
     refine j1_ 4 (jio_ rfl (O_append_f 1 Test.enc 4 o9 [(Test.mk 5 [] 0 0)] Tryz.underlying23 Ty.sz40 Ty.by40 Ty.ze40 rfl (by decide) rfl rfl rfl rfl Test.enc_len Test.enc_one (cells_blk 0 (off := 0) (m := 4) rfl rfl) lt_ lt_ fun A18 c19 => ?_)) (fun _ h => ⟨h.keep [false, false, true] rfl, fun _ => h.keep [false, true, true] rfl⟩)
     refine jp_ 10 rfl av_ (jp_ 11 rfl av_ ?_)
     refine JA_done (by kernel_rfl) (gl_ rfl (fun _ h => h.keep [false, false, true] rfl)) ?_
     refine kx_ ?_
     refine JX_weaken (E' := [(0, vL A18 ((o9 ++ [(Test.mk 5 [] 0 0)]).length) c19), (1, vL p9A ((p9.take (p9.length - 1)).length) p9C), (2, vB all), (9, vI 5), (34, vB (decide ((p9.getD (p9.length - 1) []) = ([111, 114] : Bytes)))), (35, vL o9A o9.length o9C), (36, vI 5), (37, vG [vI 5, vS [], vI 0, vI 0]), (42, vI ((p9.length : Nat) : Int)), (43, vI (((p9.length : Nat) : Int) - 1)), (44, vL p9A ((p9.take (p9.length - 1)).length) p9C), (38, vL (some ⟨b15, 0, none⟩) 1 1), (39, vL A18 ((o9 ++ [(Test.mk 5 [] 0 0)]).length) c19)]) (L' := [Ent.blk b15 40 [vI 5, vS [], vI 0, vI 0], Ent.row (.slice A18 (o9 ++ [(Test.mk 5 [] 0 0)]).length c19) 40 4 (o9 ++ [(Test.mk 5 [] 0 0)]).length ((o9 ++ [(Test.mk 5 [] 0 0)]).flatMap Test.enc), Ent.row (.slice p9A (p9.take (p9.length - 1)).length p9C) 9 1 (p9.take (p9.length - 1)).length ((p9.take (p9.length - 1)).map vS)]) ⟨rfl, (congrArg (fun n : Nat => some (Value.slice p9A n p9C)) (take_len (xs := p9) (n := (p9.length - 1)) lt_)), rfl, rfl, rfl, rfl, rfl, rfl, rfl, rfl, (congrArg (fun n : Nat => some (Value.slice p9A n p9C)) (take_len (xs := p9) (n := (p9.length - 1)) lt_)), rfl, rfl, trivial⟩ (fun _ h => truncL h 2 (n := (p9.length - 1)) (len := p9.length) rfl rfl lt_ (by rw [Nat.mul_one, List.map_take]) (take_len (xs := p9) (n := (p9.length - 1)) lt_)) ?_
     refine JX_round ((o9 ++ [(Test.mk 5 [] 0 0)], A18, c19, (p9.take (p9.length - 1)), p9A, p9C) : (List Test) × (Option Addr) × Nat × (List Bytes) × (Option Addr) × Nat) ?_ ?_ ⟨rfl, rfl, rfl, trivial⟩ (fun _ h => h.keep [false, true, true] rfl)
     ·try dsimp only
      exact i1_0.step (by omega) (R40.stop_f (by assumption)) c40t1_
     ·try dsimp only
      (try simp only [List.length_take]); omega
   ·refine sk_ (n_ (q_ (q_ (g_ (s_ mv_ (js_ (vB (decide ((p9.getD (p9.length - 1) []) = ([111, 114] : Bytes)))) (x_eql_s rfl rfl) (z_ (xk_ [0, 1, 2, 9, 34] ?_))))))))
    refine n_ ?_
    refine ifd (fun h20w h20 => ?_) (fun h20w h20 => ?_)
    ·refine g_ (s_ av_ (z_ (n_ ?_)))
     refine drU [Ent.row (.slice p9A p9.length p9C) 9 1 p9.length (p9.map vS)] [4] 12 Ty.mixed ?_
     refine jp_ 0 rfl mv_ (jp_ 1 rfl mv_ ?_)
     refine jt_ 2 (vG [vI 6, vS [], vI 0, vI 0]) rfl (fun _ _ => x_build (by kernel_rfl)) ?_
     refine jp_ 5 rfl mv_ (jp_ 6 rfl mv_ (jp_ 7 rfl (lnS Tryz.underlying22) (jp_ 8 rfl (x_sub_i (a := ((p9.length : Nat) : Int)) (b := 1) rfl rfl (by omega) (by omega)) ?_)))
     refine jt_ 9 (vL p9A (p9.length - 1) p9C) rfl (x_head_row 0 rfl rfl Tryz.underlying22 Ty.sz9 (congrArg some (ix_nat rfl (by omega))) lt_) ?_
     refine j1_ 3 (jio_ rfl (O_buildSlice (cs := [vI 6, vS [], vI 0, vI 0]) Tryz.underlying23 Ty.sz40 Ty.ze40 (by decide) (by decide) (by kernel_rfl) fun b22 => ?_)) (fun _ h => ⟨h.keep [false, true] rfl, fun _ => h⟩)
     refine j1_ 4 (jio_ rfl (O_append_f 1 Test.enc 4 o9 [(Test.mk 6 [] 0 0)] Tryz.underlying23 Ty.sz40 Ty.by40 Ty.ze40 rfl (by decide) rfl rfl rfl rfl Test.enc_len Test.enc_one (cells_blk 0 (off := 0) (m := 4) rfl rfl) lt_ lt_ fun A25 c26 => ?_)) (fun _ h => ⟨h.keep [false, false, true] rfl, fun _ => h.keep [false, true, true] rfl⟩)
     refine jp_ 10 rfl av_ (jp_ 11 rfl av_ ?_)
     refine JA_done (by kernel_rfl) (gl_ rfl (fun _ h => h.keep [false, false, true] rfl)) ?_
     refine kx_ ?_
     refine JX_weaken (E' := [(0, vL A25 ((o9 ++ [(Test.mk 6 [] 0 0)]).length) c26), (1, vL p9A ((p9.take (p9.length - 1)).length) p9C), (2, vB all), (9, vI 6), (34, vB (decide ((p9.getD (p9.length - 1) []) = ([111, 114] : Bytes)))), (35, vL o9A o9.length o9C), (36, vI 6), (37, vG [vI 6, vS [], vI 0, vI 0]), (42, vI ((p9.length : Nat) : Int)), (43, vI (((p9.length : Nat) : Int) - 1)), (44, vL p9A ((p9.take (p9.length - 1)).length) p9C), (38, vL (some ⟨b22, 0, none⟩) 1 1), (39, vL A25 ((o9 ++ [(Test.mk 6 [] 0 0)]).length) c26)]) (L' := [Ent.blk b22 40 [vI 6, vS [], vI 0, vI 0], Ent.row (.slice A25 (o9 ++ [(Test.mk 6 [] 0 0)]).length c26) 40 4 (o9 ++ [(Test.mk 6 [] 0 0)]).length ((o9 ++ [(Test.mk 6 [] 0 0)]).flatMap Test.enc), Ent.row (.slice p9A (p9.take (p9.length - 1)).length p9C) 9 1 (p9.take (p9.length - 1)).length ((p9.take (p9.length - 1)).map vS)]) ⟨rfl, (congrArg (fun n : Nat => some (Value.slice p9A n p9C)) (take_len (xs := p9) (n := (p9.length - 1)) lt_)), rfl, rfl, rfl, rfl, rfl, rfl, rfl, rfl, (congrArg (fun n : Nat => some (Value.slice p9A n p9C)) (take_len (xs := p9) (n := (p9.length - 1)) lt_)), rfl, rfl, trivial⟩ (fun _ h => truncL h 2 (n := (p9.length - 1)) (len := p9.length) rfl rfl lt_ (by rw [Nat.mul_one, List.map_take]) (take_len (xs := p9) (n := (p9.length - 1)) lt_)) ?_
     refine JX_round ((o9 ++ [(Test.mk 6 [] 0 0)], A25, c26, (p9.take (p9.length - 1)), p9A, p9C) : (List Test) × (Option Addr) × Nat × (List Bytes) × (Option Addr) × Nat) ?_ ?_ ⟨rfl, rfl, rfl, trivial⟩ (fun _ h => h.keep [false, true, true] rfl)
     ·try dsimp only
      exact i1_0.step (by omega) (R40.stop_f (by assumption)) c40t1_
     ·try dsimp only
      (try simp only [List.length_take]); omega
    ·refine sk_ (n_ ?_)
     refine drU [Ent.row (.slice p9A p9.length p9C) 9 1 p9.length (p9.map vS)] [4] 12 Ty.mixed ?_
     refine jp_ 0 rfl mv_ (jp_ 1 rfl mv_ ?_)
     refine jt_ 2 (vG [vI 4, vS [], vI 0, vI 0]) rfl (fun _ _ => x_build (by kernel_rfl)) ?_
     refine jp_ 5 rfl mv_ (jp_ 6 rfl mv_ (jp_ 7 rfl (lnS Tryz.underlying22) (jp_ 8 rfl (x_sub_i (a := ((p9.length : Nat) : Int)) (b := 1) rfl rfl (by omega) (by omega)) ?_)))
     refine jt_ 9 (vL p9A (p9.length - 1) p9C) rfl (x_head_row 0 rfl rfl Tryz.underlying22 Ty.sz9 (congrArg some (ix_nat rfl (by omega))) lt_) ?_
     refine j1_ 3 (jio_ rfl (O_buildSlice (cs := [vI 4, vS [], vI 0, vI 0]) Tryz.underlying23 Ty.sz40 Ty.ze40 (by decide) (by decide) (by kernel_rfl) fun b28 => ?_)) (fun _ h => ⟨h.keep [false, true] rfl, fun _ => h⟩)
     refine j1_ 4 (jio_ rfl (O_append_f 1 Test.enc 4 o9 [(Test.mk 4 [] 0 0)] Tryz.underlying23 Ty.sz40 Ty.by40 Ty.ze40 rfl (by decide) rfl rfl rfl rfl Test.enc_len Test.enc_one (cells_blk 0 (off := 0) (m := 4) rfl rfl) lt_ lt_ fun A31 c32 => ?_)) (fun _ h => ⟨h.keep [false, false, true] rfl, fun _ => h.keep [false, true, true] rfl⟩)
     refine jp_ 10 rfl av_ (jp_ 11 rfl av_ ?_)
     refine JA_done (by kernel_rfl) (gl_ rfl (fun _ h => h.keep [false, false, true] rfl)) ?_
     refine kx_ ?_
     refine JX_weaken (E' := [(0, vL A31 ((o9 ++ [(Test.mk 4 [] 0 0)]).length) c32), (1, vL p9A ((p9.take (p9.length - 1)).length) p9C), (2, vB all), (9, vI 4), (34, vB (decide ((p9.getD (p9.length - 1) []) = ([111, 114] : Bytes)))), (35, vL o9A o9.length o9C), (36, vI 4), (37, vG [vI 4, vS [], vI 0, vI 0]), (42, vI ((p9.length : Nat) : Int)), (43, vI (((p9.length : Nat) : Int) - 1)), (44, vL p9A ((p9.take (p9.length - 1)).length) p9C), (38, vL (some ⟨b28, 0, none⟩) 1 1), (39, vL A31 ((o9 ++ [(Test.mk 4 [] 0 0)]).length) c32)]) (L' := [Ent.blk b28 40 [vI 4, vS [], vI 0, vI 0], Ent.row (.slice A31 (o9 ++ [(Test.mk 4 [] 0 0)]).length c32) 40 4 (o9 ++ [(Test.mk 4 [] 0 0)]).length ((o9 ++ [(Test.mk 4 [] 0 0)]).flatMap Test.enc), Ent.row (.slice p9A (p9.take (p9.length - 1)).length p9C) 9 1 (p9.take (p9.length - 1)).length ((p9.take (p9.length - 1)).map vS)]) ⟨rfl, (congrArg (fun n : Nat => some (Value.slice p9A n p9C)) (take_len (xs := p9) (n := (p9.length - 1)) lt_)), rfl, rfl, rfl, rfl, rfl, rfl, rfl, rfl, (congrArg (fun n : Nat => some (Value.slice p9A n p9C)) (take_len (xs := p9) (n := (p9.length - 1)) lt_)), rfl, rfl, trivial⟩ (fun _ h => truncL h 2 (n := (p9.length - 1)) (len := p9.length) rfl rfl lt_ (by rw [Nat.mul_one, List.map_take]) (take_len (xs := p9) (n := (p9.length - 1)) lt_)) ?_
     refine JX_round ((o9 ++ [(Test.mk 4 [] 0 0)], A31, c32, (p9.take (p9.length - 1)), p9A, p9C) : (List Test) × (Option Addr) × Nat × (List Bytes) × (Option Addr) × Nat) ?_ ?_ ⟨rfl, rfl, rfl, trivial⟩ (fun _ h => h.keep [false, true, true] rfl)
     ·try dsimp only
      exact i1_0.step (by omega) (R40.stop_f (by assumption)) c40t1_
     ·try dsimp only
      (try simp only [List.length_take]); omega
 ·refine J_exit (ne_ (re_ (kh_ (n_ (q_ ?_)))))
  refine g_ (s_ mv_ (s_ mv_ (s_ av_ (s_ av_ (z_ (n_ (rt_ ?_)))))))
  refine JX_rets [_, _] (Value.tuple #[_, _]) Tryz.results24 (fun w h => ⟨rfl, rfl, trivial⟩) rfl _ (fun _ h => h) ⟨o9, o9A, o9C, p9, p9A, p9C, ?_, ?_, ?_⟩
  ·rfl
  ·rfl
  ·exact c40t4_
set_option maxRecDepth 20000 in
theorem f9_ok (ws : List Bytes) (wsA : Option Addr) (wsC : Nat) (w : World) (wsR : RO [] w wsA (ws.map vS)) (q0 : ws.length ≤ 1000000 ∧ ws.length ≤ wsC) (q1 : ∀ k, (ws.getD k []).length ≤ 140737488355328) : Calls Tryz.prog 9 #[vL wsA ws.length wsC] w (Gives [] w fun v L => ∃ A2 : Option Addr, ∃ c2 : Nat, v = Value.tuple #[vL A2 ((R40.parseV ws).out.length) c2, vI ((R40.parseV ws).at_), vI ((R40.parseV ws).e)] ∧ L = [Ent.row (.slice A2 ((R40.parseV ws).out).length c2) 40 4 ((R40.parseV ws).out).length (((R40.parseV ws).out).flatMap Test.enc)]) := by
 refine calls_J [] 141 Tryz.func9 rfl Tryz.ntmps9 [(0, _)] rfl rfl (Give.nil w) ?_
 refine q_ (g_ (s_ av_ (s_ av_ (s_ av_ (z_ (n_ (q_ (q_ (g_ (s_ mv_ (s_ (lnS Tryz.underlying22) (s_ (x_eql_i rfl rfl) (z_ (n_ ?_))))))))))))))
 refine ifd (fun h1w h1 => ?_) (fun h1w h1 => ?_)
 ·refine q_ (g_ (s_ av_ (s_ av_ (s_ av_ (z_ (n_ (rt_ (nr_ ?_))))))))
  first
   | have hd := R40.parse_nil (ws := ws) (by omega)
   | have hd := hz9.1
   | have hd := i1_1.no (by omega) (fun _ => not_or.2 ⟨by assumption, by assumption⟩) (fun _ => by assumption) (fun _ => Bool.eq_false_iff.1 (by assumption)) (fun e => by cases e) (fun e => by cases e)
   | have hd := i1_1.no (by omega) (fun e => by cases e) (fun e => by cases e) (fun e => by cases e) (fun _ => not_or.2 ⟨by assumption, by assumption⟩) (fun _ => by assumption)
   | have hd := (i1_1.close (by omega) (by assumption) no_such_condition).1 (by omega)
   | have hd := (i1_1.done (by omega) (by omega) no_such_condition).1 (Or.imp_right Int.natCast_pos.1 (by assumption))
   | have hd := ((i1_1.done (by omega) (by omega) no_such_condition).2 (by assumption) (by omega)).1 (by omega)
   | have hd := ((i1_1.done (by omega) (by omega) no_such_condition).2 (by assumption) (by omega)).2 (by omega)
  refine JX_rets [_, _, _] (Value.tuple #[_, _, _]) Tryz.results9 (fun w h => ⟨rfl, rfl, rfl, trivial⟩) rfl [Ent.row (.slice none ([] : List Test).length 0) 40 4 ([] : List Test).length (([] : List Test).flatMap Test.enc)] (fun _ h => (h.nilrow 40 4).keep [true] rfl) ⟨none, 0, ?_, ?_⟩
  ·have e_x0 : (0 : Nat) = ((R40.parseV ws).out.length) := by first | (rw [hd]; done) | (rw [hd]; rfl)
   have e_x1 : (0 : Int) = ((R40.parseV ws).at_) := by first | (rw [hd]; done) | (rw [hd]; rfl)
   have e_x2 : (0 : Int) = ((R40.parseV ws).e) := by first | (rw [hd]; done) | (rw [hd]; rfl)
   have e_all := (congr (congr (congrArg (fun (x0 : Nat) (x1 : Int) (x2 : Int) => Value.tuple #[vL none x0 0, vI x1, vI x2]) e_x0) e_x1) e_x2)
   exact e_all
  ·have e_y0 : (([] : List Test) : List Test) = (R40.parseV ws).out := by
    first | (rw [hd]; done) | (rw [hd]; rfl)
   have e_all := (congrArg (fun (y0 : List Test) => [Ent.row (.slice none y0.length 0) 40 4 y0.length (y0.flatMap Test.enc)]) e_y0)
   exact e_all
 ·refine sk_ (n_ (q_ (g_ (o_ (O_buildSlice0 Tryz.underlying23 Ty.sz40 fun b2 => ?_)))))
  refine s_ av_ (z_ (n_ (q_ (g_ (o_ (O_buildSlice0 Tryz.underlying22 Ty.sz9 fun b3 => ?_))))))
  refine s_ av_ (z_ (n_ (q_ (g_ (s_ av_ (z_ (n_ (q_ (q_ (g_ (s_ av_ (z_ (n_ (k_ ?_))))))))))))))
  refine J_loop (X := Nat × (List Test) × (Option Addr) × Nat × (List Bytes) × (Option Addr) × Nat × Bool) (fun (⟨i, out, outA, outC, op, opA, opC, b⟩ : Nat × (List Test) × (Option Addr) × Nat × (List Bytes) × (Option Addr) × Nat × Bool) => (i ≤ ws.length) ∧ (R40.MaJ ws i out op b) ∧ (out.length + op.length ≤ i)) (fun (⟨i, out, outA, outC, op, opA, opC, b⟩ : Nat × (List Test) × (Option Addr) × Nat × (List Bytes) × (Option Addr) × Nat × Bool) => [(0, vL wsA ws.length wsC), (5, vL outA out.length outC), (6, vL opA op.length opC), (7, vB b), (8, vI ((i : Nat) : Int))]) (fun (⟨i, out, outA, outC, op, opA, opC, b⟩ : Nat × (List Test) × (Option Addr) × Nat × (List Bytes) × (Option Addr) × Nat × Bool) => [Ent.row (.slice outA out.length outC) 40 4 out.length (out.flatMap Test.enc), Ent.row (.slice opA op.length opC) 9 1 op.length (op.map vS)]) (fun (⟨i, out, outA, outC, op, opA, opC, b⟩ : Nat × (List Test) × (Option Addr) × Nat × (List Bytes) × (Option Addr) × Nat × Bool) => ws.length - i) ((0, ([] : List Test), (some ⟨b2, 0, none⟩), 0, ([] : List Bytes), (some ⟨b3, 0, none⟩), 0, true) : Nat × (List Test) × (Option Addr) × Nat × (List Bytes) × (Option Addr) × Nat × Bool) ?_ ⟨rfl, rfl, rfl, rfl, rfl, trivial⟩ (fun _ h => (St.torow (cs := []) ((St.torow (cs := []) h 1 0 rfl (by decide)).front 1 _ rfl) 4 0 rfl (by decide)).keep [true, true] rfl) ?_
  ·try dsimp only
   refine ⟨?_, ?_, ?_⟩
   ·exact Nat.zero_le _
   ·exact R40.MaJ.start
   ·exact Nat.zero_le _
  rintro ⟨i, out, outA, outC, op, opA, opC, b⟩ hI1
  obtain ⟨i1_0, i1_1, i1_2⟩ := hI1
  try dsimp only at i1_0
  try dsimp only at i1_1
  try dsimp only at i1_2
  have hwk := q1 i
  try dsimp only
  refine q_ (q_ (g_ (s_ mv_ (s_ mv_ (s_ (lnS Tryz.underlying22) (s_ (x_lss_i rfl rfl) (z_ (n_ ?_))))))))
  refine ifd (fun h4w h4 => ?_) (fun h4w h4 => ?_)
  ·refine sk_ (n_ (q_ (k_ (q_ ?_))))
   rcases Bool.eq_false_or_eq_true b with hb | hb
   ·subst hb
    refine g_ (s_ mv_ (s_ mv_ (r_ (ixM (cells_ro wsR) Tryz.underlying22 Ty.sz9) (r_ (ldM vS [] (cells_ro wsR) Ty.sc9) (s_ av_ (z_ (n_ (k_ (q_ (g_ (s_ mv_ (s_ mv_ (sg_ rfl mv_ ?_)))))))))))))
    refine jg_ rfl (vB (decide ((ws.getD i []) = ([110, 111, 116] : Bytes)))) (x_eql_s rfl rfl) (sg_ rfl mv_ ?_)
    refine or_ 2 (decide ((ws.getD i []) = ([40] : Bytes))) (fun g5 => ?_) ?_ (hw := by exact ⟨_, rfl, rfl⟩)
    ·have g5r := g5
     have g5r := of_decide_eq_false g5r
     refine sg_ g5 mv_ (jg_ g5 (vB (decide ((ws.getD i []) = ([40] : Bytes)))) (x_eql_s rfl rfl) ?_)
     exact cr_
    refine jr_ (vB ((decide ((ws.getD i []) = ([110, 111, 116] : Bytes))) || (decide ((ws.getD i []) = ([40] : Bytes))))) (s_ av_ (z_ (xk_ [0, 5, 6, 7, 8, 9, 28] ?_)))
    refine n_ ?_
    refine if_ (fun h6 => ?_) (fun h6 => ?_)
    ·have h6w := h6
     simp only [Bool.and_eq_true, Bool.or_eq_true, Bool.and_eq_false_iff, Bool.or_eq_false_iff, Bool.not_eq_true', Bool.not_eq_false', decide_eq_true_eq, decide_eq_false_iff_not] at h6
     refine g_ (s_ mv_ (s_ mv_ (o_ (O_buildSlice (cs := [vS (ws.getD i [])]) Tryz.underlying22 Ty.sz9 Ty.ze9 (by decide) (by decide) (by kernel_rfl) fun b7 => ?_))))
     refine o_ (O_append_m 2 vS op [(ws.getD i [])] Tryz.underlying22 Ty.sz9 Ty.by9 Ty.ze9 rfl rfl rfl rfl rfl (fun _ => rfl) (cells_blk 0 (off := 0) (m := 1) rfl rfl) lt_ lt_ fun A8 c9 => ?_)
     refine s_ av_ (z_ (kx_ (kx_ (n_ (g_ (s_ mv_ (s_ (x_add_n (a := i) (b := 1) rfl rfl (by omega)) (s_ av_ (z_ ?_)))))))))
     refine JX_round ((i + 1, out, outA, outC, op ++ [(ws.getD i [])], A8, c9, true) : Nat × (List Test) × (Option Addr) × Nat × (List Bytes) × (Option Addr) × Nat × Bool) ?_ ?_ ⟨rfl, rfl, rfl, rfl, rfl, trivial⟩ (fun _ h => h.keep [false, true, true] rfl)
     ·try dsimp only
      refine ⟨?_, ?_, ?_⟩
      ·omega
      ·exact c40t3_
      ·try have hrl := (no_such_condition).2
       exact c40t0_
     ·try dsimp only
      first | omega | (simp; omega) | (simp_all; omega)
    ·have h6w := h6
     have ⟨h6, h10⟩ := bor_false h6
     have h6 := of_decide_eq_false h6
     have h10 := of_decide_eq_false h10
     refine q_ (g_ (s_ mv_ (s_ mv_ (sg_ rfl mv_ (jg_ rfl (vB (decide ((ws.getD i []) = ([102, 97, 105, 108, 101, 100] : Bytes)))) (x_eql_s rfl rfl) (jr_ (vB (decide ((ws.getD i []) = ([102, 97, 105, 108, 101, 100] : Bytes)))) (s_ av_ (z_ (n_ ?_)))))))))
     refine ifd (fun h11w h11 => ?_) (fun h11w h11 => ?_)
     ·refine g_ (s_ mv_ (js_ (vG [vI 3, vS [], vI 0, vI 0]) (x_build (by kernel_rfl)) (o_ (O_buildSlice (cs := [vI 3, vS [], vI 0, vI 0]) Tryz.underlying23 Ty.sz40 Ty.ze40 (by decide) (by decide) (by kernel_rfl) fun b12 => ?_))))
      refine o_ (O_append_f 1 Test.enc 4 out [(Test.mk 3 [] 0 0)] Tryz.underlying23 Ty.sz40 Ty.by40 Ty.ze40 rfl (by decide) rfl rfl rfl rfl Test.enc_len Test.enc_one (cells_blk 0 (off := 0) (m := 4) rfl rfl) lt_ lt_ fun A13 c14 => ?_)
      refine s_ av_ (s_ av_ (z_ (kx_ (kx_ (n_ (g_ (s_ mv_ (s_ (x_add_n (a := i) (b := 1) rfl rfl (by omega)) (s_ av_ (z_ ?_))))))))))
      refine JX_round ((i + 1, out ++ [(Test.mk 3 [] 0 0)], A13, c14, op, opA, opC, false) : Nat × (List Test) × (Option Addr) × Nat × (List Bytes) × (Option Addr) × Nat × Bool) ?_ ?_ ⟨rfl, rfl, rfl, rfl, rfl, trivial⟩ (fun _ h => h.keep [false, true, true] rfl)
      ·try dsimp only
       refine ⟨?_, ?_, ?_⟩
       ·omega
       ·exact c40t3_
       ·try have hrl := (no_such_condition).2
        exact c40t0_
      ·try dsimp only
       first | omega | (simp; omega) | (simp_all; omega)
     ·refine q_ (g_ (s_ mv_ (s_ mv_ (sg_ rfl mv_ (c0g rfl (cl_ Ty.ca22) (fun w hS => f22_ok _ w hy_) (jr_ (vB (R40.stepV (ws.getD i []))) (s_ av_ (z_ (n_ ?_)))))))))
      refine if_ (fun h15 => ?_) (fun h15 => ?_)
      ·have h15w := h15
       refine q_ (g_ (s_ mv_ (s_ mv_ (s_ (x_subrow (lo := i) (hi := ws.length) rfl Tryz.underlying22 Ty.sz9 (.inl rfl) (.inr ⟨rfl, rfl⟩) lt_ lt_) ?_))))
       have hro16 := RO.subM wsR wsC i (ws.length - i) lt_
       rw [show ws.length - i = (ws.drop i).length from List.length_drop.symm, List.take_length] at hro16
       refine JO_weaken (E' := [(0, vL wsA ws.length wsC), (5, vL outA out.length outC), (6, vL opA op.length opC), (7, vB true), (8, vI ((i : Nat) : Int)), (9, vS (ws.getD i [])), (28, vB ((decide ((ws.getD i []) = ([110, 111, 116] : Bytes))) || (decide ((ws.getD i []) = ([40] : Bytes))))), (43, vB true), (44, vB true), (45, vS (ws.getD i [])), (46, vB (decide ((ws.getD i []) = ([102, 97, 105, 108, 101, 100] : Bytes)))), (47, vB (decide ((ws.getD i []) = ([102, 97, 105, 108, 101, 100] : Bytes)))), (42, vB (decide ((ws.getD i []) = ([102, 97, 105, 108, 101, 100] : Bytes)))), (53, vB true), (54, vB true), (55, vS (ws.getD i [])), (56, vB (R40.stepV (ws.getD i []))), (57, vB (R40.stepV (ws.getD i []))), (52, vB (R40.stepV (ws.getD i []))), (59, vL wsA ws.length wsC), (60, vI ((i : Nat) : Int)), (61, vL (subA wsA wsC i 1) ((ws.drop i).length) (wsC - i))]) (L' := [Ent.row (.slice outA out.length outC) 40 4 out.length (out.flatMap Test.enc), Ent.row (.slice opA op.length opC) 9 1 op.length (op.map vS)]) ⟨rfl, rfl, rfl, rfl, rfl, rfl, rfl, rfl, rfl, rfl, rfl, rfl, rfl, rfl, rfl, rfl, rfl, rfl, rfl, rfl, rfl, (congrArg (fun n : Nat => some (Value.slice (subA wsA wsC i 1) n (wsC - i))) (by exact List.length_drop.symm)), trivial⟩ (fun _ h => h) ?_
       refine c1 (cl_ Ty.ca23) (fun w hS => f23_ok _ _ _ w (rno hro16 hS) hy_ hy_ (by exact R40.drop_short q1 i)) ?_
       rintro _ _ ⟨tk17, tw18, tp19, tn20, z21, rfl, rfl, hf22⟩
       refine s_ mv_ (s_ (ex_ 0) (s_ (ex_ 1) (o_ (al_ Ty.ze40 fun b23 => ?_))))
       refine o_ (stG 0 Ty.sz40 ?_)
       refine s_ av_ (z_ (xk_ [0, 5, 6, 7, 8, 10, 11] ?_))
       refine n_ (q_ (q_ (g_ (s_ mv_ (s_ (x_lss_i rfl rfl) (z_ (n_ ?_)))))))
       refine ifd (fun h24w h24 => ?_) (fun h24w h24 => ?_)
       ·have hz9 := i1_1.test_no (by omega) (not_or.2 ⟨by assumption, by assumption⟩) (by assumption) (by assumption) hf22 (by omega)
        have hz8 := hz9.2
        refine q_ (g_ (s_ mv_ (s_ mv_ (s_ (x_sub_i (a := ((i : Nat) : Int)) (b := z21) rfl rfl (by omega) (by omega)) (s_ av_ (s_ av_ (s_ av_ (z_ (n_ (rt_ (nr_ (kq_ (kq_ ?_)))))))))))))
        refine nr_ (rr_ (kq_ (nr_ ?_)))
        first
         | have hd := R40.parse_nil (ws := ws) (by omega)
         | have hd := hz9.1
         | have hd := i1_1.no (by omega) (fun _ => not_or.2 ⟨by assumption, by assumption⟩) (fun _ => by assumption) (fun _ => Bool.eq_false_iff.1 (by assumption)) (fun e => by cases e) (fun e => by cases e)
         | have hd := i1_1.no (by omega) (fun e => by cases e) (fun e => by cases e) (fun e => by cases e) (fun _ => not_or.2 ⟨by assumption, by assumption⟩) (fun _ => by assumption)
         | have hd := (i1_1.close (by omega) (by assumption) no_such_condition).1 (by omega)
         | have hd := (i1_1.done (by omega) (by omega) no_such_condition).1 (Or.imp_right Int.natCast_pos.1 (by assumption))
         | have hd := ((i1_1.done (by omega) (by omega) no_such_condition).2 (by assumption) (by omega)).1 (by omega)
         | have hd := ((i1_1.done (by omega) (by omega) no_such_condition).2 (by assumption) (by omega)).2 (by omega)
        refine JX_rets [_, _, _] (Value.tuple #[_, _, _]) Tryz.results9 (fun w h => ⟨rfl, rfl, rfl, trivial⟩) rfl [Ent.row (.slice none ([] : List Test).length 0) 40 4 ([] : List Test).length (([] : List Test).flatMap Test.enc)] (fun _ h => (h.nilrow 40 4).keep [true, false, false, false] rfl) ⟨none, 0, ?_, ?_⟩
        ·have e_x0 : (0 : Nat) = ((R40.parseV ws).out.length) := by first | (rw [hd]; done) | (rw [hd]; rfl)
         have e_x1 : (((i : Nat) : Int) - z21 : Int) = ((R40.parseV ws).at_) := by first | (rw [hd]; done) | (rw [hd]; rfl)
         have e_x2 : (3 : Int) = ((R40.parseV ws).e) := by first | (rw [hd]; done) | (rw [hd]; rfl)
         have e_all := (congr (congr (congrArg (fun (x0 : Nat) (x1 : Int) (x2 : Int) => Value.tuple #[vL none x0 0, vI x1, vI x2]) e_x0) e_x1) e_x2)
         exact e_all
        ·have e_y0 : (([] : List Test) : List Test) = (R40.parseV ws).out := by
          first | (rw [hd]; done) | (rw [hd]; rfl)
         have e_all := (congrArg (fun (y0 : List Test) => [Ent.row (.slice none y0.length 0) 40 4 y0.length (y0.flatMap Test.enc)]) e_y0)
         exact e_all
       ·have hz9 := i1_1.test (by omega) (not_or.2 ⟨by assumption, by assumption⟩) (by assumption) (by assumption) hf22 (by omega)
        have hz8 := hz9.2
        rw [show i + z21.toNat = i + z21.toNat - 1 + 1 by omega] at hz9
        refine sk_ (n_ (g_ (s_ mv_ (r_ (ldN 0 [vI tk17, vS tw18, vI tp19, vI tn20] Ty.ag40 Ty.sz40) (o_ (O_buildSlice (cs := [vI tk17, vS tw18, vI tp19, vI tn20]) Tryz.underlying23 Ty.sz40 Ty.ze40 (by decide) (by decide) (by kernel_rfl) fun b25 => ?_))))))
        refine o_ (O_append_f 2 Test.enc 4 out [(Test.mk tk17 tw18 tp19 tn20)] Tryz.underlying23 Ty.sz40 Ty.by40 Ty.ze40 rfl (by decide) rfl rfl rfl rfl Test.enc_len Test.enc_one (cells_blk 0 (off := 0) (m := 4) rfl rfl) lt_ lt_ fun A26 c27 => ?_)
        refine s_ mv_ (s_ mv_ (s_ (x_add_i (a := ((i : Nat) : Int)) (b := z21) rfl rfl (by omega) (by omega)) (s_ (x_sub_i (a := ((i : Nat) : Int) + z21) (b := 1) rfl rfl (by omega) (by omega)) ?_)))
        refine sn_ (b := ((i + z21.toNat - 1 : Nat) : Int)) lt_ ?_
        refine s_ av_ (s_ av_ (s_ av_ (z_ (kx_ (kx_ (n_ (g_ (s_ mv_ (s_ (x_add_n (a := i + z21.toNat - 1) (b := 1) rfl rfl (by omega)) (s_ av_ (z_ ?_)))))))))))
        refine JX_round (((i + z21.toNat - 1) + 1, out ++ [(Test.mk tk17 tw18 tp19 tn20)], A26, c27, op, opA, opC, false) : Nat × (List Test) × (Option Addr) × Nat × (List Bytes) × (Option Addr) × Nat × Bool) ?_ ?_ ⟨rfl, rfl, rfl, rfl, rfl, trivial⟩ (fun _ h => h.keep [false, false, true, true] rfl)
        ·try dsimp only
         refine ⟨?_, ?_, ?_⟩
         ·omega
         ·exact c40t3_
         ·try have hrl := (no_such_condition).2
          exact c40t0_
        ·try dsimp only
         first | omega | (simp; omega) | (simp_all; omega)
      ·have h15w := h15
       refine q_ (g_ (s_ mv_ (jr_ (vB false) (s_ mv_ (sh_ rfl (sh_ rfl (sh_ rfl ?_)))))))
       refine JO_shunU rfl ⟨_, rfl, rfl⟩ ?_
       refine JO_shunU rfl ⟨_, rfl, rfl⟩ ?_
       refine sh_ rfl (jr_ (vB false) (s_ av_ (z_ (xk_ [0, 5, 6, 7, 8, 9, 78] ?_))))
       refine n_ (iff_ (q_ (g_ (s_ mv_ (jr_ (vB false) (s_ mv_ (sh_ rfl (sh_ rfl (jr_ (vB false) (s_ av_ (z_ (n_ (iff_ (q_ (g_ (s_ mv_ ?_))))))))))))))))
       refine s_ av_ (s_ av_ (s_ av_ (z_ (n_ (rt_ (kq_ (kq_ (nr_ (rr_ (kq_ (nr_ ?_)))))))))))
       first
        | have hd := R40.parse_nil (ws := ws) (by omega)
        | have hd := hz9.1
        | have hd := i1_1.no (by omega) (fun _ => not_or.2 ⟨by assumption, by assumption⟩) (fun _ => by assumption) (fun _ => Bool.eq_false_iff.1 (by assumption)) (fun e => by cases e) (fun e => by cases e)
        | have hd := i1_1.no (by omega) (fun e => by cases e) (fun e => by cases e) (fun e => by cases e) (fun _ => not_or.2 ⟨by assumption, by assumption⟩) (fun _ => by assumption)
        | have hd := (i1_1.close (by omega) (by assumption) no_such_condition).1 (by omega)
        | have hd := (i1_1.done (by omega) (by omega) no_such_condition).1 (Or.imp_right Int.natCast_pos.1 (by assumption))
        | have hd := ((i1_1.done (by omega) (by omega) no_such_condition).2 (by assumption) (by omega)).1 (by omega)
        | have hd := ((i1_1.done (by omega) (by omega) no_such_condition).2 (by assumption) (by omega)).2 (by omega)
       refine JX_rets [_, _, _] (Value.tuple #[_, _, _]) Tryz.results9 (fun w h => ⟨rfl, rfl, rfl, trivial⟩) rfl [Ent.row (.slice none ([] : List Test).length 0) 40 4 ([] : List Test).length (([] : List Test).flatMap Test.enc)] (fun _ h => (h.nilrow 40 4).keep [true, false, false] rfl) ⟨none, 0, ?_, ?_⟩
       ·have e_x0 : (0 : Nat) = ((R40.parseV ws).out.length) := by first | (rw [hd]; done) | (rw [hd]; rfl)
        have e_x1 : (((i : Nat) : Int) : Int) = ((R40.parseV ws).at_) := by first | (rw [hd]; done) | (rw [hd]; rfl)
        have e_x2 : (3 : Int) = ((R40.parseV ws).e) := by first | (rw [hd]; done) | (rw [hd]; rfl)
        have e_all := (congr (congr (congrArg (fun (x0 : Nat) (x1 : Int) (x2 : Int) => Value.tuple #[vL none x0 0, vI x1, vI x2]) e_x0) e_x1) e_x2)
        exact e_all
       ·have e_y0 : (([] : List Test) : List Test) = (R40.parseV ws).out := by
         first | (rw [hd]; done) | (rw [hd]; rfl)
        have e_all := (congrArg (fun (y0 : List Test) => [Ent.row (.slice none y0.length 0) 40 4 y0.length (y0.flatMap Test.enc)]) e_y0)
        exact e_all
   ·subst hb
    refine g_ (s_ mv_ (s_ mv_ (r_ (ixM (cells_ro wsR) Tryz.underlying22 Ty.sz9) (r_ (ldM vS [] (cells_ro wsR) Ty.sc9) (s_ av_ (z_ (n_ (k_ (q_ (g_ (s_ mv_ (s_ mv_ (sh_ rfl ?_)))))))))))))
    refine sh_ rfl (sh_ rfl ?_)
    refine JO_shunU rfl ⟨_, rfl, rfl⟩ ?_
    refine JO_shunU rfl ⟨_, rfl, rfl⟩ ?_
    refine sh_ rfl (jr_ (vB false) (s_ av_ (z_ (xk_ [0, 5, 6, 7, 8, 9, 28] ?_))))
    refine n_ (iff_ (q_ (g_ (s_ mv_ (s_ mv_ (sh_ rfl (sh_ rfl (jr_ (vB false) (s_ av_ (z_ (n_ (iff_ (q_ (g_ (s_ mv_ (s_ mv_ ?_))))))))))))))))
    refine sh_ rfl (sh_ rfl (jr_ (vB false) (s_ av_ (z_ (n_ (iff_ (q_ (g_ (s_ mv_ (jr_ (vB true) (s_ mv_ (sg_ rfl mv_ (jg_ rfl (vB (decide ((ws.getD i []) = ([97, 110, 100] : Bytes)))) (x_eql_s rfl rfl) ?_)))))))))))))
    refine sg_ rfl mv_ ?_
    refine or_ 2 (decide ((ws.getD i []) = ([111, 114] : Bytes))) (fun g28 => ?_) ?_ (hw := by exact ⟨_, rfl, rfl⟩)
    ·have g28r := g28
     have g28r := of_decide_eq_false g28r
     refine sg_ g28 mv_ (jg_ g28 (vB (decide ((ws.getD i []) = ([111, 114] : Bytes)))) (x_eql_s rfl rfl) ?_)
     exact cr_
    refine jr_ (vB ((decide ((ws.getD i []) = ([97, 110, 100] : Bytes))) || (decide ((ws.getD i []) = ([111, 114] : Bytes))))) (s_ av_ (z_ (xk_ [0, 5, 6, 7, 8, 9, 78] ?_)))
    refine n_ ?_
    refine if_ (fun h29 => ?_) (fun h29 => ?_)
    ·have h29w := h29
     simp only [Bool.and_eq_true, Bool.or_eq_true, Bool.and_eq_false_iff, Bool.or_eq_false_iff, Bool.not_eq_true', Bool.not_eq_false', decide_eq_true_eq, decide_eq_false_iff_not] at h29
     refine q_ (g_ (s_ mv_ (s_ mv_ (s_ mv_ (js_ (vB (decide ((ws.getD i []) = ([111, 114] : Bytes)))) (x_eql_s rfl rfl) ?_)))))
     refine JO_call (Lown [Ent.row (.slice outA out.length outC) 40 4 out.length (out.flatMap Test.enc), Ent.row (.slice opA op.length opC) 9 1 op.length (op.map vS)]) [Ent.row (.slice outA out.length outC) 40 4 out.length (out.flatMap Test.enc), Ent.row (.slice opA op.length opC) 9 1 op.length (op.map vS)] [] rfl trivial (fun _ => x_call Ty.ca24 rfl) (fun _ h => h) lown_mem (fun w hS => f24_ok out outA outC out.length op opA opC op.length (decide ((ws.getD i []) = ([111, 114] : Bytes))) w hy_ hy_ hy_ (hS.give lown_in)) ?_
     rintro _ _ ⟨y30, yA31, yC32, p33, pA34, pC35, rfl, rfl, hf36⟩
     have ha37 := (hf36).2
     refine s_ mv_ (s_ (ex_ 0) (s_ (ex_ 1) (s_ av_ (s_ av_ (z_ (n_ (g_ (s_ mv_ (s_ mv_ (o_ (O_buildSlice (cs := [vS (ws.getD i [])]) Tryz.underlying22 Ty.sz9 Ty.ze9 (by decide) (by decide) (by kernel_rfl) fun b38 => ?_)))))))))))
     refine o_ (O_append_m 2 vS p33 [(ws.getD i [])] Tryz.underlying22 Ty.sz9 Ty.by9 Ty.ze9 rfl rfl rfl rfl rfl (fun _ => rfl) (cells_blk 0 (off := 0) (m := 1) rfl rfl) lt_ lt_ fun A39 c40 => ?_)
     refine s_ av_ (s_ av_ (z_ (kx_ (kx_ (n_ (g_ (s_ mv_ (s_ (x_add_n (a := i) (b := 1) rfl rfl (by omega)) (s_ av_ (z_ ?_))))))))))
     refine JX_round ((i + 1, y30, yA31, yC32, p33 ++ [(ws.getD i [])], A39, c40, true) : Nat × (List Test) × (Option Addr) × Nat × (List Bytes) × (Option Addr) × Nat × Bool) ?_ ?_ ⟨rfl, rfl, rfl, rfl, rfl, trivial⟩ (fun _ h => h.keep [false, true, true] rfl)
     ·try dsimp only
      refine ⟨?_, ?_, ?_⟩
      ·omega
      ·first | exact i1_1.open_ (by omega) (by assumption) | exact i1_1.failed (by omega) (by assumption) | exact hz9.1 | exact i1_1.op_ (by omega) (by assumption) hf36 | exact (i1_1.close (by omega) (by assumption) hf36).2 (by omega)
      ·try have hrl := (hf36).2
       exact c40t0_
     ·try dsimp only
      first | omega | (simp; omega) | (simp_all; omega)
    ·have h29w := h29
     have ⟨h29, h41⟩ := bor_false h29
     have h29 := of_decide_eq_false h29
     have h41 := of_decide_eq_false h41
     refine q_ (g_ (s_ mv_ (jr_ (vB true) (s_ mv_ (sg_ rfl mv_ (jg_ rfl (vB (decide ((ws.getD i []) = ([41] : Bytes)))) (x_eql_s rfl rfl) (jr_ (vB (decide ((ws.getD i []) = ([41] : Bytes)))) (s_ av_ (z_ (n_ ?_))))))))))
     refine ifd (fun h42w h42 => ?_) (fun h42w h42 => ?_)
     ·refine q_ (g_ (s_ mv_ (s_ mv_ ?_)))
      refine JO_call (Lown [Ent.row (.slice outA out.length outC) 40 4 out.length (out.flatMap Test.enc), Ent.row (.slice opA op.length opC) 9 1 op.length (op.map vS)]) [Ent.row (.slice outA out.length outC) 40 4 out.length (out.flatMap Test.enc), Ent.row (.slice opA op.length opC) 9 1 op.length (op.map vS)] [] rfl trivial (fun _ => x_call Ty.ca24 rfl) (fun _ h => h) lown_mem (fun w hS => f24_ok out outA outC out.length op opA opC op.length true w hy_ hy_ hy_ (hS.give lown_in)) ?_
      rintro _ _ ⟨y43, yA44, yC45, p46, pA47, pC48, rfl, rfl, hf49⟩
      have ha50 := (hf49).2
      refine s_ mv_ (s_ (ex_ 0) (s_ (ex_ 1) (s_ av_ (s_ av_ (z_ (n_ (q_ (q_ (g_ (s_ mv_ (s_ (lnS Tryz.underlying22) (s_ (x_eql_i rfl rfl) (z_ ?_)))))))))))))
      refine xk_ [0, 5, 6, 7, 8, 116] ?_
      refine n_ ?_
      refine ifd (fun h51w h51 => ?_) (fun h51w h51 => ?_)
      ·refine q_ (g_ (s_ mv_ (s_ av_ (s_ av_ (s_ av_ (z_ (n_ (rt_ (nr_ (kq_ (kq_ (nr_ (rr_ (kq_ ?_))))))))))))))
       refine nr_ ?_
       first
        | have hd := R40.parse_nil (ws := ws) (by omega)
        | have hd := hz9.1
        | have hd := i1_1.no (by omega) (fun _ => not_or.2 ⟨by assumption, by assumption⟩) (fun _ => by assumption) (fun _ => Bool.eq_false_iff.1 (by assumption)) (fun e => by cases e) (fun e => by cases e)
        | have hd := i1_1.no (by omega) (fun e => by cases e) (fun e => by cases e) (fun e => by cases e) (fun _ => not_or.2 ⟨by assumption, by assumption⟩) (fun _ => by assumption)
        | have hd := (i1_1.close (by omega) (by assumption) hf49).1 (by omega)
        | have hd := (i1_1.done (by omega) (by omega) hf49).1 (Or.imp_right Int.natCast_pos.1 (by assumption))
        | have hd := ((i1_1.done (by omega) (by omega) hf49).2 (by assumption) (by omega)).1 (by omega)
        | have hd := ((i1_1.done (by omega) (by omega) hf49).2 (by assumption) (by omega)).2 (by omega)
       refine JX_rets [_, _, _] (Value.tuple #[_, _, _]) Tryz.results9 (fun w h => ⟨rfl, rfl, rfl, trivial⟩) rfl [Ent.row (.slice none ([] : List Test).length 0) 40 4 ([] : List Test).length (([] : List Test).flatMap Test.enc)] (fun _ h => (h.nilrow 40 4).keep [true, false, false] rfl) ⟨none, 0, ?_, ?_⟩
       ·have e_x0 : (0 : Nat) = ((R40.parseV ws).out.length) := by first | (rw [hd]; done) | (rw [hd]; rfl)
        have e_x1 : (((i : Nat) : Int) : Int) = ((R40.parseV ws).at_) := by first | (rw [hd]; done) | (rw [hd]; rfl)
        have e_x2 : (3 : Int) = ((R40.parseV ws).e) := by first | (rw [hd]; done) | (rw [hd]; rfl)
        have e_all := (congr (congr (congrArg (fun (x0 : Nat) (x1 : Int) (x2 : Int) => Value.tuple #[vL none x0 0, vI x1, vI x2]) e_x0) e_x1) e_x2)
        exact e_all
       ·have e_y0 : (([] : List Test) : List Test) = (R40.parseV ws).out := by
         first | (rw [hd]; done) | (rw [hd]; rfl)
        have e_all := (congrArg (fun (y0 : List Test) => [Ent.row (.slice none y0.length 0) 40 4 y0.length (y0.flatMap Test.enc)]) e_y0)
        exact e_all
      ·refine sk_ (n_ (g_ (s_ mv_ (s_ mv_ (s_ (lnS Tryz.underlying22) (s_ (x_sub_i (a := ((p46.length : Nat) : Int)) (b := 1) rfl rfl (by omega) (by omega)) ?_))))))
       refine JO_read (vL pA47 (p46.length - 1) pC48) rfl trivial (x_head_row 1 rfl rfl Tryz.underlying22 Ty.sz9 (congrArg some (ix_nat rfl (by omega))) lt_) ?_
       refine JO_weaken (E' := [(0, vL wsA ws.length wsC), (5, vL yA44 y43.length yC45), (7, vB false), (8, vI ((i : Nat) : Int)), (116, vB (decide (((p46.length : Nat) : Int) = 0))), (120, vI ((p46.length : Nat) : Int)), (121, vI (((p46.length : Nat) : Int) - 1)), (122, vL pA47 ((p46.take (p46.length - 1)).length) pC48)]) (L' := [Ent.row (.slice yA44 y43.length yC45) 40 4 y43.length (y43.flatMap Test.enc), Ent.row (.slice pA47 (p46.take (p46.length - 1)).length pC48) 9 1 (p46.take (p46.length - 1)).length ((p46.take (p46.length - 1)).map vS)]) ⟨rfl, rfl, rfl, rfl, rfl, rfl, rfl, (congrArg (fun n : Nat => some (Value.slice pA47 n pC48)) (take_len lt_)), trivial⟩ (fun _ h => truncL h 1 rfl rfl lt_ (by rw [Nat.mul_one, List.map_take]) (take_len lt_)) ?_
       refine s_ av_ (z_ (kx_ (kx_ (n_ (g_ (s_ mv_ (s_ (x_add_n (a := i) (b := 1) rfl rfl (by omega)) (s_ av_ (z_ ?_)))))))))
       refine JX_round ((i + 1, y43, yA44, yC45, (p46.take (p46.length - 1)), pA47, pC48, false) : Nat × (List Test) × (Option Addr) × Nat × (List Bytes) × (Option Addr) × Nat × Bool) ?_ ?_ ⟨rfl, rfl, rfl, rfl, rfl, trivial⟩ (fun _ h => h)
       ·try dsimp only
        refine ⟨?_, ?_, ?_⟩
        ·omega
        ·first | exact i1_1.open_ (by omega) (by assumption) | exact i1_1.failed (by omega) (by assumption) | exact hz9.1 | exact i1_1.op_ (by omega) (by assumption) hf49 | exact (i1_1.close (by omega) (by assumption) hf49).2 (by omega)
        ·try have hrl := (hf49).2
         exact c40t0_
       ·try dsimp only
        first | omega | (simp; omega) | (simp_all; omega)
     ·refine q_ (g_ (s_ mv_ (s_ av_ (s_ av_ (s_ av_ (z_ (n_ (rt_ (kq_ (kq_ (nr_ (rr_ (kq_ ?_)))))))))))))
      refine nr_ ?_
      first
       | have hd := R40.parse_nil (ws := ws) (by omega)
       | have hd := hz9.1
       | have hd := i1_1.no (by omega) (fun _ => not_or.2 ⟨by assumption, by assumption⟩) (fun _ => by assumption) (fun _ => Bool.eq_false_iff.1 (by assumption)) (fun e => by cases e) (fun e => by cases e)
       | have hd := i1_1.no (by omega) (fun e => by cases e) (fun e => by cases e) (fun e => by cases e) (fun _ => not_or.2 ⟨by assumption, by assumption⟩) (fun _ => by assumption)
       | have hd := (i1_1.close (by omega) (by assumption) no_such_condition).1 (by omega)
       | have hd := (i1_1.done (by omega) (by omega) no_such_condition).1 (Or.imp_right Int.natCast_pos.1 (by assumption))
       | have hd := ((i1_1.done (by omega) (by omega) no_such_condition).2 (by assumption) (by omega)).1 (by omega)
       | have hd := ((i1_1.done (by omega) (by omega) no_such_condition).2 (by assumption) (by omega)).2 (by omega)
      refine JX_rets [_, _, _] (Value.tuple #[_, _, _]) Tryz.results9 (fun w h => ⟨rfl, rfl, rfl, trivial⟩) rfl [Ent.row (.slice none ([] : List Test).length 0) 40 4 ([] : List Test).length (([] : List Test).flatMap Test.enc)] (fun _ h => (h.nilrow 40 4).keep [true, false, false] rfl) ⟨none, 0, ?_, ?_⟩
      ·have e_x0 : (0 : Nat) = ((R40.parseV ws).out.length) := by first | (rw [hd]; done) | (rw [hd]; rfl)
       have e_x1 : (((i : Nat) : Int) : Int) = ((R40.parseV ws).at_) := by first | (rw [hd]; done) | (rw [hd]; rfl)
       have e_x2 : (3 : Int) = ((R40.parseV ws).e) := by first | (rw [hd]; done) | (rw [hd]; rfl)
       have e_all := (congr (congr (congrArg (fun (x0 : Nat) (x1 : Int) (x2 : Int) => Value.tuple #[vL none x0 0, vI x1, vI x2]) e_x0) e_x1) e_x2)
       exact e_all
      ·have e_y0 : (([] : List Test) : List Test) = (R40.parseV ws).out := by
        first | (rw [hd]; done) | (rw [hd]; rfl)
       have e_all := (congrArg (fun (y0 : List Test) => [Ent.row (.slice none y0.length 0) 40 4 y0.length (y0.flatMap Test.enc)]) e_y0)
       exact e_all
  ·refine J_exit (ne_ (re_ (kh_ (n_ (q_ ?_)))))
   refine g_ (s_ mv_ (s_ mv_ ?_))
   refine JO_call (Lown [Ent.row (.slice outA out.length outC) 40 4 out.length (out.flatMap Test.enc), Ent.row (.slice opA op.length opC) 9 1 op.length (op.map vS)]) [Ent.row (.slice outA out.length outC) 40 4 out.length (out.flatMap Test.enc), Ent.row (.slice opA op.length opC) 9 1 op.length (op.map vS)] [] rfl trivial (fun _ => x_call Ty.ca24 rfl) (fun _ h => h) lown_mem (fun w hS => f24_ok out outA outC out.length op opA opC op.length true w hy_ hy_ hy_ (hS.give lown_in)) ?_
   rintro _ _ ⟨y52, yA53, yC54, p55, pA56, pC57, rfl, rfl, hf58⟩
   have ha59 := (hf58).2
   refine s_ mv_ (s_ (ex_ 0) (s_ (ex_ 1) (s_ av_ (s_ av_ (z_ (n_ (q_ (q_ (g_ (s_ mv_ (s_ mv_ ?_)))))))))))
   refine or_ 3 (decide ((0 : Int) < ((p55.length : Nat) : Int))) (fun g60 => ?_) ?_
   ·have g60r := g60
    refine sg_ g60 mv_ (sg_ g60 (lnS Tryz.underlying22) (sg_ g60 (x_gtr_i rfl rfl) ?_))
    exact cr_
   refine z_ (n_ ?_)
   refine if_ (fun h61 => ?_) (fun h61 => ?_)
   ·have h61w := h61
    simp only [Bool.and_eq_true, Bool.or_eq_true, Bool.and_eq_false_iff, Bool.or_eq_false_iff, Bool.not_eq_true', Bool.not_eq_false', decide_eq_true_eq, decide_eq_false_iff_not] at h61
    refine q_ (g_ (s_ mv_ (s_ (lnS Tryz.underlying22) (s_ av_ (s_ av_ (s_ av_ (z_ (xk_ [5, 2, 3, 4] ?_))))))))
    refine n_ (rt_ (nr_ ?_))
    first
     | have hd := R40.parse_nil (ws := ws) (by omega)
     | have hd := hz9.1
     | have hd := i1_1.no (by omega) (fun _ => not_or.2 ⟨by assumption, by assumption⟩) (fun _ => by assumption) (fun _ => Bool.eq_false_iff.1 (by assumption)) (fun e => by cases e) (fun e => by cases e)
     | have hd := i1_1.no (by omega) (fun e => by cases e) (fun e => by cases e) (fun e => by cases e) (fun _ => not_or.2 ⟨by assumption, by assumption⟩) (fun _ => by assumption)
     | have hd := (i1_1.close (by omega) (by assumption) hf58).1 (by omega)
     | have hd := (i1_1.done (by omega) (by omega) hf58).1 (Or.imp_right Int.natCast_pos.1 (by assumption))
     | have hd := ((i1_1.done (by omega) (by omega) hf58).2 (by assumption) (by omega)).1 (by omega)
     | have hd := ((i1_1.done (by omega) (by omega) hf58).2 (by assumption) (by omega)).2 (by omega)
    refine JX_rets [_, _, _] (Value.tuple #[_, _, _]) Tryz.results9 (fun w h => ⟨rfl, rfl, rfl, trivial⟩) rfl [Ent.row (.slice none ([] : List Test).length 0) 40 4 ([] : List Test).length (([] : List Test).flatMap Test.enc)] (fun _ h => (h.nilrow 40 4).keep [true, false, false] rfl) ⟨none, 0, ?_, ?_⟩
    ·have e_x0 : (0 : Nat) = ((R40.parseV ws).out.length) := by first | (rw [hd]; done) | (rw [hd]; rfl)
     have e_x1 : (((ws.length : Nat) : Int) : Int) = ((R40.parseV ws).at_) := by first | (rw [hd]; done) | (rw [hd]; rfl)
     have e_x2 : (3 : Int) = ((R40.parseV ws).e) := by first | (rw [hd]; done) | (rw [hd]; rfl)
     have e_all := (congr (congr (congrArg (fun (x0 : Nat) (x1 : Int) (x2 : Int) => Value.tuple #[vL none x0 0, vI x1, vI x2]) e_x0) e_x1) e_x2)
     exact e_all
    ·have e_y0 : (([] : List Test) : List Test) = (R40.parseV ws).out := by
      first | (rw [hd]; done) | (rw [hd]; rfl)
     have e_all := (congrArg (fun (y0 : List Test) => [Ent.row (.slice none y0.length 0) 40 4 y0.length (y0.flatMap Test.enc)]) e_y0)
     exact e_all
   ·have h61w := h61
    have ⟨h61, h62⟩ := bor_false h61
    have h62 := of_decide_eq_false h62
    refine sk_ (n_ (q_ (q_ (g_ (s_ mv_ (s_ (lnS Tryz.underlying23) (s_ (x_gtr_i rfl rfl) (z_ (xk_ [5, 139] ?_)))))))))
    refine n_ ?_
    refine ifd (fun h63w h63 => ?_) (fun h63w h63 => ?_)
    ·refine q_ (g_ (s_ av_ (s_ av_ (s_ av_ (z_ (n_ (rt_ (nr_ ?_))))))))
     first
      | have hd := R40.parse_nil (ws := ws) (by omega)
      | have hd := hz9.1
      | have hd := i1_1.no (by omega) (fun _ => not_or.2 ⟨by assumption, by assumption⟩) (fun _ => by assumption) (fun _ => Bool.eq_false_iff.1 (by assumption)) (fun e => by cases e) (fun e => by cases e)
      | have hd := i1_1.no (by omega) (fun e => by cases e) (fun e => by cases e) (fun e => by cases e) (fun _ => not_or.2 ⟨by assumption, by assumption⟩) (fun _ => by assumption)
      | have hd := (i1_1.close (by omega) (by assumption) hf58).1 (by omega)
      | have hd := (i1_1.done (by omega) (by omega) hf58).1 (Or.imp_right Int.natCast_pos.1 (by assumption))
      | have hd := ((i1_1.done (by omega) (by omega) hf58).2 (by assumption) (by omega)).1 (by omega)
      | have hd := ((i1_1.done (by omega) (by omega) hf58).2 (by assumption) (by omega)).2 (by omega)
     refine JX_rets [_, _, _] (Value.tuple #[_, _, _]) Tryz.results9 (fun w h => ⟨rfl, rfl, rfl, trivial⟩) rfl [Ent.row (.slice none ([] : List Test).length 0) 40 4 ([] : List Test).length (([] : List Test).flatMap Test.enc)] (fun _ h => (h.nilrow 40 4).keep [true, false, false] rfl) ⟨none, 0, ?_, ?_⟩
     ·have e_x0 : (0 : Nat) = ((R40.parseV ws).out.length) := by first | (rw [hd]; done) | (rw [hd]; rfl)
      have e_x1 : (0 : Int) = ((R40.parseV ws).at_) := by first | (rw [hd]; done) | (rw [hd]; rfl)
      have e_x2 : (8 : Int) = ((R40.parseV ws).e) := by first | (rw [hd]; done) | (rw [hd]; rfl)
      have e_all := (congr (congr (congrArg (fun (x0 : Nat) (x1 : Int) (x2 : Int) => Value.tuple #[vL none x0 0, vI x1, vI x2]) e_x0) e_x1) e_x2)
      exact e_all
     ·have e_y0 : (([] : List Test) : List Test) = (R40.parseV ws).out := by
       first | (rw [hd]; done) | (rw [hd]; rfl)
      have e_all := (congrArg (fun (y0 : List Test) => [Ent.row (.slice none y0.length 0) 40 4 y0.length (y0.flatMap Test.enc)]) e_y0)
      exact e_all
    ·refine sk_ (n_ (q_ (g_ (s_ mv_ (s_ av_ (s_ av_ (s_ av_ (z_ (n_ (rt_ ?_))))))))))
     first
      | have hd := R40.parse_nil (ws := ws) (by omega)
      | have hd := hz9.1
      | have hd := i1_1.no (by omega) (fun _ => not_or.2 ⟨by assumption, by assumption⟩) (fun _ => by assumption) (fun _ => Bool.eq_false_iff.1 (by assumption)) (fun e => by cases e) (fun e => by cases e)
      | have hd := i1_1.no (by omega) (fun e => by cases e) (fun e => by cases e) (fun e => by cases e) (fun _ => not_or.2 ⟨by assumption, by assumption⟩) (fun _ => by assumption)
      | have hd := (i1_1.close (by omega) (by assumption) hf58).1 (by omega)
      | have hd := (i1_1.done (by omega) (by omega) hf58).1 (Or.imp_right Int.natCast_pos.1 (by assumption))
      | have hd := ((i1_1.done (by omega) (by omega) hf58).2 (by assumption) (by omega)).1 (by omega)
      | have hd := ((i1_1.done (by omega) (by omega) hf58).2 (by assumption) (by omega)).2 (by omega)
     refine JX_rets [_, _, _] (Value.tuple #[_, _, _]) Tryz.results9 (fun w h => ⟨rfl, rfl, rfl, trivial⟩) rfl _ (fun _ h => h.keep [true, false] rfl) ⟨yA53, yC54, ?_, ?_⟩
     ·have e_x0 : (y52.length : Nat) = ((R40.parseV ws).out.length) := by first | (rw [hd]; done) | (rw [hd]; rfl)
      have e_x1 : (0 : Int) = ((R40.parseV ws).at_) := by first | (rw [hd]; done) | (rw [hd]; rfl)
      have e_x2 : (0 : Int) = ((R40.parseV ws).e) := by first | (rw [hd]; done) | (rw [hd]; rfl)
      have e_all := (congr (congr (congrArg (fun (x0 : Nat) (x1 : Int) (x2 : Int) => Value.tuple #[vL yA53 x0 yC54, vI x1, vI x2]) e_x0) e_x1) e_x2)
      exact e_all
     ·have e_y0 : (y52 : List Test) = (R40.parseV ws).out := by
       first | (rw [hd]; done) | (rw [hd]; rfl)
      have e_all := (congrArg (fun (y0 : List Test) => [Ent.row (.slice yA53 y0.length yC54) 40 4 y0.length (y0.flatMap Test.enc)]) e_y0)
      exact e_all
end Go.Proofs.YtngjdmhpljmkpaaGreatDoor
