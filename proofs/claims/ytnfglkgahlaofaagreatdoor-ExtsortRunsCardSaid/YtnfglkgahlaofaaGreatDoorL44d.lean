/- contracts L44d -/
import Derived.Test.YtnfglkgahlaofaaGreatDoorAll21
import Derived.Test.YtnfglkgahlaofaaGreatDoorAll19
import Derived.Test.YtnfglkgahlaofaaGreatDoorC44e
namespace Go.Proofs.YtnfglkgahlaofaaGreatDoor
open Go.GV
set_option linter.unusedVariables false
set_option linter.unusedSimpArgs false
theorem l44d0_ {p : Prop} (h : p := by first | omega | (have hml := R44.mergeV_len l (lists.map Rw.s); have hlf := R44.lists_few (lists := lists) (n := 20) (fun i hi => i1_1 i (by omega)); first | omega | exact hlf.2)) : p := h
theorem l44d1_ {p : Prop} (h : p := by have hlf := R44.lists_few (lists := lists) (n := 20) (fun i hi => i1_1 i (by omega)); first | omega | exact hlf.2) : p := h
set_option maxRecDepth 20000 in
theorem f3_ok (rs : List Bytes) (rsA : Option Addr) (rsC : Nat) (m : Int) (lists : List Rw) (listsA : Option Addr) (listsC : Nat) (l : List SortField) (lA : Option Addr) (lC : Nat) (w : World) (rsR : RO [] w rsA (rs.map vS)) (listsR : RO [] w listsA (lists.flatMap Rw.enc)) (listsN : ∀ i : Nat, RO [] w (lists.getD i default).sA (((lists.getD i default).s).map vS)) (lR : RO [] w lA (l.flatMap SortField.enc)) (hT : Tab [] w) (q0 : rs.length ≤ rsC ∧ rs.length ≤ 9223372036854775807) (q1 : lists.length ≤ listsC ∧ lists.length ≤ 9223372036854775807) (q2 : ∀ i, (lists.getD i default).s.length ≤ (lists.getD i default).sC ∧ (lists.getD i default).s.length ≤ 9223372036854775807) (q3 : l.length ≤ 9223372036854775807) : Calls Tryz.prog 3 #[vL rsA rs.length rsC, vI m, vL listsA lists.length listsC, vL lA l.length lC] w (Gives [] w fun v L => v = vB true ∧ L = []) := by
 refine calls_J [] 83 Tryz.func3 rfl Tryz.ntmps3 [(0, _), (1, _), (2, _), (3, _)] rfl rfl (Give.nil w) ?_
 refine q_ (g_ (s_ av_ (z_ (n_ (q_ (q_ (g_ (c0 (cl_ Ty.ca11) (fun w hS => f11_ok w (hT.on hS (fun _ h => by cases h))) (jr_ (vB false) (z_ (n_ (iff_ (sk_ (n_ (q_ (q_ (g_ (s_ mv_ (c0 (cl_ Ty.ca12) (fun w hS => f12_ok rs rsA rsC 60 w (rno rsR hS) hy_) (s_ (x_not rfl) ?_))))))))))))))))))))
 refine s_ mv_ ?_
 refine or_ 3 (decide ((8 : Int) < ((lists.length : Nat) : Int))) (fun g1 => ?_) ?_
 ·have g1r := g1
  have g1r : (R44.few rs 60) = true := bnot_false g1r
  have hi2 := R44.few_facts g1r
  refine sg_ g1 mv_ (sg_ g1 (lnS Tryz.underlying23) (sg_ g1 (x_gtr_i rfl rfl) ?_))
  exact cr_
 refine s_ mv_ ?_
 refine or_ 3 (decide ((12 : Int) < ((l.length : Nat) : Int))) (fun g3 => ?_) ?_
 ·have g3r := g3
  have ⟨g3r, h4⟩ := bor_false g3r
  have g3r : (R44.few rs 60) = true := bnot_false g3r
  have hi5 := R44.few_facts g3r
  have h4 := of_decide_eq_false h4
  refine sg_ g3 mv_ (sg_ g3 (lnS Tryz.underlying24) (sg_ g3 (x_gtr_i rfl rfl) ?_))
  exact cr_
 refine z_ (n_ ?_)
 refine if_ (fun h6 => ?_) (fun h6 => ?_)
 ·have h6w := h6
  simp only [Bool.and_eq_true, Bool.or_eq_true, Bool.and_eq_false_iff, Bool.or_eq_false_iff, Bool.not_eq_true', Bool.not_eq_false', decide_eq_true_eq, decide_eq_false_iff_not] at h6
  refine q_ (g_ (s_ av_ (z_ (n_ (rt_ (nr_ ?_))))))
  exact p1 Tryz.results3 rfl ⟨rfl, rfl⟩
 ·have h6w := h6
  have ⟨h6, h7⟩ := bor_false h6
  have ⟨h6, h8⟩ := bor_false h6
  have h6 : (R44.few rs 60) = true := bnot_false h6
  have hi9 := R44.few_facts h6
  have h8 := of_decide_eq_false h8
  have h7 := of_decide_eq_false h7
  refine sk_ (n_ (q_ (q_ (g_ (s_ mv_ (s_ (lnS Tryz.underlying23) (s_ mv_ (z_ (n_ (k_ ?_))))))))))
  refine J_loop (X := Nat) (fun (k : Nat) => (k ≤ lists.length) ∧ (∀ i, i < k → R44.few (lists.getD i default).s 20 = true)) (fun (k : Nat) => [(0, vL rsA rs.length rsC), (1, vI m), (2, vL listsA lists.length listsC), (3, vL lA l.length lC), (29, vL listsA lists.length listsC), (30, vI ((lists.length : Nat) : Int)), (31, vI ((k : Nat) : Int))]) (fun (k : Nat) => []) (fun (k : Nat) => lists.length - k) (0 : Nat) ?_ ⟨rfl, rfl, rfl, rfl, rfl, rfl, rfl, trivial⟩ (fun _ h => h) ?_
  ·try dsimp only
   refine ⟨?_, ?_⟩
   ·first | rfl | omega | (simp_all; done) | (simp_all; omega)
   ·intro i hi; omega
  intro k hI1
  obtain ⟨i1_0, i1_1⟩ := hI1
  try dsimp only at i1_0
  try dsimp only at i1_1
  have hqk := q2 k
  try dsimp only
  refine q_ (g_ (s_ (x_lss_i rfl rfl) (z_ (n_ (q_ ?_)))))
  refine ifd (fun h10w h10 => ?_) (fun h10w h10 => ?_)
  ·refine sk_ (n_ (q_ (k_ (q_ (g_ (r_ (ixF Rw.enc_len (cells_ro listsR) Tryz.underlying23 Ty.sz22) (r_ (ldF0 Rw.enc_len (cells_ro listsR) Ty.sc22) (s_ av_ (z_ (n_ (q_ (g_ (s_ mv_ (c0 (cl_ Ty.ca12) (fun w hS => f12_ok _ _ _ 20 w (rno (listsN k) hS) hy_) (s_ (x_not rfl) (z_ (n_ ?_)))))))))))))))))
   refine if_ (fun h11 => ?_) (fun h11 => ?_)
   ·have h11w := h11
    have h11 : (R44.few ((lists.getD k default).s) 20) = false := bnot_true h11
    refine q_ (g_ (s_ av_ (z_ (n_ (rt_ (kq_ (nr_ (rr_ (kq_ (nr_ ?_))))))))))
    exact p1 Tryz.results3 rfl ⟨rfl, rfl⟩
   ·have h11w := h11
    have h11 : (R44.few ((lists.getD k default).s) 20) = true := bnot_false h11
    have hi12 := R44.few_facts h11
    refine sk_ (kx_ (n_ (g_ (s_ (x_add_n (a := k) (b := 1) rfl rfl (by omega)) (s_ mv_ (z_ ?_))))))
    refine JX_round (k + 1 : Nat) ?_ ?_ ⟨rfl, rfl, rfl, rfl, rfl, rfl, rfl, trivial⟩ (fun _ h => h)
    ·try dsimp only
     refine ⟨?_, ?_⟩
     ·first | rfl | omega | (simp_all; done) | (simp_all; omega)
     ·exact R44.few_next i1_1 (by assumption)
    ·try dsimp only
     first | omega | (simp; omega) | (simp_all; omega)
  ·refine J_exit (ne_ (re_ (kh_ (n_ (q_ ?_)))))
   refine g_ (s_ mv_ (s_ mv_ (s_ mv_ ?_)))
   refine JO_callB [] [] [] rfl trivial (fun _ => x_call Ty.ca13 rfl) (fun _ h => h) (fun _ h => by cases h) (fun w hS => f13_ok rs rsA rsC m l lA lC w (rsR.on hS (fun _ h => by cases h)) (lR.on hS (fun _ h => by cases h)) hy_ (by exact R44.few_q1 (by assumption)) (by first | omega | assumption | exact row_le (hS.mem (j := 0) rfl) | exact row_le (hS.mem (j := 1) rfl) | exact row_le (hS.mem (j := 2) rfl) | exact row_le (hS.mem (j := 3) rfl) | exact row_le (hS.mem (j := 4) rfl) | exact row_le (hS.mem (j := 5) rfl)) hy_) ?_
   rintro wc _ _ wbhB14 ⟨rout, routA, routC, rfl, rfl, routR, routL, routN, routK, hf13⟩ hc0 hB14
   have rsR := rsR.again hB14
   have listsR := listsR.again hB14
   have lR := lR.again hB14
   have listsN := fun i => (listsN i).again hB14
   have hT := hT.again hB14
   have routR := routR.mono (lown_range hc0)
   have routN := fun i => (routN i).mono (lown_range hc0)
   refine s_ mv_ (s_ mv_ (s_ mv_ ?_))
   refine JO_callB [] [] [] rfl trivial (fun _ => x_call Ty.ca14 rfl) (fun _ h => h) (fun _ h => by cases h) (fun w hS => f14_ok rs rsA rsC m l lA lC w (rsR.on hS (fun _ h => by cases h)) (lR.on hS (fun _ h => by cases h)) hy_ (by exact R44.few_q1 (by assumption)) hy_) ?_
   rintro wc _ _ wbhB17 ⟨rout15, rout15A, rout15C, rfl, rfl, rout15R, rout15N, hf16⟩ hc0 hB17
   have rsR := rsR.again hB17
   have listsR := listsR.again hB17
   have lR := lR.again hB17
   have routR := routR.again hB17
   have listsN := fun i => (listsN i).again hB17
   have routN := fun i => (routN i).again hB17
   have hT := hT.again hB17
   have rout15R := rout15R.mono (lown_range hc0)
   have rout15N := fun i => (rout15N i).mono (lown_range hc0)
   refine s_ av_ (s_ av_ (z_ (n_ (q_ (q_ (g_ (s_ mv_ (s_ (lnS Tryz.underlying23) (s_ mv_ (z_ (xk_ [2, 3, 11, 12, 48, 49] ?_)))))))))))
   refine n_ (k_ ?_)
   refine J_loop (X := Nat) (fun (j : Nat) => (j ≤ rout.length)) (fun (j : Nat) => [(2, vL listsA lists.length listsC), (3, vL lA l.length lC), (11, vL routA rout.length routC), (12, vL rout15A rout15.length rout15C), (48, vI ((rout.length : Nat) : Int)), (49, vI ((j : Nat) : Int))]) (fun (j : Nat) => []) (fun (j : Nat) => rout.length - j) (0 : Nat) ?_ ⟨rfl, rfl, rfl, rfl, rfl, rfl, trivial⟩ (fun _ h => h) ?_
   ·try dsimp only
    first | rfl | omega | (simp_all; done) | (simp_all; omega)
   intro j hI2
   have i2_0 := hI2
   try dsimp only at i2_0
   have hra := R44.runs_each (out := rout) (by assumption)
   have hrb := R44.runs_each (out := rout15) (by assumption)
   have hrab := R44.map_eq2 (a := rout) (b := rout15) (by assumption) (by assumption)
   have hja := hra.2 j
   have hjb := hrb.2 j
   try dsimp only
   refine q_ (g_ (s_ (x_lss_i rfl rfl) (z_ (n_ (q_ ?_)))))
   refine ifd (fun h18w h18 => ?_) (fun h18w h18 => ?_)
   ·refine sk_ (n_ (q_ (k_ (q_ (g_ (s_ mv_ (s_ av_ (z_ (n_ (q_ ?_))))))))))
    refine drB [] 16 Ty.mixed ?_
    refine jp_ 0 rfl mv_ (jp_ 1 rfl mv_ (jp_ 2 rfl (lnS Tryz.underlying23) (jp_ 3 rfl (x_geq_i rfl rfl) (jp_ 4 rfl mv_ ?_))))
    refine jb_ 56 (fun h19 => ?_) (fun h19 => ?_)
    ·have h19 := of_decide_eq_true h19
     refine js2_ 5 rfl (js2_ 6 rfl (js2_ 7 rfl (js2_ 8 rfl (js2_ 9 rfl (js2_ 10 rfl (js2_ 11 rfl (js2_ 12 rfl (js2_ 13 rfl (js2_ 14 rfl ?_)))))))))
     refine jt_ 15 (vB true) rfl (fun _ _ => rfl) ?_
     refine JA_done (by kernel_rfl) gm_ ?_
     refine n_ (ift (q_ (g_ (s_ av_ (z_ (xk_ [2, 3, 11, 12, 48, 49, 8] ?_))))))
     refine n_ (rt_ (kq_ (nr_ (rr_ (kq_ (nr_ ?_))))))
     refine JX_retsC [_] _ Tryz.results3 (fun w h => ⟨rfl, trivial⟩) rfl _ (fun _ h => h) (fun _ _ h => (hB14.back _ _ (hB17.back _ _ h))) ⟨?_, ?_⟩
     ·have e_x0 : (false : Bool) = true := by first | (exfalso; omega) | exact absurd (hrab.2 j) (by assumption) | exact R44.law_runs (R44.map_eq2 (by assumption) (by assumption))
      exact congrArg (fun (x0 : Bool) => vB x0) e_x0
     ·rfl
    ·have h19 := of_decide_eq_false h19
     refine jp_ 5 rfl mv_ (jp_ 6 rfl mv_ (jq_ 7 rfl (ixF Rw.enc_len (cells_ro routR) Tryz.underlying23 Ty.sz22) (jq_ 8 rfl (ldF0 Rw.enc_len (cells_ro routR) Ty.sc22) (jp_ 9 rfl mv_ (jp_ 10 rfl mv_ (jq_ 11 rfl (ixF Rw.enc_len (cells_ro rout15R) Tryz.underlying23 Ty.sz22) (jq_ 12 rfl (ldF0 Rw.enc_len (cells_ro rout15R) Ty.sc22) (j1_ 13 (jc0_ rfl (cl_ Ty.ca15) (fun w hS => f15_ok _ _ _ _ _ _ w (rno (routN j) hS) (rno (rout15N j) hS) l44d0_ l44d0_) ?_ (hw := ⟨_, rfl, rfl⟩)) gm_) (hw := ⟨_, rfl, rfl⟩)) (hw := ⟨_, rfl, rfl⟩)) (hw := ⟨_, rfl, rfl⟩)) (hw := ⟨_, rfl, rfl⟩)) (hw := ⟨_, rfl, rfl⟩)) (hw := ⟨_, rfl, rfl⟩)) (hw := ⟨_, rfl, rfl⟩)) (hw := ⟨_, rfl, rfl⟩)
     refine jp_ 14 rfl (x_not rfl) ?_ (hw := ⟨_, rfl, rfl⟩)
     refine jt_ 15 (vB (!(decide (((rout.getD j default).s) = ((rout15.getD j default).s))))) rfl (fun _ _ => rfl) ?_
     refine JA_done (by kernel_rfl) gm_ ?_
     refine n_ ?_
     refine if_ (fun h20 => ?_) (fun h20 => ?_)
     ·have h20w := h20
      have h20 : (decide (((rout.getD j default).s) = ((rout15.getD j default).s))) = false := bnot_true h20
      have h20 := of_decide_eq_false h20
      refine q_ (g_ (s_ av_ (z_ (xk_ [2, 3, 11, 12, 48, 49, 8] ?_))))
      refine n_ (rt_ (kq_ (nr_ (rr_ (kq_ (nr_ ?_))))))
      refine JX_retsC [_] _ Tryz.results3 (fun w h => ⟨rfl, trivial⟩) rfl _ (fun _ h => h) (fun _ _ h => (hB14.back _ _ (hB17.back _ _ h))) ⟨?_, ?_⟩
      ·have e_x0 : (false : Bool) = true := by first | (exfalso; omega) | exact absurd (hrab.2 j) (by assumption) | exact R44.law_runs (R44.map_eq2 (by assumption) (by assumption))
       exact congrArg (fun (x0 : Bool) => vB x0) e_x0
      ·rfl
     ·have h20w := h20
      have h20 : (decide (((rout.getD j default).s) = ((rout15.getD j default).s))) = true := bnot_false h20
      have h20 := of_decide_eq_true h20
      refine sk_ (kx_ (n_ (g_ (s_ (x_add_n (a := j) (b := 1) rfl rfl (by omega)) (s_ mv_ (z_ ?_))))))
      refine JX_round (j + 1 : Nat) ?_ ?_ ⟨rfl, rfl, rfl, rfl, rfl, rfl, trivial⟩ (fun _ h => h)
      ·try dsimp only
       first | rfl | omega | (simp_all; done) | (simp_all; omega)
      ·try dsimp only
       first | omega | (simp; omega) | (simp_all; omega)
   ·refine J_exit (ne_ (re_ (kh_ (n_ (q_ ?_)))))
    refine g_ (s_ mv_ (s_ (lnS Tryz.underlying23) (s_ mv_ (s_ (lnS Tryz.underlying23) (s_ (x_eql_i rfl rfl) (s_ mv_ ?_))))))
    refine and_ 7 (decide ((R44.mergeV l (lists.map Rw.s)) = (R44.mergeV l (lists.map Rw.s)))) (fun g21 => ?_) ?_
    ·have g21r := g21
     have g21r := of_decide_eq_true g21r
     refine sg_ g21 mv_ (sg_ g21 mv_ ?_)
     refine c1g g21 (cl_ Ty.ca16) (fun w hS => f16_ok _ _ _ l lA lC w (rno listsR hS) (fun i => (listsN i).on hS (fun _ h => by cases h)) (rno lR hS) hy_ l44d1_ (by first | exact (fun i => (q2 i).1) | (have hlf := R44.lists_few (lists := lists) (n := 20) (fun i hi => i1_1 i (by omega)); first | omega | exact hlf.2)) l44d1_ hy_) ?_
     rintro _ _ ⟨e22, e23, rfl, rfl⟩
     refine sg_ g21 mv_ (sg_ g21 mv_ ?_)
     refine c1g g21 (cl_ Ty.ca17) (fun w hS => f17_ok _ _ _ l lA lC w (rno listsR hS) (fun i => (listsN i).on hS (fun _ h => by cases h)) (rno lR hS) hy_ l44d1_ l44d1_ hy_) ?_
     rintro _ _ ⟨e24, e25, rfl, rfl⟩
     refine c0g g21 (cl_ Ty.ca15) (fun w hS => f15_ok _ e22 e23 _ e24 e25 w (RO.of_row hS 1 rfl) (RO.of_row hS 0 rfl) l44d0_ l44d0_) ?_
     exact cr_ (fun _ h => h.keep [false, false] rfl)
    refine s_ av_ (z_ (n_ (rt_ ?_)))
    refine JX_retsC [_] _ Tryz.results3 (fun w h => ⟨rfl, trivial⟩) rfl _ (fun _ h => h) (fun _ _ h => (hB14.back _ _ (hB17.back _ _ h))) ⟨?_, ?_⟩
    ·have e_x0 : ((decide (((rout.length : Nat) : Int) = ((rout15.length : Nat) : Int))) && (decide ((R44.mergeV l (lists.map Rw.s)) = (R44.mergeV l (lists.map Rw.s)))) : Bool) = true := by first | (exfalso; omega) | exact absurd (hrab.2 j) (by assumption) | exact R44.law_runs (R44.map_eq2 (by assumption) (by assumption))
     exact congrArg (fun (x0 : Bool) => vB x0) e_x0
    ·rfl
end Go.Proofs.YtnfglkgahlaofaaGreatDoor
