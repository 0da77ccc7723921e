/- contracts C44n -/
import Derived.Test.YtnfglkgahlaofaaGreatDoorExtsortSorts21
namespace Go.Proofs.YtnfglkgahlaofaaGreatDoor
open Go.GV
set_option linter.unusedVariables false
set_option linter.unusedSimpArgs false
theorem c44n0_ {p : Prop} (h : p := by rw [← R44.runsV_yes hg1.2.1 hg1.1 (by assumption), List.length_map]) : p := h
set_option maxHeartbeats 4000000 in
set_option maxRecDepth 20000 in
theorem f18x_ok (rs : List Bytes) (rsA : Option Addr) (rsC : Nat) (m : Int) (fan : Int) (l : List SortField) (lA : Option Addr) (lC : Nat) (kp : Addr) (kpx : Int) (kq : Addr) (kqx : Int) (w : World) (rsR : RO [] w rsA (rs.map vS)) (lR : RO [] w lA (l.flatMap SortField.enc)) (kpR : RO [] w (some kp) [vI kpx]) (kqR : RO [] w (some kq) [vI kqx]) (q0 : rs.length ≤ 1000000) (q1 : ∀ i, (rs.getD i []).length ≤ 1000000) (q2 : rs.length ≤ rsC) (q3 : l.length ≤ 9223372036854775807) : Calls Tryz.prog 18 #[vL rsA rs.length rsC, vG [vI m, vI fan], vL lA l.length lC, vG [Value.func (.func 42) #[] #[vP kp], Value.func (.func 44) #[] #[vP kq]]] w (Gives [] w fun v L => ∃ out : List Bytes, ∃ outA : Option Addr, ∃ outC : Nat, ∃ v1 : Int, ∃ v2 : Int, ∃ v3 : Int, ∃ e : Int, v = Value.tuple #[vL outA out.length outC, vG [vI v1, vI v2, vI v3], vI e] ∧ L = [Ent.row (.slice outA out.length outC) 9 1 out.length (out.map vS)] ∧ ((out, SortWork.mk v1 v2 v3, e) = R44.sortV l m fan (R44.inK kpx) (R44.smK kqx) rs)) := by
 refine calls_JNG [] 120 Tryz.func18 rfl Tryz.ntmps18 [(0, _), (1, _), (2, _), (3, _)] rfl rfl (Give.nil w) ?_
 refine q_ (g_ (o_ (bxG fun b1 => ?_)))
 refine o_ (bx1 fun b2 => ?_)
 refine o_ (bxG fun b3 => ?_)
 refine s_ av_ (o_ (al_ Ty.ze34 fun b4 => ?_))
 refine s_ av_ (z_ (n_ (q_ (q_ (g_ (r_ (ld_ 2 Ty.sc24) (c0 (cl_ Ty.ca21) (fun w hS => f21_ok l lA lC w (rno lR hS) hy_) (s_ (x_not rfl) (s_ mv_ ?_)))))))))
 refine or_ 3 (decide (m < 1)) (fun g5 => ?_) ?_
 ·have g5r := g5
  have g5r : (R44.valid l) = true := bnot_false g5r
  have hi6 := R44.valid_facts g5r
  refine sg_ g5 (fA 0 Ty.fi32_0) (rg_ g5 (ld_ 3 Ty.sc3) (sg_ g5 (x_lss_i rfl rfl) ?_))
  exact cr_
 refine s_ mv_ ?_
 refine or_ 3 (decide ((1024 : Int) < m)) (fun g7 => ?_) ?_
 ·have g7r := g7
  have ⟨g7r, h8⟩ := bor_false g7r
  have g7r : (R44.valid l) = true := bnot_false g7r
  have hi9 := R44.valid_facts g7r
  have h8 := of_decide_eq_false h8
  refine sg_ g7 (fA 0 Ty.fi32_0) (rg_ g7 (ld_ 3 Ty.sc3) (sg_ g7 (x_gtr_i rfl rfl) ?_))
  exact cr_
 refine s_ mv_ ?_
 refine or_ 3 (decide (fan < 2)) (fun g10 => ?_) ?_
 ·have g10r := g10
  have ⟨g10r, h11⟩ := bor_false g10r
  have ⟨g10r, h12⟩ := bor_false g10r
  have g10r : (R44.valid l) = true := bnot_false g10r
  have hi13 := R44.valid_facts g10r
  have h12 := of_decide_eq_false h12
  have h11 := of_decide_eq_false h11
  refine sg_ g10 (fA 1 Ty.fi32_1) (rg_ g10 (ld_ 3 Ty.sc3) (sg_ g10 (x_lss_i rfl rfl) ?_))
  exact cr_
 refine s_ mv_ ?_
 refine or_ 3 (decide ((16 : Int) < fan)) (fun g14 => ?_) ?_
 ·have g14r := g14
  have ⟨g14r, h15⟩ := bor_false g14r
  have ⟨g14r, h16⟩ := bor_false g14r
  have ⟨g14r, h17⟩ := bor_false g14r
  have g14r : (R44.valid l) = true := bnot_false g14r
  have hi18 := R44.valid_facts g14r
  have h17 := of_decide_eq_false h17
  have h16 := of_decide_eq_false h16
  have h15 := of_decide_eq_false h15
  refine sg_ g14 (fA 1 Ty.fi32_1) (rg_ g14 (ld_ 3 Ty.sc3) (sg_ g14 (x_gtr_i rfl rfl) ?_))
  exact cr_
 refine z_ (xk_ [0, 5, 6, 7, 8, 9, 10, 41] ?_)
 refine n_ ?_
 refine if_ (fun h19 => ?_) (fun h19 => ?_)
 ·have h19w := h19
  simp only [Bool.and_eq_true, Bool.or_eq_true, Bool.and_eq_false_iff, Bool.or_eq_false_iff, Bool.not_eq_true', Bool.not_eq_false', decide_eq_true_eq, decide_eq_false_iff_not] at h19
  refine q_ (g_ (js_ (vG [vI 0, vI 0, vI 0]) (x_build (by kernel_rfl)) (s_ av_ (o_ (stG 0 Ty.sz34 ?_)))))
  refine s_ av_ (z_ (n_ (rt_ (nr_ ?_))))
  refine JX_retsMG ([] : List Nat) [_, _, _] (Value.tuple #[_, _, _]) rfl Tryz.results18 [Ent.blk b4 34 [vI 0, vI 0, vI 0], Ent.blk b3 41 [Value.func (.func 42) #[] #[vP kp], Value.func (.func 44) #[] #[vP kq]], Ent.blk b2 24 [vL lA l.length lC], Ent.blk b1 32 [vI m, vI fan]] (fun _ h => h) (fun w h => ⟨rfl, ⟨_, rfl, load_blkN 0 [vI 0, vI 0, vI 0] h rfl Ty.ag34 Ty.sz34 rfl⟩, rfl, trivial⟩) rfl [Ent.row (.slice none ([] : List Bytes).length 0) 9 1 ([] : List Bytes).length (([] : List Bytes).map vS)] (fun _ h => (h.nilrow 9 1).keep [true, false, false, false, false] rfl) (fun _ _ h => h) ⟨([] : List Bytes), none, 0, 0, 0, 0, 1, ?_, ?_, ?_⟩
  ·have e_x0 : (0 : Nat) = (([] : List Bytes).length) := by first | rfl | omega | (simp_all; done) | (simp_all; omega)
   exact congrArg (fun (x0 : Nat) => Value.tuple #[vL none x0 0, vG [vI 0, vI 0, vI 0], vI 1]) e_x0
  ·rfl
  ·first | exact R44.sv_1 (by assumption) | exact R44.sv_2 (by assumption) (by assumption) | exact R44.sv_3 (by assumption) (by assumption) (by assumption) (by assumption) | exact R44.sv_4 (fan := (kf : Int)) (by assumption) (by assumption) (by assumption) (by assumption) (R44.one_row (m := m.toNat) (by omega) (by omega) i1_0 (by omega)).1 (by assumption) (by assumption) | exact R44.sv_4 (fan := (kf : Int)) (by assumption) (by assumption) (by assumption) (by assumption) (R44.one_none (by omega) (R44.one_row (m := m.toNat) (by omega) (by omega) i1_0 (by omega)).1) (by assumption) (by assumption) | exact R44.sv_5 (fan := (kf : Int)) (by assumption) (by assumption) (by assumption) (by first | decide | assumption) (R44.one_row (m := m.toNat) (by omega) (by omega) i1_0 (by omega)).1 (by assumption) (by first | decide | assumption) c44n0_ (R44.one_row (m := m.toNat) (by omega) (by omega) i1_0 (by omega)).2 (by first | rfl | omega) | exact R44.sv_5 (fan := (kf : Int)) (by assumption) (by assumption) (by assumption) (by first | decide | assumption) (R44.one_none (by omega) (R44.one_row (m := m.toNat) (by omega) (by omega) i1_0 (by omega)).1) (by assumption) (by first | decide | assumption) c44n0_ (R44.one_row (m := m.toNat) (by omega) (by omega) i1_0 (by omega)).2 (by first | rfl | omega)
 ·have h19w := h19
  have ⟨h19, h20⟩ := bor_false h19
  have ⟨h19, h21⟩ := bor_false h19
  have ⟨h19, h22⟩ := bor_false h19
  have ⟨h19, h23⟩ := bor_false h19
  have h19 : (R44.valid l) = true := bnot_false h19
  have hi24 := R44.valid_facts h19
  have h23 := of_decide_eq_false h23
  have h22 := of_decide_eq_false h22
  have h21 := of_decide_eq_false h21
  have h20 := of_decide_eq_false h20
  obtain ⟨kf, rfl⟩ : ∃ kf : Nat, fan = (kf : Int) := ⟨fan.toNat, by omega⟩
  have hg1 := R44.g1_facts (l := l) (m := m) (fan := (kf : Int)) (by assumption)
  refine sk_ (n_ (q_ (q_ (g_ (s_ mv_ (s_ (lnS Tryz.underlying22) (s_ (x_gtr_i rfl rfl) (s_ mv_ ?_))))))))
  refine or_ 2 (R44.long rs) (fun g25 => ?_) ?_
  ·have g25r := g25
   have g25r := of_decide_eq_false g25r
   refine sg_ g25 mv_ (c0g g25 (cl_ Ty.ca37) (fun w hS => f37_ok rs rsA rsC w (rno rsR hS) hy_ (by first | assumption | exact fun i => Nat.le_trans (q1 i) (by decide))) ?_)
   exact cr_
  refine z_ (n_ ?_)
  refine if_ (fun h26 => ?_) (fun h26 => ?_)
  ·have h26w := h26
   simp only [Bool.and_eq_true, Bool.or_eq_true, Bool.and_eq_false_iff, Bool.or_eq_false_iff, Bool.not_eq_true', Bool.not_eq_false', decide_eq_true_eq, decide_eq_false_iff_not] at h26
   refine q_ (g_ (js_ (vG [vI 0, vI 0, vI 0]) (x_build (by kernel_rfl)) (s_ av_ (o_ (stG 0 Ty.sz34 ?_)))))
   refine s_ av_ (z_ (n_ (rt_ (nr_ ?_))))
   refine JX_retsMG ([] : List Nat) [_, _, _] (Value.tuple #[_, _, _]) rfl Tryz.results18 [Ent.blk b4 34 [vI 0, vI 0, vI 0], Ent.blk b3 41 [Value.func (.func 42) #[] #[vP kp], Value.func (.func 44) #[] #[vP kq]], Ent.blk b2 24 [vL lA l.length lC], Ent.blk b1 32 [vI m, vI ((kf : Nat) : Int)]] (fun _ h => h) (fun w h => ⟨rfl, ⟨_, rfl, load_blkN 0 [vI 0, vI 0, vI 0] h rfl Ty.ag34 Ty.sz34 rfl⟩, rfl, trivial⟩) rfl [Ent.row (.slice none ([] : List Bytes).length 0) 9 1 ([] : List Bytes).length (([] : List Bytes).map vS)] (fun _ h => (h.nilrow 9 1).keep [true, false, false, false, false] rfl) (fun _ _ h => h) ⟨([] : List Bytes), none, 0, 0, 0, 0, 8, ?_, ?_, ?_⟩
   ·have e_x0 : (0 : Nat) = (([] : List Bytes).length) := by first | rfl | omega | (simp_all; done) | (simp_all; omega)
    exact congrArg (fun (x0 : Nat) => Value.tuple #[vL none x0 0, vG [vI 0, vI 0, vI 0], vI 8]) e_x0
   ·rfl
   ·first | exact R44.sv_1 (by assumption) | exact R44.sv_2 (by assumption) (by assumption) | exact R44.sv_3 (by assumption) (by assumption) (by assumption) (by assumption) | exact R44.sv_4 (fan := (kf : Int)) (by assumption) (by assumption) (by assumption) (by assumption) (R44.one_row (m := m.toNat) (by omega) (by omega) i1_0 (by omega)).1 (by assumption) (by assumption) | exact R44.sv_4 (fan := (kf : Int)) (by assumption) (by assumption) (by assumption) (by assumption) (R44.one_none (by omega) (R44.one_row (m := m.toNat) (by omega) (by omega) i1_0 (by omega)).1) (by assumption) (by assumption) | exact R44.sv_5 (fan := (kf : Int)) (by assumption) (by assumption) (by assumption) (by first | decide | assumption) (R44.one_row (m := m.toNat) (by omega) (by omega) i1_0 (by omega)).1 (by assumption) (by first | decide | assumption) c44n0_ (R44.one_row (m := m.toNat) (by omega) (by omega) i1_0 (by omega)).2 (by first | rfl | omega) | exact R44.sv_5 (fan := (kf : Int)) (by assumption) (by assumption) (by assumption) (by first | decide | assumption) (R44.one_none (by omega) (R44.one_row (m := m.toNat) (by omega) (by omega) i1_0 (by omega)).1) (by assumption) (by first | decide | assumption) c44n0_ (R44.one_row (m := m.toNat) (by omega) (by omega) i1_0 (by omega)).2 (by first | rfl | omega)
  ·have h26w := h26
   have ⟨h26, h27⟩ := bor_false h26
   have h26 := of_decide_eq_false h26
   have hi28 := R44.long_facts h27
   refine sk_ (n_ (q_ (g_ (s_ mv_ (s_ (fA 0 Ty.fi41_0) (r_ (ld_ 1 Ty.sc38) ?_))))))
   refine c1 (cl_ Ty.ca39) (fun w hS => f39x_ok rs rsA rsC kp kpx w (rno rsR hS) (rno kpR hS) hy_ hy_) ?_
   rintro _ _ ⟨out29, e30, e31, n32, e33, rfl, rfl, hf34⟩
   have ha35 := R44.inR_a (fi := R44.inK kpx) (by assumption) q0
   have ha36 := R44.inR_b (fi := R44.inK kpx) (rs := rs) (by assumption)
   refine s_ mv_ (s_ (ex_ 0) (s_ (ex_ 1) (s_ (ex_ 2) (s_ av_ (s_ av_ (s_ av_ (z_ (xk_ [0, 5, 6, 7, 8, 9, 10, 11, 12] ?_))))))))
   refine n_ (q_ (q_ (g_ (s_ mv_ (s_ (x_neq_i rfl rfl) (z_ (n_ ?_)))))))
   refine ifd (fun h37w h37 => ?_) (fun h37w h37 => ?_)
   ·refine q_ (g_ (js_ (vG [vI 0, vI 0, vI 0]) (x_build (by kernel_rfl)) (s_ mv_ (s_ av_ (o_ (stG 1 Ty.sz34 ?_))))))
    refine s_ av_ (z_ (n_ (rt_ (nr_ ?_))))
    refine JX_retsMG ([] : List Nat) [_, _, _] (Value.tuple #[_, _, _]) rfl Tryz.results18 [Ent.row (.slice e30 out29.length e31) 9 1 out29.length (out29.map vS), Ent.blk b4 34 [vI 0, vI 0, vI 0], Ent.blk b3 41 [Value.func (.func 42) #[] #[vP kp], Value.func (.func 44) #[] #[vP kq]], Ent.blk b2 24 [vL lA l.length lC], Ent.blk b1 32 [vI m, vI ((kf : Nat) : Int)]] (fun _ h => h) (fun w h => ⟨rfl, ⟨_, rfl, load_blkN 1 [vI 0, vI 0, vI 0] h rfl Ty.ag34 Ty.sz34 rfl⟩, rfl, trivial⟩) rfl [Ent.row (.slice none ([] : List Bytes).length 0) 9 1 ([] : List Bytes).length (([] : List Bytes).map vS)] (fun _ h => (h.nilrow 9 1).keep [true, false, false, false, false, false] rfl) (fun _ _ h => h) ⟨([] : List Bytes), none, 0, 0, 0, 0, e33, ?_, ?_, ?_⟩
    ·have e_x0 : (0 : Nat) = (([] : List Bytes).length) := by first | rfl | omega | (simp_all; done) | (simp_all; omega)
     exact congrArg (fun (x0 : Nat) => Value.tuple #[vL none x0 0, vG [vI 0, vI 0, vI 0], vI e33]) e_x0
    ·rfl
    ·first | exact R44.sv_1 (by assumption) | exact R44.sv_2 (by assumption) (by assumption) | exact R44.sv_3 (by assumption) (by assumption) (by assumption) (by assumption) | exact R44.sv_4 (fan := (kf : Int)) (by assumption) (by assumption) (by assumption) (by assumption) (R44.one_row (m := m.toNat) (by omega) (by omega) i1_0 (by omega)).1 (by assumption) (by assumption) | exact R44.sv_4 (fan := (kf : Int)) (by assumption) (by assumption) (by assumption) (by assumption) (R44.one_none (by omega) (R44.one_row (m := m.toNat) (by omega) (by omega) i1_0 (by omega)).1) (by assumption) (by assumption) | exact R44.sv_5 (fan := (kf : Int)) (by assumption) (by assumption) (by assumption) (by first | decide | assumption) (R44.one_row (m := m.toNat) (by omega) (by omega) i1_0 (by omega)).1 (by assumption) (by first | decide | assumption) c44n0_ (R44.one_row (m := m.toNat) (by omega) (by omega) i1_0 (by omega)).2 (by first | rfl | omega) | exact R44.sv_5 (fan := (kf : Int)) (by assumption) (by assumption) (by assumption) (by first | decide | assumption) (R44.one_none (by omega) (R44.one_row (m := m.toNat) (by omega) (by omega) i1_0 (by omega)).1) (by assumption) (by first | decide | assumption) c44n0_ (R44.one_row (m := m.toNat) (by omega) (by omega) i1_0 (by omega)).2 (by first | rfl | omega)
   ·refine sk_ (n_ (q_ (g_ (s_ mv_ (s_ (fA 0 Ty.fi32_0) (r_ (ld_ 4 Ty.sc3) (r_ (ld_ 3 Ty.sc24) ?_)))))))
    refine JO_callB [] [] [Ent.row (.slice e30 out29.length e31) 9 1 out29.length (out29.map vS), Ent.blk b4 34 [vI 0, vI 0, vI 0], Ent.blk b3 41 [Value.func (.func 42) #[] #[vP kp], Value.func (.func 44) #[] #[vP kq]], Ent.blk b2 24 [vL lA l.length lC], Ent.blk b1 32 [vI m, vI ((kf : Nat) : Int)]] rfl trivial (fun _ => x_call Ty.ca13 rfl) (fun _ h => h) (fun _ h => by cases h) (fun w hS => f13_ok out29 e30 e31 m l lA lC w (RO.of_row hS 0 rfl) (lR.on hS (fun _ h => by cases h)) hy_ hy_ (by first | omega | assumption | exact row_le (hS.mem (j := 0) rfl) | exact row_le (hS.mem (j := 1) rfl) | exact row_le (hS.mem (j := 2) rfl) | exact row_le (hS.mem (j := 3) rfl) | exact row_le (hS.mem (j := 4) rfl) | exact row_le (hS.mem (j := 5) rfl)) hy_) ?_
    rintro wc _ _ wbhB39 ⟨rout, routA, routC, rfl, rfl, routR, routL, routN, routK, hf38⟩ hc0 hB39
    have rsR := rsR.again hB39
    have lR := lR.again hB39
    have kpR := kpR.again hB39
    have kqR := kqR.again hB39
    have routR0 := routR.mono (lown_rangeF (w00 := w) hc0 hc0.fr.size)
    have routN0 := fun i => (routN i).mono (lown_rangeF (w00 := w) hc0 hc0.fr.size)
    have routR := routR.mono (lown_range hc0)
    have routN := fun i => (routN i).mono (lown_range hc0)
    refine s_ av_ (z_ (n_ (q_ (g_ (s_ mv_ (s_ (lnS Tryz.underlying23) (s_ mv_ (js_ (vG [vI ((rout.length : Nat) : Int), vI 0, vI n32]) (x_build (by kernel_rfl)) (o_ (al_ Ty.ze34 fun b40 => ?_))))))))))
    refine o_ (stG 0 Ty.sz34 ?_)
    refine z_ (xk_ [5, 6, 7, 8, 9, 10, 12, 13, 14] ?_)
    refine n_ (q_ (k_ ?_))
    refine J_loopM (X := (List Rw) × (Option Addr) × Nat × Nat × (List Nat)) (fun (⟨runs, runsA, runsC, np, Ds⟩ : (List Rw) × (Option Addr) × Nat × Nat × (List Nat)) => Ds) (fun (⟨runs, runsA, runsC, np, Ds⟩ : (List Rw) × (Option Addr) × Nat × Nat × (List Nat)) => (R44.PassJ (R44.cmpL l) kf (Srt.runs (R44.cmpL l) m.toNat out29) (runs.map Rw.s) np)) (fun (⟨runs, runsA, runsC, np, Ds⟩ : (List Rw) × (Option Addr) × Nat × Nat × (List Nat)) wx => RO (Lown (Ent.blk b40 34 [vI ((rout.length : Nat) : Int), vI ((np : Nat) : Int), vI n32] :: Ent.blk b4 34 [vI 0, vI 0, vI 0] :: Ent.blk b3 41 [Value.func (.func 42) #[] #[vP kp], Value.func (.func 44) #[] #[vP kq]] :: Ent.blk b2 24 [vL lA l.length lC] :: Ent.blk b1 32 [vI m, vI ((kf : Nat) : Int)] :: (Ds.map dfr)) ++ List.range w.heap.size) wx runsA (runs.flatMap Rw.enc) ∧ runs.length ≤ runsC ∧ (∀ i : Nat, RO (Lown (Ent.blk b40 34 [vI ((rout.length : Nat) : Int), vI ((np : Nat) : Int), vI n32] :: Ent.blk b4 34 [vI 0, vI 0, vI 0] :: Ent.blk b3 41 [Value.func (.func 42) #[] #[vP kp], Value.func (.func 44) #[] #[vP kq]] :: Ent.blk b2 24 [vL lA l.length lC] :: Ent.blk b1 32 [vI m, vI ((kf : Nat) : Int)] :: (Ds.map dfr)) ++ List.range w.heap.size) wx (runs.getD i default).sA (((runs.getD i default).s).map vS)) ∧ (∀ i : Nat, (runs.getD i default).s.length ≤ (runs.getD i default).sC)) (fun (⟨runs, runsA, runsC, np, Ds⟩ : (List Rw) × (Option Addr) × Nat × Nat × (List Nat)) => [(5, pB b1 0), (6, pB b2 0), (7, pB b3 0), (8, vL none 0 0), (9, pB b4 0), (10, vI 0), (12, vI e33), (13, vL runsA runs.length runsC), (14, pB b40 0)]) (fun (⟨runs, runsA, runsC, np, Ds⟩ : (List Rw) × (Option Addr) × Nat × Nat × (List Nat)) => (Ent.blk b40 34 [vI ((rout.length : Nat) : Int), vI ((np : Nat) : Int), vI n32] :: Ent.blk b4 34 [vI 0, vI 0, vI 0] :: Ent.blk b3 41 [Value.func (.func 42) #[] #[vP kp], Value.func (.func 44) #[] #[vP kq]] :: Ent.blk b2 24 [vL lA l.length lC] :: Ent.blk b1 32 [vI m, vI ((kf : Nat) : Int)] :: (Ds.map dfr))) (fun (⟨runs, runsA, runsC, np, Ds⟩ : (List Rw) × (Option Addr) × Nat × Nat × (List Nat)) => runs.length) ((rout, routA, routC, 0, ([] : List Nat)) : (List Rw) × (Option Addr) × Nat × Nat × (List Nat)) ?_ rfl ⟨rfl, rfl, rfl, rfl, rfl, rfl, rfl, rfl, rfl, trivial⟩ (fun _ h => h.keep [true, false, true, true, true, true] rfl) (fun wx hw => ⟨(routR0.againF (hw.keep [true, false, true, true, true, true] rfl)), routL, (fun i => (routN0 i).againF (hw.keep [true, false, true, true, true, true] rfl)), routK⟩) ?_
    ·try dsimp only
     exact R44.PassJ.start_of (R44.runsV_yes hg1.2.1 hg1.1 (by assumption))
    rintro ⟨runs, runsA, runsC, np, Ds⟩ wb1 hI1 hW1 hB1
    have rsR := rsR.again hB1
    have lR := lR.again hB1
    have routR0 := routR0.againF hB1
    have routR := routR.again hB1
    have routN0 := fun i => (routN0 i).againF hB1
    have routN := fun i => (routN i).again hB1
    have kpR := kpR.again hB1
    have kqR := kqR.again hB1
    obtain ⟨runsR0, runsL, runsN0, runsK⟩ := hW1
    have runsR := runsR0.fromF
    have runsN := fun i => (runsN0 i).fromF
    have i1_0 := hI1
    try dsimp only at i1_0
    have hcv := R44.cmpL_ok l
    have hpb := R44.pass_bounds (by omega) (by omega) i1_0 (R44.inR_a (by assumption) q0).1 (R44.inR_b (by assumption))
    have hil := R44.inner_len (lists := runs) 0
    try dsimp only
    refine q_ (q_ (g_ (s_ mv_ (s_ (lnS Tryz.underlying23) (s_ (x_gtr_i rfl rfl) (z_ (n_ ?_)))))))
    refine ifd (fun h41w h41 => ?_) (fun h41w h41 => ?_)
    ·refine sk_ (n_ (k_ (q_ (g_ (o_ (al_ Ty.ze23 fun b42 => ?_))))))
     refine z_ (n_ (q_ (q_ (g_ (s_ mv_ (s_ (fA 1 Ty.fi32_1) (r_ (ld_ 5 Ty.sc3) ?_)))))))
     refine c1 (cl_ Ty.ca40) (fun w hS => f40_ok runs _ _ kf w (rno runsR hS) (fun i => (runsN i).on hS (fun _ h => by cases h)) hy_ hy_) ?_
     rintro _ _ ⟨bp43, bq44, rfl, rfl⟩
     refine z_ (n_ (k_ ?_))
     refine J_rangeFunc (n := _) (gf := 69) (lb := [pB bp43 0, pB bq44 0]) (enc := Part.enc) (xs := (R44.parts kf runs runsA)) (fun (pre : List Part) (⟨next, nextA, nextC⟩ : (List Rw) × (Option Addr) × Nat) => (next.map Rw.s = pre.map (fun p => R44.mergeV l (p.s.map Rw.s)))) (fun (_ : List Part) (⟨next, nextA, nextC⟩ : (List Rw) × (Option Addr) × Nat) => (Ent.blk b42 23 [vL nextA next.length nextC] :: Ent.blk b40 34 [vI ((rout.length : Nat) : Int), vI ((np : Nat) : Int), vI n32] :: Ent.blk b4 34 [vI 0, vI 0, vI 0] :: Ent.blk b3 41 [Value.func (.func 42) #[] #[vP kp], Value.func (.func 44) #[] #[vP kq]] :: Ent.blk b2 24 [vL lA l.length lC] :: Ent.blk b1 32 [vI m, vI ((kf : Nat) : Int)] :: Ent.row (.slice nextA next.length nextC) 22 1 next.length (next.flatMap Rw.enc) :: (next.map (RwE 9) ++ (Ds.map dfr)))) ((([] : List Rw), none, 0) : (List Rw) × (Option Addr) × Nat) [Ent.blk bp43 23 [vL runsA runs.length runsC], Ent.blk bq44 3 [vI ((kf : Nat) : Int)]] rfl rfl rfl Ty.ca69 (ps_ rfl) (fun _ => rfl) (fun _ h => (((((((((h.nilrow 22 1).front 8 _ rfl).front 8 _ rfl).front 8 _ rfl).front 8 _ rfl).front 8 _ rfl).front 8 _ rfl).front 8 _ rfl).front 8 _ rfl).keepN 9 [true, true, true, true, true, true, true, true, true] rfl) ?_ ?_ ?_
     ·intro wi46 li47 di48 ri49 hold50 hg51 hY52
      refine it_done (I := (fun (pre : List Part) (⟨next, nextA, nextC⟩ : (List Rw) × (Option Addr) × Nat) => (next.map Rw.s = pre.map (fun p => R44.mergeV l (p.s.map Rw.s))))) (Lf := LF li47 di48 ri49 (fun (_ : List Part) (⟨next, nextA, nextC⟩ : (List Rw) × (Option Addr) × Nat) => (Ent.blk b42 23 [vL nextA next.length nextC] :: Ent.blk b40 34 [vI ((rout.length : Nat) : Int), vI ((np : Nat) : Int), vI n32] :: Ent.blk b4 34 [vI 0, vI 0, vI 0] :: Ent.blk b3 41 [Value.func (.func 42) #[] #[vP kp], Value.func (.func 44) #[] #[vP kq]] :: Ent.blk b2 24 [vL lA l.length lC] :: Ent.blk b1 32 [vI m, vI ((kf : Nat) : Int)] :: Ent.row (.slice nextA next.length nextC) 22 1 next.length (next.flatMap Rw.enc) :: (next.map (RwE 9) ++ (Ds.map dfr))))) ?_
      exact f69_ok li47 _ _ _ _ bp43 bq44 runs runsA runsC kf _ (runsR.old hold50) (fun i => (runsN i).old hold50) hY52 rfl (by omega) (by omega) (by omega) (by omega) hg51
     ·rintro wi53 li47 di48 ri49 pre ⟨ps, psA, psC⟩ rest55 ⟨next, nextA, nextC⟩ hp56 hI57 hold50
      have i2_0 := hI57
      try dsimp only at i2_0
      have rsR := rsR.old hold50
      have lR := lR.old hold50
      have routR := routR.old hold50
      have runsR := runsR.old hold50
      have routN := fun i => (routN i).old hold50
      have runsN := fun i => (runsN i).old hold50
      have kpR := kpR.old hold50
      have kqR := kqR.old hold50
      have hpl := R44.part_pre hp56
      have hnl := R44.map_lens i2_0
      have hp0 := R44.part_len hp56 hpb.1
      have hp1 := R44.part_short hp56 hpb.2.2.1
      have hp2 := R44.part_cap hp56 runsK
      have hp3 := R44.part_flat hp56 hpb.2.1
      have psR := R44.part_ro hp56 runsR
      have psN := R44.part_ron hp56 runsN
      refine J_weaken (E' := [(6, pB b2 0), (15, pB b42 0), (79, vL psA ps.length psC)]) (L' := (Ent.obj li47 (lp ri49 .ready) :: dfr di48 :: Ent.blk b42 23 [vL nextA next.length nextC] :: Ent.blk b40 34 [vI ((rout.length : Nat) : Int), vI ((np : Nat) : Int), vI n32] :: Ent.blk b4 34 [vI 0, vI 0, vI 0] :: Ent.blk b3 41 [Value.func (.func 42) #[] #[vP kp], Value.func (.func 44) #[] #[vP kq]] :: Ent.blk b2 24 [vL lA l.length lC] :: Ent.blk b1 32 [vI m, vI ((kf : Nat) : Int)] :: Ent.row (.slice nextA next.length nextC) 22 1 next.length (next.flatMap Rw.enc) :: (next.map (RwE 9) ++ (Ds.map dfr)))) ⟨rfl, rfl, rfl, trivial⟩ (fun _ h => h) ?_
      refine g_ (s_ av_ (z_ (JX_begin (k_ ?_))))
      refine drU (Ent.obj li47 (lp ri49 .busy) :: dfr di48 :: Ent.blk b40 34 [vI ((rout.length : Nat) : Int), vI ((np : Nat) : Int), vI n32] :: Ent.blk b4 34 [vI 0, vI 0, vI 0] :: Ent.blk b3 41 [Value.func (.func 42) #[] #[vP kp], Value.func (.func 44) #[] #[vP kq]] :: Ent.blk b2 24 [vL lA l.length lC] :: Ent.blk b1 32 [vI m, vI ((kf : Nat) : Int)] :: (Ds.map dfr)) [5, 6] 7 Ty.mixed ?_
      refine JA_early 0 (vL nextA next.length nextC) rfl (by kernel_rfl) (by kernel_rfl) (by kernel_rfl) rfl (by kernel_rfl) (fun _ _ _ h => h) rfl trivial (x_load 2 rfl rfl Ty.sc23 rfl) ?_
      refine jp_ 1 rfl mv_ (jq_ 2 rfl (ld_ 5 Ty.sc24) (j1_ 3 ?_ (fun _ h => ⟨(drop_seg 9 (G := next.map (RwE 9)) h rfl).keepN 9 [true, true, false, true, true, true, true, true, false] rfl, fun _ => h⟩)))
      refine jc1_ rfl (cl_ Ty.ca16) (fun w hS => f16_ok ps psA psC l lA lC w (rno psR hS) (fun i => (psN i).on hS (fun _ h => by cases h)) (rno lR hS) hy_ hy_ hy_ hy_ hy_) ?_
      rintro _ _ ⟨e58, e59, rfl, rfl⟩
      refine j1_ 4 (jio_ rfl (O_buildSlice (cs := [vL e58 ((R44.mergeV l (ps.map Rw.s)).length) e59]) Tryz.underlying23 Ty.sz22 Ty.ze22 (by decide) (by decide) (by kernel_rfl) fun b61 => ?_)) (fun _ h => ⟨(drop_seg 10 (G := next.map (RwE 9)) h rfl).keepN 10 [false, true, true, false, true, true, true, true, true, false] rfl, fun _ => h.keepN 10 [false, true, true, true, true, true, true, true, true, true] rfl⟩)
      refine j1_ 5 (jio_ rfl (O_append_f 10 Rw.enc 1 next [(Rw.mk (R44.mergeV l (ps.map Rw.s)) e58 e59)] Tryz.underlying23 Ty.sz22 Ty.by22 Ty.ze22 rfl (by decide) rfl rfl rfl rfl Rw.enc_len Rw.enc_one (cells_blk 0 (off := 0) (m := 1) rfl rfl) lt_ lt_ fun A64 c65 => ?_)) (fun _ h => ⟨(drop_seg 11 (G := next.map (RwE 9)) h rfl).keepN 11 [false, false, true, true, false, true, true, true, true, true, false] rfl, fun _ => h.keepN 11 [false, false, true, true, true, true, true, true, true, true, true] rfl⟩)
      refine JA_weaken (E' := [(6, pB b2 0), (15, pB b42 0), (79, vL psA ps.length psC), (16, vL psA ps.length psC), (80, vL nextA next.length nextC), (81, vL psA ps.length psC), (82, vL lA l.length lC), (83, vL e58 ((R44.mergeV l (ps.map Rw.s)).length) e59), (84, vL (some ⟨b61, 0, none⟩) 1 1), (85, vL A64 ((next ++ [(Rw.mk (R44.mergeV l (ps.map Rw.s)) e58 e59)]).length) c65)]) (L' := (Ent.blk b61 22 [vL e58 ((R44.mergeV l (ps.map Rw.s)).length) e59] :: Ent.obj li47 (lp ri49 .busy) :: dfr di48 :: Ent.blk b42 23 [vL nextA next.length nextC] :: Ent.blk b40 34 [vI ((rout.length : Nat) : Int), vI ((np : Nat) : Int), vI n32] :: Ent.blk b4 34 [vI 0, vI 0, vI 0] :: Ent.blk b3 41 [Value.func (.func 42) #[] #[vP kp], Value.func (.func 44) #[] #[vP kq]] :: Ent.blk b2 24 [vL lA l.length lC] :: Ent.blk b1 32 [vI m, vI ((kf : Nat) : Int)] :: Ent.row (.slice A64 (next ++ [(Rw.mk (R44.mergeV l (ps.map Rw.s)) e58 e59)]).length c65) 22 1 (next ++ [(Rw.mk (R44.mergeV l (ps.map Rw.s)) e58 e59)]).length ((next ++ [(Rw.mk (R44.mergeV l (ps.map Rw.s)) e58 e59)]).flatMap Rw.enc) :: ((next ++ [(Rw.mk (R44.mergeV l (ps.map Rw.s)) e58 e59)]).map (RwE 9) ++ (Ds.map dfr)))) ⟨rfl, rfl, rfl, rfl, rfl, rfl, rfl, rfl, rfl, rfl, trivial⟩ (fun _ h => (seg_snoc 10 (X := next) (f := RwE 9) (x := (Rw.mk (R44.mergeV l (ps.map Rw.s)) e58 e59)) (h.front 1 _ rfl) rfl rfl)) ?_
      refine j1_ 6 (jio_ rfl (st1 3 Ty.sz23 ?_)) (gl_ rfl (fun _ h => (drop_seg 10 (G := (next ++ [(Rw.mk (R44.mergeV l (ps.map Rw.s)) e58 e59)]).map (RwE 9)) h rfl).keepN 10 [false, true, true, false, true, true, true, true, true, false] rfl))
      refine JA_done (by kernel_rfl) (gl_ rfl (fun _ h => (drop_seg 10 (G := (next ++ [(Rw.mk (R44.mergeV l (ps.map Rw.s)) e58 e59)]).map (RwE 9)) h rfl).keepN 10 [false, true, true, false, true, true, true, true, true, false] rfl)) ?_
      refine kx_ ?_
      refine JX_end (dfr di48 :: Ent.blk b42 23 [vL A64 ((next ++ [(Rw.mk (R44.mergeV l (ps.map Rw.s)) e58 e59)]).length) c65] :: Ent.blk b40 34 [vI ((rout.length : Nat) : Int), vI ((np : Nat) : Int), vI n32] :: Ent.blk b4 34 [vI 0, vI 0, vI 0] :: Ent.blk b3 41 [Value.func (.func 42) #[] #[vP kp], Value.func (.func 44) #[] #[vP kq]] :: Ent.blk b2 24 [vL lA l.length lC] :: Ent.blk b1 32 [vI m, vI ((kf : Nat) : Int)] :: Ent.row (.slice A64 (next ++ [(Rw.mk (R44.mergeV l (ps.map Rw.s)) e58 e59)]).length c65) 22 1 (next ++ [(Rw.mk (R44.mergeV l (ps.map Rw.s)) e58 e59)]).length ((next ++ [(Rw.mk (R44.mergeV l (ps.map Rw.s)) e58 e59)]).flatMap Rw.enc) :: ((next ++ [(Rw.mk (R44.mergeV l (ps.map Rw.s)) e58 e59)]).map (RwE 9) ++ (Ds.map dfr))) (fun _ h => h.keepN 10 [false, true, true, true, true, true, true, true, true, true] rfl) (fun w hS => ⟨rfl, ((next ++ [(Rw.mk (R44.mergeV l (ps.map Rw.s)) e58 e59)], A64, c65) : (List Rw) × (Option Addr) × Nat), ?_, hS⟩)
      try dsimp only
      rw [List.map_append, List.map_append, i2_0]; rfl
     ·rintro D66 ⟨next, nextA, nextC⟩ hI57
      have i2_0 := hI57
      try dsimp only at i2_0
      try dsimp only
      refine kx_ (n_ (q_ (g_ (r_ (ld_ 1 Ty.sc23) (s_ av_ (z_ (n_ (g_ (s_ (fA 1 Ty.fi34_1) (r_ (ld_ 2 Ty.sc3) (s_ (x_add_n (a := np) (b := 1) rfl rfl (by omega)) (s_ (fA 1 Ty.fi34_1) (o_ (st1 2 Ty.sz3 ?_))))))))))))))
      refine z_ (kx_ ?_)
      refine JX_roundM ((next, nextA, nextC, np + 1, (D66 :: Ds)) : (List Rw) × (Option Addr) × Nat × Nat × (List Nat)) ?_ ?_ rfl ⟨rfl, rfl, rfl, rfl, rfl, rfl, rfl, rfl, rfl, trivial⟩ (fun _ _ h => (hB1.back _ _ h)) (fun _ h => (mark_tail 7 (G := []) (drop_seg 8 (G := next.map (RwE 9)) h rfl) rfl).keepN 7 [false, true, true, true, true, true, false] rfl) (fun wx hw => ⟨(RO.of_rowF (Lc := (Ent.blk b40 34 [vI ((rout.length : Nat) : Int), vI (((np + 1) : Nat) : Int), vI n32] :: Ent.blk b4 34 [vI 0, vI 0, vI 0] :: Ent.blk b3 41 [Value.func (.func 42) #[] #[vP kp], Value.func (.func 44) #[] #[vP kq]] :: Ent.blk b2 24 [vL lA l.length lC] :: Ent.blk b1 32 [vI m, vI ((kf : Nat) : Int)] :: ((D66 :: Ds).map dfr))) (Lr := Ent.row (.slice nextA next.length nextC) 22 1 next.length (next.flatMap Rw.enc) :: next.map (RwE 9)) (split_last 5 (M := (Ent.blk b40 34 [vI ((rout.length : Nat) : Int), vI (((np + 1) : Nat) : Int), vI n32] :: Ent.blk b4 34 [vI 0, vI 0, vI 0] :: Ent.blk b3 41 [Value.func (.func 42) #[] #[vP kp], Value.func (.func 44) #[] #[vP kq]] :: Ent.blk b2 24 [vL lA l.length lC] :: Ent.blk b1 32 [vI m, vI ((kf : Nat) : Int)] :: (next.map (RwE 9) ++ ((D66 :: Ds).map dfr)))) (G := next.map (RwE 9)) (T := ((D66 :: Ds).map dfr)) ((((((((mark_tail 7 (G := next.map (RwE 9)) hw rfl).front 5 _ rfl).front 5 _ rfl).front 5 _ rfl).front 5 _ rfl).front 5 _ rfl).front 6 _ rfl).keepN 7 [true, true, true, true, true, true, false] rfl) rfl) (hB39.back _ _ (hB1.back _ _ (split_last 5 (M := (Ent.blk b40 34 [vI ((rout.length : Nat) : Int), vI (((np + 1) : Nat) : Int), vI n32] :: Ent.blk b4 34 [vI 0, vI 0, vI 0] :: Ent.blk b3 41 [Value.func (.func 42) #[] #[vP kp], Value.func (.func 44) #[] #[vP kq]] :: Ent.blk b2 24 [vL lA l.length lC] :: Ent.blk b1 32 [vI m, vI ((kf : Nat) : Int)] :: (next.map (RwE 9) ++ ((D66 :: Ds).map dfr)))) (G := next.map (RwE 9)) (T := ((D66 :: Ds).map dfr)) ((((((((mark_tail 7 (G := next.map (RwE 9)) hw rfl).front 5 _ rfl).front 5 _ rfl).front 5 _ rfl).front 5 _ rfl).front 5 _ rfl).front 6 _ rfl).keepN 7 [true, true, true, true, true, true, false] rfl) rfl))) 0 rfl), (row_le ((split_last 5 (M := (Ent.blk b40 34 [vI ((rout.length : Nat) : Int), vI (((np + 1) : Nat) : Int), vI n32] :: Ent.blk b4 34 [vI 0, vI 0, vI 0] :: Ent.blk b3 41 [Value.func (.func 42) #[] #[vP kp], Value.func (.func 44) #[] #[vP kq]] :: Ent.blk b2 24 [vL lA l.length lC] :: Ent.blk b1 32 [vI m, vI ((kf : Nat) : Int)] :: (next.map (RwE 9) ++ ((D66 :: Ds).map dfr)))) (G := next.map (RwE 9)) (T := ((D66 :: Ds).map dfr)) ((((((((mark_tail 7 (G := next.map (RwE 9)) hw rfl).front 5 _ rfl).front 5 _ rfl).front 5 _ rfl).front 5 _ rfl).front 5 _ rfl).front 6 _ rfl).keepN 7 [true, true, true, true, true, true, false] rfl) rfl).hold _ (List.mem_append_right _ List.mem_cons_self))), (ron_segF (Lc := (Ent.blk b40 34 [vI ((rout.length : Nat) : Int), vI (((np + 1) : Nat) : Int), vI n32] :: Ent.blk b4 34 [vI 0, vI 0, vI 0] :: Ent.blk b3 41 [Value.func (.func 42) #[] #[vP kp], Value.func (.func 44) #[] #[vP kq]] :: Ent.blk b2 24 [vL lA l.length lC] :: Ent.blk b1 32 [vI m, vI ((kf : Nat) : Int)] :: ((D66 :: Ds).map dfr))) (Lr := Ent.row (.slice nextA next.length nextC) 22 1 next.length (next.flatMap Rw.enc) :: next.map (RwE 9)) (X := next) (t := 9) (split_last 5 (M := (Ent.blk b40 34 [vI ((rout.length : Nat) : Int), vI (((np + 1) : Nat) : Int), vI n32] :: Ent.blk b4 34 [vI 0, vI 0, vI 0] :: Ent.blk b3 41 [Value.func (.func 42) #[] #[vP kp], Value.func (.func 44) #[] #[vP kq]] :: Ent.blk b2 24 [vL lA l.length lC] :: Ent.blk b1 32 [vI m, vI ((kf : Nat) : Int)] :: (next.map (RwE 9) ++ ((D66 :: Ds).map dfr)))) (G := next.map (RwE 9)) (T := ((D66 :: Ds).map dfr)) ((((((((mark_tail 7 (G := next.map (RwE 9)) hw rfl).front 5 _ rfl).front 5 _ rfl).front 5 _ rfl).front 5 _ rfl).front 5 _ rfl).front 6 _ rfl).keepN 7 [true, true, true, true, true, true, false] rfl) rfl) (hB39.back _ _ (hB1.back _ _ (split_last 5 (M := (Ent.blk b40 34 [vI ((rout.length : Nat) : Int), vI (((np + 1) : Nat) : Int), vI n32] :: Ent.blk b4 34 [vI 0, vI 0, vI 0] :: Ent.blk b3 41 [Value.func (.func 42) #[] #[vP kp], Value.func (.func 44) #[] #[vP kq]] :: Ent.blk b2 24 [vL lA l.length lC] :: Ent.blk b1 32 [vI m, vI ((kf : Nat) : Int)] :: (next.map (RwE 9) ++ ((D66 :: Ds).map dfr)))) (G := next.map (RwE 9)) (T := ((D66 :: Ds).map dfr)) ((((((((mark_tail 7 (G := next.map (RwE 9)) hw rfl).front 5 _ rfl).front 5 _ rfl).front 5 _ rfl).front 5 _ rfl).front 5 _ rfl).front 6 _ rfl).keepN 7 [true, true, true, true, true, true, false] rfl) rfl))) (fun _ h => List.mem_cons_of_mem _ h)), (cap_seg (X := next) (t := 9) (split_last 5 (M := (Ent.blk b40 34 [vI ((rout.length : Nat) : Int), vI (((np + 1) : Nat) : Int), vI n32] :: Ent.blk b4 34 [vI 0, vI 0, vI 0] :: Ent.blk b3 41 [Value.func (.func 42) #[] #[vP kp], Value.func (.func 44) #[] #[vP kq]] :: Ent.blk b2 24 [vL lA l.length lC] :: Ent.blk b1 32 [vI m, vI ((kf : Nat) : Int)] :: (next.map (RwE 9) ++ ((D66 :: Ds).map dfr)))) (G := next.map (RwE 9)) (T := ((D66 :: Ds).map dfr)) ((((((((mark_tail 7 (G := next.map (RwE 9)) hw rfl).front 5 _ rfl).front 5 _ rfl).front 5 _ rfl).front 5 _ rfl).front 5 _ rfl).front 6 _ rfl).keepN 7 [true, true, true, true, true, true, false] rfl) rfl) (fun _ h => List.mem_append_right _ (List.mem_cons_of_mem _ h)))⟩)
      ·try dsimp only
       exact R44.pass_next hcv (by omega) i1_0 (by omega) hg1.1 i2_0
      ·try dsimp only
       exact R44.pass_dec (by omega) (by omega) hg1.1 i2_0
    ·refine J_exit (ne_ (JX_roundM_exit (kh_ (n_ (q_ ?_)))))
     refine g_ (s_ av_ (z_ (n_ (q_ (q_ (g_ (s_ mv_ (s_ (lnS Tryz.underlying23) (s_ (x_gtr_i rfl rfl) (z_ (n_ ?_)))))))))))
     refine ifd (fun h67w h67 => ?_) (fun h67w h67 => ?_)
     ·refine g_ (s_ mv_ (r_ (ixF (k := 0) Rw.enc_len (cells_ro runsR) Tryz.underlying23 Ty.sz22) (r_ (ldF (k := 0) 0 Rw.enc_len (cells_ro runsR) Ty.sc22) (s_ av_ (z_ (n_ (q_ (g_ (s_ mv_ (r_ (ld_ 3 Ty.sc24) (s_ (fA 1 Ty.fi41_1) (r_ (ld_ 2 Ty.sc39) ?_))))))))))))
      refine c1 (cl_ Ty.ca41) (fun w hS => f41x_ok _ _ _ l lA lC kq kqx w (rno (runsN 0) hS) (rno lR hS) (rno kqR hS) (by first | omega | exact Nat.zero_le _) (by first | assumption | exact hpb.2.2.1 0 | (intro i; exact Nat.zero_le _)) hy_) ?_
      rintro _ _ ⟨out68, e69, e70, e71, rfl, rfl, hf72⟩
      have ha73 := R44.sums_a (c := R44.cmpL l) (fs := R44.smK kqx) (by assumption)
      try simp only [List.length_cons, List.length_nil, Nat.zero_add, Nat.reduceAdd, Nat.reduceMul] at ha73
      refine s_ mv_ (s_ (ex_ 0) (s_ (ex_ 1) (s_ av_ (s_ av_ (z_ (xk_ [8, 9, 10, 12, 14, 17, 18] ?_))))))
      refine n_ (q_ (q_ (g_ (s_ mv_ (s_ (x_neq_i rfl rfl) (z_ (n_ ?_)))))))
      refine ifd (fun h74w h74 => ?_) (fun h74w h74 => ?_)
      ·refine q_ (g_ (js_ (vG [vI 0, vI 0, vI 0]) (x_build (by kernel_rfl)) (s_ mv_ (s_ av_ (o_ (stG 2 Ty.sz34 ?_))))))
       refine s_ av_ (z_ (n_ (rt_ (nr_ ?_))))
       refine JX_retsMG Ds [_, _, _] (Value.tuple #[_, _, _]) rfl Tryz.results18 [Ent.row (.slice e69 out68.length e70) 9 1 out68.length (out68.map vS), Ent.blk b40 34 [vI ((rout.length : Nat) : Int), vI ((np : Nat) : Int), vI n32], Ent.blk b4 34 [vI 0, vI 0, vI 0], Ent.blk b3 41 [Value.func (.func 42) #[] #[vP kp], Value.func (.func 44) #[] #[vP kq]], Ent.blk b2 24 [vL lA l.length lC], Ent.blk b1 32 [vI m, vI ((kf : Nat) : Int)]] (fun _ h => tail_front 6 h rfl) (fun w h => ⟨rfl, ⟨_, rfl, load_blkN 2 [vI 0, vI 0, vI 0] h rfl Ty.ag34 Ty.sz34 rfl⟩, rfl, trivial⟩) rfl [Ent.row (.slice none ([] : List Bytes).length 0) 9 1 ([] : List Bytes).length (([] : List Bytes).map vS)] (fun _ h => (h.nilrow 9 1).keep [true, false, false, false, false, false, false] rfl) (fun _ _ h => (hB39.back _ _ (hB1.back _ _ h))) ⟨([] : List Bytes), none, 0, 0, 0, 0, e71, ?_, ?_, ?_⟩
       ·have e_x0 : (0 : Nat) = (([] : List Bytes).length) := by first | rfl | omega | (simp_all; done) | (simp_all; omega)
        exact congrArg (fun (x0 : Nat) => Value.tuple #[vL none x0 0, vG [vI 0, vI 0, vI 0], vI e71]) e_x0
       ·rfl
       ·first | exact R44.sv_1 (by assumption) | exact R44.sv_2 (by assumption) (by assumption) | exact R44.sv_3 (by assumption) (by assumption) (by assumption) (by assumption) | exact R44.sv_4 (fan := (kf : Int)) (by assumption) (by assumption) (by assumption) (by assumption) (R44.one_row (m := m.toNat) (by omega) (by omega) i1_0 (by omega)).1 (by assumption) (by assumption) | exact R44.sv_4 (fan := (kf : Int)) (by assumption) (by assumption) (by assumption) (by assumption) (R44.one_none (by omega) (R44.one_row (m := m.toNat) (by omega) (by omega) i1_0 (by omega)).1) (by assumption) (by assumption) | exact R44.sv_5 (fan := (kf : Int)) (by assumption) (by assumption) (by assumption) (by first | decide | assumption) (R44.one_row (m := m.toNat) (by omega) (by omega) i1_0 (by omega)).1 (by assumption) (by first | decide | assumption) c44n0_ (R44.one_row (m := m.toNat) (by omega) (by omega) i1_0 (by omega)).2 (by first | rfl | omega) | exact R44.sv_5 (fan := (kf : Int)) (by assumption) (by assumption) (by assumption) (by first | decide | assumption) (R44.one_none (by omega) (R44.one_row (m := m.toNat) (by omega) (by omega) i1_0 (by omega)).1) (by assumption) (by first | decide | assumption) c44n0_ (R44.one_row (m := m.toNat) (by omega) (by omega) i1_0 (by omega)).2 (by first | rfl | omega)
      ·refine sk_ (n_ (q_ (g_ (s_ (fA 2 Ty.fi34_2) (r_ (ld_ 1 Ty.sc3) (s_ mv_ (s_ (lnS Tryz.underlying22) (s_ mv_ (s_ (lnS Tryz.underlying22) (s_ (x_sub_i (a := (((runs.getD 0 default).s.length : Nat) : Int)) (b := ((out68.length : Nat) : Int)) rfl rfl (by omega) (by omega)) (s_ (x_add_i (a := n32) (b := (((runs.getD 0 default).s.length : Nat) : Int) - ((out68.length : Nat) : Int)) rfl rfl (by omega) (by omega)) (s_ (fA 2 Ty.fi34_2) ?_))))))))))))
       refine o_ (st1 1 Ty.sz3 ?_)
       refine z_ (n_ (q_ ?_))
       refine drU (Ent.row (.slice e69 out68.length e70) 9 1 out68.length (out68.map vS) :: Ent.blk b40 34 [vI ((rout.length : Nat) : Int), vI ((np : Nat) : Int), vI (n32 + ((((runs.getD 0 default).s.length : Nat) : Int) - ((out68.length : Nat) : Int)))] :: Ent.blk b3 41 [Value.func (.func 42) #[] #[vP kp], Value.func (.func 44) #[] #[vP kq]] :: Ent.blk b2 24 [vL lA l.length lC] :: Ent.blk b1 32 [vI m, vI ((kf : Nat) : Int)] :: (Ds.map dfr)) [3] 5 Ty.mixed ?_
       refine jp_ 0 rfl mv_ (jq_ 1 rfl (ldN 1 [vI ((rout.length : Nat) : Int), vI ((np : Nat) : Int), vI (n32 + ((((runs.getD 0 default).s.length : Nat) : Int) - ((out68.length : Nat) : Int)))] Ty.ag34 Ty.sz34) (jp_ 2 rfl av_ (j1_ 3 (jio_ rfl (stG 2 Ty.sz34 ?_)) (fun _ h => ⟨h.keepN 6 [true, true, false, true, true, true] rfl, fun _ => h⟩))))
       refine jp_ 4 rfl av_ ?_
       refine JA_done (by kernel_rfl) (gl_ rfl (fun _ h => h.keepN 6 [true, true, false, true, true, true] rfl)) ?_
       refine n_ (rt_ ?_)
       refine JX_retsMG Ds [_, _, _] (Value.tuple #[_, _, _]) rfl Tryz.results18 [Ent.row (.slice e69 out68.length e70) 9 1 out68.length (out68.map vS), Ent.blk b40 34 [vI ((rout.length : Nat) : Int), vI ((np : Nat) : Int), vI (n32 + ((((runs.getD 0 default).s.length : Nat) : Int) - ((out68.length : Nat) : Int)))], Ent.blk b4 34 [vI ((rout.length : Nat) : Int), vI ((np : Nat) : Int), vI (n32 + ((((runs.getD 0 default).s.length : Nat) : Int) - ((out68.length : Nat) : Int)))], Ent.blk b3 41 [Value.func (.func 42) #[] #[vP kp], Value.func (.func 44) #[] #[vP kq]], Ent.blk b2 24 [vL lA l.length lC], Ent.blk b1 32 [vI m, vI ((kf : Nat) : Int)]] (fun _ h => tail_front 6 h rfl) (fun w h => ⟨rfl, ⟨_, rfl, load_blkN 2 [vI ((rout.length : Nat) : Int), vI ((np : Nat) : Int), vI (n32 + ((((runs.getD 0 default).s.length : Nat) : Int) - ((out68.length : Nat) : Int)))] h rfl Ty.ag34 Ty.sz34 rfl⟩, rfl, trivial⟩) rfl [Ent.row (.slice e69 out68.length e70) 9 1 out68.length (out68.map vS)] (fun _ h => h.keep [true, false, false, false, false, false] rfl) (fun _ _ h => (hB39.back _ _ (hB1.back _ _ h))) ⟨out68, e69, e70, ((rout.length : Nat) : Int), ((np : Nat) : Int), n32 + ((((runs.getD 0 default).s.length : Nat) : Int) - ((out68.length : Nat) : Int)), 0, ?_, ?_, ?_⟩
       ·rfl
       ·rfl
       ·first | exact R44.sv_1 (by assumption) | exact R44.sv_2 (by assumption) (by assumption) | exact R44.sv_3 (by assumption) (by assumption) (by assumption) (by assumption) | exact R44.sv_4 (fan := (kf : Int)) (by assumption) (by assumption) (by assumption) (by assumption) (R44.one_row (m := m.toNat) (by omega) (by omega) i1_0 (by omega)).1 (by assumption) (by assumption) | exact R44.sv_4 (fan := (kf : Int)) (by assumption) (by assumption) (by assumption) (by assumption) (R44.one_none (by omega) (R44.one_row (m := m.toNat) (by omega) (by omega) i1_0 (by omega)).1) (by assumption) (by assumption) | exact R44.sv_5 (fan := (kf : Int)) (by assumption) (by assumption) (by assumption) (by first | decide | assumption) (R44.one_row (m := m.toNat) (by omega) (by omega) i1_0 (by omega)).1 (by assumption) (by first | decide | assumption) c44n0_ (R44.one_row (m := m.toNat) (by omega) (by omega) i1_0 (by omega)).2 (by first | rfl | omega) | exact R44.sv_5 (fan := (kf : Int)) (by assumption) (by assumption) (by assumption) (by first | decide | assumption) (R44.one_none (by omega) (R44.one_row (m := m.toNat) (by omega) (by omega) i1_0 (by omega)).1) (by assumption) (by first | decide | assumption) c44n0_ (R44.one_row (m := m.toNat) (by omega) (by omega) i1_0 (by omega)).2 (by first | rfl | omega)
     ·refine sk_ (n_ (q_ (g_ (s_ mv_ (r_ (ld_ 3 Ty.sc24) (s_ (fA 1 Ty.fi41_1) (r_ (ld_ 2 Ty.sc39) ?_)))))))
      refine c1 (cl_ Ty.ca41) (fun w hS => f41x_ok ([] : List Bytes) none 0 l lA lC kq kqx w RO.nil (rno lR hS) (rno kqR hS) (by first | omega | exact Nat.zero_le _) (by first | assumption | exact hpb.2.2.1 0 | (intro i; exact Nat.zero_le _)) hy_) ?_
      rintro _ _ ⟨out75, e76, e77, e78, rfl, rfl, hf79⟩
      have ha80 := R44.sums_a (c := R44.cmpL l) (fs := R44.smK kqx) (by assumption)
      try simp only [List.length_cons, List.length_nil, Nat.zero_add, Nat.reduceAdd, Nat.reduceMul] at ha80
      refine s_ mv_ (s_ (ex_ 0) (s_ (ex_ 1) (s_ av_ (s_ av_ (z_ (xk_ [8, 9, 10, 12, 14, 17, 18] ?_))))))
      refine n_ (q_ (q_ (g_ (s_ mv_ (s_ (x_neq_i rfl rfl) (z_ (n_ ?_)))))))
      refine ifd (fun h81w h81 => ?_) (fun h81w h81 => ?_)
      ·refine q_ (g_ (js_ (vG [vI 0, vI 0, vI 0]) (x_build (by kernel_rfl)) (s_ mv_ (s_ av_ (o_ (stG 2 Ty.sz34 ?_))))))
       refine s_ av_ (z_ (n_ (rt_ (nr_ ?_))))
       refine JX_retsMG Ds [_, _, _] (Value.tuple #[_, _, _]) rfl Tryz.results18 [Ent.row (.slice e76 out75.length e77) 9 1 out75.length (out75.map vS), Ent.blk b40 34 [vI ((rout.length : Nat) : Int), vI ((np : Nat) : Int), vI n32], Ent.blk b4 34 [vI 0, vI 0, vI 0], Ent.blk b3 41 [Value.func (.func 42) #[] #[vP kp], Value.func (.func 44) #[] #[vP kq]], Ent.blk b2 24 [vL lA l.length lC], Ent.blk b1 32 [vI m, vI ((kf : Nat) : Int)]] (fun _ h => tail_front 6 h rfl) (fun w h => ⟨rfl, ⟨_, rfl, load_blkN 2 [vI 0, vI 0, vI 0] h rfl Ty.ag34 Ty.sz34 rfl⟩, rfl, trivial⟩) rfl [Ent.row (.slice none ([] : List Bytes).length 0) 9 1 ([] : List Bytes).length (([] : List Bytes).map vS)] (fun _ h => (h.nilrow 9 1).keep [true, false, false, false, false, false, false] rfl) (fun _ _ h => (hB39.back _ _ (hB1.back _ _ h))) ⟨([] : List Bytes), none, 0, 0, 0, 0, e78, ?_, ?_, ?_⟩
       ·have e_x0 : (0 : Nat) = (([] : List Bytes).length) := by first | rfl | omega | (simp_all; done) | (simp_all; omega)
        exact congrArg (fun (x0 : Nat) => Value.tuple #[vL none x0 0, vG [vI 0, vI 0, vI 0], vI e78]) e_x0
       ·rfl
       ·first | exact R44.sv_1 (by assumption) | exact R44.sv_2 (by assumption) (by assumption) | exact R44.sv_3 (by assumption) (by assumption) (by assumption) (by assumption) | exact R44.sv_4 (fan := (kf : Int)) (by assumption) (by assumption) (by assumption) (by assumption) (R44.one_row (m := m.toNat) (by omega) (by omega) i1_0 (by omega)).1 (by assumption) (by assumption) | exact R44.sv_4 (fan := (kf : Int)) (by assumption) (by assumption) (by assumption) (by assumption) (R44.one_none (by omega) (R44.one_row (m := m.toNat) (by omega) (by omega) i1_0 (by omega)).1) (by assumption) (by assumption) | exact R44.sv_5 (fan := (kf : Int)) (by assumption) (by assumption) (by assumption) (by first | decide | assumption) (R44.one_row (m := m.toNat) (by omega) (by omega) i1_0 (by omega)).1 (by assumption) (by first | decide | assumption) c44n0_ (R44.one_row (m := m.toNat) (by omega) (by omega) i1_0 (by omega)).2 (by first | rfl | omega) | exact R44.sv_5 (fan := (kf : Int)) (by assumption) (by assumption) (by assumption) (by first | decide | assumption) (R44.one_none (by omega) (R44.one_row (m := m.toNat) (by omega) (by omega) i1_0 (by omega)).1) (by assumption) (by first | decide | assumption) c44n0_ (R44.one_row (m := m.toNat) (by omega) (by omega) i1_0 (by omega)).2 (by first | rfl | omega)
      ·refine sk_ (n_ (q_ (g_ (s_ (fA 2 Ty.fi34_2) (r_ (ld_ 1 Ty.sc3) (s_ mv_ (s_ (lnS Tryz.underlying22) (s_ mv_ (s_ (lnS Tryz.underlying22) (s_ (x_sub_i (a := 0) (b := ((out75.length : Nat) : Int)) rfl rfl (by omega) (by omega)) (s_ (x_add_i (a := n32) (b := 0 - ((out75.length : Nat) : Int)) rfl rfl (by omega) (by omega)) (s_ (fA 2 Ty.fi34_2) ?_))))))))))))
       refine o_ (st1 1 Ty.sz3 ?_)
       refine z_ (n_ (q_ ?_))
       refine drU (Ent.row (.slice e76 out75.length e77) 9 1 out75.length (out75.map vS) :: Ent.blk b40 34 [vI ((rout.length : Nat) : Int), vI ((np : Nat) : Int), vI (n32 + (0 - ((out75.length : Nat) : Int)))] :: Ent.blk b3 41 [Value.func (.func 42) #[] #[vP kp], Value.func (.func 44) #[] #[vP kq]] :: Ent.blk b2 24 [vL lA l.length lC] :: Ent.blk b1 32 [vI m, vI ((kf : Nat) : Int)] :: (Ds.map dfr)) [3] 5 Ty.mixed ?_
       refine jp_ 0 rfl mv_ (jq_ 1 rfl (ldN 1 [vI ((rout.length : Nat) : Int), vI ((np : Nat) : Int), vI (n32 + (0 - ((out75.length : Nat) : Int)))] Ty.ag34 Ty.sz34) (jp_ 2 rfl av_ (j1_ 3 (jio_ rfl (stG 2 Ty.sz34 ?_)) (fun _ h => ⟨h.keepN 6 [true, true, false, true, true, true] rfl, fun _ => h⟩))))
       refine jp_ 4 rfl av_ ?_
       refine JA_done (by kernel_rfl) (gl_ rfl (fun _ h => h.keepN 6 [true, true, false, true, true, true] rfl)) ?_
       refine n_ (rt_ ?_)
       refine JX_retsMG Ds [_, _, _] (Value.tuple #[_, _, _]) rfl Tryz.results18 [Ent.row (.slice e76 out75.length e77) 9 1 out75.length (out75.map vS), Ent.blk b40 34 [vI ((rout.length : Nat) : Int), vI ((np : Nat) : Int), vI (n32 + (0 - ((out75.length : Nat) : Int)))], Ent.blk b4 34 [vI ((rout.length : Nat) : Int), vI ((np : Nat) : Int), vI (n32 + (0 - ((out75.length : Nat) : Int)))], Ent.blk b3 41 [Value.func (.func 42) #[] #[vP kp], Value.func (.func 44) #[] #[vP kq]], Ent.blk b2 24 [vL lA l.length lC], Ent.blk b1 32 [vI m, vI ((kf : Nat) : Int)]] (fun _ h => tail_front 6 h rfl) (fun w h => ⟨rfl, ⟨_, rfl, load_blkN 2 [vI ((rout.length : Nat) : Int), vI ((np : Nat) : Int), vI (n32 + (0 - ((out75.length : Nat) : Int)))] h rfl Ty.ag34 Ty.sz34 rfl⟩, rfl, trivial⟩) rfl [Ent.row (.slice e76 out75.length e77) 9 1 out75.length (out75.map vS)] (fun _ h => h.keep [true, false, false, false, false, false] rfl) (fun _ _ h => (hB39.back _ _ (hB1.back _ _ h))) ⟨out75, e76, e77, ((rout.length : Nat) : Int), ((np : Nat) : Int), n32 + (0 - ((out75.length : Nat) : Int)), 0, ?_, ?_, ?_⟩
       ·rfl
       ·rfl
       ·first | exact R44.sv_1 (by assumption) | exact R44.sv_2 (by assumption) (by assumption) | exact R44.sv_3 (by assumption) (by assumption) (by assumption) (by assumption) | exact R44.sv_4 (fan := (kf : Int)) (by assumption) (by assumption) (by assumption) (by assumption) (R44.one_row (m := m.toNat) (by omega) (by omega) i1_0 (by omega)).1 (by assumption) (by assumption) | exact R44.sv_4 (fan := (kf : Int)) (by assumption) (by assumption) (by assumption) (by assumption) (R44.one_none (by omega) (R44.one_row (m := m.toNat) (by omega) (by omega) i1_0 (by omega)).1) (by assumption) (by assumption) | exact R44.sv_5 (fan := (kf : Int)) (by assumption) (by assumption) (by assumption) (by first | decide | assumption) (R44.one_row (m := m.toNat) (by omega) (by omega) i1_0 (by omega)).1 (by assumption) (by first | decide | assumption) c44n0_ (R44.one_row (m := m.toNat) (by omega) (by omega) i1_0 (by omega)).2 (by first | rfl | omega) | exact R44.sv_5 (fan := (kf : Int)) (by assumption) (by assumption) (by assumption) (by first | decide | assumption) (R44.one_none (by omega) (R44.one_row (m := m.toNat) (by omega) (by omega) i1_0 (by omega)).1) (by assumption) (by first | decide | assumption) c44n0_ (R44.one_row (m := m.toNat) (by omega) (by omega) i1_0 (by omega)).2 (by first | rfl | omega)
end Go.Proofs.YtnfglkgahlaofaaGreatDoor
